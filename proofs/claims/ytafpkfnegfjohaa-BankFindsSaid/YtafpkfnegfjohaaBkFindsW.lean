/- The walk of BankFinds. -/
import Derived.Test.YtafpkfnegfjohaaBkOrderW
import Derived.Test.YtafpkfnegfjohaaBkRefL
namespace Go.Proofs.Ytafpkfnegfjohaa
open Go Go.RowKit Go.Shelf
set_option linter.unusedVariables false
set_option linter.unusedSimpArgs false
/-- The blocks of the first k records' data. -/
def FF (ys : List NV) (k : Nat) (i : Nat) : Prop := ∃ x ∈ ys.take k, ∃ o, x.A = some ⟨i, o, none⟩
theorem FF.mono {ys : List NV} {k i : Nat} (h : FF ys k i) : FF ys (k + 1) i := by
  obtain ⟨x, hx, o, e⟩ := h
  refine ⟨x, ?_, o, e⟩
  have h1 : (ys.take k) = (ys.take (k + 1)).take k := by rw [List.take_take]; congr 1; omega
  rw [h1] at hx
  exact List.mem_of_mem_take hx
theorem FF.blk {ys : List NV} {k i lo : Nat} {w : World} {v : Value} (hn : NtsAt lo w v ys) (h : FF ys k i) : lo ≤ i ∧ i < w.heap.size ∧ v.ownBlock ≠ some i := by
  obtain ⟨x, hx, o, e⟩ := h
  have hd := hn.dat x (List.mem_of_mem_take hx)
  exact ⟨(hd.1.blk i o e).1, (hd.1.blk i o e).2, hd.2 i o e⟩
theorem FF.not {ys : List NV} {k lo : Nat} {w : World} {v : Value} (hn : NtsAt lo w v ys) (hk : k < ys.length) (b o : Nat) (e : ys[k].A = some ⟨b, o, none⟩) : ¬ FF ys k b := by
  rintro ⟨x, hx, o', e'⟩
  obtain ⟨j, hj, rfl⟩ := List.mem_iff_getElem.1 hx
  rw [List.length_take] at hj
  rw [List.getElem_take] at e'
  exact List.pairwise_iff_getElem.1 hn.apart j k (by omega) hk (by omega) _ _ _ _ e' e rfl
theorem FF.at {ys : List NV} {k : Nat} (hk : k < ys.length) (b o : Nat) (e : ys[k].A = some ⟨b, o, none⟩) : FF ys (k + 1) b := by
  refine ⟨ys[k], ?_, o, e⟩
  rw [List.take_succ_eq_append_getElem hk]
  exact List.mem_append_right _ (List.mem_singleton.2 rfl)
theorem RS.set {w : World} {b off n c : Nat} {xs : List UInt8} (h : RS w (some ⟨b, off, Option.none⟩) n c xs) (i : Nat) (hi : i < n) (x : UInt8) : RS (w.setCell ⟨b, off + i, Option.none⟩ (bv x)) (some ⟨b, off, Option.none⟩) n c (xs.set i x) := by
  refine ⟨⟨by rw [List.length_set]; exact h.len, h.rb.2.1, fun h0 => ?_⟩, h.nil, h.cap⟩
  obtain ⟨b', off', e', hlt, hc⟩ := h.rb.cells h0
  cases e'
  refine ⟨b, off, rfl, fun j hj => ?_⟩
  by_cases hij : i = j
  · subst hij
    rw [World.cell?_setCell_same _ _ _ (hc i hj)]
    simp [List.getD_eq_getElem?_getD, h.len, hj]
  · rw [World.cell?_setCell_other _ _ _ _ (by simp [hij]), hc j hj]
    simp [List.getD_eq_getElem?_getD, List.getElem?_set_ne hij]
def lz (r : Option Nt) : Nt := r.getD ⟨0, [], 0⟩
theorem IsLst.any {r : Option Nt} {w : World} {e : Ending} {w' : World} (h : IsLst r w e w') : ∃ A c, e = .returned (.tuple #[.agg (nta (lz r).seq A (lz r).dat.length c (lz r).fin), .bool r.isSome]) ∧ RS w' A (lz r).dat.length c (lz r).dat ∧ Below w.heap.size w w' := by
  cases r with
  | none => exact ⟨none, 0, h.1, RS.none _, h.2⟩
  | some x => obtain ⟨A, c, h1, h2, h3⟩ := h; exact ⟨A, c, h1, h2.1, h3⟩
/-- Between two rounds of the outer loop. -/
structure Fnd (ys : List NV) (w3 wr : World) (k : Nat) : Prop where
  fr : Fr (FF ys k) w3 wr
theorem frozen_setCell (w : World) (p q : Addr) (v : Value) : (w.setCell p v).frozen? q = w.frozen? q := by simp
set_option maxRecDepth 100000 in
set_option maxHeartbeats 8000000 in
theorem bankFinds_walk (a0 : Option Addr) (len0 cap0 : Nat) (z0 : List Int) (w : World) (w0 : IsRow .u8 w a0 len0 cap0 z0) :
    Calls Try.prog 4 #[.slice a0 len0 cap0] w fun e w' => e = .returned (.bool true) ∧ Below w.heap.size w w' := by
  obtain ⟨xs, hr⟩ := w0.bytes
  have HR := Lib.hid hr
  clear w0 hr
  by_cases h1 : 1000 < len0
  · have h1' : (1000 : Int) < len0 := by omega
    go_enter Try.func4, Try.ntmps4
    go_wp2_with fail
    refine (l_small16 _).mono ?_
    rintro e wa ⟨rfl, hb⟩
    go_wp2_with fail
    go_ret
    exact ⟨rfl, hb⟩
  have h1' : ¬ (1000 : Int) < len0 := by omega
  have H1 := Lib.hid h1
  go_enter Try.func4, Try.ntmps4
  go_wp2_with fail
  refine (l_small16 _).mono ?_
  rintro e wa ⟨rfl, hb⟩
  have HR := Lib.hid (HR.out.below hb)
  have HOLD := Lib.hid (HR.out.old)
  have HB := Lib.hid hb
  clear hb h1
  go_wp2_with fail
  refine (bk_notes a0 len0 cap0 xs _ HR.out (by have := H1.out; omega)).mono ?_
  rintro e w2 ⟨v5, ys, rfl, hys, hnt, hb2⟩
  have hfew : ys.length ≤ 1000 := by
    have h9 : (bkNotes xs).length ≤ xs.length := bkAll_few xs.length none 0 xs (Nat.le_refl _)
    rw [← hys, List.length_map, HR.out.len] at h9
    have := H1.out
    omega
  obtain ⟨A5, c5, rfl, _⟩ := hnt.own.re (by omega)
  have HNT := Lib.hid hnt
  have HYS := Lib.hid hys
  have HR := Lib.hid (HR.out.below hb2)
  have HB2 := Lib.hid hb2
  clear hnt hys hb2
  go_wp2_with fail
  refine (rf_notes a0 len0 cap0 xs _ HR.out (by have := H1.out; omega)).mono ?_
  rintro e w3 ⟨v6, ms, rfl, hms, hmt, hb3⟩
  have hml : ms.length = ys.length := by
    have h9 := congrArg List.length (hms.trans HYS.out.symm)
    simpa using h9
  obtain ⟨A6, c6, rfl, _⟩ := hmt.own.re (by omega)
  rw [hml] at hmt ⊢
  have HMT := Lib.hid hmt
  have HMS := Lib.hid hms
  have HML := Lib.hid hml
  have HNT3 := Lib.hid (HNT.out.below hb3)
  have HR := Lib.hid (HR.out.below hb3)
  have HB3 := Lib.hid hb3
  clear hmt hms hml hb3
  generalize hN : ys.length = N at *
  have HN := Lib.hid hN
  clear hN
  go_wp2_with fail
  go_loopw [6] (fun s6 wr => ∃ k : Nat, k ≤ N ∧ s6 = .int .i64 (k : Int) ∧ Fr (FF ys k) w3 wr) (fun s6 _ => N - (intOf s6).toNat)
  case atStart => exact ⟨0, Nat.zero_le _, rfl, Fr.refl _ _⟩
  case round =>
    obtain ⟨k, hk, rfl, hfr⟩ := hrel
    by_cases hlt : k < N
    · have hlt' : (k : Int) < N := by omega
      have hky : k < ys.length := by rw [HN.out]; exact hlt
      have hkm : k < ms.length := by rw [HML.out]; exact hlt
      have hl := nv_nt HYS.out k hky
      have hm := nv_nt HMS.out k hkm
      have hln : k < (bkNotes xs).length := by rw [← HYS.out, List.length_map]; exact hky
      have hd40 : ys[k].nt.dat.length ≤ 40 := by
        have hat9 := bkNotes_at xs k hln
        have hx9 : (bkNotes xs)[k] = ys[k].nt := by have hl9 := hl; rw [List.getElem?_eq_getElem hln] at hl9; exact Option.some.inj hl9
        rw [hx9] at hat9
        exact (bkOk_iff.1 hat9.ok).2
      have hnn : ms[k].nt = ys[k].nt := Option.some.inj (hm.symm.trans hl)
      obtain ⟨g, rfl, hg, hre⟩ := nts_elem HNT3.out (by rw [HN.out]; omega) k hky
      obtain ⟨g2, rfl, hg2, hre2⟩ := nts_elem HMT.out (by rw [HML.out]; omega) k hkm
      have hgf : ∀ j, ¬ FF ys j g := fun j h => (h.blk HNT3.out).2.2 rfl
      have hgf2 : ∀ j, ¬ FF ys j g2 := fun j h => by have h5 := (h.blk HNT.out).2.1; have h6 := HMT.out.far g2 rfl; omega
      have hdy := HNT.out.dat ys[k] (List.getElem_mem hky)
      have hdm := HMT.out.dat ms[k] (List.getElem_mem hkm)
      rw [hnn] at hdm
      have hny : ∀ b o, ys[k].A = some ⟨b, o, none⟩ → ¬ FF ys k b := FF.not HNT.out hky
      have hnm : ∀ b o, ms[k].A = some ⟨b, o, none⟩ → ∀ j, ¬ FF ys j b := fun b o e j h => by have h5 := (h.blk HNT.out).2.1; have h6 := hdm.1.blk b o e; omega
      have hat : ∀ b o, ys[k].A = some ⟨b, o, none⟩ → FF ys (k + 1) b := FF.at hky
      generalize ms[k] = y at *
      generalize ys[k] = x at *
      obtain ⟨bl, off, exA, hlo, hbw, hfz⟩ := hdy.1.2
      have hdy3 := hdy.1.fr (Fr.ofBelow HB3.out (fun _ => False)) (fun _ _ _ h => h)
      have hdr := (hdy3.fr hfr hny).1
      have hmr := (hdm.1.fr hfr (fun b o e => hnm b o e k)).1
      have hfzr : ∀ i, wr.frozen? ⟨bl, i, none⟩ = false := by
        obtain ⟨b9, o9, e9, _, _, h9⟩ := (hdy3.fr hfr hny).2
        rw [exA] at e9; cases e9
        exact h9
      have HBLT := Lib.hid (show bl < wr.heap.size from ((hdy3.fr hfr hny).blk bl off exA).2)
      have q0 : ∀ w', Below wr.heap.size wr w' → w'.cell? ⟨g, k * 3, none⟩ = some (.int .u32 x.nt.seq) := fun w' hb => (hb.cell (p := ⟨g, k * 3, none⟩) (Nat.lt_of_lt_of_le hg hfr.size)).trans ((hfr.cell (p := ⟨g, k * 3, none⟩) hg (hgf k)).trans (hre 0 _ rfl))
      have q1 : ∀ w', Below wr.heap.size wr w' → w'.cell? ⟨g, k * 3 + 1, none⟩ = some (.slice x.A x.nt.dat.length x.c) := fun w' hb => (hb.cell (p := ⟨g, k * 3 + 1, none⟩) (Nat.lt_of_lt_of_le hg hfr.size)).trans ((hfr.cell (p := ⟨g, k * 3 + 1, none⟩) hg (hgf k)).trans (hre 1 _ rfl))
      have q2 : ∀ w', Below wr.heap.size wr w' → w'.cell? ⟨g, k * 3 + 2, none⟩ = some (.int .i64 x.nt.fin) := fun w' hb => (hb.cell (p := ⟨g, k * 3 + 2, none⟩) (Nat.lt_of_lt_of_le hg hfr.size)).trans ((hfr.cell (p := ⟨g, k * 3 + 2, none⟩) hg (hgf k)).trans (hre 2 _ rfl))
      have p0 : ∀ w', Below wr.heap.size wr w' → w'.cell? ⟨g2, k * 3, none⟩ = some (.int .u32 x.nt.seq) := fun w' hb => (hb.cell (p := ⟨g2, k * 3, none⟩) (Nat.lt_of_lt_of_le hg2 hfr.size)).trans ((hfr.cell (p := ⟨g2, k * 3, none⟩) hg2 (hgf2 k)).trans ((hre2 0 _ rfl).trans (by rw [hnn])))
      have p1 : ∀ w', Below wr.heap.size wr w' → w'.cell? ⟨g2, k * 3 + 1, none⟩ = some (.slice y.A x.nt.dat.length y.c) := fun w' hb => (hb.cell (p := ⟨g2, k * 3 + 1, none⟩) (Nat.lt_of_lt_of_le hg2 hfr.size)).trans ((hfr.cell (p := ⟨g2, k * 3 + 1, none⟩) hg2 (hgf2 k)).trans ((hre2 1 _ rfl).trans (by rw [hnn])))
      have p2 : ∀ w', Below wr.heap.size wr w' → w'.cell? ⟨g2, k * 3 + 2, none⟩ = some (.int .i64 x.nt.fin) := fun w' hb => (hb.cell (p := ⟨g2, k * 3 + 2, none⟩) (Nat.lt_of_lt_of_le hg2 hfr.size)).trans ((hfr.cell (p := ⟨g2, k * 3 + 2, none⟩) hg2 (hgf2 k)).trans ((hre2 2 _ rfl).trans (by rw [hnn])))
      have HEA := Lib.hid exA
      clear exA
      have HDR := Lib.hid hdr
      have HMR := Lib.hid hmr
      have HFR := Lib.hid hfr
      have HFZ := Lib.hid hfzr
      have HRE := Lib.hid hre
      have HGF := Lib.hid hgf
      have HAT := Lib.hid hat
      have HG3 := Lib.hid hg
      clear hl hm hnn hre hre2 hgf hgf2 hdy hdm hny hnm hat hdy3 hdr hmr hfr hfzr hg hg2 hky hkm hlo hbw hfz hln
      go_upto_region 11 with fail
      have hS0 := below_drew1 wr
      refine wp_region_held (S := fun w' => Below wr.heap.size wr w') (by kernel_rfl) ?_
      change wpAnyH _ _ _ _ _ _ _ _ wr.drew
      change wpAnyH _ _ _ _ _ 10 (Array.replicate 10 false) _ _
      refine wpAnyH_take (i := 0) (oi := ?_) (v := ?_) ?_ (by kernel_rfl) (by kernel_rfl) (by kernel_rfl) ?_ ?_ (by assumption) ?_
      rotate_left 2; (simp only [List.getElem?_toArray, List.getElem?_cons_succ, List.getElem?_cons_zero]; rfl)
      rotate_left; (first | (refine .inl ⟨by rfl, ?_⟩; intro w9 hS9; go_simp; try with_reducible rfl) | (refine .inr ⟨by rfl, ?_⟩; with_reducible rfl))
      rotate_left; (intro _ _ _ h9; exact h9)
      try simp only [Act.put, List.setIfInBounds_toArray, List.set_cons_zero, List.set_cons_succ]
      refine wpAnyH_take (i := 1) (oi := ?_) (v := ?_) ?_ (by kernel_rfl) (by kernel_rfl) (by kernel_rfl) ?_ ?_ (by assumption) ?_
      rotate_left 2; (simp only [List.getElem?_toArray, List.getElem?_cons_succ, List.getElem?_cons_zero]; rfl)
      rotate_left; (first | (refine .inl ⟨by rfl, ?_⟩; intro w9 hS9; go_simp; try with_reducible rfl) | (refine .inr ⟨by rfl, ?_⟩; with_reducible rfl))
      rotate_left; (intro _ _ _ h9; exact h9)
      try simp only [Act.put, List.setIfInBounds_toArray, List.set_cons_zero, List.set_cons_succ]
      refine wpAnyH_take (i := 2) (oi := ?_) (v := ?_) ?_ (by kernel_rfl) (by kernel_rfl) (by kernel_rfl) ?_ ?_ (by assumption) ?_
      rotate_left 2; (simp only [List.getElem?_toArray, List.getElem?_cons_succ, List.getElem?_cons_zero]; rfl)
      rotate_left; (first | (refine .inl ⟨by rfl, ?_⟩; intro w9 hS9; go_simp; try with_reducible rfl) | (refine .inr ⟨by rfl, ?_⟩; with_reducible rfl))
      rotate_left; (intro _ _ _ h9; exact h9)
      try simp only [Act.put, List.setIfInBounds_toArray, List.set_cons_zero, List.set_cons_succ]
      refine wpAnyH_take (i := 3) (oi := ?_) (v := ?_) ?_ (by kernel_rfl) (by kernel_rfl) (by kernel_rfl) ?_ ?_ (by assumption) ?_
      rotate_left 2; (simp only [List.getElem?_toArray, List.getElem?_cons_succ, List.getElem?_cons_zero]; rfl)
      rotate_left; (first | (refine .inl ⟨by rfl, ?_⟩; intro w9 hS9; go_simp; try with_reducible rfl) | (refine .inr ⟨by rfl, ?_⟩; with_reducible rfl))
      rotate_left; (intro _ _ _ h9; exact h9)
      try simp only [Act.put, List.setIfInBounds_toArray, List.set_cons_zero, List.set_cons_succ]
      refine wpAnyH_take (i := 4) (oi := ?_) (v := ?_) ?_ (by kernel_rfl) (by kernel_rfl) (by kernel_rfl) ?_ ?_ (by assumption) ?_
      rotate_left 2; (simp only [List.getElem?_toArray, List.getElem?_cons_succ, List.getElem?_cons_zero]; rfl)
      rotate_left; (first | (refine .inl ⟨by rfl, ?_⟩; intro w9 hS9; go_simp; try with_reducible rfl) | (refine .inr ⟨by rfl, ?_⟩; with_reducible rfl))
      rotate_left; (intro _ _ _ h9; exact h9)
      try simp only [Act.put, List.setIfInBounds_toArray, List.set_cons_zero, List.set_cons_succ]
      refine wpAnyH_take (i := 5) (oi := ?_) (v := ?_) ?_ (by kernel_rfl) (by kernel_rfl) (by kernel_rfl) ?_ ?_ (by assumption) ?_
      rotate_left 2; (simp only [List.getElem?_toArray, List.getElem?_cons_succ, List.getElem?_cons_zero]; rfl)
      rotate_left; (first | (refine .inl ⟨by rfl, ?_⟩; intro w9 hS9; go_simp; try with_reducible rfl) | (refine .inr ⟨by rfl, ?_⟩; with_reducible rfl))
      rotate_left; (intro _ _ _ h9; exact h9)
      try simp only [Act.put, List.setIfInBounds_toArray, List.set_cons_zero, List.set_cons_succ]
      refine wpAnyH_take (i := 6) (oi := ?_) (v := ?_) ?_ (by kernel_rfl) (by kernel_rfl) (by kernel_rfl) ?_ ?_ (by assumption) ?_
      rotate_left 2; (simp only [List.getElem?_toArray, List.getElem?_cons_succ, List.getElem?_cons_zero]; rfl)
      rotate_left; (first | (refine .inl ⟨by rfl, ?_⟩; intro w9 hS9; go_simp; try with_reducible rfl) | (refine .inr ⟨by rfl, ?_⟩; with_reducible rfl))
      rotate_left; (intro _ _ _ h9; exact h9)
      try simp only [Act.put, List.setIfInBounds_toArray, List.set_cons_zero, List.set_cons_succ]
      refine wpAnyH_take (i := 7) (oi := ?_) (v := ?_) ?_ (by kernel_rfl) (by kernel_rfl) (by kernel_rfl) ?_ ?_ (by assumption) ?_
      rotate_left 2; (simp only [List.getElem?_toArray, List.getElem?_cons_succ, List.getElem?_cons_zero]; rfl)
      rotate_left; (first | (refine .inl ⟨by rfl, ?_⟩; intro w9 hS9; go_simp; try with_reducible rfl) | (refine .inr ⟨by rfl, ?_⟩; with_reducible rfl))
      rotate_left; (intro _ _ _ h9; exact h9)
      try simp only [Act.put, List.setIfInBounds_toArray, List.set_cons_zero, List.set_cons_succ]
      refine wpAnyH_ready (rs := [8]) (by kernel_rfl) (by simp) (AllReadyH.cons rfl (fun K9 hK9 => ?_) AllReadyH.nil)
      go_simp
      refine (rf_same x.nt.seq x.nt.fin x.A y.A x.c y.c x.nt.dat.length x.nt.dat _ (HDR.out.below hS0) (HMR.out.below hS0)).mono ?_
      rintro e w4 ⟨rfl, hb4⟩
      have hS1 := below_step hS0 hb4
      refine hK9.out _ _ hS1 (fun _ => ?_)
      refine wpAnyH_take (i := 9) (oi := ?_) (v := ?_) ?_ (by kernel_rfl) (by kernel_rfl) (by kernel_rfl) ?_ ?_ (by assumption) ?_
      rotate_left 2; (simp only [List.getElem?_toArray, List.getElem?_cons_succ, List.getElem?_cons_zero]; rfl)
      rotate_left; (first | (refine .inl ⟨by rfl, ?_⟩; intro w9 hS9; go_simp; try with_reducible rfl) | (refine .inr ⟨by rfl, ?_⟩; with_reducible rfl))
      rotate_left; (intro _ _ _ h9; exact h9)
      try simp only [Act.put, List.setIfInBounds_toArray, List.set_cons_zero, List.set_cons_succ]
      refine wpAnyH_done (by kernel_rfl) ?_ _
      have HF4 := Lib.hid ((fr_new HFR.out hS1).mono (fun i _ h => FF.mono h))
      have HR4 := Lib.hid (HDR.out.below hS1)
      have HZ4 := Lib.hid (show ∀ i, w4.frozen? ⟨bl, i, none⟩ = false from fun i => by
        have hlt9 := HBLT.out
        exact (hS1.frozen (p := ⟨bl, i, none⟩) hlt9).trans (HFZ.out i))
      clear hS0 hS1 hb4 q0 q1 q2 p0 p1 p2
      rw [HEA.out] at HR4
      go_wp2_with fail
      go_loopw [7] (fun s7 wr => ∃ (j : Nat) (zs : List UInt8), j ≤ x.nt.dat.length ∧ s7 = .int .i64 (j : Int) ∧ Fr (FF ys (k + 1)) w3 wr ∧ RS wr (some ⟨bl, off, none⟩) x.nt.dat.length x.c zs ∧ ∀ i, wr.frozen? ⟨bl, i, none⟩ = false) (fun s7 _ => x.nt.dat.length - (intOf s7).toNat)
      case atStart => exact ⟨0, _, Nat.zero_le _, rfl, HF4.out, HR4.out, HZ4.out⟩
      case round =>
        obtain ⟨j, zs, hj, rfl, hfj, hrj, hzj⟩ := hrel
        have q1 : wr.cell? ⟨g, k * 3 + 1, none⟩ = some (.slice (some ⟨bl, off, none⟩) x.nt.dat.length x.c) := (hfj.cell (p := ⟨g, k * 3 + 1, none⟩) HG3.out (HGF.out _)).trans ((HRE.out 1 _ rfl).trans (by rw [HEA.out]))
        by_cases hjl : j < x.nt.dat.length
        · have hjl' : (j : Int) < x.nt.dat.length := by omega
          obtain ⟨b', o', e', hlt9, hc9⟩ := hrj.rb.cells (by omega)
          cases e'
          have t0 := hc9 j hjl
          have t1 := hzj (off + j)
          have HRJ := Lib.hid (hrj.set j hjl 7)
          have HFJ := Lib.hid (fr_same hfj (fr_setCell (w := wr) ⟨bl, off + j, none⟩ (bv 7) (HAT.out bl off HEA.out)))
          have HZJ := Lib.hid (fun i => (frozen_setCell wr ⟨bl, off + j, none⟩ ⟨bl, i, none⟩ (bv 7)).trans (hzj i))
          clear hfj hrj hzj hc9
          go_wp2_with fail
          exact ⟨⟨j + 1, _, by omega, by go_num, HFJ.out, HRJ.out, HZJ.out⟩, by simp [intOf]; omega⟩
        · obtain rfl : j = x.nt.dat.length := by omega
          have HFJ := Lib.hid hfj
          clear hfj hrj hzj
          go_wp2_with fail
          exact ⟨⟨k + 1, by omega, by go_num, HFJ.out⟩, by simp [intOf]; omega⟩
    · obtain rfl : k = N := by omega
      have HRW := Lib.hid (HR.out.fr hfr (fun h0 b o e h => by have h5 := (h.blk HNT.out).1; have h6 := HOLD.out h0 b o e; omega))
      have HBW := Lib.hid (show Below w.heap.size w wr from ((below_step HB.out (below_step HB2.out HB3.out)).trans (hfr.below w.heap.size (by have h8 := HB.out.size; have h9 := HB2.out.size; have h10 := HB3.out.size; omega) (fun i h => by have h5 := (h.blk HNT.out).1; have h8 := HB.out.size; omega))))
      clear hfr
      go_wp2_with fail
      refine (bk_last a0 len0 cap0 xs _ HRW.out (by have := H1.out; omega)).mono ?_
      rintro e w7 hq
      obtain ⟨A7, c7, rfl, hr7, hb7⟩ := hq.any
      generalize hz : lz (bkNotes xs).getLast? = z at *
      have HZ := Lib.hid hz
      clear hz
      have hb78 := below_new w7 (.cells (nta z.seq A7 z.dat.length c7 z.fin) 33)
      have HBX := Lib.hid (heap_alloc_new w7 (.cells (nta z.seq A7 z.dat.length c7 z.fin) 33))
      have HR7 := Lib.hid (hr7.below hb78)
      have HRW := Lib.hid (HRW.out.below (below_step hb7 hb78))
      have HBW := Lib.hid (below_step HBW.out (below_step hb7 hb78))
      clear hq hr7 hb7 hb78
      go_upto_region 18 with fail
      change Code.wp _ _ _ _ (w7.alloc (.cells (nta z.seq A7 z.dat.length c7 z.fin) 33))
      generalize w7.alloc (.cells (nta z.seq A7 z.dat.length c7 z.fin) 33) = w8 at *
      generalize w7.heap.size = g7 at *
      generalize hgl : (bkNotes xs).getLast?.isSome = bs at *
      go_wp2_with fail
      refine (rf_last a0 len0 cap0 xs _ HRW.out (by have := H1.out; omega)).mono ?_
      rintro e w9 hq
      obtain ⟨A9, c9, rfl, hr9, hb9⟩ := hq.any
      rw [hgl]
      simp only [HZ.out] at hr9 ⊢
      clear hgl
      have hb90 := below_new w9 (.cells (nta z.seq A9 z.dat.length c9 z.fin) 33)
      have hb80 := below_step hb9 hb90
      have HBY := Lib.hid (heap_alloc_new w9 (.cells (nta z.seq A9 z.dat.length c9 z.fin) 33))
      have HR9 := Lib.hid (hr9.below hb90)
      have HR7 := Lib.hid (HR7.out.below hb80)
      have HBX := Lib.hid ((hb80.block _ (Array.getElem?_eq_some_iff.mp HBX.out).1).trans HBX.out)
      have HBW := Lib.hid (below_step HBW.out hb80)
      clear hq hr9 hb9 hb90 hb80
      go_upto_region 19 with fail
      change Code.wp _ _ _ _ (w9.alloc (.cells (nta z.seq A9 z.dat.length c9 z.fin) 33))
      generalize w9.alloc (.cells (nta z.seq A9 z.dat.length c9 z.fin) 33) = w10 at *
      generalize w9.heap.size = g9 at *
      have hbx := HBX.out
      have hby := HBY.out
      have y0 : w10.cell? ⟨g7, 0, none⟩ = some (.int .u32 z.seq) := by simp [World.cell?, hbx]
      have y1 : w10.cell? ⟨g7, 1, none⟩ = some (.slice A7 z.dat.length c7) := by simp [World.cell?, hbx]
      have y2 : w10.cell? ⟨g7, 2, none⟩ = some (.int .i64 z.fin) := by simp [World.cell?, hbx]
      have x0 : w10.cell? ⟨g9, 0, none⟩ = some (.int .u32 z.seq) := by simp [World.cell?, hby]
      have x1 : w10.cell? ⟨g9, 1, none⟩ = some (.slice A9 z.dat.length c9) := by simp [World.cell?, hby]
      have x2 : w10.cell? ⟨g9, 2, none⟩ = some (.int .i64 z.fin) := by simp [World.cell?, hby]
      clear hbx hby
      go_wp2_with fail
      refine (rf_same z.seq z.fin A7 A9 c7 c9 z.dat.length z.dat _ HR7.out HR9.out).mono ?_
      rintro e w11 ⟨rfl, hb11⟩
      have HBW := Lib.hid (below_step HBW.out hb11)
      clear hb11 y0 y1 y2 x0 x1 x2
      go_wp2_with fail
      go_ret
      exact ⟨by simp, HBW.out⟩
end Go.Proofs.Ytafpkfnegfjohaa
