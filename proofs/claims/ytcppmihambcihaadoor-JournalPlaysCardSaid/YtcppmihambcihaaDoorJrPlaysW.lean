/- The walk of JournalPlays. -/
import Derived.Test.YtcppmihambcihaaDoorJrPlaysP
import Derived.Test.YtcppmihambcihaaDoorArgs
import Derived.Deep.CutBlock
namespace Go.Proofs.YtcppmihambcihaaDoor
open Go Go.RowKit Go.Shelf
set_option linter.unusedVariables false
set_option linter.unusedSimpArgs false
theorem stRead_allP (xs : List UInt8) (n : Nat) (hn : n = xs.length) : stRead xs 0 n = xs := by
  unfold stRead
  rcases Nat.eq_zero_or_pos n with h0 | h0
  · rw [if_neg (by omega)]
    exact (List.eq_nil_of_length_eq_zero (by omega)).symm
  · rw [if_pos ⟨by omega, stIn_iff.2 ⟨by omega, by omega, by omega⟩⟩]
    simp [hn]
theorem RS.farP {w : World} {A : Option Addr} {n c : Nat} {xs : List UInt8} {P : Nat → Prop} (h : RS w A n c xs) (hp : ∀ b, b < w.heap.size → P b) : 0 < n → ∀ b o, A = some ⟨b, o, Option.none⟩ → P b := fun h0 b o e => hp b (h.old h0 b o e)
/-- What stays: where the stores lie. -/
structure Wh (w : World) (g gb x : Nat) (v : Value) (L : Nat) : Prop where
  lo : g < L ∧ gb < L ∧ x < L ∧ (∀ b, v.ownBlock = some b → b < L)
  gx : g < x ∧ gb < x ∧ (∀ b, v.ownBlock = some b → x < b)
  le : w.heap.size ≤ g ∧ w.heap.size ≤ gb
structure PI (w : World) (g gb x : Nat) (v : Value) (L n : Nat) (s9 s10 : Value) (wr : World) : Prop where
  ex : ∃ j y s t A0 c0 A c, s9 = .pointer (some ⟨j, 0, none⟩) ∧ s10 = .pointer (some ⟨y, 0, none⟩) ∧ PJ wr L j g gb y x v s t A0 c0 A c ∧ t.xs.length = n
  bel : Below w.heap.size w wr
theorem Wh.three {w w1 w2 : World} {g gb x : Nat} {v : Value} {L j : Nat} (h : Wh w g gb x v L) (hb : Below w.heap.size w w1) (hj : L ≤ j) (hf : Fr (fun k => k = j ∨ k = g ∨ k = gb) w1 w2) : Below w.heap.size w w2 := by
  have h1 := h.le
  have h2 := h.lo
  exact below_three hb hf (by omega) h1.1 h1.2
theorem Wh.rf {w w1 w2 : World} {g gb x : Nat} {v : Value} {L y : Nat} (h : Wh w g gb x v L) (hb : Below w.heap.size w w1) (hj : L ≤ y) (hf : Fr (fun k => k = y ∨ k = x ∨ v.ownBlock = some k) w1 w2) : Below w.heap.size w w2 := by
  have h1 := h.le
  have h2 := h.lo
  have h3 := h.gx
  refine hb.trans (hf.below w.heap.size hb.size (fun i e => ?_))
  rcases e with e | e | e
  · omega
  · omega
  · have := h3.2.2 i e; omega
set_option maxHeartbeats 16000000 in
set_option maxRecDepth 100000 in
theorem journalPlays_walk (a0 : Option Addr) (len0 cap0 : Nat) (z0 : List Int) (a1 : Option Addr) (len1 cap1 : Nat) (w : World) (w0 : IsRow .u8 w a0 len0 cap0 z0) (w1 : IsActs w a1 len1 cap1) (hg : HasTy w) :
    Calls Tryd.prog 6 #[.slice a0 len0 cap0, .slice a1 len1 cap1] w fun e w' => e = .returned (.bool true) ∧ Below w.heap.size w w' := by
  obtain ⟨xs, hx⟩ := w0.bytes
  have HX := Lib.hid hx
  have HXL := Lib.hid hx.len
  have HG := Lib.hid hg
  have HA := Lib.hid w1
  clear w0 hg hx w1
  go_enter Tryd.func6, Tryd.ntmps6
  go_wp2_with fail
  refine (l_small17 _ HG.out).mono ?_
  rintro e wa ⟨rfl, hb⟩
  have HB := Lib.hid hb
  clear hb
  go_wp2_with fail
  refine (l_few a1 len1 cap1 _ (HA.out.below HB.out)).mono ?_
  rintro e wb ⟨⟨bl, rfl, hbl⟩, rfl⟩
  have HBL := Lib.hid hbl
  clear hbl
  cases bl with
  | false =>
    go_wp2_with fail
    go_ret
    exact ⟨rfl, HB.out⟩
  | true =>
  have HN := Lib.hid (HBL.out rfl)
  clear HBL
  by_cases h6 : 600 < len0
  · have h6' : (600 : Int) < len0 := by omega
    clear h6
    go_wp2_with fail
    go_ret
    exact ⟨rfl, HB.out⟩
  have h6' : ¬ (600 : Int) < len0 := by omega
  have HL0 := Lib.hid (show len0 ≤ 600 by omega)
  obtain ⟨acts, hre, hok⟩ := HA.out.re (by have := HN.out; omega)
  have HRE := Lib.hid hre
  have HOK := Lib.hid hok
  have HAL := Lib.hid hre.len
  clear hre hok h6
  go_wp2_with fail
  refine (l_over a0 len0 cap0 xs _ (HX.out.below HB.out) HL0.out).mono ?_
  rintro e w2 ⟨⟨g, gb, x, v, rfl, hst, hrf, hwg, hwb, hgx, hgbx⟩, hb⟩
  have hws := HB.out.size
  replace HB := Lib.hid (below_step HB.out hb)
  have HST := Lib.hid hst
  have HRF := Lib.hid hrf
  have HWH := Lib.hid (show Wh w g gb x v w2.heap.size from ⟨⟨(StIs.lt hst).1, (StIs.lt hst).2.1, hrf.lt.1, fun b hb => (hrf.lt.2 b hb).2⟩, ⟨hgx, hgbx, fun b hb => (hrf.lt.2 b hb).1⟩, by omega, by omega⟩)
  have HLL := Lib.hid (Nat.le_refl w2.heap.size)
  clear hb hst hrf hwg hwb hgx hgbx hws h6'
  obtain ⟨L, hL⟩ : ∃ L, L = w2.heap.size := ⟨_, rfl⟩
  rw [← hL] at HWH
  have HLE := Lib.hid (show L ≤ w2.heap.size by omega)
  clear hL HLL
  go_wp2_with fail
  refine (jr_open g gb xs none false w2 HST.out).mono ?_
  rintro e w3 ⟨rfl, ⟨⟨A0, c0, hj3, hA0⟩, hb3⟩⟩
  have HJ3 := Lib.hid hj3
  have HA0 := Lib.hid hA0
  have HB3 := Lib.hid hb3
  clear hj3 hA0 hb3
  go_wp2_with fail
  refine (rj_open x v ⟨xs, none, false⟩ _ (HRF.out.below HB3.out)).mono ?_
  rintro e w4 ⟨⟨y, A, c, rfl, hr4, hb4, hy4, hA4⟩⟩
  have HPI := Lib.hid (show PI w g gb x v L len0 (.pointer (some ⟨w2.heap.size, 0, none⟩)) (.pointer (some ⟨y, 0, none⟩)) w4 from
    ⟨⟨_, y, _, ⟨xs, none, false⟩, A0, c0, A, c, rfl, rfl, pj_new HST.out HWH.out.lo HWH.out.gx HLE.out HJ3.out HA0.out HB3.out hr4 hb4 hy4 hA4, HXL.out⟩, below_step (below_step HB.out HB3.out) hb4⟩)
  clear hr4 hb4 hy4 hA4 HJ3 HA0 HB3 HST HRF HB HLE
  generalize w2.heap.size = j at *
  go_wp2_with fail
  go_loopw [9, 10, 11] (fun s9 s10 s11 wr => ∃ k : Nat, k ≤ len1 ∧ s11 = .int .i64 k ∧ PI w g gb x v L len0 s9 s10 wr) (fun _ _ s11 _ => len1 - (intOf s11).toNat)
  case atStart => exact ⟨0, Nat.zero_le _, rfl, HPI.out⟩
  case round =>
    obtain ⟨k, hk, rfl, ⟨⟨j, y, s, t, A0, c0, A, c, rfl, rfl, hpj, htl⟩, hbw⟩⟩ := hrel
    have HPJ := Lib.hid hpj
    have HTL := Lib.hid htl
    have HB := Lib.hid hbw
    clear hpj htl hbw HPI
    by_cases hlt : k < len1
    · have hlt' : (k : Int) < len1 := by omega
      have HK := Lib.hid hlt
      have hkr : k < acts.length := by rw [HAL.out]; exact hlt
      obtain ⟨b, off, rfl, hbl, _⟩ := HRE.out.cells (by omega)
      have he := HRE.out.elem acc_len k hkr
      have hao := HOK.out acts[k] (List.getElem_mem hkr)
      generalize acts[k] = a at *
      have HAO := Lib.hid hao
      have HBL := Lib.hid hbl
      have e0 : w.cell? ⟨b, off + k * 3, none⟩ = some (.int .i64 a.dO) := by have := he 0 _ rfl; simpa using this
      have HE0 := Lib.hid e0
      have HE1 := Lib.hid (show w.cell? ⟨b, off + k * 3 + 1, none⟩ = some (.int .i64 a.nn) from he 1 _ rfl)
      have HE2 := Lib.hid (show w.cell? ⟨b, off + k * 3 + 2, none⟩ = some (.slice a.b.A a.b.n a.b.c) from he 2 _ rfl)
      have q0 := (HB.out.cell (p := ⟨b, off + k * 3, none⟩) hbl).trans e0
      obtain ⟨z, hz⟩ : ∃ z : Int, a.dO.tmod 3 = z := ⟨_, rfl⟩
      clear he hao hbl hkr hlt e0
      go_upto_block 2 with fail
      clear q0 hz
      go_cut [9, 10] (fun s9 s10 wx => PI w g gb x v L len0 s9 s10 wx)
      case first =>
        by_cases z0 : z = 0
        · as_aux_lemma =>
          subst z0
          go_upto_region 17 with fail
          have x2 : ∀ w', Below w.heap.size w w' → w'.cell? ⟨b, off + k * 3 + 2, none⟩ = some (.slice a.b.A a.b.n a.b.c) := fun w' hb => (hb.cell (p := ⟨b, off + k * 3 + 2, none⟩) HBL.out).trans HE2.out
          have hS0 : Below w.heap.size w wr.drew := below_step HB.out (below_drew1 wr)
          have HPD := Lib.hid (HPJ.out.below (below_drew1 wr))
          have hlaw := jAppend_law s t a.b.xs HPJ.out.rj.eq
          generalize hrr : jAppend s t a.b.xs = rr at *
          have HRR := Lib.hid hrr
          have HLAW := Lib.hid hlaw
          clear hrr hlaw
          refine wp_region_held (S := fun w' => Below w.heap.size w w') (by kernel_rfl) ?_
          change wpAnyH _ _ _ _ _ _ _ _ wr.drew
          generalize wr.drew = wd at *
          change wpAnyH _ _ _ _ _ 16 (Array.replicate 16 false) _ _
          refine wpAnyH_take (i := 0) (oi := ?_) (v := ?_) ?_ (by kernel_rfl) (by kernel_rfl) (by kernel_rfl) ?_ ?_ (by assumption) ?_
          rotate_left 2; (simp only [List.getElem?_toArray, List.getElem?_cons_succ, List.getElem?_cons_zero]; rfl)
          rotate_left; (first | (refine .inl ⟨by rfl, ?_⟩; intro w9 hS9; go_simp; try with_reducible rfl) | (refine .inr ⟨by rfl, ?_⟩; with_reducible rfl))
          rotate_left; (intro _ _ _ h9; exact h9)
          try simp only [Act.put, List.setIfInBounds_toArray, List.set_cons_zero, List.set_cons_succ]
          refine wpAnyH_take (i := 1) (oi := ?_) (v := ?_) ?_ (by kernel_rfl) (by kernel_rfl) (by kernel_rfl) ?_ ?_ (by assumption) ?_
          rotate_left 2; (simp only [List.getElem?_toArray, List.getElem?_cons_succ, List.getElem?_cons_zero]; rfl)
          rotate_left; (first | (refine .inl ⟨by rfl, ?_⟩; intro w9 hS9; go_simp; try with_reducible rfl) | (refine .inr ⟨by rfl, ?_⟩; with_reducible rfl))
          rotate_left; (intro _ _ _ h9; exact h9)
          try simp only [Act.put, List.setIfInBounds_toArray, List.set_cons_zero, List.set_cons_succ]
          refine wpAnyH_take (i := 2) (oi := ?_) (v := ?_) ?_ (by kernel_rfl) (by kernel_rfl) (by kernel_rfl) ?_ ?_ (by assumption) ?_
          rotate_left 2; (simp only [List.getElem?_toArray, List.getElem?_cons_succ, List.getElem?_cons_zero]; rfl)
          rotate_left; (first | (refine .inl ⟨by rfl, ?_⟩; intro w9 hS9; go_simp; try with_reducible rfl) | (refine .inr ⟨by rfl, ?_⟩; with_reducible rfl))
          rotate_left; (intro _ _ _ h9; exact h9)
          try simp only [Act.put, List.setIfInBounds_toArray, List.set_cons_zero, List.set_cons_succ]
          refine wpAnyH_take (i := 3) (oi := ?_) (v := ?_) ?_ (by kernel_rfl) (by kernel_rfl) (by kernel_rfl) ?_ ?_ (by assumption) ?_
          rotate_left 2; (simp only [List.getElem?_toArray, List.getElem?_cons_succ, List.getElem?_cons_zero]; rfl)
          rotate_left; (first | (refine .inl ⟨by rfl, ?_⟩; intro w9 hS9; go_simp; try with_reducible rfl) | (refine .inr ⟨by rfl, ?_⟩; with_reducible rfl))
          rotate_left; (intro _ _ _ h9; exact h9)
          try simp only [Act.put, List.setIfInBounds_toArray, List.set_cons_zero, List.set_cons_succ]
          refine wpAnyH_take (i := 4) (oi := ?_) (v := ?_) ?_ (by kernel_rfl) (by kernel_rfl) (by kernel_rfl) ?_ ?_ (by assumption) ?_
          rotate_left 2; (simp only [List.getElem?_toArray, List.getElem?_cons_succ, List.getElem?_cons_zero]; rfl)
          rotate_left; (first | (refine .inl ⟨by rfl, ?_⟩; intro w9 hS9; go_simp; try with_reducible rfl) | (refine .inr ⟨by rfl, ?_⟩; with_reducible rfl))
          rotate_left; (intro _ _ _ h9; exact h9)
          try simp only [Act.put, List.setIfInBounds_toArray, List.set_cons_zero, List.set_cons_succ]
          refine wpAnyH_take (i := 5) (oi := ?_) (v := ?_) ?_ (by kernel_rfl) (by kernel_rfl) (by kernel_rfl) ?_ ?_ (by assumption) ?_
          rotate_left 2; (simp only [List.getElem?_toArray, List.getElem?_cons_succ, List.getElem?_cons_zero]; rfl)
          rotate_left; (first | (refine .inl ⟨by rfl, ?_⟩; intro w9 hS9; go_simp; try with_reducible rfl) | (refine .inr ⟨by rfl, ?_⟩; with_reducible rfl))
          rotate_left; (intro _ _ _ h9; exact h9)
          try simp only [Act.put, List.setIfInBounds_toArray, List.set_cons_zero, List.set_cons_succ]
          refine wpAnyH_take (i := 8) (oi := ?_) (v := ?_) ?_ (by kernel_rfl) (by kernel_rfl) (by kernel_rfl) ?_ ?_ (by assumption) ?_
          rotate_left 2; (simp only [List.getElem?_toArray, List.getElem?_cons_succ, List.getElem?_cons_zero]; rfl)
          rotate_left; (first | (refine .inl ⟨by rfl, ?_⟩; intro w9 hS9; go_simp; try with_reducible rfl) | (refine .inr ⟨by rfl, ?_⟩; with_reducible rfl))
          rotate_left; (intro _ _ _ h9; exact h9)
          try simp only [Act.put, List.setIfInBounds_toArray, List.set_cons_zero, List.set_cons_succ]
          refine wpAnyH_take (i := 9) (oi := ?_) (v := ?_) ?_ (by kernel_rfl) (by kernel_rfl) (by kernel_rfl) ?_ ?_ (by assumption) ?_
          rotate_left 2; (simp only [List.getElem?_toArray, List.getElem?_cons_succ, List.getElem?_cons_zero]; rfl)
          rotate_left; (first | (refine .inl ⟨by rfl, ?_⟩; intro w9 hS9; go_simp; try with_reducible rfl) | (refine .inr ⟨by rfl, ?_⟩; with_reducible rfl))
          rotate_left; (intro _ _ _ h9; exact h9)
          try simp only [Act.put, List.setIfInBounds_toArray, List.set_cons_zero, List.set_cons_succ]
          refine wpAnyH_take (i := 10) (oi := ?_) (v := ?_) ?_ (by kernel_rfl) (by kernel_rfl) (by kernel_rfl) ?_ ?_ (by assumption) ?_
          rotate_left 2; (simp only [List.getElem?_toArray, List.getElem?_cons_succ, List.getElem?_cons_zero]; rfl)
          rotate_left; (first | (refine .inl ⟨by rfl, ?_⟩; intro w9 hS9; go_simp; try with_reducible rfl) | (refine .inr ⟨by rfl, ?_⟩; with_reducible rfl))
          rotate_left; (intro _ _ _ h9; exact h9)
          try simp only [Act.put, List.setIfInBounds_toArray, List.set_cons_zero, List.set_cons_succ]
          refine wpAnyH_take (i := 11) (oi := ?_) (v := ?_) ?_ (by kernel_rfl) (by kernel_rfl) (by kernel_rfl) ?_ ?_ (by assumption) ?_
          rotate_left 2; (simp only [List.getElem?_toArray, List.getElem?_cons_succ, List.getElem?_cons_zero]; rfl)
          rotate_left; (first | (refine .inl ⟨by rfl, ?_⟩; intro w9 hS9; go_simp; try with_reducible rfl) | (refine .inr ⟨by rfl, ?_⟩; with_reducible rfl))
          rotate_left; (intro _ _ _ h9; exact h9)
          try simp only [Act.put, List.setIfInBounds_toArray, List.set_cons_zero, List.set_cons_succ]
          refine wpAnyH_take (i := 12) (oi := ?_) (v := ?_) ?_ (by kernel_rfl) (by kernel_rfl) (by kernel_rfl) ?_ ?_ (by assumption) ?_
          rotate_left 2; (simp only [List.getElem?_toArray, List.getElem?_cons_succ, List.getElem?_cons_zero]; rfl)
          rotate_left; (first | (refine .inl ⟨by rfl, ?_⟩; intro w9 hS9; go_simp; try with_reducible rfl) | (refine .inr ⟨by rfl, ?_⟩; with_reducible rfl))
          rotate_left; (intro _ _ _ h9; exact h9)
          try simp only [Act.put, List.setIfInBounds_toArray, List.set_cons_zero, List.set_cons_succ]
          refine wpAnyH_take (i := 13) (oi := ?_) (v := ?_) ?_ (by kernel_rfl) (by kernel_rfl) (by kernel_rfl) ?_ ?_ (by assumption) ?_
          rotate_left 2; (simp only [List.getElem?_toArray, List.getElem?_cons_succ, List.getElem?_cons_zero]; rfl)
          rotate_left; (first | (refine .inl ⟨by rfl, ?_⟩; intro w9 hS9; go_simp; try with_reducible rfl) | (refine .inr ⟨by rfl, ?_⟩; with_reducible rfl))
          rotate_left; (intro _ _ _ h9; exact h9)
          try simp only [Act.put, List.setIfInBounds_toArray, List.set_cons_zero, List.set_cons_succ]
          refine wpAnyH_ready (rs := [6]) (by kernel_rfl) (by simp) (AllReadyH.cons rfl (fun K9 hK9 => ?_) AllReadyH.nil)
          go_simp
          refine (jr_append j g gb s t a.b.A a.b.n a.b.c a.b.xs _ A0 c0 HPD.out.jr HPD.out.st HPD.out.rj.eq HPD.out.ji.ne (HAO.out.row.below hS0) (HAO.out.row.farP (fun i hi => by have := HWH.out.le; have := HWH.out.lo; have := HPD.out.hi; omega))).mono ?_
          rintro e w1 ⟨⟨v1, rfl, he1⟩, ⟨A0', c0', hj1, hA0⟩, hs1, hf1⟩
          rw [HRR.out] at he1 hj1 hs1
          have hS1 := HWH.out.three hS0 HPD.out.hi.1 hf1
          refine hK9.out _ _ hS1 (fun _ => ?_)
          have HE1' := Lib.hid he1
          have HJ1 := Lib.hid hj1
          have HS1 := Lib.hid hs1
          have HA1 := Lib.hid hA0
          have HR1 := Lib.hid (HPD.out.rjJ hf1)
          have HZ1 := Lib.hid hf1.size
          clear he1 hj1 hs1 hA0 hf1 hS0
          refine wpAnyH_ready (rs := [7]) (by kernel_rfl) (by simp) (AllReadyH.cons rfl (fun K9 hK9 => ?_) AllReadyH.nil)
          go_simp
          refine (code_is _ _ _ (HG.out.below hS1) HE1'.out).mono ?_
          rintro e w5 ⟨rfl, hb5⟩
          have hS5 := below_step hS1 hb5
          refine hK9.out _ _ hS5 (fun _ => ?_)
          have HB5 := Lib.hid hb5
          clear hS1 hb5
          refine wpAnyH_ready (rs := [14]) (by kernel_rfl) (by simp) (AllReadyH.cons rfl (fun K9 hK9 => ?_) AllReadyH.nil)
          go_simp
          refine (rj_append0 y x v s t A c a.b.A a.b.n a.b.c a.b.xs _ (HR1.out.below HB5.out) (HAO.out.row.below hS5) (HAO.out.row.farP (fun i hi => by
            have := HWH.out.le; have := HWH.out.lo; have := HPD.out.hi; have h3 := HWH.out.gx
            exact ⟨by omega, by omega, fun e => by have := h3.2.2 i e; omega⟩))).mono ?_
          rintro e w7 ⟨rfl, ⟨A', c', hr7, hA7⟩, hrs7, hf7⟩
          rw [HRR.out] at hr7 hrs7 ⊢
          have hS7 := HWH.out.rf hS5 HPD.out.hi.2.1 hf7
          refine hK9.out _ _ hS7 (fun _ => ?_)
          have HPN := Lib.hid (PJ.both HPD.out HJ1.out HS1.out HA1.out HB5.out hr7 hrs7 hA7 hf7 HZ1.out HLAW.out.opens HR1.out.heap)
          have HB7 := Lib.hid hS7
          clear hr7 hA7 hrs7 hf7 hS5
          refine wpAnyH_take (i := 15) (oi := ?_) (v := ?_) ?_ (by kernel_rfl) (by kernel_rfl) (by kernel_rfl) ?_ ?_ (by assumption) ?_
          rotate_left 2; (simp only [List.getElem?_toArray, List.getElem?_cons_succ, List.getElem?_cons_zero]; rfl)
          rotate_left; (first | (refine .inl ⟨by rfl, ?_⟩; intro w9 hS9; go_simp; try with_reducible rfl) | (refine .inr ⟨by rfl, ?_⟩; with_reducible rfl))
          rotate_left; (intro _ _ _ h9; exact h9)
          try simp only [Act.put, List.setIfInBounds_toArray, List.set_cons_zero, List.set_cons_succ]
          refine wpAnyH_done (by kernel_rfl) ?_ _
          have HTN := Lib.hid (show rr.2.2.xs.length = len0 from HLAW.out.len.trans HTL.out)
          clear hS7 x2
          go_wp2_with fail
          go_meet
          exact ⟨⟨j, y, _, _, A0', c0', A', c', rfl, rfl, HPN.out, HTN.out⟩, HB7.out⟩
        · by_cases z1 : z = 1
          · as_aux_lemma =>
            subst z1
            have q1 := (HB.out.cell (p := ⟨b, off + k * 3 + 1, none⟩) HBL.out).trans HE1.out
            clear z0
            go_wp2_with fail
            refine (st_kill g gb t.xs t.lim t.dead a.nn _ (i64_bd HAO.out.wn).2 HPJ.out.st).mono ?_
            rintro e w1 ⟨rfl, hs1, hf1⟩
            have HS1 := Lib.hid hs1
            have HF1 := Lib.hid hf1
            have HB1 := Lib.hid (below_one HB.out hf1 HWH.out.le.1)
            have q1 := (HB1.out.cell (p := ⟨b, off + k * 3 + 1, none⟩) HBL.out).trans HE1.out
            have HRX := Lib.hid (HPJ.out.rj.st.fr hf1 (fun e => by have := HWH.out.gx; omega) (fun b hb e => by have := HWH.out.gx; have := this.2.2 b hb; omega))
            clear hs1 hf1
            go_wp2_with fail
            refine (rf_kill15 x v t a.nn _ (i64_bd HAO.out.wn).2 HRX.out).mono ?_
            rintro e w2 ⟨rfl, hx2, hf2⟩
            have HPN := Lib.hid (PJ.stores (t' := ⟨t.xs, some a.nn.toNat, t.dead⟩) HPJ.out HS1.out HF1.out hx2 hf2 rfl)
            have HB2 := Lib.hid (below_one HB1.out hf2 (by have := HWH.out.gx; have := HWH.out.le; omega))
            clear hx2 hf2
            go_wp2_with fail
            go_meet
            exact ⟨⟨j, y, s, _, A0, c0, A, c, rfl, rfl, HPN.out, HTL.out⟩, HB2.out⟩
          · by_cases z2 : z = 2
            · as_aux_lemma =>
              subst z2
              clear z0 z1
              go_wp2_with fail
              refine (st_revive g gb t.xs t.lim t.dead _ HPJ.out.st).mono ?_
              rintro e w1 ⟨rfl, hs1, hf1⟩
              have HS1 := Lib.hid hs1
              have HF1 := Lib.hid hf1
              have HB1 := Lib.hid (below_one HB.out hf1 HWH.out.le.1)
              have HRX := Lib.hid (HPJ.out.rj.st.fr hf1 (fun e => by have := HWH.out.gx; omega) (fun b hb e => by have := HWH.out.gx; have := this.2.2 b hb; omega))
              clear hs1 hf1
              go_wp2_with fail
              refine (rf_revive15 x v t _ HRX.out).mono ?_
              rintro e w2 ⟨rfl, hx2, hf2⟩
              have HP2 := Lib.hid (PJ.stores (t' := ⟨t.xs, none, false⟩) HPJ.out HS1.out HF1.out hx2 hf2 rfl)
              have HB2 := Lib.hid (below_one HB1.out hf2 (by have := HWH.out.gx; have := HWH.out.le; omega))
              have HL2 := Lib.hid (show L ≤ w2.heap.size by have := HP2.out.rj.lt; have := HP2.out.hi; omega)
              clear hx2 hf2
              go_wp2_with fail
              refine (jr_open g gb t.xs none false w2 HP2.out.st).mono ?_
              rintro e w3 ⟨rfl, ⟨⟨A0', c0', hj3, hA0⟩, hb3⟩⟩
              have HJ3 := Lib.hid hj3
              have HA0 := Lib.hid hA0
              have HB3 := Lib.hid hb3
              clear hj3 hA0 hb3
              go_wp2_with fail
              refine (rj_open x v ⟨t.xs, none, false⟩ _ (HP2.out.rj.st.below HB3.out)).mono ?_
              rintro e w4 ⟨⟨y', A', c', rfl, hr4, hb4, hy4, hA4⟩⟩
              have HPN := Lib.hid (show PI w g gb x v L len0 (.pointer (some ⟨w2.heap.size, 0, none⟩)) (.pointer (some ⟨y', 0, none⟩)) w4 from
                ⟨⟨_, y', _, ⟨t.xs, none, false⟩, A0', c0', A', c', rfl, rfl, pj_new HP2.out.st HWH.out.lo HWH.out.gx HL2.out HJ3.out HA0.out HB3.out hr4 hb4 hy4 hA4, HTL.out⟩, below_step (below_step HB2.out HB3.out) hb4⟩)
              clear hr4 hb4 hy4 hA4 HJ3 HA0 HB3 HP2 HB2 HL2
              generalize w2.heap.size = j2 at *
              go_wp2_with fail
              go_meet
              exact HPN.out
            · have z0' : (z == 0) = false := by simp; omega
              have z1' : (z == 1) = false := by simp; omega
              have z2' : (z == 2) = false := by simp; omega
              clear z0 z1 z2
              go_wp2_with fail
              go_meet
              exact ⟨⟨j, y, s, t, A0, c0, A, c, rfl, rfl, HPJ.out, HTL.out⟩, HB.out⟩
      case rest =>
      as_aux_lemma =>
      clear HPJ HTL HB
      obtain ⟨⟨j, y, s, t, A0, c0, A, c, rfl, rfl, hpj, htl⟩, hbw⟩ := hcut
      have HPJ := Lib.hid hpj
      have HTL := Lib.hid htl
      have HB := Lib.hid hbw
      clear hpj htl hbw
      go_wp2_with fail
      refine (ji_last j g gb s t _ HPJ.out.ji).mono ?_
      rintro e w5 ⟨A5, c5, rfl, hr5, ho5, hb5⟩
      have HO5 := Lib.hid ho5
      have HP5 := Lib.hid (HPJ.out.below hb5)
      have HB5 := Lib.hid hb5
      have HBW5 := Lib.hid (below_step HB.out hb5)
      obtain ⟨Av, cv, hv⟩ := rf_form HP5.out.rj.st
      have k1 := by_string_of w5 _ _ c5 _ hr5.rb
      have k2 := by_string_of w5 _ _ c _ HP5.out.rj.dat.rb
      have hov : RS w5 Av t.xs.length cv t.xs := by
        obtain ⟨l, h⟩ := HP5.out.rj.st
        have := h.own
        rw [hv] at this
        exact this.rs
      have k3 := by_string_of w5 _ _ cv _ hov.rb
      have t1 := strB_toList s.nt.dat
      have t3 := strB_toList t.xs
      have y3 : ∀ w', Below w5.heap.size w5 w' → w'.cell? ⟨y, 3, none⟩ = some (.slice A s.nt.dat.length c) := fun w' hb => (HP5.out.rj.below hb).cells.2.2.2.1
      have y5 : ∀ w', Below w5.heap.size w5 w' → w'.cell? ⟨y, 5, none⟩ = some (.bool s.has) := fun w' hb => (HP5.out.rj.below hb).cells.2.2.2.2.2
      have y2 : ∀ w', Below w5.heap.size w5 w' → w'.cell? ⟨y, 2, none⟩ = some (.int .u32 s.nt.seq) := fun w' hb => (HP5.out.rj.below hb).cells.2.2.1
      have y0 : ∀ w', Below w5.heap.size w5 w' → w'.cell? ⟨x, 0, none⟩ = some (.slice Av t.xs.length cv) := fun w' hb => by rw [← hv]; exact rf_cell (HP5.out.rj.below hb).st
      rw [HTL.out] at k3 y0
      clear hr5 ho5 hb5 hov hv
      go_upto_region 30 with fail
      have hS0 := below_drew1 w5
      refine wp_region_held (S := fun w' => Below w5.heap.size w5 w') (by kernel_rfl) ?_
      change wpAnyH _ _ _ _ _ _ _ _ w5.drew
      generalize w5.drew = w50 at *
      change wpAnyH _ _ _ _ _ 45 (Array.replicate 45 false) _ _
      refine wpAnyH_take (i := 0) (oi := ?_) (v := ?_) ?_ (by kernel_rfl) (by kernel_rfl) (by kernel_rfl) ?_ ?_ (by assumption) ?_
      rotate_left 2; (simp only [List.getElem?_toArray, List.getElem?_cons_succ, List.getElem?_cons_zero]; rfl)
      rotate_left; (first | (refine .inl ⟨by rfl, ?_⟩; intro w9 hS9; go_simp; try with_reducible rfl) | (refine .inr ⟨by rfl, ?_⟩; with_reducible rfl))
      rotate_left; (intro _ _ _ h9; exact h9)
      try simp only [Act.put, List.setIfInBounds_toArray, List.set_cons_zero, List.set_cons_succ]
      refine wpAnyH_take (i := 1) (oi := ?_) (v := ?_) ?_ (by kernel_rfl) (by kernel_rfl) (by kernel_rfl) ?_ ?_ (by assumption) ?_
      rotate_left 2; (simp only [List.getElem?_toArray, List.getElem?_cons_succ, List.getElem?_cons_zero]; rfl)
      rotate_left; (first | (refine .inl ⟨by rfl, ?_⟩; intro w9 hS9; go_simp; try with_reducible rfl) | (refine .inr ⟨by rfl, ?_⟩; with_reducible rfl))
      rotate_left; (intro _ _ _ h9; exact h9)
      try simp only [Act.put, List.setIfInBounds_toArray, List.set_cons_zero, List.set_cons_succ]
      refine wpAnyH_take (i := 2) (oi := ?_) (v := ?_) ?_ (by kernel_rfl) (by kernel_rfl) (by kernel_rfl) ?_ ?_ (by assumption) ?_
      rotate_left 2; (simp only [List.getElem?_toArray, List.getElem?_cons_succ, List.getElem?_cons_zero]; rfl)
      rotate_left; (first | (refine .inl ⟨by rfl, ?_⟩; intro w9 hS9; go_simp; try with_reducible rfl) | (refine .inr ⟨by rfl, ?_⟩; with_reducible rfl))
      rotate_left; (intro _ _ _ h9; exact h9)
      try simp only [Act.put, List.setIfInBounds_toArray, List.set_cons_zero, List.set_cons_succ]
      refine wpAnyH_take (i := 3) (oi := ?_) (v := ?_) ?_ (by kernel_rfl) (by kernel_rfl) (by kernel_rfl) ?_ ?_ (by assumption) ?_
      rotate_left 2; (simp only [List.getElem?_toArray, List.getElem?_cons_succ, List.getElem?_cons_zero]; rfl)
      rotate_left; (first | (refine .inl ⟨by rfl, ?_⟩; intro w9 hS9; go_simp; try with_reducible rfl) | (refine .inr ⟨by rfl, ?_⟩; with_reducible rfl))
      rotate_left; (intro _ _ _ h9; exact h9)
      try simp only [Act.put, List.setIfInBounds_toArray, List.set_cons_zero, List.set_cons_succ]
      refine wpAnyH_take (i := 4) (oi := ?_) (v := ?_) ?_ (by kernel_rfl) (by kernel_rfl) (by kernel_rfl) ?_ ?_ (by assumption) ?_
      rotate_left 2; (simp only [List.getElem?_toArray, List.getElem?_cons_succ, List.getElem?_cons_zero]; rfl)
      rotate_left; (first | (refine .inl ⟨by rfl, ?_⟩; intro w9 hS9; go_simp; try with_reducible rfl) | (refine .inr ⟨by rfl, ?_⟩; with_reducible rfl))
      rotate_left; (intro _ _ _ h9; exact h9)
      try simp only [Act.put, List.setIfInBounds_toArray, List.set_cons_zero, List.set_cons_succ]
      refine wpAnyH_take (i := 5) (oi := ?_) (v := ?_) ?_ (by kernel_rfl) (by kernel_rfl) (by kernel_rfl) ?_ ?_ (by assumption) ?_
      rotate_left 2; (simp only [List.getElem?_toArray, List.getElem?_cons_succ, List.getElem?_cons_zero]; rfl)
      rotate_left; (first | (refine .inl ⟨by rfl, ?_⟩; intro w9 hS9; go_simp; try with_reducible rfl) | (refine .inr ⟨by rfl, ?_⟩; with_reducible rfl))
      rotate_left; (intro _ _ _ h9; exact h9)
      try simp only [Act.put, List.setIfInBounds_toArray, List.set_cons_zero, List.set_cons_succ]
      refine wpAnyH_take (i := 6) (oi := ?_) (v := ?_) ?_ (by kernel_rfl) (by kernel_rfl) (by kernel_rfl) ?_ ?_ (by assumption) ?_
      rotate_left 2; (simp only [List.getElem?_toArray, List.getElem?_cons_succ, List.getElem?_cons_zero]; rfl)
      rotate_left; (first | (refine .inl ⟨by rfl, ?_⟩; intro w9 hS9; go_simp; try with_reducible rfl) | (refine .inr ⟨by rfl, ?_⟩; with_reducible rfl))
      rotate_left; (intro _ _ _ h9; exact h9)
      try simp only [Act.put, List.setIfInBounds_toArray, List.set_cons_zero, List.set_cons_succ]
      refine wpAnyH_take (i := 7) (oi := ?_) (v := ?_) ?_ (by kernel_rfl) (by kernel_rfl) (by kernel_rfl) ?_ ?_ (by assumption) ?_
      rotate_left 2; (simp only [List.getElem?_toArray, List.getElem?_cons_succ, List.getElem?_cons_zero]; rfl)
      rotate_left; (first | (refine .inl ⟨by rfl, ?_⟩; intro w9 hS9; go_simp; try with_reducible rfl) | (refine .inr ⟨by rfl, ?_⟩; with_reducible rfl))
      rotate_left; (intro _ _ _ h9; exact h9)
      try simp only [Act.put, List.setIfInBounds_toArray, List.set_cons_zero, List.set_cons_succ]
      refine wpAnyH_take (i := 8) (oi := ?_) (v := ?_) ?_ (by kernel_rfl) (by kernel_rfl) (by kernel_rfl) ?_ ?_ (by assumption) ?_
      rotate_left 2; (simp only [List.getElem?_toArray, List.getElem?_cons_succ, List.getElem?_cons_zero]; rfl)
      rotate_left; (first | (refine .inl ⟨by rfl, ?_⟩; intro w9 hS9; go_simp; try with_reducible rfl) | (refine .inr ⟨by rfl, ?_⟩; with_reducible rfl))
      rotate_left; (intro _ _ _ h9; exact h9)
      try simp only [Act.put, List.setIfInBounds_toArray, List.set_cons_zero, List.set_cons_succ]
      refine wpAnyH_take (i := 9) (oi := ?_) (v := ?_) ?_ (by kernel_rfl) (by kernel_rfl) (by kernel_rfl) ?_ ?_ (by assumption) ?_
      rotate_left 2; (simp only [List.getElem?_toArray, List.getElem?_cons_succ, List.getElem?_cons_zero]; rfl)
      rotate_left; (first | (refine .inl ⟨by rfl, ?_⟩; intro w9 hS9; go_simp; try with_reducible rfl) | (refine .inr ⟨by rfl, ?_⟩; with_reducible rfl))
      rotate_left; (intro _ _ _ h9; exact h9)
      try simp only [Act.put, List.setIfInBounds_toArray, List.set_cons_zero, List.set_cons_succ]
      refine wpAnyH_take (i := 10) (oi := ?_) (v := ?_) ?_ (by kernel_rfl) (by kernel_rfl) (by kernel_rfl) ?_ ?_ (by assumption) ?_
      rotate_left 2; (simp only [List.getElem?_toArray, List.getElem?_cons_succ, List.getElem?_cons_zero]; rfl)
      rotate_left; (first | (refine .inl ⟨by rfl, ?_⟩; intro w9 hS9; go_simp; try with_reducible rfl) | (refine .inr ⟨by rfl, ?_⟩; with_reducible rfl))
      rotate_left; (intro _ _ _ h9; exact h9)
      try simp only [Act.put, List.setIfInBounds_toArray, List.set_cons_zero, List.set_cons_succ]
      refine wpAnyH_take (i := 11) (oi := ?_) (v := ?_) ?_ (by kernel_rfl) (by kernel_rfl) (by kernel_rfl) ?_ ?_ (by assumption) ?_
      rotate_left 2; (simp only [List.getElem?_toArray, List.getElem?_cons_succ, List.getElem?_cons_zero]; rfl)
      rotate_left; (first | (refine .inl ⟨by rfl, ?_⟩; intro w9 hS9; go_simp; try with_reducible rfl) | (refine .inr ⟨by rfl, ?_⟩; with_reducible rfl))
      rotate_left; (intro _ _ _ h9; exact h9)
      try simp only [Act.put, List.setIfInBounds_toArray, List.set_cons_zero, List.set_cons_succ]
      refine wpAnyH_take (i := 12) (oi := ?_) (v := ?_) ?_ (by kernel_rfl) (by kernel_rfl) (by kernel_rfl) ?_ ?_ (by assumption) ?_
      rotate_left 2; (simp only [List.getElem?_toArray, List.getElem?_cons_succ, List.getElem?_cons_zero]; rfl)
      rotate_left; (first | (refine .inl ⟨by rfl, ?_⟩; intro w9 hS9; go_simp; try with_reducible rfl) | (refine .inr ⟨by rfl, ?_⟩; with_reducible rfl))
      rotate_left; (intro _ _ _ h9; exact h9)
      try simp only [Act.put, List.setIfInBounds_toArray, List.set_cons_zero, List.set_cons_succ]
      refine wpAnyH_take (i := 13) (oi := ?_) (v := ?_) ?_ (by kernel_rfl) (by kernel_rfl) (by kernel_rfl) ?_ ?_ (by assumption) ?_
      rotate_left 2; (simp only [List.getElem?_toArray, List.getElem?_cons_succ, List.getElem?_cons_zero]; rfl)
      rotate_left; (first | (refine .inl ⟨by rfl, ?_⟩; intro w9 hS9; go_simp; try with_reducible rfl) | (refine .inr ⟨by rfl, ?_⟩; with_reducible rfl))
      rotate_left; (intro _ _ _ h9; exact h9)
      try simp only [Act.put, List.setIfInBounds_toArray, List.set_cons_zero, List.set_cons_succ]
      refine wpAnyH_take (i := 14) (oi := ?_) (v := ?_) ?_ (by kernel_rfl) (by kernel_rfl) (by kernel_rfl) ?_ ?_ (by assumption) ?_
      rotate_left 2; (simp only [List.getElem?_toArray, List.getElem?_cons_succ, List.getElem?_cons_zero]; rfl)
      rotate_left; (first | (refine .inl ⟨by rfl, ?_⟩; intro w9 hS9; go_simp; try with_reducible rfl) | (refine .inr ⟨by rfl, ?_⟩; with_reducible rfl))
      rotate_left; (intro _ _ _ h9; exact h9)
      try simp only [Act.put, List.setIfInBounds_toArray, List.set_cons_zero, List.set_cons_succ]
      refine wpAnyH_take (i := 15) (oi := ?_) (v := ?_) ?_ (by kernel_rfl) (by kernel_rfl) (by kernel_rfl) ?_ ?_ (by assumption) ?_
      rotate_left 2; (simp only [List.getElem?_toArray, List.getElem?_cons_succ, List.getElem?_cons_zero]; rfl)
      rotate_left; (first | (refine .inl ⟨by rfl, ?_⟩; intro w9 hS9; go_simp; try with_reducible rfl) | (refine .inr ⟨by rfl, ?_⟩; with_reducible rfl))
      rotate_left; (intro _ _ _ h9; exact h9)
      try simp only [Act.put, List.setIfInBounds_toArray, List.set_cons_zero, List.set_cons_succ]
      refine wpAnyH_take (i := 16) (oi := ?_) (v := ?_) ?_ (by kernel_rfl) (by kernel_rfl) (by kernel_rfl) ?_ ?_ (by assumption) ?_
      rotate_left 2; (simp only [List.getElem?_toArray, List.getElem?_cons_succ, List.getElem?_cons_zero]; rfl)
      rotate_left; (first | (refine .inl ⟨by rfl, ?_⟩; intro w9 hS9; go_simp; try with_reducible rfl) | (refine .inr ⟨by rfl, ?_⟩; with_reducible rfl))
      rotate_left; (intro _ _ _ h9; exact h9)
      try simp only [Act.put, List.setIfInBounds_toArray, List.set_cons_zero, List.set_cons_succ]
      refine wpAnyH_take (i := 17) (oi := ?_) (v := ?_) ?_ (by kernel_rfl) (by kernel_rfl) (by kernel_rfl) ?_ ?_ (by assumption) ?_
      rotate_left 2; (simp only [List.getElem?_toArray, List.getElem?_cons_succ, List.getElem?_cons_zero]; rfl)
      rotate_left; (first | (refine .inl ⟨by rfl, ?_⟩; intro w9 hS9; go_simp; try with_reducible rfl) | (refine .inr ⟨by rfl, ?_⟩; with_reducible rfl))
      rotate_left; (intro _ _ _ h9; exact h9)
      try simp only [Act.put, List.setIfInBounds_toArray, List.set_cons_zero, List.set_cons_succ]
      refine wpAnyH_take (i := 18) (oi := ?_) (v := ?_) ?_ (by kernel_rfl) (by kernel_rfl) (by kernel_rfl) ?_ ?_ (by assumption) ?_
      rotate_left 2; (simp only [List.getElem?_toArray, List.getElem?_cons_succ, List.getElem?_cons_zero]; rfl)
      rotate_left; (first | (refine .inl ⟨by rfl, ?_⟩; intro w9 hS9; go_simp; try with_reducible rfl) | (refine .inr ⟨by rfl, ?_⟩; with_reducible rfl))
      rotate_left; (intro _ _ _ h9; exact h9)
      try simp only [Act.put, List.setIfInBounds_toArray, List.set_cons_zero, List.set_cons_succ]
      refine wpAnyH_take (i := 20) (oi := ?_) (v := ?_) ?_ (by kernel_rfl) (by kernel_rfl) (by kernel_rfl) ?_ ?_ (by assumption) ?_
      rotate_left 2; (simp only [List.getElem?_toArray, List.getElem?_cons_succ, List.getElem?_cons_zero]; rfl)
      rotate_left; (first | (refine .inl ⟨by rfl, ?_⟩; intro w9 hS9; go_simp; try with_reducible rfl) | (refine .inr ⟨by rfl, ?_⟩; with_reducible rfl))
      rotate_left; (intro _ _ _ h9; exact h9)
      try simp only [Act.put, List.setIfInBounds_toArray, List.set_cons_zero, List.set_cons_succ]
      refine wpAnyH_take (i := 21) (oi := ?_) (v := ?_) ?_ (by kernel_rfl) (by kernel_rfl) (by kernel_rfl) ?_ ?_ (by assumption) ?_
      rotate_left 2; (simp only [List.getElem?_toArray, List.getElem?_cons_succ, List.getElem?_cons_zero]; rfl)
      rotate_left; (first | (refine .inl ⟨by rfl, ?_⟩; intro w9 hS9; go_simp; try with_reducible rfl) | (refine .inr ⟨by rfl, ?_⟩; with_reducible rfl))
      rotate_left; (intro _ _ _ h9; exact h9)
      try simp only [Act.put, List.setIfInBounds_toArray, List.set_cons_zero, List.set_cons_succ]
      refine wpAnyH_take (i := 22) (oi := ?_) (v := ?_) ?_ (by kernel_rfl) (by kernel_rfl) (by kernel_rfl) ?_ ?_ (by assumption) ?_
      rotate_left 2; (simp only [List.getElem?_toArray, List.getElem?_cons_succ, List.getElem?_cons_zero]; rfl)
      rotate_left; (first | (refine .inl ⟨by rfl, ?_⟩; intro w9 hS9; go_simp; try with_reducible rfl) | (refine .inr ⟨by rfl, ?_⟩; with_reducible rfl))
      rotate_left; (intro _ _ _ h9; exact h9)
      try simp only [Act.put, List.setIfInBounds_toArray, List.set_cons_zero, List.set_cons_succ]
      refine wpAnyH_take (i := 23) (oi := ?_) (v := ?_) ?_ (by kernel_rfl) (by kernel_rfl) (by kernel_rfl) ?_ ?_ (by assumption) ?_
      rotate_left 2; (simp only [List.getElem?_toArray, List.getElem?_cons_succ, List.getElem?_cons_zero]; rfl)
      rotate_left; (first | (refine .inl ⟨by rfl, ?_⟩; intro w9 hS9; go_simp; try with_reducible rfl) | (refine .inr ⟨by rfl, ?_⟩; with_reducible rfl))
      rotate_left; (intro _ _ _ h9; exact h9)
      try simp only [Act.put, List.setIfInBounds_toArray, List.set_cons_zero, List.set_cons_succ]
      refine wpAnyH_take (i := 24) (oi := ?_) (v := ?_) ?_ (by kernel_rfl) (by kernel_rfl) (by kernel_rfl) ?_ ?_ (by assumption) ?_
      rotate_left 2; (simp only [List.getElem?_toArray, List.getElem?_cons_succ, List.getElem?_cons_zero]; rfl)
      rotate_left; (first | (refine .inl ⟨by rfl, ?_⟩; intro w9 hS9; go_simp; try with_reducible rfl) | (refine .inr ⟨by rfl, ?_⟩; with_reducible rfl))
      rotate_left; (intro _ _ _ h9; exact h9)
      try simp only [Act.put, List.setIfInBounds_toArray, List.set_cons_zero, List.set_cons_succ]
      refine wpAnyH_ready (rs := [19]) (by kernel_rfl) (by simp) (AllReadyH.cons rfl (fun K9 hK9 => ?_) AllReadyH.nil)
      go_simp
      refine (ji_seq j g gb s t _ (HP5.out.ji.below hS0)).mono ?_
      rintro e w' ⟨rfl, rfl⟩
      refine hK9.out _ _ hS0 (fun _ => ?_)
      refine wpAnyH_take (i := 25) (oi := ?_) (v := ?_) ?_ (by kernel_rfl) (by kernel_rfl) (by kernel_rfl) ?_ ?_ (by assumption) ?_
      rotate_left 2; (simp only [List.getElem?_toArray, List.getElem?_cons_succ, List.getElem?_cons_zero]; rfl)
      rotate_left; (first | (refine .inl ⟨by rfl, ?_⟩; intro w9 hS9; go_simp; try with_reducible rfl) | (refine .inr ⟨by rfl, ?_⟩; with_reducible rfl))
      rotate_left; (intro _ _ _ h9; exact h9)
      try simp only [Act.put, List.setIfInBounds_toArray, List.set_cons_zero, List.set_cons_succ]
      refine wpAnyH_take (i := 26) (oi := ?_) (v := ?_) ?_ (by kernel_rfl) (by kernel_rfl) (by kernel_rfl) ?_ ?_ (by assumption) ?_
      rotate_left 2; (simp only [List.getElem?_toArray, List.getElem?_cons_succ, List.getElem?_cons_zero]; rfl)
      rotate_left; (first | (refine .inl ⟨by rfl, ?_⟩; intro w9 hS9; go_simp; try with_reducible rfl) | (refine .inr ⟨by rfl, ?_⟩; with_reducible rfl))
      rotate_left; (intro _ _ _ h9; exact h9)
      try simp only [Act.put, List.setIfInBounds_toArray, List.set_cons_zero, List.set_cons_succ]
      refine wpAnyH_take (i := 27) (oi := ?_) (v := ?_) ?_ (by kernel_rfl) (by kernel_rfl) (by kernel_rfl) ?_ ?_ (by assumption) ?_
      rotate_left 2; (simp only [List.getElem?_toArray, List.getElem?_cons_succ, List.getElem?_cons_zero]; rfl)
      rotate_left; (first | (refine .inl ⟨by rfl, ?_⟩; intro w9 hS9; go_simp; try with_reducible rfl) | (refine .inr ⟨by rfl, ?_⟩; with_reducible rfl))
      rotate_left; (intro _ _ _ h9; exact h9)
      try simp only [Act.put, List.setIfInBounds_toArray, List.set_cons_zero, List.set_cons_succ]
      refine wpAnyH_take (i := 28) (oi := ?_) (v := ?_) ?_ (by kernel_rfl) (by kernel_rfl) (by kernel_rfl) ?_ ?_ (by assumption) ?_
      rotate_left 2; (simp only [List.getElem?_toArray, List.getElem?_cons_succ, List.getElem?_cons_zero]; rfl)
      rotate_left; (first | (refine .inl ⟨by rfl, ?_⟩; intro w9 hS9; go_simp; try with_reducible rfl) | (refine .inr ⟨by rfl, ?_⟩; with_reducible rfl))
      rotate_left; (intro _ _ _ h9; exact h9)
      try simp only [Act.put, List.setIfInBounds_toArray, List.set_cons_zero, List.set_cons_succ]
      refine wpAnyH_take (i := 29) (oi := ?_) (v := ?_) ?_ (by kernel_rfl) (by kernel_rfl) (by kernel_rfl) ?_ ?_ (by assumption) ?_
      rotate_left 2; (simp only [List.getElem?_toArray, List.getElem?_cons_succ, List.getElem?_cons_zero]; rfl)
      rotate_left; (first | (refine .inl ⟨by rfl, ?_⟩; intro w9 hS9; go_simp; try with_reducible rfl) | (refine .inr ⟨by rfl, ?_⟩; with_reducible rfl))
      rotate_left; (intro _ _ _ h9; exact h9)
      try simp only [Act.put, List.setIfInBounds_toArray, List.set_cons_zero, List.set_cons_succ]
      refine wpAnyH_take (i := 30) (oi := ?_) (v := ?_) ?_ (by kernel_rfl) (by kernel_rfl) (by kernel_rfl) ?_ ?_ (by assumption) ?_
      rotate_left 2; (simp only [List.getElem?_toArray, List.getElem?_cons_succ, List.getElem?_cons_zero]; rfl)
      rotate_left; (first | (refine .inl ⟨by rfl, ?_⟩; intro w9 hS9; go_simp; try with_reducible rfl) | (refine .inr ⟨by rfl, ?_⟩; with_reducible rfl))
      rotate_left; (intro _ _ _ h9; exact h9)
      try simp only [Act.put, List.setIfInBounds_toArray, List.set_cons_zero, List.set_cons_succ]
      refine wpAnyH_take (i := 33) (oi := ?_) (v := ?_) ?_ (by kernel_rfl) (by kernel_rfl) (by kernel_rfl) ?_ ?_ (by assumption) ?_
      rotate_left 2; (simp only [List.getElem?_toArray, List.getElem?_cons_succ, List.getElem?_cons_zero]; rfl)
      rotate_left; (first | (refine .inl ⟨by rfl, ?_⟩; intro w9 hS9; go_simp; try with_reducible rfl) | (refine .inr ⟨by rfl, ?_⟩; with_reducible rfl))
      rotate_left; (intro _ _ _ h9; exact h9)
      try simp only [Act.put, List.setIfInBounds_toArray, List.set_cons_zero, List.set_cons_succ]
      refine wpAnyH_take (i := 34) (oi := ?_) (v := ?_) ?_ (by kernel_rfl) (by kernel_rfl) (by kernel_rfl) ?_ ?_ (by assumption) ?_
      rotate_left 2; (simp only [List.getElem?_toArray, List.getElem?_cons_succ, List.getElem?_cons_zero]; rfl)
      rotate_left; (first | (refine .inl ⟨by rfl, ?_⟩; intro w9 hS9; go_simp; try with_reducible rfl) | (refine .inr ⟨by rfl, ?_⟩; with_reducible rfl))
      rotate_left; (intro _ _ _ h9; exact h9)
      try simp only [Act.put, List.setIfInBounds_toArray, List.set_cons_zero, List.set_cons_succ]
      refine wpAnyH_take (i := 35) (oi := ?_) (v := ?_) ?_ (by kernel_rfl) (by kernel_rfl) (by kernel_rfl) ?_ ?_ (by assumption) ?_
      rotate_left 2; (simp only [List.getElem?_toArray, List.getElem?_cons_succ, List.getElem?_cons_zero]; rfl)
      rotate_left; (first | (refine .inl ⟨by rfl, ?_⟩; intro w9 hS9; go_simp; try with_reducible rfl) | (refine .inr ⟨by rfl, ?_⟩; with_reducible rfl))
      rotate_left; (intro _ _ _ h9; exact h9)
      try simp only [Act.put, List.setIfInBounds_toArray, List.set_cons_zero, List.set_cons_succ]
      refine wpAnyH_take (i := 36) (oi := ?_) (v := ?_) ?_ (by kernel_rfl) (by kernel_rfl) (by kernel_rfl) ?_ ?_ (by assumption) ?_
      rotate_left 2; (simp only [List.getElem?_toArray, List.getElem?_cons_succ, List.getElem?_cons_zero]; rfl)
      rotate_left; (first | (refine .inl ⟨by rfl, ?_⟩; intro w9 hS9; go_simp; try with_reducible rfl) | (refine .inr ⟨by rfl, ?_⟩; with_reducible rfl))
      rotate_left; (intro _ _ _ h9; exact h9)
      try simp only [Act.put, List.setIfInBounds_toArray, List.set_cons_zero, List.set_cons_succ]
      refine wpAnyH_take (i := 37) (oi := ?_) (v := ?_) ?_ (by kernel_rfl) (by kernel_rfl) (by kernel_rfl) ?_ ?_ (by assumption) ?_
      rotate_left 2; (simp only [List.getElem?_toArray, List.getElem?_cons_succ, List.getElem?_cons_zero]; rfl)
      rotate_left; (first | (refine .inl ⟨by rfl, ?_⟩; intro w9 hS9; go_simp; try with_reducible rfl) | (refine .inr ⟨by rfl, ?_⟩; with_reducible rfl))
      rotate_left; (intro _ _ _ h9; exact h9)
      try simp only [Act.put, List.setIfInBounds_toArray, List.set_cons_zero, List.set_cons_succ]
      refine wpAnyH_ready (rs := [31]) (by kernel_rfl) (by simp) (AllReadyH.cons rfl (fun K9 hK9 => ?_) AllReadyH.nil)
      go_simp
      refine (st_read g gb t.xs t.lim t.dead 0 len0 _ (StIs.below HP5.out.st hS0)).mono ?_
      rintro e wf ⟨vf, rfl, hownr, hb4⟩
      rw [stRead_allP _ _ HTL.out.symm] at hownr
      obtain ⟨Ar, cr, rfl, hrr⟩ := hownr.reads
      rw [HTL.out] at hrr ⊢
      have hS3 := below_step hS0 hb4
      have k4 := by_string_of wf _ _ cr _ hrr.rb
      refine hK9.out _ _ hS3 (fun _ => ?_)
      have HS3 := Lib.hid hS3
      clear hK9 hownr k1 k2 k3 hb4 hrr hS0 hS3 y0 y2 y3 y5
      have hS4 := Below.refl wf.heap.size wf
      refine wpAnyH_weaken (T := fun w' => Below wf.heap.size wf w') (fun w' h => below_step HS3.out h) _ _ _ _ ?_
      refine wpAnyH_take (i := 32) (oi := ?_) (v := ?_) ?_ (by kernel_rfl) (by kernel_rfl) (by kernel_rfl) ?_ ?_ (by assumption) ?_
      rotate_left 2; (simp only [List.getElem?_toArray, List.getElem?_cons_succ, List.getElem?_cons_zero]; rfl)
      rotate_left; (first | (refine .inl ⟨by rfl, ?_⟩; intro w9 hS9; go_simp; try with_reducible rfl) | (refine .inr ⟨by rfl, ?_⟩; with_reducible rfl))
      rotate_left; (intro _ _ _ h9; exact h9)
      try simp only [Act.put, List.setIfInBounds_toArray, List.set_cons_zero, List.set_cons_succ]
      refine wpAnyH_take (i := 38) (oi := ?_) (v := ?_) ?_ (by kernel_rfl) (by kernel_rfl) (by kernel_rfl) ?_ ?_ (by assumption) ?_
      rotate_left 2; (simp only [List.getElem?_toArray, List.getElem?_cons_succ, List.getElem?_cons_zero]; rfl)
      rotate_left; (first | (refine .inl ⟨by rfl, ?_⟩; intro w9 hS9; go_simp; try with_reducible rfl) | (refine .inr ⟨by rfl, ?_⟩; with_reducible rfl))
      rotate_left; (intro _ _ _ h9; exact h9)
      try simp only [Act.put, List.setIfInBounds_toArray, List.set_cons_zero, List.set_cons_succ]
      refine wpAnyH_take (i := 39) (oi := ?_) (v := ?_) ?_ (by kernel_rfl) (by kernel_rfl) (by kernel_rfl) ?_ ?_ (by assumption) ?_
      rotate_left 2; (simp only [List.getElem?_toArray, List.getElem?_cons_succ, List.getElem?_cons_zero]; rfl)
      rotate_left; (first | (refine .inl ⟨by rfl, ?_⟩; intro w9 hS9; go_simp; try with_reducible rfl) | (refine .inr ⟨by rfl, ?_⟩; with_reducible rfl))
      rotate_left; (intro _ _ _ h9; exact h9)
      try simp only [Act.put, List.setIfInBounds_toArray, List.set_cons_zero, List.set_cons_succ]
      refine wpAnyH_take (i := 40) (oi := ?_) (v := ?_) ?_ (by kernel_rfl) (by kernel_rfl) (by kernel_rfl) ?_ ?_ (by assumption) ?_
      rotate_left 2; (simp only [List.getElem?_toArray, List.getElem?_cons_succ, List.getElem?_cons_zero]; rfl)
      rotate_left; (first | (refine .inl ⟨by rfl, ?_⟩; intro w9 hS9; go_simp; try with_reducible rfl) | (refine .inr ⟨by rfl, ?_⟩; with_reducible rfl))
      rotate_left; (intro _ _ _ h9; exact h9)
      try simp only [Act.put, List.setIfInBounds_toArray, List.set_cons_zero, List.set_cons_succ]
      refine wpAnyH_take (i := 41) (oi := ?_) (v := ?_) ?_ (by kernel_rfl) (by kernel_rfl) (by kernel_rfl) ?_ ?_ (by assumption) ?_
      rotate_left 2; (simp only [List.getElem?_toArray, List.getElem?_cons_succ, List.getElem?_cons_zero]; rfl)
      rotate_left; (first | (refine .inl ⟨by rfl, ?_⟩; intro w9 hS9; go_simp; try with_reducible rfl) | (refine .inr ⟨by rfl, ?_⟩; with_reducible rfl))
      rotate_left; (intro _ _ _ h9; exact h9)
      try simp only [Act.put, List.setIfInBounds_toArray, List.set_cons_zero, List.set_cons_succ]
      refine wpAnyH_take (i := 42) (oi := ?_) (v := ?_) ?_ (by kernel_rfl) (by kernel_rfl) (by kernel_rfl) ?_ ?_ (by assumption) ?_
      rotate_left 2; (simp only [List.getElem?_toArray, List.getElem?_cons_succ, List.getElem?_cons_zero]; rfl)
      rotate_left; (first | (refine .inl ⟨by rfl, ?_⟩; intro w9 hS9; go_simp; try with_reducible rfl) | (refine .inr ⟨by rfl, ?_⟩; with_reducible rfl))
      rotate_left; (intro _ _ _ h9; exact h9)
      try simp only [Act.put, List.setIfInBounds_toArray, List.set_cons_zero, List.set_cons_succ]
      refine wpAnyH_take (i := 43) (oi := ?_) (v := ?_) ?_ (by kernel_rfl) (by kernel_rfl) (by kernel_rfl) ?_ ?_ (by assumption) ?_
      rotate_left 2; (simp only [List.getElem?_toArray, List.getElem?_cons_succ, List.getElem?_cons_zero]; rfl)
      rotate_left; (first | (refine .inl ⟨by rfl, ?_⟩; intro w9 hS9; go_simp; try with_reducible rfl) | (refine .inr ⟨by rfl, ?_⟩; with_reducible rfl))
      rotate_left; (intro _ _ _ h9; exact h9)
      try simp only [Act.put, List.setIfInBounds_toArray, List.set_cons_zero, List.set_cons_succ]
      refine wpAnyH_take (i := 44) (oi := ?_) (v := ?_) ?_ (by kernel_rfl) (by kernel_rfl) (by kernel_rfl) ?_ ?_ (by assumption) ?_
      rotate_left 2; (simp only [List.getElem?_toArray, List.getElem?_cons_succ, List.getElem?_cons_zero]; rfl)
      rotate_left; (first | (refine .inl ⟨by rfl, ?_⟩; intro w9 hS9; go_simp; try with_reducible rfl) | (refine .inr ⟨by rfl, ?_⟩; with_reducible rfl))
      rotate_left; (intro _ _ _ h9; exact h9)
      try simp only [Act.put, List.setIfInBounds_toArray, List.set_cons_zero, List.set_cons_succ]
      refine wpAnyH_done (by kernel_rfl) ?_ _
      have HBF := Lib.hid (show Below wc.heap.size wc wf from below_step HB5.out HS3.out)
      have HOF := Lib.hid (HO5.out.below HS3.out)
      clear k4 t1 t3 hS4 HP5 HBW5 HO5 HB5 HS3
      generalize hnd : s.nt.dat.length = nd at *
      have HND := Lib.hid hnd
      have hnd40 : nd ≤ 40 := by rw [← hnd]; exact HPJ.out.jr.few
      clear hnd
      go_wp2_with fail
      go_loopw [14] (fun s14 wr => ∃ m : Nat, m ≤ nd ∧ s14 = .int .i64 m ∧ (∃ ds, ds.length = nd ∧ OwnB wr wc.heap.size (.slice A5 nd c5) ds) ∧ Below wc.heap.size wc wr) (fun s14 _ => nd - (intOf s14).toNat)
      case atStart => exact ⟨0, Nat.zero_le _, rfl, ⟨_, HND.out, HOF.out⟩, HBF.out⟩
      case round =>
        obtain ⟨m, hm, rfl, ⟨ds, hds, hod⟩, hbd⟩ := hrel
        have HOD := Lib.hid hod
        have HBD := Lib.hid hbd
        have HDS := Lib.hid hds
        clear hbd hds HOF HBF
        by_cases hml : m < nd
        · have hml' : (m : Int) < nd := by omega
          have HML := Lib.hid hml
          rcases hod.form with ⟨_, h0⟩ | ⟨gi, c9, he, hgi, _, hfz, hri⟩
          · have := HDS.out; rw [h0] at this; simp at this; omega
          rw [HDS.out] at he
          cases he
          rw [HDS.out] at hri
          obtain ⟨b9, o9, e8, _, hc9⟩ := hri.rb.cells (by omega)
          cases e8
          have x2 := hc9 m hml
          rw [Nat.zero_add] at x2
          unfold bv at x2
          have x3 := hfz m
          have hset := hod.set m (by have := HDS.out; omega) 7
          have HSET := Lib.hid hset
          have HFS := Lib.hid (fr_setCell (F := fun b => b = gi) (w := wr) ⟨gi, m, none⟩ (.int .u8 7) rfl)
          have HGI := Lib.hid hgi
          clear hod hset hri hc9 hfz hml hm hgi
          go_wp2_with fail
          exact ⟨⟨m + 1, by have := HML.out; omega, by go_num, ⟨_, by rw [List.length_set]; exact HDS.out, HSET.out⟩, HBD.out.trans (HFS.out.below wc.heap.size HBD.out.size (fun i e => by rw [e]; exact HGI.out))⟩, by have := HML.out; simp [intOf]; omega⟩
        · obtain rfl : m = nd := by omega
          have HPN := Lib.hid (show PI w g gb x v L len0 (.pointer (some ⟨j, 0, none⟩)) (.pointer (some ⟨y, 0, none⟩)) wr from ⟨⟨j, y, s, t, A0, c0, A, c, rfl, rfl, HPJ.out.below HBD.out, HTL.out⟩, below_step HB.out HBD.out⟩)
          have hn60 := HN.out
          have hk60 := HK.out
          clear hod hm hml
          go_wp2_with fail
          exact ⟨⟨k + 1, by have := HK.out; omega, by go_num, HPN.out⟩, by have := HK.out; simp [intOf]; omega⟩
    · obtain rfl : k = len1 := by omega
      go_wp2_with fail
      go_ret
      exact ⟨rfl, HB.out⟩
end Go.Proofs.YtcppmihambcihaaDoor
