/- The walk of WheelPlays. -/
import Derived.Test.YtpfoocndohpbbaaDoorWhPlaysP
import Derived.Deep.CutBlock
import Derived.Deep.DeepCutAuto
namespace Go.Proofs.YtpfoocndohpbbaaDoor
open Go Go.RowKit
set_option linter.unusedVariables false
set_option linter.unusedSimpArgs false
theorem a5_cells {w0 : World} {b off n c : Nat} {l : List A5} (h : RE a5c w0 (some ⟨b, off, none⟩) n c l) (hb : b < w0.heap.size) (i : Nat) (hi : i < l.length) : ∀ w', Below w0.heap.size w0 w' → w'.cell? ⟨b, off + i * 3, none⟩ = some (.int .i64 l[i].dO) ∧ w'.cell? ⟨b, off + i * 3 + 1, none⟩ = some (.int .i64 l[i].nn) ∧ w'.cell? ⟨b, off + i * 3 + 2, none⟩ = some (.int .i64 l[i].tag) :=
  fun w' hw => ⟨(hw.cell (p := ⟨b, off + i * 3, none⟩) hb).trans (h.elem a5c_len i hi 0 _ rfl), (hw.cell (p := ⟨b, off + i * 3 + 1, none⟩) hb).trans (h.elem a5c_len i hi 1 _ rfl), (hw.cell (p := ⟨b, off + i * 3 + 2, none⟩) hb).trans (h.elem a5c_len i hi 2 _ rfl)⟩
theorem row_cell {wr : World} {b n c : Nat} {ts : List Int} (h : OwnE ki 1 3 wr (.slice (some ⟨b, 0, none⟩) n c) ts) (j : Nat) (hj : j < ts.length) : ∃ y, wr.cell? ⟨b, j, none⟩ = some (.int .i64 y) ∧ wr.frozen? ⟨b, j, none⟩ = false := by
  have hn : ts.length = n := by
    rcases h.2 with ⟨e', _⟩ | ⟨_, _, _, e', _⟩ <;> cases e'
    rfl
  subst hn
  have h1 := World.ownsRow.cellAt h j (by omega)
  have h2 := flat_get (f := ki) ki_len ts j hj 0 (by omega)
  rw [Nat.mul_one, Nat.add_zero] at h2
  rw [h2] at h1
  exact ⟨ts[j], h1, World.ownsRow.frozenAt h _⟩
theorem PL.len {w0 wr : World} {g gx P : Nat} {a : Ab} {L : List Rt} (h : PL w0 g gx a P L wr) : a.L.length ≤ a.P := by
  obtain ⟨v, ⟨⟨F, h1, _⟩, _⟩, _⟩ := h
  exact h1.len.1
theorem PL.few {w0 wr : World} {g gx P : Nat} {a : Ab} {L : List Rt} (h : PL w0 g gx a P L wr) : a.P ≤ 64 := by
  obtain ⟨v, ⟨⟨F, h1, _⟩, _⟩, _⟩ := h
  exact h1.len.2
/-- Both wheels at the head of a round. -/
structure PW (w : World) (g gx P n : Nat) (s8 : Value) (i : Nat) (wr : World) : Prop where
  ex : ∃ (T : Nat) (a : Ab), s8 = .int .i64 T ∧ T ≤ 20000 ∧ PL w g gx a a.P (abR a) wr ∧ a.now = T ∧ a.cnt ≤ i ∧ a.P = P
set_option maxHeartbeats 4000000 in
set_option maxRecDepth 100000 in
theorem wheelPlays_walk (a0 : Int) (a1 : Option Addr) (len1 cap1 : Nat) (w : World) (w0 : (Lit.int .i64 a0).wf = true) (w1 : IsE a5c w a1 len1 cap1) (hg : HasTy w) :
    Calls Tryd.prog 3 #[.int .i64 a0, .slice a1 len1 cap1] w fun e w' => e = .returned (.bool true) ∧ Below w.heap.size w w' := by
  have HG := Lib.hid hg
  clear hg w0
  obtain ⟨P, hP⟩ : ∃ P : Nat, (P : Int) = max 0 (min a0 64) := ⟨(max 0 (min a0 64)).toNat, by omega⟩
  have HP := Lib.hid hP
  clear hP
  by_cases hn : 60 < len1
  · have hn2 : (60 : Int) < len1 := by omega
    clear w1
    go_enter Tryd.func3, Tryd.ntmps3
    go_wp2_with fail
    refine (l_small05 _ HG.out).mono ?_
    rintro e wa ⟨rfl, hb⟩
    have HB := Lib.hid hb
    clear hb
    go_wp2_with fail
    refine (l5_new P a0 HP.out w wa HB.out).mono ?_
    rintro e wb ⟨g, rfl, h1⟩
    have HB2 := Lib.hid h1.bel
    clear h1 HB
    go_wp2_with fail
    go_ret
    exact ⟨rfl, HB2.out⟩
  have hn2 : ¬ (60 : Int) < len1 := by omega
  obtain ⟨l, hl⟩ := w1.re (by omega)
  have HL := Lib.hid hl
  have HN := Lib.hid (show len1 ≤ 60 by omega)
  have HLL := Lib.hid hl.len
  clear w1 hl hn
  go_enter Tryd.func3, Tryd.ntmps3
  go_wp2_with fail
  refine (l_small05 _ HG.out).mono ?_
  rintro e wa ⟨rfl, hb⟩
  have HB := Lib.hid hb
  clear hb
  go_wp2_with fail
  refine (l5_new P a0 HP.out w wa HB.out).mono ?_
  rintro e wb ⟨g, rfl, h1⟩
  have H1 := Lib.hid h1
  clear h1 HB
  go_wp2_with fail
  refine (pl_new P a0 HP.out H1.out).mono ?_
  rintro e wc ⟨gx, rfl, h2⟩
  have H2 := Lib.hid h2
  clear h2 H1
  go_wp2_with fail
  go_loopw [8, 9] (fun s8 s9 wr => ∃ i : Nat, i ≤ len1 ∧ s9 = .int .i64 i ∧ PW w g gx P len1 s8 i wr) (fun _ s9 _ => len1 - (intOf s9).toNat)
  case atStart => exact ⟨0, Nat.zero_le _, rfl, ⟨0, abNew P, rfl, Nat.zero_le _, H2.out, rfl, Nat.le_refl _, rfl⟩⟩
  case round =>
    obtain ⟨i, hi, rfl, T, a, rfl, hT, hpl, hnow, hcnt, haP⟩ := hrel
    have HPL := Lib.hid hpl
    have HS := Lib.hid (show a.now = T ∧ T ≤ 20000 ∧ a.cnt ≤ i ∧ a.P = P from ⟨hnow, hT, hcnt, haP⟩)
    clear H2 hT hnow hcnt haP
    by_cases hlt : i < len1
    · have hlt' : (i : Int) < len1 := by omega
      have HI := Lib.hid hlt
      obtain ⟨b, off, rfl, hbl, _⟩ := HL.out.cells (by omega)
      have hkl : i < l.length := by rw [HLL.out]; exact hlt
      have hcs := a5_cells HL.out hbl i hkl
      generalize l[i] = x at hcs
      have q0 := (hcs wr hpl.bel).1
      have HCS := Lib.hid hcs
      obtain ⟨z, hz⟩ : ∃ z : Int, x.dO.tmod 3 = z := ⟨_, rfl⟩
      have hl9 : (len1 : Int) ≤ 60 := by have := HN.out; omega
      clear hlt hi hkl hcs hpl hbl
      go_upto_block 2 with fail
      clear q0 hz
      go_cut [8] (fun s8 wx => ∃ (T' : Nat) (a' : Ab), s8 = .int .i64 T' ∧ T' ≤ 20000 ∧ PL w g gx a' a'.P (abR a') wx ∧ a'.now = T' ∧ a'.cnt ≤ i + 1 ∧ a'.P = P)
      case first =>
        by_cases z0 : z = 0
        · as_aux_lemma =>
          subst z0
          go_upto_region 12 with fail
          have hS0 : Below w.heap.size w wr.drew := below_step HPL.out.bel (below_drew1 wr)
          have HPD := Lib.hid (HPL.out.below (below_drew1 wr))
          have x1 := fun w' h => (HCS.out w' h).2.1
          have x2 := fun w' h => (HCS.out w' h).2.2
          refine wp_region_held (S := fun w' => Below w.heap.size w w') (by kernel_rfl) ?_
          change wpAnyH _ _ _ _ _ _ _ _ wr.drew
          generalize wr.drew = wd at *
          change wpAnyH _ _ _ _ _ 17 (Array.replicate 17 false) _ _
          refine wpAnyH_take (i := 0) (oi := ?_) (v := ?_) ?_ (by kernel_rfl) (by kernel_rfl) (by kernel_rfl) ?_ ?_ (by assumption) ?_
          rotate_left 2; (simp only [List.getElem?_toArray, List.getElem?_cons_succ, List.getElem?_cons_zero]; rfl)
          rotate_left; (first | (refine .inl ⟨by rfl, ?_⟩; intro w9 hS9; go_simp; try with_reducible rfl) | (refine .inr ⟨by rfl, ?_⟩; with_reducible rfl))
          rotate_left; (intro _ _ _ h9; exact h9)
          try simp only [Act.put, List.setIfInBounds_toArray, List.set_cons_zero, List.set_cons_succ]
          refine wpAnyH_take (i := 1) (oi := ?_) (v := ?_) ?_ (by kernel_rfl) (by kernel_rfl) (by kernel_rfl) ?_ ?_ (by assumption) ?_
          rotate_left 2; (simp only [List.getElem?_toArray, List.getElem?_cons_succ, List.getElem?_cons_zero]; rfl)
          rotate_left; (first | (refine .inl ⟨by rfl, ?_⟩; intro w9 hS9; go_simp; try with_reducible rfl) | (refine .inr ⟨by rfl, ?_⟩; with_reducible rfl))
          rotate_left; (intro _ _ _ h9; exact h9)
          try simp only [Act.put, List.setIfInBounds_toArray, List.set_cons_zero, List.set_cons_succ]
          refine wpAnyH_take (i := 2) (oi := ?_) (v := ?_) ?_ (by kernel_rfl) (by kernel_rfl) (by kernel_rfl) ?_ ?_ (by assumption) ?_
          rotate_left 2; (simp only [List.getElem?_toArray, List.getElem?_cons_succ, List.getElem?_cons_zero]; rfl)
          rotate_left; (first | (refine .inl ⟨by rfl, ?_⟩; intro w9 hS9; go_simp; try with_reducible rfl) | (refine .inr ⟨by rfl, ?_⟩; with_reducible rfl))
          rotate_left; (intro _ _ _ h9; exact h9)
          try simp only [Act.put, List.setIfInBounds_toArray, List.set_cons_zero, List.set_cons_succ]
          refine wpAnyH_take (i := 3) (oi := ?_) (v := ?_) ?_ (by kernel_rfl) (by kernel_rfl) (by kernel_rfl) ?_ ?_ (by assumption) ?_
          rotate_left 2; (simp only [List.getElem?_toArray, List.getElem?_cons_succ, List.getElem?_cons_zero]; rfl)
          rotate_left; (first | (refine .inl ⟨by rfl, ?_⟩; intro w9 hS9; go_simp; try with_reducible rfl) | (refine .inr ⟨by rfl, ?_⟩; with_reducible rfl))
          rotate_left; (intro _ _ _ h9; exact h9)
          try simp only [Act.put, List.setIfInBounds_toArray, List.set_cons_zero, List.set_cons_succ]
          refine wpAnyH_take (i := 4) (oi := ?_) (v := ?_) ?_ (by kernel_rfl) (by kernel_rfl) (by kernel_rfl) ?_ ?_ (by assumption) ?_
          rotate_left 2; (simp only [List.getElem?_toArray, List.getElem?_cons_succ, List.getElem?_cons_zero]; rfl)
          rotate_left; (first | (refine .inl ⟨by rfl, ?_⟩; intro w9 hS9; go_simp; try with_reducible rfl) | (refine .inr ⟨by rfl, ?_⟩; with_reducible rfl))
          rotate_left; (intro _ _ _ h9; exact h9)
          try simp only [Act.put, List.setIfInBounds_toArray, List.set_cons_zero, List.set_cons_succ]
          refine wpAnyH_take (i := 5) (oi := ?_) (v := ?_) ?_ (by kernel_rfl) (by kernel_rfl) (by kernel_rfl) ?_ ?_ (by assumption) ?_
          rotate_left 2; (simp only [List.getElem?_toArray, List.getElem?_cons_succ, List.getElem?_cons_zero]; rfl)
          rotate_left; (first | (refine .inl ⟨by rfl, ?_⟩; intro w9 hS9; go_simp; try with_reducible rfl) | (refine .inr ⟨by rfl, ?_⟩; with_reducible rfl))
          rotate_left; (intro _ _ _ h9; exact h9)
          try simp only [Act.put, List.setIfInBounds_toArray, List.set_cons_zero, List.set_cons_succ]
          refine wpAnyH_take (i := 6) (oi := ?_) (v := ?_) ?_ (by kernel_rfl) (by kernel_rfl) (by kernel_rfl) ?_ ?_ (by assumption) ?_
          rotate_left 2; (simp only [List.getElem?_toArray, List.getElem?_cons_succ, List.getElem?_cons_zero]; rfl)
          rotate_left; (first | (refine .inl ⟨by rfl, ?_⟩; intro w9 hS9; go_simp; try with_reducible rfl) | (refine .inr ⟨by rfl, ?_⟩; with_reducible rfl))
          rotate_left; (intro _ _ _ h9; exact h9)
          try simp only [Act.put, List.setIfInBounds_toArray, List.set_cons_zero, List.set_cons_succ]
          refine wpAnyH_take (i := 7) (oi := ?_) (v := ?_) ?_ (by kernel_rfl) (by kernel_rfl) (by kernel_rfl) ?_ ?_ (by assumption) ?_
          rotate_left 2; (simp only [List.getElem?_toArray, List.getElem?_cons_succ, List.getElem?_cons_zero]; rfl)
          rotate_left; (first | (refine .inl ⟨by rfl, ?_⟩; intro w9 hS9; go_simp; try with_reducible rfl) | (refine .inr ⟨by rfl, ?_⟩; with_reducible rfl))
          rotate_left; (intro _ _ _ h9; exact h9)
          try simp only [Act.put, List.setIfInBounds_toArray, List.set_cons_zero, List.set_cons_succ]
          refine wpAnyH_take (i := 8) (oi := ?_) (v := ?_) ?_ (by kernel_rfl) (by kernel_rfl) (by kernel_rfl) ?_ ?_ (by assumption) ?_
          rotate_left 2; (simp only [List.getElem?_toArray, List.getElem?_cons_succ, List.getElem?_cons_zero]; rfl)
          rotate_left; (first | (refine .inl ⟨by rfl, ?_⟩; intro w9 hS9; go_simp; try with_reducible rfl) | (refine .inr ⟨by rfl, ?_⟩; with_reducible rfl))
          rotate_left; (intro _ _ _ h9; exact h9)
          try simp only [Act.put, List.setIfInBounds_toArray, List.set_cons_zero, List.set_cons_succ]
          refine wpAnyH_take (i := 9) (oi := ?_) (v := ?_) ?_ (by kernel_rfl) (by kernel_rfl) (by kernel_rfl) ?_ ?_ (by assumption) ?_
          rotate_left 2; (simp only [List.getElem?_toArray, List.getElem?_cons_succ, List.getElem?_cons_zero]; rfl)
          rotate_left; (first | (refine .inl ⟨by rfl, ?_⟩; intro w9 hS9; go_simp; try with_reducible rfl) | (refine .inr ⟨by rfl, ?_⟩; with_reducible rfl))
          rotate_left; (intro _ _ _ h9; exact h9)
          try simp only [Act.put, List.setIfInBounds_toArray, List.set_cons_zero, List.set_cons_succ]
          refine wpAnyH_take (i := 10) (oi := ?_) (v := ?_) ?_ (by kernel_rfl) (by kernel_rfl) (by kernel_rfl) ?_ ?_ (by assumption) ?_
          rotate_left 2; (simp only [List.getElem?_toArray, List.getElem?_cons_succ, List.getElem?_cons_zero]; rfl)
          rotate_left; (first | (refine .inl ⟨by rfl, ?_⟩; intro w9 hS9; go_simp; try with_reducible rfl) | (refine .inr ⟨by rfl, ?_⟩; with_reducible rfl))
          rotate_left; (intro _ _ _ h9; exact h9)
          try simp only [Act.put, List.setIfInBounds_toArray, List.set_cons_zero, List.set_cons_succ]
          refine wpAnyH_ready (rs := [11]) (by kernel_rfl) (by simp) (AllReadyH.cons rfl (fun K9 hK9 => ?_) AllReadyH.nil)
          go_simp
          refine (pl_arm HPD.out (by have := HS.out; omega) (by have := HS.out; have := HI.out; have := HN.out; omega) x.nn x.tag).mono ?_
          rintro e w1 ⟨v1, n1, c1, a', rfl, he1, hp1, hd1⟩
          have hS1 := hp1.bel
          refine hK9.out _ _ hS1 (fun _ => ?_)
          have HE1 := Lib.hid he1
          have HP1 := Lib.hid hp1
          have HD1 := Lib.hid hd1
          clear hS0 he1 hp1 hd1 HPD
          refine wpAnyH_take (i := 12) (oi := ?_) (v := ?_) ?_ (by kernel_rfl) (by kernel_rfl) (by kernel_rfl) ?_ ?_ (by assumption) ?_
          rotate_left 2; (simp only [List.getElem?_toArray, List.getElem?_cons_succ, List.getElem?_cons_zero]; rfl)
          rotate_left; (first | (refine .inl ⟨by rfl, ?_⟩; intro w9 hS9; go_simp; try with_reducible rfl) | (refine .inr ⟨by rfl, ?_⟩; with_reducible rfl))
          rotate_left; (intro _ _ _ h9; exact h9)
          try simp only [Act.put, List.setIfInBounds_toArray, List.set_cons_zero, List.set_cons_succ]
          refine wpAnyH_take (i := 13) (oi := ?_) (v := ?_) ?_ (by kernel_rfl) (by kernel_rfl) (by kernel_rfl) ?_ ?_ (by assumption) ?_
          rotate_left 2; (simp only [List.getElem?_toArray, List.getElem?_cons_succ, List.getElem?_cons_zero]; rfl)
          rotate_left; (first | (refine .inl ⟨by rfl, ?_⟩; intro w9 hS9; go_simp; try with_reducible rfl) | (refine .inr ⟨by rfl, ?_⟩; with_reducible rfl))
          rotate_left; (intro _ _ _ h9; exact h9)
          try simp only [Act.put, List.setIfInBounds_toArray, List.set_cons_zero, List.set_cons_succ]
          refine wpAnyH_take (i := 14) (oi := ?_) (v := ?_) ?_ (by kernel_rfl) (by kernel_rfl) (by kernel_rfl) ?_ ?_ (by assumption) ?_
          rotate_left 2; (simp only [List.getElem?_toArray, List.getElem?_cons_succ, List.getElem?_cons_zero]; rfl)
          rotate_left; (first | (refine .inl ⟨by rfl, ?_⟩; intro w9 hS9; go_simp; try with_reducible rfl) | (refine .inr ⟨by rfl, ?_⟩; with_reducible rfl))
          rotate_left; (intro _ _ _ h9; exact h9)
          try simp only [Act.put, List.setIfInBounds_toArray, List.set_cons_zero, List.set_cons_succ]
          refine wpAnyH_take (i := 15) (oi := ?_) (v := ?_) ?_ (by kernel_rfl) (by kernel_rfl) (by kernel_rfl) ?_ ?_ (by assumption) ?_
          rotate_left 2; (simp only [List.getElem?_toArray, List.getElem?_cons_succ, List.getElem?_cons_zero]; rfl)
          rotate_left; (first | (refine .inl ⟨by rfl, ?_⟩; intro w9 hS9; go_simp; try with_reducible rfl) | (refine .inr ⟨by rfl, ?_⟩; with_reducible rfl))
          rotate_left; (intro _ _ _ h9; exact h9)
          try simp only [Act.put, List.setIfInBounds_toArray, List.set_cons_zero, List.set_cons_succ]
          refine wpAnyH_take (i := 16) (oi := ?_) (v := ?_) ?_ (by kernel_rfl) (by kernel_rfl) (by kernel_rfl) ?_ ?_ (by assumption) ?_
          rotate_left 2; (simp only [List.getElem?_toArray, List.getElem?_cons_succ, List.getElem?_cons_zero]; rfl)
          rotate_left; (first | (refine .inl ⟨by rfl, ?_⟩; intro w9 hS9; go_simp; try with_reducible rfl) | (refine .inr ⟨by rfl, ?_⟩; with_reducible rfl))
          rotate_left; (intro _ _ _ h9; exact h9)
          try simp only [Act.put, List.setIfInBounds_toArray, List.set_cons_zero, List.set_cons_succ]
          refine wpAnyH_done (by kernel_rfl) ?_ _
          clear x1 x2 hS1
          go_upto_region 13 with fail
          have hS0 : Below w.heap.size w w1.drew := below_step HP1.out.bel (below_drew1 w1)
          have HPD := Lib.hid (HP1.out.below (below_drew1 w1))
          have HE2 := Lib.hid (HE1.out.below (below_drew1 w1))
          have x1 := fun w' h => (HCS.out w' h).2.1
          have x2 := fun w' h => (HCS.out w' h).2.2
          refine wp_region_held (S := fun w' => Below w.heap.size w w') (by kernel_rfl) ?_
          change wpAnyH _ _ _ _ _ _ _ _ w1.drew
          generalize w1.drew = we at *
          change wpAnyH _ _ _ _ _ 17 (Array.replicate 17 false) _ _
          refine wpAnyH_take (i := 0) (oi := ?_) (v := ?_) ?_ (by kernel_rfl) (by kernel_rfl) (by kernel_rfl) ?_ ?_ (by assumption) ?_
          rotate_left 2; (simp only [List.getElem?_toArray, List.getElem?_cons_succ, List.getElem?_cons_zero]; rfl)
          rotate_left; (first | (refine .inl ⟨by rfl, ?_⟩; intro w9 hS9; go_simp; try with_reducible rfl) | (refine .inr ⟨by rfl, ?_⟩; with_reducible rfl))
          rotate_left; (intro _ _ _ h9; exact h9)
          try simp only [Act.put, List.setIfInBounds_toArray, List.set_cons_zero, List.set_cons_succ]
          refine wpAnyH_take (i := 1) (oi := ?_) (v := ?_) ?_ (by kernel_rfl) (by kernel_rfl) (by kernel_rfl) ?_ ?_ (by assumption) ?_
          rotate_left 2; (simp only [List.getElem?_toArray, List.getElem?_cons_succ, List.getElem?_cons_zero]; rfl)
          rotate_left; (first | (refine .inl ⟨by rfl, ?_⟩; intro w9 hS9; go_simp; try with_reducible rfl) | (refine .inr ⟨by rfl, ?_⟩; with_reducible rfl))
          rotate_left; (intro _ _ _ h9; exact h9)
          try simp only [Act.put, List.setIfInBounds_toArray, List.set_cons_zero, List.set_cons_succ]
          refine wpAnyH_take (i := 2) (oi := ?_) (v := ?_) ?_ (by kernel_rfl) (by kernel_rfl) (by kernel_rfl) ?_ ?_ (by assumption) ?_
          rotate_left 2; (simp only [List.getElem?_toArray, List.getElem?_cons_succ, List.getElem?_cons_zero]; rfl)
          rotate_left; (first | (refine .inl ⟨by rfl, ?_⟩; intro w9 hS9; go_simp; try with_reducible rfl) | (refine .inr ⟨by rfl, ?_⟩; with_reducible rfl))
          rotate_left; (intro _ _ _ h9; exact h9)
          try simp only [Act.put, List.setIfInBounds_toArray, List.set_cons_zero, List.set_cons_succ]
          refine wpAnyH_take (i := 3) (oi := ?_) (v := ?_) ?_ (by kernel_rfl) (by kernel_rfl) (by kernel_rfl) ?_ ?_ (by assumption) ?_
          rotate_left 2; (simp only [List.getElem?_toArray, List.getElem?_cons_succ, List.getElem?_cons_zero]; rfl)
          rotate_left; (first | (refine .inl ⟨by rfl, ?_⟩; intro w9 hS9; go_simp; try with_reducible rfl) | (refine .inr ⟨by rfl, ?_⟩; with_reducible rfl))
          rotate_left; (intro _ _ _ h9; exact h9)
          try simp only [Act.put, List.setIfInBounds_toArray, List.set_cons_zero, List.set_cons_succ]
          refine wpAnyH_take (i := 4) (oi := ?_) (v := ?_) ?_ (by kernel_rfl) (by kernel_rfl) (by kernel_rfl) ?_ ?_ (by assumption) ?_
          rotate_left 2; (simp only [List.getElem?_toArray, List.getElem?_cons_succ, List.getElem?_cons_zero]; rfl)
          rotate_left; (first | (refine .inl ⟨by rfl, ?_⟩; intro w9 hS9; go_simp; try with_reducible rfl) | (refine .inr ⟨by rfl, ?_⟩; with_reducible rfl))
          rotate_left; (intro _ _ _ h9; exact h9)
          try simp only [Act.put, List.setIfInBounds_toArray, List.set_cons_zero, List.set_cons_succ]
          refine wpAnyH_take (i := 5) (oi := ?_) (v := ?_) ?_ (by kernel_rfl) (by kernel_rfl) (by kernel_rfl) ?_ ?_ (by assumption) ?_
          rotate_left 2; (simp only [List.getElem?_toArray, List.getElem?_cons_succ, List.getElem?_cons_zero]; rfl)
          rotate_left; (first | (refine .inl ⟨by rfl, ?_⟩; intro w9 hS9; go_simp; try with_reducible rfl) | (refine .inr ⟨by rfl, ?_⟩; with_reducible rfl))
          rotate_left; (intro _ _ _ h9; exact h9)
          try simp only [Act.put, List.setIfInBounds_toArray, List.set_cons_zero, List.set_cons_succ]
          refine wpAnyH_take (i := 6) (oi := ?_) (v := ?_) ?_ (by kernel_rfl) (by kernel_rfl) (by kernel_rfl) ?_ ?_ (by assumption) ?_
          rotate_left 2; (simp only [List.getElem?_toArray, List.getElem?_cons_succ, List.getElem?_cons_zero]; rfl)
          rotate_left; (first | (refine .inl ⟨by rfl, ?_⟩; intro w9 hS9; go_simp; try with_reducible rfl) | (refine .inr ⟨by rfl, ?_⟩; with_reducible rfl))
          rotate_left; (intro _ _ _ h9; exact h9)
          try simp only [Act.put, List.setIfInBounds_toArray, List.set_cons_zero, List.set_cons_succ]
          refine wpAnyH_take (i := 7) (oi := ?_) (v := ?_) ?_ (by kernel_rfl) (by kernel_rfl) (by kernel_rfl) ?_ ?_ (by assumption) ?_
          rotate_left 2; (simp only [List.getElem?_toArray, List.getElem?_cons_succ, List.getElem?_cons_zero]; rfl)
          rotate_left; (first | (refine .inl ⟨by rfl, ?_⟩; intro w9 hS9; go_simp; try with_reducible rfl) | (refine .inr ⟨by rfl, ?_⟩; with_reducible rfl))
          rotate_left; (intro _ _ _ h9; exact h9)
          try simp only [Act.put, List.setIfInBounds_toArray, List.set_cons_zero, List.set_cons_succ]
          refine wpAnyH_take (i := 8) (oi := ?_) (v := ?_) ?_ (by kernel_rfl) (by kernel_rfl) (by kernel_rfl) ?_ ?_ (by assumption) ?_
          rotate_left 2; (simp only [List.getElem?_toArray, List.getElem?_cons_succ, List.getElem?_cons_zero]; rfl)
          rotate_left; (first | (refine .inl ⟨by rfl, ?_⟩; intro w9 hS9; go_simp; try with_reducible rfl) | (refine .inr ⟨by rfl, ?_⟩; with_reducible rfl))
          rotate_left; (intro _ _ _ h9; exact h9)
          try simp only [Act.put, List.setIfInBounds_toArray, List.set_cons_zero, List.set_cons_succ]
          refine wpAnyH_take (i := 9) (oi := ?_) (v := ?_) ?_ (by kernel_rfl) (by kernel_rfl) (by kernel_rfl) ?_ ?_ (by assumption) ?_
          rotate_left 2; (simp only [List.getElem?_toArray, List.getElem?_cons_succ, List.getElem?_cons_zero]; rfl)
          rotate_left; (first | (refine .inl ⟨by rfl, ?_⟩; intro w9 hS9; go_simp; try with_reducible rfl) | (refine .inr ⟨by rfl, ?_⟩; with_reducible rfl))
          rotate_left; (intro _ _ _ h9; exact h9)
          try simp only [Act.put, List.setIfInBounds_toArray, List.set_cons_zero, List.set_cons_succ]
          refine wpAnyH_take (i := 10) (oi := ?_) (v := ?_) ?_ (by kernel_rfl) (by kernel_rfl) (by kernel_rfl) ?_ ?_ (by assumption) ?_
          rotate_left 2; (simp only [List.getElem?_toArray, List.getElem?_cons_succ, List.getElem?_cons_zero]; rfl)
          rotate_left; (first | (refine .inl ⟨by rfl, ?_⟩; intro w9 hS9; go_simp; try with_reducible rfl) | (refine .inr ⟨by rfl, ?_⟩; with_reducible rfl))
          rotate_left; (intro _ _ _ h9; exact h9)
          try simp only [Act.put, List.setIfInBounds_toArray, List.set_cons_zero, List.set_cons_succ]
          refine wpAnyH_ready (rs := [11]) (by kernel_rfl) (by simp) (AllReadyH.cons rfl (fun K9 hK9 => ?_) AllReadyH.nil)
          go_simp
          refine (pl_rarm HPD.out HD1.out).mono ?_
          rintro e w2 ⟨rfl, hp2, hek⟩
          have hS1 := hp2.bel
          refine hK9.out _ _ hS1 (fun _ => ?_)
          have HE3 := Lib.hid (hek _ _ HE2.out)
          have HP2 := Lib.hid hp2
          clear hS0 hp2 hek HPD HE1 HE2 HP1
          refine wpAnyH_take (i := 12) (oi := ?_) (v := ?_) ?_ (by kernel_rfl) (by kernel_rfl) (by kernel_rfl) ?_ ?_ (by assumption) ?_
          rotate_left 2; (simp only [List.getElem?_toArray, List.getElem?_cons_succ, List.getElem?_cons_zero]; rfl)
          rotate_left; (first | (refine .inl ⟨by rfl, ?_⟩; intro w9 hS9; go_simp; try with_reducible rfl) | (refine .inr ⟨by rfl, ?_⟩; with_reducible rfl))
          rotate_left; (intro _ _ _ h9; exact h9)
          try simp only [Act.put, List.setIfInBounds_toArray, List.set_cons_zero, List.set_cons_succ]
          refine wpAnyH_take (i := 13) (oi := ?_) (v := ?_) ?_ (by kernel_rfl) (by kernel_rfl) (by kernel_rfl) ?_ ?_ (by assumption) ?_
          rotate_left 2; (simp only [List.getElem?_toArray, List.getElem?_cons_succ, List.getElem?_cons_zero]; rfl)
          rotate_left; (first | (refine .inl ⟨by rfl, ?_⟩; intro w9 hS9; go_simp; try with_reducible rfl) | (refine .inr ⟨by rfl, ?_⟩; with_reducible rfl))
          rotate_left; (intro _ _ _ h9; exact h9)
          try simp only [Act.put, List.setIfInBounds_toArray, List.set_cons_zero, List.set_cons_succ]
          refine wpAnyH_take (i := 14) (oi := ?_) (v := ?_) ?_ (by kernel_rfl) (by kernel_rfl) (by kernel_rfl) ?_ ?_ (by assumption) ?_
          rotate_left 2; (simp only [List.getElem?_toArray, List.getElem?_cons_succ, List.getElem?_cons_zero]; rfl)
          rotate_left; (first | (refine .inl ⟨by rfl, ?_⟩; intro w9 hS9; go_simp; try with_reducible rfl) | (refine .inr ⟨by rfl, ?_⟩; with_reducible rfl))
          rotate_left; (intro _ _ _ h9; exact h9)
          try simp only [Act.put, List.setIfInBounds_toArray, List.set_cons_zero, List.set_cons_succ]
          refine wpAnyH_take (i := 15) (oi := ?_) (v := ?_) ?_ (by kernel_rfl) (by kernel_rfl) (by kernel_rfl) ?_ ?_ (by assumption) ?_
          rotate_left 2; (simp only [List.getElem?_toArray, List.getElem?_cons_succ, List.getElem?_cons_zero]; rfl)
          rotate_left; (first | (refine .inl ⟨by rfl, ?_⟩; intro w9 hS9; go_simp; try with_reducible rfl) | (refine .inr ⟨by rfl, ?_⟩; with_reducible rfl))
          rotate_left; (intro _ _ _ h9; exact h9)
          try simp only [Act.put, List.setIfInBounds_toArray, List.set_cons_zero, List.set_cons_succ]
          refine wpAnyH_take (i := 16) (oi := ?_) (v := ?_) ?_ (by kernel_rfl) (by kernel_rfl) (by kernel_rfl) ?_ ?_ (by assumption) ?_
          rotate_left 2; (simp only [List.getElem?_toArray, List.getElem?_cons_succ, List.getElem?_cons_zero]; rfl)
          rotate_left; (first | (refine .inl ⟨by rfl, ?_⟩; intro w9 hS9; go_simp; try with_reducible rfl) | (refine .inr ⟨by rfl, ?_⟩; with_reducible rfl))
          rotate_left; (intro _ _ _ h9; exact h9)
          try simp only [Act.put, List.setIfInBounds_toArray, List.set_cons_zero, List.set_cons_succ]
          refine wpAnyH_done (by kernel_rfl) ?_ _
          clear x1 x2 hS1
          go_wp2_with fail
          refine (code_is _ _ _ (below_ty HP2.out.bel HG.out) HE3.out).mono ?_
          rintro e w3 ⟨rfl, hb⟩
          have HP3 := Lib.hid (HP2.out.below hb)
          clear hb HE3 HP2
          go_wp2_with fail
          go_meet
          have h9 := HD1.out.same
          have h8 := HS.out
          exact ⟨T, a', rfl, by omega, HP3.out, by omega, by omega, by omega⟩
        by_cases z1 : z = 1
        · as_aux_lemma =>
          subst z1
          clear z0
          go_upto_region 17 with fail
          have hS0 : Below w.heap.size w wr.drew := below_step HPL.out.bel (below_drew1 wr)
          have HPD := Lib.hid (HPL.out.below (below_drew1 wr))
          have x1 := fun w' h => (HCS.out w' h).2.1
          refine wp_region_held (S := fun w' => Below w.heap.size w w') (by kernel_rfl) ?_
          change wpAnyH _ _ _ _ _ _ _ _ wr.drew
          generalize wr.drew = wd at *
          change wpAnyH _ _ _ _ _ 15 (Array.replicate 15 false) _ _
          refine wpAnyH_take (i := 0) (oi := ?_) (v := ?_) ?_ (by kernel_rfl) (by kernel_rfl) (by kernel_rfl) ?_ ?_ (by assumption) ?_
          rotate_left 2; (simp only [List.getElem?_toArray, List.getElem?_cons_succ, List.getElem?_cons_zero]; rfl)
          rotate_left; (first | (refine .inl ⟨by rfl, ?_⟩; intro w9 hS9; go_simp; try with_reducible rfl) | (refine .inr ⟨by rfl, ?_⟩; with_reducible rfl))
          rotate_left; (intro _ _ _ h9; exact h9)
          try simp only [Act.put, List.setIfInBounds_toArray, List.set_cons_zero, List.set_cons_succ]
          refine wpAnyH_take (i := 1) (oi := ?_) (v := ?_) ?_ (by kernel_rfl) (by kernel_rfl) (by kernel_rfl) ?_ ?_ (by assumption) ?_
          rotate_left 2; (simp only [List.getElem?_toArray, List.getElem?_cons_succ, List.getElem?_cons_zero]; rfl)
          rotate_left; (first | (refine .inl ⟨by rfl, ?_⟩; intro w9 hS9; go_simp; try with_reducible rfl) | (refine .inr ⟨by rfl, ?_⟩; with_reducible rfl))
          rotate_left; (intro _ _ _ h9; exact h9)
          try simp only [Act.put, List.setIfInBounds_toArray, List.set_cons_zero, List.set_cons_succ]
          refine wpAnyH_take (i := 2) (oi := ?_) (v := ?_) ?_ (by kernel_rfl) (by kernel_rfl) (by kernel_rfl) ?_ ?_ (by assumption) ?_
          rotate_left 2; (simp only [List.getElem?_toArray, List.getElem?_cons_succ, List.getElem?_cons_zero]; rfl)
          rotate_left; (first | (refine .inl ⟨by rfl, ?_⟩; intro w9 hS9; go_simp; try with_reducible rfl) | (refine .inr ⟨by rfl, ?_⟩; with_reducible rfl))
          rotate_left; (intro _ _ _ h9; exact h9)
          try simp only [Act.put, List.setIfInBounds_toArray, List.set_cons_zero, List.set_cons_succ]
          refine wpAnyH_take (i := 3) (oi := ?_) (v := ?_) ?_ (by kernel_rfl) (by kernel_rfl) (by kernel_rfl) ?_ ?_ (by assumption) ?_
          rotate_left 2; (simp only [List.getElem?_toArray, List.getElem?_cons_succ, List.getElem?_cons_zero]; rfl)
          rotate_left; (first | (refine .inl ⟨by rfl, ?_⟩; intro w9 hS9; go_simp; try with_reducible rfl) | (refine .inr ⟨by rfl, ?_⟩; with_reducible rfl))
          rotate_left; (intro _ _ _ h9; exact h9)
          try simp only [Act.put, List.setIfInBounds_toArray, List.set_cons_zero, List.set_cons_succ]
          refine wpAnyH_take (i := 4) (oi := ?_) (v := ?_) ?_ (by kernel_rfl) (by kernel_rfl) (by kernel_rfl) ?_ ?_ (by assumption) ?_
          rotate_left 2; (simp only [List.getElem?_toArray, List.getElem?_cons_succ, List.getElem?_cons_zero]; rfl)
          rotate_left; (first | (refine .inl ⟨by rfl, ?_⟩; intro w9 hS9; go_simp; try with_reducible rfl) | (refine .inr ⟨by rfl, ?_⟩; with_reducible rfl))
          rotate_left; (intro _ _ _ h9; exact h9)
          try simp only [Act.put, List.setIfInBounds_toArray, List.set_cons_zero, List.set_cons_succ]
          refine wpAnyH_take (i := 5) (oi := ?_) (v := ?_) ?_ (by kernel_rfl) (by kernel_rfl) (by kernel_rfl) ?_ ?_ (by assumption) ?_
          rotate_left 2; (simp only [List.getElem?_toArray, List.getElem?_cons_succ, List.getElem?_cons_zero]; rfl)
          rotate_left; (first | (refine .inl ⟨by rfl, ?_⟩; intro w9 hS9; go_simp; try with_reducible rfl) | (refine .inr ⟨by rfl, ?_⟩; with_reducible rfl))
          rotate_left; (intro _ _ _ h9; exact h9)
          try simp only [Act.put, List.setIfInBounds_toArray, List.set_cons_zero, List.set_cons_succ]
          refine wpAnyH_take (i := 7) (oi := ?_) (v := ?_) ?_ (by kernel_rfl) (by kernel_rfl) (by kernel_rfl) ?_ ?_ (by assumption) ?_
          rotate_left 2; (simp only [List.getElem?_toArray, List.getElem?_cons_succ, List.getElem?_cons_zero]; rfl)
          rotate_left; (first | (refine .inl ⟨by rfl, ?_⟩; intro w9 hS9; go_simp; try with_reducible rfl) | (refine .inr ⟨by rfl, ?_⟩; with_reducible rfl))
          rotate_left; (intro _ _ _ h9; exact h9)
          try simp only [Act.put, List.setIfInBounds_toArray, List.set_cons_zero, List.set_cons_succ]
          refine wpAnyH_take (i := 8) (oi := ?_) (v := ?_) ?_ (by kernel_rfl) (by kernel_rfl) (by kernel_rfl) ?_ ?_ (by assumption) ?_
          rotate_left 2; (simp only [List.getElem?_toArray, List.getElem?_cons_succ, List.getElem?_cons_zero]; rfl)
          rotate_left; (first | (refine .inl ⟨by rfl, ?_⟩; intro w9 hS9; go_simp; try with_reducible rfl) | (refine .inr ⟨by rfl, ?_⟩; with_reducible rfl))
          rotate_left; (intro _ _ _ h9; exact h9)
          try simp only [Act.put, List.setIfInBounds_toArray, List.set_cons_zero, List.set_cons_succ]
          refine wpAnyH_take (i := 9) (oi := ?_) (v := ?_) ?_ (by kernel_rfl) (by kernel_rfl) (by kernel_rfl) ?_ ?_ (by assumption) ?_
          rotate_left 2; (simp only [List.getElem?_toArray, List.getElem?_cons_succ, List.getElem?_cons_zero]; rfl)
          rotate_left; (first | (refine .inl ⟨by rfl, ?_⟩; intro w9 hS9; go_simp; try with_reducible rfl) | (refine .inr ⟨by rfl, ?_⟩; with_reducible rfl))
          rotate_left; (intro _ _ _ h9; exact h9)
          try simp only [Act.put, List.setIfInBounds_toArray, List.set_cons_zero, List.set_cons_succ]
          refine wpAnyH_take (i := 10) (oi := ?_) (v := ?_) ?_ (by kernel_rfl) (by kernel_rfl) (by kernel_rfl) ?_ ?_ (by assumption) ?_
          rotate_left 2; (simp only [List.getElem?_toArray, List.getElem?_cons_succ, List.getElem?_cons_zero]; rfl)
          rotate_left; (first | (refine .inl ⟨by rfl, ?_⟩; intro w9 hS9; go_simp; try with_reducible rfl) | (refine .inr ⟨by rfl, ?_⟩; with_reducible rfl))
          rotate_left; (intro _ _ _ h9; exact h9)
          try simp only [Act.put, List.setIfInBounds_toArray, List.set_cons_zero, List.set_cons_succ]
          refine wpAnyH_take (i := 11) (oi := ?_) (v := ?_) ?_ (by kernel_rfl) (by kernel_rfl) (by kernel_rfl) ?_ ?_ (by assumption) ?_
          rotate_left 2; (simp only [List.getElem?_toArray, List.getElem?_cons_succ, List.getElem?_cons_zero]; rfl)
          rotate_left; (first | (refine .inl ⟨by rfl, ?_⟩; intro w9 hS9; go_simp; try with_reducible rfl) | (refine .inr ⟨by rfl, ?_⟩; with_reducible rfl))
          rotate_left; (intro _ _ _ h9; exact h9)
          try simp only [Act.put, List.setIfInBounds_toArray, List.set_cons_zero, List.set_cons_succ]
          refine wpAnyH_take (i := 12) (oi := ?_) (v := ?_) ?_ (by kernel_rfl) (by kernel_rfl) (by kernel_rfl) ?_ ?_ (by assumption) ?_
          rotate_left 2; (simp only [List.getElem?_toArray, List.getElem?_cons_succ, List.getElem?_cons_zero]; rfl)
          rotate_left; (first | (refine .inl ⟨by rfl, ?_⟩; intro w9 hS9; go_simp; try with_reducible rfl) | (refine .inr ⟨by rfl, ?_⟩; with_reducible rfl))
          rotate_left; (intro _ _ _ h9; exact h9)
          try simp only [Act.put, List.setIfInBounds_toArray, List.set_cons_zero, List.set_cons_succ]
          refine wpAnyH_ready (rs := [6]) (by kernel_rfl) (by simp) (AllReadyH.cons rfl (fun K9 hK9 => ?_) AllReadyH.nil)
          go_simp
          refine (pl_cancel HPD.out (by have := HS.out; omega) x.nn).mono ?_
          rintro e w1 ⟨rfl, hp1⟩
          have hS1 := hp1.bel
          refine hK9.out _ _ hS1 (fun _ => ?_)
          have HP1 := Lib.hid hp1
          clear hS0 hp1 HPD
          refine wpAnyH_ready (rs := [13]) (by kernel_rfl) (by simp) (AllReadyH.cons rfl (fun K9 hK9 => ?_) AllReadyH.nil)
          go_simp
          refine (pl_rcancel HP1.out x.nn).mono ?_
          rintro e w2 ⟨rfl, hp2⟩
          rw [abR_has]
          have hS2 := hp2.bel
          refine hK9.out _ _ hS2 (fun _ => ?_)
          have HP2 := Lib.hid hp2
          clear hS1 hp2 HP1
          refine wpAnyH_take (i := 14) (oi := ?_) (v := ?_) ?_ (by kernel_rfl) (by kernel_rfl) (by kernel_rfl) ?_ ?_ (by assumption) ?_
          rotate_left 2; (simp only [List.getElem?_toArray, List.getElem?_cons_succ, List.getElem?_cons_zero]; rfl)
          rotate_left; (first | (refine .inl ⟨by rfl, ?_⟩; intro w9 hS9; go_simp; try with_reducible rfl) | (refine .inr ⟨by rfl, ?_⟩; with_reducible rfl))
          rotate_left; (intro _ _ _ h9; exact h9)
          try simp only [Act.put, List.setIfInBounds_toArray, List.set_cons_zero, List.set_cons_succ]
          refine wpAnyH_done (by kernel_rfl) ?_ _
          clear x1 hS2
          cases hcc : abHas a x.nn
          all_goals
            have HH := Lib.hid hcc
            clear hcc
            go_wp2_with fail
            go_meet
            have h8 := HS.out
            refine ⟨T, abDrop a x.nn, rfl, by omega, ?_, h8.1, Nat.le_succ_of_le h8.2.2.1, h8.2.2.2⟩
            rw [← abR_drop HPL.out.ok]
            exact HP2.out
        by_cases z2 : z = 2
        · as_aux_lemma =>
          subst z2
          clear z0 z1
          obtain ⟨y, hy⟩ : ∃ y : Int, x.nn.tmod 5000 = y := ⟨_, rfl⟩
          have HY := Lib.hid (show y < 5000 by rw [← hy]; exact Int.tmod_lt_of_pos _ (by decide))
          go_wp2_with fail
          go_loopw [8, 14] (fun s8 s14 wx => ∃ (k T' : Nat) (a' : Ab), s14 = .int .i64 k ∧ k ≤ 5000 ∧ s8 = .int .i64 T' ∧ T' ≤ 20000 ∧ PL w g gx a' a'.P (abR a') wx ∧ a'.now = T' ∧ a'.cnt ≤ i ∧ a'.P = P) (fun _ s14 _ => 5000 - (intOf s14).toNat)
          case atStart =>
            have h8 := HS.out
            exact ⟨0, T, a, rfl, by omega, rfl, by omega, HPL.out, by omega, by omega, by omega⟩
          case round =>
            obtain ⟨k, T', a', rfl, hk, rfl, hT, hpl, hnow, hcnt, hP'⟩ := hrel
            have HPL' := Lib.hid hpl
            have HS' := Lib.hid (show a'.now = T' ∧ T' ≤ 20000 ∧ a'.cnt ≤ i ∧ a'.P = P ∧ k ≤ 5000 from ⟨hnow, hT, hcnt, hP', hk⟩)
            have q1 := (HCS.out _ hpl.bel).2.1
            clear hk hT hpl hnow hcnt hP'
            by_cases hky : (k : Int) < y
            · have HKY := Lib.hid hky
              by_cases htt : T' < 20000
              · have htt' : (T' : Int) < 20000 := by omega
                have HTT := Lib.hid htt
                have hk9 : (k : Int) ≤ 5000 := by have := HS'.out; omega
                clear htt
                go_wp2_with fail
                refine (pt_tick HPL'.out (by have := HS'.out; omega) (by have := HS'.out; have := HI.out; have := HN.out; omega)).mono ?_
                rintro e w1 ⟨u, rfl, hp1⟩
                have hlen1 : ((abDue a').map (·.tag)).length ≤ 64 := by
                  have h1 := HPL'.out.len
                  have h2 := HPL'.out.few
                  have h3 : (abDue a').length ≤ a'.L.length := List.length_filter_le _ _
                  rw [List.length_map]; omega
                obtain ⟨A1, c1, rfl, _, _, hA1⟩ := hp1.row.re (by omega)
                have HP1 := Lib.hid hp1
                obtain ⟨ts, hts⟩ : ∃ ts, (abDue a').map (·.tag) = ts := ⟨_, rfl⟩
                have HTS := Lib.hid hts
                rw [hts] at HP1 hlen1 ⊢
                clear hp1 hA1 hts
                obtain ⟨m, hm⟩ : ∃ m, ts.length = m := ⟨_, rfl⟩
                have HM := Lib.hid hm
                rw [hm] at hlen1 ⊢
                rw [hm] at HP1
                have hm9 : (m : Int) ≤ 64 := by omega
                clear hm hlen1
                go_wp2_with fail
                refine (pt_rtick HP1.out (abR_bd HPL'.out.ok (by have := HS'.out; omega))).mono ?_
                rintro e w2 ⟨A2, n2, c2, rfl, hre2, hp2⟩
                rw [abR_fired HPL'.out.ok, HTS.out] at hre2
                rw [abR_rest HPL'.out.ok] at hp2
                have e2 : n2 = m := by have := hre2.len; have := HM.out; omega
                rw [e2] at hre2 ⊢
                clear e2
                have HR2 := Lib.hid hre2
                have HP2 := Lib.hid hp2
                obtain ⟨A3, c3, e3, hre3, _⟩ := hp2.row.re (by have := HM.out; omega)
                rw [HM.out] at e3 hre3
                cases e3
                have HR3 := Lib.hid hre3
                clear hre2 hp2 hre3 HP1
                go_wp2_with fail
                refine (w_same _ _ _ _ _ ts _ HR3.out HR2.out).mono ?_
                rintro e w3 ⟨rfl, hb3⟩
                have HP3 := Lib.hid (HP2.out.below hb3)
                clear hb3 HP2 HR2 HR3
                go_wp2_with fail
                go_loopw [16] (fun s16 wx => ∃ (j : Nat) (zs : List Int), s16 = .int .i64 j ∧ j ≤ m ∧ zs.length = m ∧ PT w g gx (abTick a') a'.P (abR (abTick a')) (.slice A1 m c1) zs wx) (fun s16 _ => m - (intOf s16).toNat)
                case atStart => exact ⟨0, ts, rfl, Nat.zero_le _, HM.out, HP3.out⟩
                case round =>
                  obtain ⟨j, zs, rfl, hj, hzl, hp⟩ := hrel
                  have HPT := Lib.hid hp
                  have HZL := Lib.hid hzl
                  by_cases hjm : j < m
                  · have hjm' : (j : Int) < m := by omega
                    have HJ := Lib.hid hjm
                    obtain ⟨A4, c4, e4, hre4, _, hz4⟩ := hp.row.re (by omega)
                    rw [HZL.out] at e4 hre4
                    cases e4
                    obtain ⟨b4, o4, rfl, _⟩ := hre4.cells (by omega)
                    have h40 : o4 = 0 := (hz4 _ rfl).1
                    subst h40
                    obtain ⟨y4, hc4, hf4⟩ := row_cell hp.row j (by omega)
                    have HX4 := Lib.hid (hp.set j (by omega) (-7))
                    clear hre4 hz4 hp hj hzl hjm
                    go_wp2_with fail
                    refine ⟨⟨j + 1, zs.set j (-7), by go_num, by have := HJ.out; omega, by rw [List.length_set]; exact HZL.out, HX4.out⟩, by have := HJ.out; simp [intOf]; omega⟩
                  · obtain rfl : j = m := by omega
                    clear hjm hj hp hzl
                    go_wp2_with fail
                    have h7 := HS'.out
                    refine ⟨⟨k + 1, T' + 1, abTick a', by go_num, ?_, by go_num, by have := HTT.out; omega, HPT.out.pl, ?_, h7.2.2.1, h7.2.2.2.1⟩, ?_⟩
                    · have := HKY.out; have := HY.out; omega
                    · show a'.now + 1 = _; omega
                    · have := HKY.out; have := HY.out; simp [intOf]; omega
              · have htt' : ¬ (T' : Int) < 20000 := by omega
                clear htt
                go_wp2_with fail
                go_meet
                have h7 := HS'.out
                exact ⟨T', a', rfl, h7.2.1, HPL'.out, h7.1, by omega, h7.2.2.2.1⟩
            · go_wp2_with fail
              go_meet
              have h7 := HS'.out
              exact ⟨T', a', rfl, h7.2.1, HPL'.out, h7.1, by omega, h7.2.2.2.1⟩
        · as_aux_lemma =>
          have y0 : (z == 0) = false := by simpa using z0
          have y1 : (z == 1) = false := by simpa using z1
          have y2 : (z == 2) = false := by simpa using z2
          go_wp2_with fail
          go_meet
          have h8 := HS.out
          exact ⟨T, a, rfl, by omega, HPL.out, by omega, by omega, by omega⟩
      case rest =>
      as_aux_lemma =>
      have h8 := HS.out
      clear HPL
      obtain ⟨T', a', rfl, hT, hpl, hnow, hcnt, hP'⟩ := hcut
      have HPL := Lib.hid hpl
      have HS' := Lib.hid (show a'.now = T' ∧ T' ≤ 20000 ∧ a'.cnt ≤ i + 1 ∧ a'.P = P from ⟨hnow, hT, hcnt, hP'⟩)
      clear h8 hT hpl hnow hcnt hP'
      go_upto_region 31 with fail
      have hfr : ((a'.P : Int) - (abR a').length) = ((a'.P - a'.L.length : Nat) : Int) := by
        have := HPL.out.len
        rw [abR_len]
        omega
      have hlf := fun k => abR_left HPL.out.ok k
      have hS0 : Below w.heap.size w _ := below_step HPL.out.bel (below_drew1 _)
      have HPD := Lib.hid (HPL.out.below (below_drew1 _))
      have x1 := fun w' h => (HCS.out w' h).2.1
      refine wp_region_held (S := fun w' => Below w.heap.size w w') (by kernel_rfl) ?_
      change wpAnyH _ _ _ _ _ _ _ _ wc.drew
      generalize wc.drew = wd at *
      obtain ⟨zf, hzf⟩ : ∃ zf : Int, ((a'.P - a'.L.length : Nat) : Int) = zf := ⟨_, rfl⟩
      have HZF := Lib.hid hzf
      have HFR := Lib.hid hfr
      have HLF := Lib.hid hlf
      clear hzf hfr hlf
      change wpAnyH _ _ _ _ _ 31 (Array.replicate 31 false) _ _
      refine wpAnyH_take (i := 0) (oi := ?_) (v := ?_) ?_ (by kernel_rfl) (by kernel_rfl) (by kernel_rfl) ?_ ?_ (by assumption) ?_
      rotate_left 2; (simp only [List.getElem?_toArray, List.getElem?_cons_succ, List.getElem?_cons_zero]; rfl)
      rotate_left; (first | (refine .inl ⟨by rfl, ?_⟩; intro w9 hS9; go_simp; try with_reducible rfl) | (refine .inr ⟨by rfl, ?_⟩; with_reducible rfl))
      rotate_left; (intro _ _ _ h9; exact h9)
      try simp only [Act.put, List.setIfInBounds_toArray, List.set_cons_zero, List.set_cons_succ]
      refine wpAnyH_take (i := 2) (oi := ?_) (v := ?_) ?_ (by kernel_rfl) (by kernel_rfl) (by kernel_rfl) ?_ ?_ (by assumption) ?_
      rotate_left 2; (simp only [List.getElem?_toArray, List.getElem?_cons_succ, List.getElem?_cons_zero]; rfl)
      rotate_left; (first | (refine .inl ⟨by rfl, ?_⟩; intro w9 hS9; go_simp; try with_reducible rfl) | (refine .inr ⟨by rfl, ?_⟩; with_reducible rfl))
      rotate_left; (intro _ _ _ h9; exact h9)
      try simp only [Act.put, List.setIfInBounds_toArray, List.set_cons_zero, List.set_cons_succ]
      refine wpAnyH_ready (rs := [1]) (by kernel_rfl) (by simp) (AllReadyH.cons rfl (fun K9 hK9 => ?_) AllReadyH.nil)
      go_simp
      refine (pl_free HPD.out).mono ?_
      rintro e w1 ⟨rfl, hb1⟩
      rw [HZF.out]
      have hS1 := below_step hS0 hb1
      refine hK9.out _ _ hS1 (fun _ => ?_)
      have HP1 := Lib.hid (HPD.out.below hb1)
      clear hS0 hb1 HPD
      refine wpAnyH_ready (rs := [3]) (by kernel_rfl) (by simp) (AllReadyH.cons rfl (fun K9 hK9 => ?_) AllReadyH.nil)
      go_simp
      refine (pl_rfree HP1.out).mono ?_
      rintro e w2 ⟨rfl, hb2⟩
      rw [HFR.out, HZF.out]
      have hS2 := below_step hS1 hb2
      refine hK9.out _ _ hS2 (fun _ => ?_)
      have HP2 := Lib.hid (HP1.out.below hb2)
      clear hS1 hb2 HP1
      refine wpAnyH_take (i := 4) (oi := ?_) (v := ?_) ?_ (by kernel_rfl) (by kernel_rfl) (by kernel_rfl) ?_ ?_ (by assumption) ?_
      rotate_left 2; (simp only [List.getElem?_toArray, List.getElem?_cons_succ, List.getElem?_cons_zero]; rfl)
      rotate_left; (first | (refine .inl ⟨by rfl, ?_⟩; intro w9 hS9; go_simp; try with_reducible rfl) | (refine .inr ⟨by rfl, ?_⟩; with_reducible rfl))
      rotate_left; (intro _ _ _ h9; exact h9)
      try simp only [Act.put, List.setIfInBounds_toArray, List.set_cons_zero, List.set_cons_succ]
      refine wpAnyH_take (i := 5) (oi := ?_) (v := ?_) ?_ (by kernel_rfl) (by kernel_rfl) (by kernel_rfl) ?_ ?_ (by assumption) ?_
      rotate_left 2; (simp only [List.getElem?_toArray, List.getElem?_cons_succ, List.getElem?_cons_zero]; rfl)
      rotate_left; (first | (refine .inl ⟨by rfl, ?_⟩; intro w9 hS9; go_simp; try with_reducible rfl) | (refine .inr ⟨by rfl, ?_⟩; with_reducible rfl))
      rotate_left; (intro _ _ _ h9; exact h9)
      try simp only [Act.put, List.setIfInBounds_toArray, List.set_cons_zero, List.set_cons_succ]
      refine wpAnyH_take (i := 6) (oi := ?_) (v := ?_) ?_ (by kernel_rfl) (by kernel_rfl) (by kernel_rfl) ?_ ?_ (by assumption) ?_
      rotate_left 2; (simp only [List.getElem?_toArray, List.getElem?_cons_succ, List.getElem?_cons_zero]; rfl)
      rotate_left; (first | (refine .inl ⟨by rfl, ?_⟩; intro w9 hS9; go_simp; try with_reducible rfl) | (refine .inr ⟨by rfl, ?_⟩; with_reducible rfl))
      rotate_left; (intro _ _ _ h9; exact h9)
      try simp only [Act.put, List.setIfInBounds_toArray, List.set_cons_zero, List.set_cons_succ]
      refine wpAnyH_take (i := 7) (oi := ?_) (v := ?_) ?_ (by kernel_rfl) (by kernel_rfl) (by kernel_rfl) ?_ ?_ (by assumption) ?_
      rotate_left 2; (simp only [List.getElem?_toArray, List.getElem?_cons_succ, List.getElem?_cons_zero]; rfl)
      rotate_left; (first | (refine .inl ⟨by rfl, ?_⟩; intro w9 hS9; go_simp; try with_reducible rfl) | (refine .inr ⟨by rfl, ?_⟩; with_reducible rfl))
      rotate_left; (intro _ _ _ h9; exact h9)
      try simp only [Act.put, List.setIfInBounds_toArray, List.set_cons_zero, List.set_cons_succ]
      refine wpAnyH_take (i := 8) (oi := ?_) (v := ?_) ?_ (by kernel_rfl) (by kernel_rfl) (by kernel_rfl) ?_ ?_ (by assumption) ?_
      rotate_left 2; (simp only [List.getElem?_toArray, List.getElem?_cons_succ, List.getElem?_cons_zero]; rfl)
      rotate_left; (first | (refine .inl ⟨by rfl, ?_⟩; intro w9 hS9; go_simp; try with_reducible rfl) | (refine .inr ⟨by rfl, ?_⟩; with_reducible rfl))
      rotate_left; (intro _ _ _ h9; exact h9)
      try simp only [Act.put, List.setIfInBounds_toArray, List.set_cons_zero, List.set_cons_succ]
      refine wpAnyH_take (i := 9) (oi := ?_) (v := ?_) ?_ (by kernel_rfl) (by kernel_rfl) (by kernel_rfl) ?_ ?_ (by assumption) ?_
      rotate_left 2; (simp only [List.getElem?_toArray, List.getElem?_cons_succ, List.getElem?_cons_zero]; rfl)
      rotate_left; (first | (refine .inl ⟨by rfl, ?_⟩; intro w9 hS9; go_simp; try with_reducible rfl) | (refine .inr ⟨by rfl, ?_⟩; with_reducible rfl))
      rotate_left; (intro _ _ _ h9; exact h9)
      try simp only [Act.put, List.setIfInBounds_toArray, List.set_cons_zero, List.set_cons_succ]
      refine wpAnyH_take (i := 10) (oi := ?_) (v := ?_) ?_ (by kernel_rfl) (by kernel_rfl) (by kernel_rfl) ?_ ?_ (by assumption) ?_
      rotate_left 2; (simp only [List.getElem?_toArray, List.getElem?_cons_succ, List.getElem?_cons_zero]; rfl)
      rotate_left; (first | (refine .inl ⟨by rfl, ?_⟩; intro w9 hS9; go_simp; try with_reducible rfl) | (refine .inr ⟨by rfl, ?_⟩; with_reducible rfl))
      rotate_left; (intro _ _ _ h9; exact h9)
      try simp only [Act.put, List.setIfInBounds_toArray, List.set_cons_zero, List.set_cons_succ]
      refine wpAnyH_take (i := 11) (oi := ?_) (v := ?_) ?_ (by kernel_rfl) (by kernel_rfl) (by kernel_rfl) ?_ ?_ (by assumption) ?_
      rotate_left 2; (simp only [List.getElem?_toArray, List.getElem?_cons_succ, List.getElem?_cons_zero]; rfl)
      rotate_left; (first | (refine .inl ⟨by rfl, ?_⟩; intro w9 hS9; go_simp; try with_reducible rfl) | (refine .inr ⟨by rfl, ?_⟩; with_reducible rfl))
      rotate_left; (intro _ _ _ h9; exact h9)
      try simp only [Act.put, List.setIfInBounds_toArray, List.set_cons_zero, List.set_cons_succ]
      refine wpAnyH_take (i := 13) (oi := ?_) (v := ?_) ?_ (by kernel_rfl) (by kernel_rfl) (by kernel_rfl) ?_ ?_ (by assumption) ?_
      rotate_left 2; (simp only [List.getElem?_toArray, List.getElem?_cons_succ, List.getElem?_cons_zero]; rfl)
      rotate_left; (first | (refine .inl ⟨by rfl, ?_⟩; intro w9 hS9; go_simp; try with_reducible rfl) | (refine .inr ⟨by rfl, ?_⟩; with_reducible rfl))
      rotate_left; (intro _ _ _ h9; exact h9)
      try simp only [Act.put, List.setIfInBounds_toArray, List.set_cons_zero, List.set_cons_succ]
      refine wpAnyH_take (i := 14) (oi := ?_) (v := ?_) ?_ (by kernel_rfl) (by kernel_rfl) (by kernel_rfl) ?_ ?_ (by assumption) ?_
      rotate_left 2; (simp only [List.getElem?_toArray, List.getElem?_cons_succ, List.getElem?_cons_zero]; rfl)
      rotate_left; (first | (refine .inl ⟨by rfl, ?_⟩; intro w9 hS9; go_simp; try with_reducible rfl) | (refine .inr ⟨by rfl, ?_⟩; with_reducible rfl))
      rotate_left; (intro _ _ _ h9; exact h9)
      try simp only [Act.put, List.setIfInBounds_toArray, List.set_cons_zero, List.set_cons_succ]
      refine wpAnyH_take (i := 15) (oi := ?_) (v := ?_) ?_ (by kernel_rfl) (by kernel_rfl) (by kernel_rfl) ?_ ?_ (by assumption) ?_
      rotate_left 2; (simp only [List.getElem?_toArray, List.getElem?_cons_succ, List.getElem?_cons_zero]; rfl)
      rotate_left; (first | (refine .inl ⟨by rfl, ?_⟩; intro w9 hS9; go_simp; try with_reducible rfl) | (refine .inr ⟨by rfl, ?_⟩; with_reducible rfl))
      rotate_left; (intro _ _ _ h9; exact h9)
      try simp only [Act.put, List.setIfInBounds_toArray, List.set_cons_zero, List.set_cons_succ]
      refine wpAnyH_take (i := 16) (oi := ?_) (v := ?_) ?_ (by kernel_rfl) (by kernel_rfl) (by kernel_rfl) ?_ ?_ (by assumption) ?_
      rotate_left 2; (simp only [List.getElem?_toArray, List.getElem?_cons_succ, List.getElem?_cons_zero]; rfl)
      rotate_left; (first | (refine .inl ⟨by rfl, ?_⟩; intro w9 hS9; go_simp; try with_reducible rfl) | (refine .inr ⟨by rfl, ?_⟩; with_reducible rfl))
      rotate_left; (intro _ _ _ h9; exact h9)
      try simp only [Act.put, List.setIfInBounds_toArray, List.set_cons_zero, List.set_cons_succ]
      refine wpAnyH_take (i := 17) (oi := ?_) (v := ?_) ?_ (by kernel_rfl) (by kernel_rfl) (by kernel_rfl) ?_ ?_ (by assumption) ?_
      rotate_left 2; (simp only [List.getElem?_toArray, List.getElem?_cons_succ, List.getElem?_cons_zero]; rfl)
      rotate_left; (first | (refine .inl ⟨by rfl, ?_⟩; intro w9 hS9; go_simp; try with_reducible rfl) | (refine .inr ⟨by rfl, ?_⟩; with_reducible rfl))
      rotate_left; (intro _ _ _ h9; exact h9)
      try simp only [Act.put, List.setIfInBounds_toArray, List.set_cons_zero, List.set_cons_succ]
      refine wpAnyH_take (i := 18) (oi := ?_) (v := ?_) ?_ (by kernel_rfl) (by kernel_rfl) (by kernel_rfl) ?_ ?_ (by assumption) ?_
      rotate_left 2; (simp only [List.getElem?_toArray, List.getElem?_cons_succ, List.getElem?_cons_zero]; rfl)
      rotate_left; (first | (refine .inl ⟨by rfl, ?_⟩; intro w9 hS9; go_simp; try with_reducible rfl) | (refine .inr ⟨by rfl, ?_⟩; with_reducible rfl))
      rotate_left; (intro _ _ _ h9; exact h9)
      try simp only [Act.put, List.setIfInBounds_toArray, List.set_cons_zero, List.set_cons_succ]
      refine wpAnyH_ready (rs := [12]) (by kernel_rfl) (by simp) (AllReadyH.cons rfl (fun K9 hK9 => ?_) AllReadyH.nil)
      go_simp
      refine (pl_left HP2.out (by have := HS'.out; omega) x.nn).mono ?_
      rintro e w3 ⟨rfl, hb3⟩
      have hS3 := below_step hS2 hb3
      refine hK9.out _ _ hS3 (fun _ => ?_)
      have HP3 := Lib.hid (HP2.out.below hb3)
      clear hS2 hb3 HP2
      refine wpAnyH_ready (rs := [19]) (by kernel_rfl) (by simp) (AllReadyH.cons rfl (fun K9 hK9 => ?_) AllReadyH.nil)
      go_simp
      refine (pl_rleft HP3.out x.nn).mono ?_
      rintro e w4 ⟨rfl, rfl⟩
      rw [HLF.out]
      have hS4 := hS3
      refine hK9.out _ _ hS4 (fun _ => ?_)
      clear hS3
      refine wpAnyH_take (i := 20) (oi := ?_) (v := ?_) ?_ (by kernel_rfl) (by kernel_rfl) (by kernel_rfl) ?_ ?_ (by assumption) ?_
      rotate_left 2; (simp only [List.getElem?_toArray, List.getElem?_cons_succ, List.getElem?_cons_zero]; rfl)
      rotate_left; (first | (refine .inl ⟨by rfl, ?_⟩; intro w9 hS9; go_simp; try with_reducible rfl) | (refine .inr ⟨by rfl, ?_⟩; with_reducible rfl))
      rotate_left; (intro _ _ _ h9; exact h9)
      try simp only [Act.put, List.setIfInBounds_toArray, List.set_cons_zero, List.set_cons_succ]
      refine wpAnyH_take (i := 21) (oi := ?_) (v := ?_) ?_ (by kernel_rfl) (by kernel_rfl) (by kernel_rfl) ?_ ?_ (by assumption) ?_
      rotate_left 2; (simp only [List.getElem?_toArray, List.getElem?_cons_succ, List.getElem?_cons_zero]; rfl)
      rotate_left; (first | (refine .inl ⟨by rfl, ?_⟩; intro w9 hS9; go_simp; try with_reducible rfl) | (refine .inr ⟨by rfl, ?_⟩; with_reducible rfl))
      rotate_left; (intro _ _ _ h9; exact h9)
      try simp only [Act.put, List.setIfInBounds_toArray, List.set_cons_zero, List.set_cons_succ]
      refine wpAnyH_take (i := 22) (oi := ?_) (v := ?_) ?_ (by kernel_rfl) (by kernel_rfl) (by kernel_rfl) ?_ ?_ (by assumption) ?_
      rotate_left 2; (simp only [List.getElem?_toArray, List.getElem?_cons_succ, List.getElem?_cons_zero]; rfl)
      rotate_left; (first | (refine .inl ⟨by rfl, ?_⟩; intro w9 hS9; go_simp; try with_reducible rfl) | (refine .inr ⟨by rfl, ?_⟩; with_reducible rfl))
      rotate_left; (intro _ _ _ h9; exact h9)
      try simp only [Act.put, List.setIfInBounds_toArray, List.set_cons_zero, List.set_cons_succ]
      refine wpAnyH_take (i := 23) (oi := ?_) (v := ?_) ?_ (by kernel_rfl) (by kernel_rfl) (by kernel_rfl) ?_ ?_ (by assumption) ?_
      rotate_left 2; (simp only [List.getElem?_toArray, List.getElem?_cons_succ, List.getElem?_cons_zero]; rfl)
      rotate_left; (first | (refine .inl ⟨by rfl, ?_⟩; intro w9 hS9; go_simp; try with_reducible rfl) | (refine .inr ⟨by rfl, ?_⟩; with_reducible rfl))
      rotate_left; (intro _ _ _ h9; exact h9)
      try simp only [Act.put, List.setIfInBounds_toArray, List.set_cons_zero, List.set_cons_succ]
      refine wpAnyH_take (i := 24) (oi := ?_) (v := ?_) ?_ (by kernel_rfl) (by kernel_rfl) (by kernel_rfl) ?_ ?_ (by assumption) ?_
      rotate_left 2; (simp only [List.getElem?_toArray, List.getElem?_cons_succ, List.getElem?_cons_zero]; rfl)
      rotate_left; (first | (refine .inl ⟨by rfl, ?_⟩; intro w9 hS9; go_simp; try with_reducible rfl) | (refine .inr ⟨by rfl, ?_⟩; with_reducible rfl))
      rotate_left; (intro _ _ _ h9; exact h9)
      try simp only [Act.put, List.setIfInBounds_toArray, List.set_cons_zero, List.set_cons_succ]
      refine wpAnyH_take (i := 26) (oi := ?_) (v := ?_) ?_ (by kernel_rfl) (by kernel_rfl) (by kernel_rfl) ?_ ?_ (by assumption) ?_
      rotate_left 2; (simp only [List.getElem?_toArray, List.getElem?_cons_succ, List.getElem?_cons_zero]; rfl)
      rotate_left; (first | (refine .inl ⟨by rfl, ?_⟩; intro w9 hS9; go_simp; try with_reducible rfl) | (refine .inr ⟨by rfl, ?_⟩; with_reducible rfl))
      rotate_left; (intro _ _ _ h9; exact h9)
      try simp only [Act.put, List.setIfInBounds_toArray, List.set_cons_zero, List.set_cons_succ]
      refine wpAnyH_take (i := 27) (oi := ?_) (v := ?_) ?_ (by kernel_rfl) (by kernel_rfl) (by kernel_rfl) ?_ ?_ (by assumption) ?_
      rotate_left 2; (simp only [List.getElem?_toArray, List.getElem?_cons_succ, List.getElem?_cons_zero]; rfl)
      rotate_left; (first | (refine .inl ⟨by rfl, ?_⟩; intro w9 hS9; go_simp; try with_reducible rfl) | (refine .inr ⟨by rfl, ?_⟩; with_reducible rfl))
      rotate_left; (intro _ _ _ h9; exact h9)
      try simp only [Act.put, List.setIfInBounds_toArray, List.set_cons_zero, List.set_cons_succ]
      refine wpAnyH_ready (rs := [25]) (by kernel_rfl) (by simp) (AllReadyH.cons rfl (fun K9 hK9 => ?_) AllReadyH.nil)
      go_simp
      refine (pl_left HP3.out (by have := HS'.out; omega) i).mono ?_
      rintro e w5 ⟨rfl, hb5⟩
      have hS5 := below_step hS4 hb5
      refine hK9.out _ _ hS5 (fun _ => ?_)
      have HP5 := Lib.hid (HP3.out.below hb5)
      clear hS4 hb5 HP3
      refine wpAnyH_ready (rs := [28]) (by kernel_rfl) (by simp) (AllReadyH.cons rfl (fun K9 hK9 => ?_) AllReadyH.nil)
      go_simp
      refine (pl_rleft HP5.out i).mono ?_
      rintro e w6 ⟨rfl, rfl⟩
      rw [HLF.out]
      have hS6 := hS5
      refine hK9.out _ _ hS6 (fun _ => ?_)
      clear hS5
      refine wpAnyH_take (i := 29) (oi := ?_) (v := ?_) ?_ (by kernel_rfl) (by kernel_rfl) (by kernel_rfl) ?_ ?_ (by assumption) ?_
      rotate_left 2; (simp only [List.getElem?_toArray, List.getElem?_cons_succ, List.getElem?_cons_zero]; rfl)
      rotate_left; (first | (refine .inl ⟨by rfl, ?_⟩; intro w9 hS9; go_simp; try with_reducible rfl) | (refine .inr ⟨by rfl, ?_⟩; with_reducible rfl))
      rotate_left; (intro _ _ _ h9; exact h9)
      try simp only [Act.put, List.setIfInBounds_toArray, List.set_cons_zero, List.set_cons_succ]
      refine wpAnyH_take (i := 30) (oi := ?_) (v := ?_) ?_ (by kernel_rfl) (by kernel_rfl) (by kernel_rfl) ?_ ?_ (by assumption) ?_
      rotate_left 2; (simp only [List.getElem?_toArray, List.getElem?_cons_succ, List.getElem?_cons_zero]; rfl)
      rotate_left; (first | (refine .inl ⟨by rfl, ?_⟩; intro w9 hS9; go_simp; try with_reducible rfl) | (refine .inr ⟨by rfl, ?_⟩; with_reducible rfl))
      rotate_left; (intro _ _ _ h9; exact h9)
      try simp only [Act.put, List.setIfInBounds_toArray, List.set_cons_zero, List.set_cons_succ]
      refine wpAnyH_done (by kernel_rfl) ?_ _
      clear hS6 x1
      go_wp2_with fail
      have h8 := HS'.out
      exact ⟨⟨i + 1, by have := HI.out; omega, by go_num, ⟨T', a', rfl, h8.2.1, HP5.out, h8.1, h8.2.2.1, h8.2.2.2⟩⟩, by have := HI.out; simp [intOf]; omega⟩
    · obtain rfl : i = len1 := by omega
      clear hlt hi hpl
      go_wp2_with fail
      go_ret
      exact ⟨rfl, HPL.out.bel⟩
end Go.Proofs.YtpfoocndohpbbaaDoor
