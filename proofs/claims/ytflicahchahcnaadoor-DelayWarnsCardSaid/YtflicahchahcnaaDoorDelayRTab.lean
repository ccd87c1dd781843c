/- The document's tables and bounds; two tables alike. -/
import Derived.Test.YtflicahchahcnaaDoorDelayBnd
namespace Go.Proofs.YtflicahchahcnaaDoor
open Go.RowKit
set_option linter.unusedVariables false
set_option linter.unusedSimpArgs false

theorem bnd_1 (ls : List Ln) (t : Tm) (h : cfOk ls t = true) : IntKind.i64.wrap (2 * t.t7) = 2 * t.t7 ∧ IntKind.i64.wrap (t.t8 + 2 * t.t7) = t.t8 + 2 * t.t7 ∧ IntKind.i64.wrap (t.t8 + 2 * t.t7 + t.t3) = t.t8 + 2 * t.t7 + t.t3 ∧ IntKind.i64.wrap (t.t8 + 2 * t.t7 + t.t3 + 8) = t.t8 + 2 * t.t7 + t.t3 + 8 := by
  have b3 := cfOk_tm ls t h 3 (by omega)
  have b7 := cfOk_tm ls t h 7 (by omega)
  have b8 := cfOk_tm ls t h 8 (by omega)
  simp only [Tm.get] at b3 b7 b8
  refine ⟨?_, ?_, ?_, ?_⟩ <;> rw [IntKind.wrap_i64] <;> omega
set_option maxHeartbeats 4000000 in
set_option maxRecDepth 100000 in
theorem r_bound (A : Option Addr) (n c : Nat) (ls : List Ln) (t : Tm) (w : World) (rs : RLn w A n c ls) : Calls Tryd.prog 20 #[cfv A n c t] w fun e w' => e = .returned (.tuple #[.int .i64 (bndOf ls t), .int .i64 (cfErr ls t)]) ∧ Below w.heap.size w w' := by
  have HR := Lib.hid rs
  have hx := below_st w (.cells (cfa A n c t) 39)
  have HX := Lib.hid hx
  have hz3 : (w.alloc (.cells (cfa A n c t) 39)).cell? ⟨w.heap.size, 4, none⟩ = some (.int .i64 t.t3) := by simp
  have hz7 : (w.alloc (.cells (cfa A n c t) 39)).cell? ⟨w.heap.size, 8, none⟩ = some (.int .i64 t.t7) := by simp
  have hz8 : (w.alloc (.cells (cfa A n c t) 39)).cell? ⟨w.heap.size, 9, none⟩ = some (.int .i64 t.t8) := by simp
  have HC := Lib.hid (rf_check A n c ls t _ (HR.out.below hx))
  clear rs hx
  go_enter Tryd.func20, Tryd.ntmps20
  go_wp2_with fail
  have hlt : w.heap.size < (w.alloc (.cells (cfa A n c t) 39)).heap.size := by simp
  generalize w.alloc _ = w1 at *
  refine HC.out.mono ?_
  rintro e w2 ⟨rfl, hb2⟩
  have z3 := (hb2.cell (p := ⟨w.heap.size, 4, none⟩) hlt).trans hz3
  have z7 := (hb2.cell (p := ⟨w.heap.size, 8, none⟩) hlt).trans hz7
  have z8 := (hb2.cell (p := ⟨w.heap.size, 9, none⟩) hlt).trans hz8
  have HX2 := Lib.hid (below_go HX.out hb2)
  clear hb2 hlt hz3 hz7 hz8 HC
  by_cases hok : cfOk ls t = true
  · have e1 : cfErr ls t = 0 := if_pos hok
    have e2 := Lib.hid (show bndOf ls t = t.t8 + 2 * t.t7 + t.t3 + 8 from if_pos hok)
    obtain ⟨m1, m2, m3, m4⟩ := bnd_1 ls t hok
    have E1 := Lib.hid e1
    rw [e1]
    clear hok e1
    go_wp2_with fail
    go_ret2
    refine ⟨?_, HX2.out⟩
    rw [e2.out, E1.out] <;> rfl
  · have e1 : cfErr ls t = 6 := if_neg hok
    have E1 := Lib.hid e1
    have e2 := Lib.hid (show bndOf ls t = 0 from if_neg hok)
    rw [e1]
    clear hok e1 z3 z7 z8
    go_wp2_with fail
    go_ret2
    refine ⟨?_, HX2.out⟩
    rw [e2.out, E1.out] <;> rfl
/-- The document's table. -/
def IsRTab (xs : List Dl) (c : Int) (w : World) (e : Ending) (w' : World) : Prop := ∃ v, e = .returned (.tuple #[v, .int .i64 c]) ∧ OwnDl w' v xs ∧ (∀ g, v.ownBlock = some g → w.heap.size ≤ g) ∧ Below w.heap.size w w'
set_option maxHeartbeats 4000000 in
set_option maxRecDepth 100000 in
theorem r_table (A : Option Addr) (n c : Nat) (ls : List Ln) (t : Tm) (w : World) (rs : RLn w A n c ls) : Calls Tryd.prog 18 #[cfv A n c t] w (IsRTab (tabOf ls t) (cfErr ls t) w) := by
  have hl := Lib.hid rs.len
  have hmx := rs.max
  have HR := Lib.hid rs
  have hx := below_st w (.cells (cfa A n c t) 39)
  have HX := Lib.hid hx
  have hz : (w.alloc (.cells (cfa A n c t) 39)).cell? ⟨w.heap.size, 0, none⟩ = some (.slice A n c) := by simp
  have hz9 : (w.alloc (.cells (cfa A n c t) 39)).cell? ⟨w.heap.size, 10, none⟩ = some (.int .i64 t.t9) := by simp
  have HC := Lib.hid (rf_check A n c ls t _ (HR.out.below hx))
  clear rs hx
  go_enter Tryd.func18, Tryd.ntmps18
  go_wp2_with fail
  have hlt : w.heap.size < (w.alloc (.cells (cfa A n c t) 39)).heap.size := by simp
  generalize w.alloc _ = w1 at *
  refine HC.out.mono ?_
  rintro e w2 ⟨rfl, hb2⟩
  have HB := Lib.hid hb2
  have HL := Lib.hid (Nat.lt_of_lt_of_le hlt hb2.size)
  have HZ := Lib.hid ((hb2.cell (p := ⟨w.heap.size, 0, none⟩) hlt).trans hz)
  have HZ9 := Lib.hid ((hb2.cell (p := ⟨w.heap.size, 10, none⟩) hlt).trans hz9)
  have HX2 := Lib.hid (below_go HX.out hb2)
  clear hb2 hlt hz hz9 HC
  by_cases hok : cfOk ls t = true
  · have e1 : cfErr ls t = 0 := if_pos hok
    have E1 := Lib.hid e1
    have e2 := Lib.hid (show tabOf ls t = ls.map (ofD t.t9) from if_pos hok)
    rw [e1]
    have HT9 := Lib.hid (show inI t.t9 by have := cfOk_tm ls t hok 9 (by omega); simp [Tm.get] at this; unfold inI; omega)
    have HLN := Lib.hid (fun x hx => ln_in x (cfOk_ln ls t hok x hx))
    have HLE := Lib.hid (cfOk_len ls t hok).2
    clear hok e1
    go_wp2_with fail
    go_loopw [5, 6] (fun s5 s6 wr => ∃ k : Nat, k ≤ n ∧ s6 = .int .i64 k ∧ OwnDl wr s5 ((ls.take k).map (ofD t.t9)) ∧ (∀ g, s5.ownBlock = some g → w2.heap.size ≤ g) ∧ Below w2.heap.size w2 wr) (fun _ s6 _ => n - (intOf s6).toNat)
    case atStart => exact ⟨0, Nat.zero_le _, rfl, OwnE.nil _ _, (fun g h => by cases h), Below.refl _ _⟩
    case round =>
      obtain ⟨k, hk, rfl, hown, hfr, hbr⟩ := hrel
      have HBR := Lib.hid hbr
      have HOW := Lib.hid hown
      have HFR := Lib.hid hfr
      have z0 : ∀ w', Below w2.heap.size w2 w' → w'.cell? ⟨w.heap.size, 0, none⟩ = some (.slice A n c) := fun w' h => (h.cell (p := ⟨w.heap.size, 0, none⟩) HL.out).trans HZ.out
      have z9 : ∀ w', Below w2.heap.size w2 w' → w'.cell? ⟨w.heap.size, 10, none⟩ = some (.int .i64 t.t9) := fun w' h => (h.cell (p := ⟨w.heap.size, 10, none⟩) HL.out).trans HZ9.out
      have z0r := z0 wr hbr
      clear hown hfr hbr
      by_cases hlt : k < n
      · have hlt' : (k : Int) < n := by omega
        obtain ⟨b, off, rfl, hbl, _⟩ := HR.out.cells (by omega)
        have hkl : k < ls.length := by rw [hl.out]; exact hlt
        have he := (HR.out.below HX2.out).elem lnc_len k hkl
        have hts := Lib.hid (show ls.take (k + 1) = ls.take k ++ [ls[k]] from List.take_succ_eq_append_getElem hkl)
        have hin := Lib.hid (HLN.out ls[k] (List.getElem_mem hkl))
        have hlk := Lib.hid (show ((ls.take k).map (ofD t.t9)).length ≤ 8 by have := HLE.out; simp; omega)
        generalize ls[k] = x at he hts hin
        have hlc := ln_cells w2 b _ x he (Nat.lt_of_lt_of_le hbl HX2.out.size)
        have x0 := fun w' (h : Below w2.heap.size w2 w') => (hlc w' h).1
        have x1 := fun w' (h : Below w2.heap.size w2 w') => (hlc w' h).2.1
        have x2 := fun w' (h : Below w2.heap.size w2 w') => (hlc w' h).2.2.1
        have x3 := fun w' (h : Below w2.heap.size w2 w') => (hlc w' h).2.2.2.1
        have x4 := fun w' (h : Below w2.heap.size w2 w') => (hlc w' h).2.2.2.2
        clear he hlc
        go_wp2_with fail
        clear z0r
        have hS0 : Below w2.heap.size w2 wr.drew := HBR.out.trans ⟨rfl, rfl, rfl, Nat.le_refl _, fun _ _ => rfl⟩
        have hS1 : Below wr.heap.size wr wr.drew := ⟨rfl, rfl, rfl, Nat.le_refl _, fun _ _ => rfl⟩
        refine wp_region_held (S := fun w' => Below w2.heap.size w2 w') (by kernel_rfl) ?_
        change wpAnyH _ _ _ _ _ _ _ _ wr.drew
        change wpAnyH _ _ _ _ _ 13 (Array.replicate 13 false) _ _
        refine wpAnyH_take (i := 0) (oi := ?_) (v := ?_) ?_ (by kernel_rfl) (by kernel_rfl) (by kernel_rfl) ?_ ?_ (by assumption) ?_
        rotate_left 2; (simp only [List.getElem?_toArray, List.getElem?_cons_succ, List.getElem?_cons_zero]; rfl)
        rotate_left; (first | (refine .inl ⟨by rfl, ?_⟩; intro w9 hS9; go_simp; try with_reducible rfl) | (refine .inr ⟨by rfl, ?_⟩; with_reducible rfl))
        rotate_left; (intro _ _ _ h9; exact h9)
        try simp only [Act.put, List.setIfInBounds_toArray, List.set_cons_zero, List.set_cons_succ]
        refine wpAnyH_take (i := 1) (oi := ?_) (v := ?_) ?_ (by kernel_rfl) (by kernel_rfl) (by kernel_rfl) ?_ ?_ (by assumption) ?_
        rotate_left 2; (simp only [List.getElem?_toArray, List.getElem?_cons_succ, List.getElem?_cons_zero]; rfl)
        rotate_left; (first | (refine .inl ⟨by rfl, ?_⟩; intro w9 hS9; go_simp; try with_reducible rfl) | (refine .inr ⟨by rfl, ?_⟩; with_reducible rfl))
        rotate_left; (intro _ _ _ h9; exact h9)
        try simp only [Act.put, List.setIfInBounds_toArray, List.set_cons_zero, List.set_cons_succ]
        refine wpAnyH_take (i := 2) (oi := ?_) (v := ?_) ?_ (by kernel_rfl) (by kernel_rfl) (by kernel_rfl) ?_ ?_ (by assumption) ?_
        rotate_left 2; (simp only [List.getElem?_toArray, List.getElem?_cons_succ, List.getElem?_cons_zero]; rfl)
        rotate_left; (first | (refine .inl ⟨by rfl, ?_⟩; intro w9 hS9; go_simp; try with_reducible rfl) | (refine .inr ⟨by rfl, ?_⟩; with_reducible rfl))
        rotate_left; (intro _ _ _ h9; exact h9)
        try simp only [Act.put, List.setIfInBounds_toArray, List.set_cons_zero, List.set_cons_succ]
        refine wpAnyH_take (i := 3) (oi := ?_) (v := ?_) ?_ (by kernel_rfl) (by kernel_rfl) (by kernel_rfl) ?_ ?_ (by assumption) ?_
        rotate_left 2; (simp only [List.getElem?_toArray, List.getElem?_cons_succ, List.getElem?_cons_zero]; rfl)
        rotate_left; (first | (refine .inl ⟨by rfl, ?_⟩; intro w9 hS9; go_simp; try with_reducible rfl) | (refine .inr ⟨by rfl, ?_⟩; with_reducible rfl))
        rotate_left; (intro _ _ _ h9; exact h9)
        try simp only [Act.put, List.setIfInBounds_toArray, List.set_cons_zero, List.set_cons_succ]
        refine wpAnyH_take (i := 4) (oi := ?_) (v := ?_) ?_ (by kernel_rfl) (by kernel_rfl) (by kernel_rfl) ?_ ?_ (by assumption) ?_
        rotate_left 2; (simp only [List.getElem?_toArray, List.getElem?_cons_succ, List.getElem?_cons_zero]; rfl)
        rotate_left; (first | (refine .inl ⟨by rfl, ?_⟩; intro w9 hS9; go_simp; try with_reducible rfl) | (refine .inr ⟨by rfl, ?_⟩; with_reducible rfl))
        rotate_left; (intro _ _ _ h9; exact h9)
        try simp only [Act.put, List.setIfInBounds_toArray, List.set_cons_zero, List.set_cons_succ]
        refine wpAnyH_take (i := 5) (oi := ?_) (v := ?_) ?_ (by kernel_rfl) (by kernel_rfl) (by kernel_rfl) ?_ ?_ (by assumption) ?_
        rotate_left 2; (simp only [List.getElem?_toArray, List.getElem?_cons_succ, List.getElem?_cons_zero]; rfl)
        rotate_left; (first | (refine .inl ⟨by rfl, ?_⟩; intro w9 hS9; go_simp; try with_reducible rfl) | (refine .inr ⟨by rfl, ?_⟩; with_reducible rfl))
        rotate_left; (intro _ _ _ h9; exact h9)
        try simp only [Act.put, List.setIfInBounds_toArray, List.set_cons_zero, List.set_cons_succ]
        refine wpAnyH_take (i := 6) (oi := ?_) (v := ?_) ?_ (by kernel_rfl) (by kernel_rfl) (by kernel_rfl) ?_ ?_ (by assumption) ?_
        rotate_left 2; (simp only [List.getElem?_toArray, List.getElem?_cons_succ, List.getElem?_cons_zero]; rfl)
        rotate_left; (first | (refine .inl ⟨by rfl, ?_⟩; intro w9 hS9; go_simp; try with_reducible rfl) | (refine .inr ⟨by rfl, ?_⟩; with_reducible rfl))
        rotate_left; (intro _ _ _ h9; exact h9)
        try simp only [Act.put, List.setIfInBounds_toArray, List.set_cons_zero, List.set_cons_succ]
        refine wpAnyH_take (i := 7) (oi := ?_) (v := ?_) ?_ (by kernel_rfl) (by kernel_rfl) (by kernel_rfl) ?_ ?_ (by assumption) ?_
        rotate_left 2; (simp only [List.getElem?_toArray, List.getElem?_cons_succ, List.getElem?_cons_zero]; rfl)
        rotate_left; (first | (refine .inl ⟨by rfl, ?_⟩; intro w9 hS9; go_simp; try with_reducible rfl) | (refine .inr ⟨by rfl, ?_⟩; with_reducible rfl))
        rotate_left; (intro _ _ _ h9; exact h9)
        try simp only [Act.put, List.setIfInBounds_toArray, List.set_cons_zero, List.set_cons_succ]
        refine wpAnyH_take (i := 8) (oi := ?_) (v := ?_) ?_ (by kernel_rfl) (by kernel_rfl) (by kernel_rfl) ?_ ?_ (by assumption) ?_
        rotate_left 2; (simp only [List.getElem?_toArray, List.getElem?_cons_succ, List.getElem?_cons_zero]; rfl)
        rotate_left; (first | (refine .inl ⟨by rfl, ?_⟩; intro w9 hS9; go_simp; try with_reducible rfl) | (refine .inr ⟨by rfl, ?_⟩; with_reducible rfl))
        rotate_left; (intro _ _ _ h9; exact h9)
        try simp only [Act.put, List.setIfInBounds_toArray, List.set_cons_zero, List.set_cons_succ]
        refine wpAnyH_ready (rs := [9]) (by kernel_rfl) (by simp) (AllReadyH.cons rfl (fun K9 hK9 => ?_) AllReadyH.nil)
        go_simp
        refine (r_of x t.t9 _ hin.out HT9.out).mono ?_
        rintro e wb ⟨rfl, hbb⟩
        rw [show ofv x t.t9 = .agg #[.int .i64 (ofD t.t9 x).d0, .int .i64 (ofD t.t9 x).d1, .int .i64 (ofD t.t9 x).d2] from rfl]
        have HBB := Lib.hid (below_go hS1 hbb)
        have HNEW := Lib.hid (dl_re_new wb (ofD t.t9 x))
        have HNB := Lib.hid (below_go HBB.out (below_st wb (.cells #[.int .i64 (ofD t.t9 x).d0, .int .i64 (ofD t.t9 x).d1, .int .i64 (ofD t.t9 x).d2] 32)))
        have HOW2 := Lib.hid (HOW.out.fr (Fr.ofBelow HNB.out (fun _ => False)) (fun _ _ h => h))
        have HNB2 := Lib.hid (below_go HBR.out HNB.out)
        have hS2 := below_go HBR.out HBB.out
        clear hbb
        refine hK9.out _ _ hS2 (fun _ => ?_)
        refine wpAnyH_ready (rs := [10]) (by kernel_rfl) (by simp) (AllReadyH.cons rfl (fun K9 hK9 => ?_) AllReadyH.nil)
        go_simp
        refine hK9.out _ _ HNB2.out (fun _ => ?_)
        refine wpAnyH_ready (rs := [11]) (by kernel_rfl) (by simp) (AllReadyH.cons (o := ?_) ?_ (fun K9 hK9 => ?_) AllReadyH.nil)
        rotate_left; (simp only [List.getElem?_toArray, List.getElem?_cons_succ, List.getElem?_cons_zero]; rfl)
        rw [if_pos (by rfl)]
        refine wp_append_fr dlT dlc_len dlc_one _ _ rfl _ ((ls.take k).map (ofD t.t9)) rfl HOW2.out _ _ _ [ofD t.t9 x] rfl HNEW.out (by have := hlk.out; omega) (by have := hlk.out; omega) ?_
        intro v' wc hown1 hg1 hf1
        have hS3 := HNB2.out.grown hg1 HNB2.out.size HFR.out
        have HOWN := Lib.hid hown1
        have HF1 := Lib.hid hf1
        have HG := Lib.hid hS3
        refine hK9.out _ _ hS3 (fun _ => ?_)
        clear hown1 hf1 hg1
        refine wpAnyH_take (i := 12) (oi := ?_) (v := ?_) ?_ (by kernel_rfl) (by kernel_rfl) (by kernel_rfl) ?_ ?_ (by assumption) ?_
        rotate_left 2; (simp only [List.getElem?_toArray, List.getElem?_cons_succ, List.getElem?_cons_zero]; rfl)
        rotate_left; (first | (refine .inl ⟨by rfl, ?_⟩; intro w9 hS9; go_simp; try with_reducible rfl) | (refine .inr ⟨by rfl, ?_⟩; with_reducible rfl))
        rotate_left; (intro _ _ _ h9; exact h9)
        try simp only [Act.put, List.setIfInBounds_toArray, List.set_cons_zero, List.set_cons_succ]
        refine wpAnyH_done (by kernel_rfl) ?_ _
        clear hS0 hS1 hS2 hS3 x0 x1 x2 x3 x4 z0 z9
        go_wp2_with fail
        exact ⟨⟨k + 1, by omega, by go_num, by rw [hts.out, List.map_append]; exact HOWN.out, fun g hgv => (HF1.out g hgv).elim (HFR.out g) (fun h => Nat.le_trans HNB2.out.size h), HG.out⟩, by simp [intOf]; omega⟩
      · obtain rfl : k = n := by omega
        have hall := Lib.hid (show ls.take k = ls from List.take_of_length_le (by rw [hl.out]; omega))
        rw [hall.out] at HOW
        clear z9 z0
        go_wp2_with fail
        go_ret2
        refine ⟨_, by rw [E1.out] <;> rfl, by rw [e2.out]; exact HOW.out, fun g hg => Nat.le_trans HX2.out.size (HFR.out g hg), below_go HX2.out HBR.out⟩
  · have e1 : cfErr ls t = 6 := if_neg hok
    have E1 := Lib.hid e1
    have e2 := Lib.hid (show tabOf ls t = [] from if_neg hok)
    rw [e1]
    clear hok e1
    go_wp2_with fail
    go_ret2
    exact ⟨_, by rw [E1.out] <;> rfl, by rw [e2.out]; exact OwnE.nil _ _, (fun g h => by cases h), HX2.out⟩
end Go.Proofs.YtflicahchahcnaaDoor
