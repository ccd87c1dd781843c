/- The walk of DelayOrder. -/
import Derived.Test.YtflicahchahcnaaDoorDelayBnds
import Derived.Test.YtflicahchahcnaaDoorReg
import Derived.Deep.DeepCutAuto
namespace Go.Proofs.YtflicahchahcnaaDoor
open Go.RowKit
set_option linter.unusedVariables false
set_option linter.unusedSimpArgs false

/-! ### The plain law -/
theorem ofN_nonneg (f s w : Int) : 0 ≤ ofN f s w := by unfold ofN; split <;> omega
theorem ofN_le (f s w : Int) (hf : inI f) : ofN f s w ≤ 9223372036854775807 := by
  unfold ofN inI at *
  split
  · omega
  · rename_i h
    have := Int.ediv_le_self s (a := f) (by omega)
    omega
theorem ofN_more (f s w m : Int) (hw : 0 ≤ w) (hm : 0 ≤ m) : ofN f s (w + m) = max 0 (ofN f s w - m) := by
  unfold ofN
  split <;> omega
theorem ofN_fast (f s s' w : Int) (hf : 0 ≤ f) (h1 : 1 ≤ s) (h2 : s ≤ s') : ofN f s' w ≤ ofN f s w := by
  unfold ofN
  rw [if_neg (by omega), if_neg (by omega)]
  have : f / s' ≤ f / s := by
    have h3 : 0 ≤ f / s' := Int.ediv_nonneg hf (by omega)
    rw [Int.le_ediv_iff_mul_le (by omega)]
    have h4 := Int.ediv_mul_le f (show s' ≠ 0 by omega)
    exact Int.le_trans (Int.mul_le_mul_of_nonneg_left h2 h3) h4
  omega
theorem ord_1 (f s w m : Int) (hw : 0 ≤ w) (hm : 0 ≤ m) : ¬ ofN f s w < ofN f s (w + m) := by rw [ofN_more f s w m hw hm]; have := ofN_nonneg f s w; omega
abbrev LnBlk (w : World) (g : Nat) (x : Ln) : Prop := w.heap[g]? = some (.cells #[.int .i64 x.strike, .int .i64 x.signal, .int .i64 x.s0, .int .i64 x.s1, .int .i64 x.s2] 34 (0, 0))
theorem LnBlk.cells {w : World} {g : Nat} {x : Ln} (h : LnBlk w g x) : ∀ w', Below w.heap.size w w' → w'.cell? ⟨g, 0, none⟩ = some (.int .i64 x.strike) ∧ w'.cell? ⟨g, 1, none⟩ = some (.int .i64 x.signal) ∧ w'.cell? ⟨g, 2, none⟩ = some (.int .i64 x.s0) ∧ w'.cell? ⟨g, 3, none⟩ = some (.int .i64 x.s1) ∧ w'.cell? ⟨g, 4, none⟩ = some (.int .i64 x.s2) := fun w' hb => by
  have h' := blk_below h hb
  refine ⟨?_, ?_, ?_, ?_, ?_⟩ <;> simp [World.cell?, h']
theorem ofBlk_all {w : World} {g : Nat} {a b c : Int} (h : OfBlk w g a b c) : ∀ w', Below w.heap.size w w' → w'.cell? ⟨g, 0, none⟩ = some (.int .i64 a) ∧ w'.cell? ⟨g, 1, none⟩ = some (.int .i64 b) ∧ w'.cell? ⟨g, 2, none⟩ = some (.int .i64 c) := fun w' hb => by
  have h' : OfBlk w' g a b c := blk_below h hb
  exact ⟨(OfBlk.cells h').1, (OfBlk.cells h').2.1, (OfBlk.cells h').2.2.1⟩
theorem below_fill (w : World) (a b c : Int) : Below w.heap.size w (w.alloc (.cells #[.int .i64 a, .int .i64 b, .int .i64 c] 32)) := below_st w _
theorem ofBlk_fill (w : World) (a b c : Int) : OfBlk (w.alloc (.cells #[.int .i64 a, .int .i64 b, .int .i64 c] 32)) w.heap.size a b c := heap_alloc_new w _
set_option maxRecDepth 100000 in
set_option maxHeartbeats 8000000 in
theorem delayOrder_walk (x0 : Ln) (a1 : Int) (a2 : Int) (w : World) (w0 : wfI x0.strike ∧ wfI x0.signal ∧ wfI x0.s0 ∧ wfI x0.s1 ∧ wfI x0.s2) (w1 : (Lit.int .i64 a1).wf = true) (w2 : (Lit.int .i64 a2).wf = true) (hg : HasTy w) :
    Calls Tryd.prog 6 #[lnv x0, .int .i64 a1, .int .i64 a2] w fun e w' => e = .returned (.bool true) ∧ Below w.heap.size w w' := by
  have HI := Lib.hid (show inLn x0 from ⟨inI_wf w0.1, inI_wf w0.2.1, inI_wf w0.2.2.1, inI_wf w0.2.2.2.1, inI_wf w0.2.2.2.2⟩)
  have HG := Lib.hid hg
  have HX := Lib.hid (below_st w (.cells #[.int .i64 x0.strike, .int .i64 x0.signal, .int .i64 x0.s0, .int .i64 x0.s1, .int .i64 x0.s2] 34))
  have HL := Lib.hid (show LnBlk (w.alloc (.cells #[.int .i64 x0.strike, .int .i64 x0.signal, .int .i64 x0.s0, .int .i64 x0.s1, .int .i64 x0.s2] 34)) w.heap.size x0 from heap_alloc_new w _)
  clear w0 w1 w2 hg
  go_enter Tryd.func6, Tryd.ntmps6
  go_wp2_with fail
  generalize w.alloc _ = W at *
  refine (l_small _ (HG.out.below HX.out)).mono ?_
  rintro e x1 ⟨rfl, hb⟩
  have B1 := Lib.hid (below_go HX.out hb)
  have hl : LnBlk x1 w.heap.size x0 := blk_below HL.out hb
  have HL := Lib.hid hl
  obtain ⟨c0, c1, c2, c3, c4⟩ := hl.cells x1 (Below.refl _ _)
  clear hb hl HG HX
  by_cases o1 : x0.strike < 0
  · go_wp2_with fail
    go_ret
    exact ⟨rfl, B1.out⟩
  by_cases o2 : a2 < 0
  · go_wp2_with fail
    go_ret
    exact ⟨rfl, B1.out⟩
  by_cases o3 : a1 < 0
  · go_wp2_with fail
    go_ret
    exact ⟨rfl, B1.out⟩
  by_cases o4 : 1099511627776 < a1
  · go_wp2_with fail
    go_ret
    exact ⟨rfl, B1.out⟩
  by_cases o5 : 1099511627776 < a2
  · go_wp2_with fail
    go_ret
    exact ⟨rfl, B1.out⟩
  have e1 : IntKind.i64.wrap (a1 + a2) = a1 + a2 := by rw [IntKind.wrap_i64]; omega
  go_wp2_with fail
  refine (d_of x0 a1 _ HI.out (by unfold inI; omega)).mono ?_
  rintro e x2 ⟨rfl, hb⟩
  rw [show ofv x0 a1 = .agg #[.int .i64 (ofN x0.strike x0.s0 a1), .int .i64 (ofN x0.strike x0.s1 a1), .int .i64 (ofN x0.strike x0.s2 a1)] from rfl]
  have B2 := Lib.hid (below_go B1.out (below_go hb (below_fill x2 (ofN x0.strike x0.s0 a1) (ofN x0.strike x0.s1 a1) (ofN x0.strike x0.s2 a1))))
  have HL2 := Lib.hid (show LnBlk _ w.heap.size x0 from blk_below HL.out (below_go hb (below_fill x2 (ofN x0.strike x0.s0 a1) (ofN x0.strike x0.s1 a1) (ofN x0.strike x0.s2 a1))))
  have HA := Lib.hid (ofBlk_fill x2 (ofN x0.strike x0.s0 a1) (ofN x0.strike x0.s1 a1) (ofN x0.strike x0.s2 a1))
  clear hb c0 c1 c2 c3 c4 HL
  go_upto_region 5 with fail
  generalize x2.alloc _ = W2 at *
  obtain ⟨c0, c1, c2, c3, c4⟩ := HL2.out.cells W2 (Below.refl _ _)
  go_wp2_with fail
  refine (d_of x0 (a1 + a2) _ HI.out (by unfold inI; omega)).mono ?_
  rintro e x3 ⟨rfl, hb⟩
  rw [show ofv x0 (a1 + a2) = .agg #[.int .i64 (ofN x0.strike x0.s0 (a1 + a2)), .int .i64 (ofN x0.strike x0.s1 (a1 + a2)), .int .i64 (ofN x0.strike x0.s2 (a1 + a2))] from rfl]
  have B3 := Lib.hid (below_go B2.out (below_go hb (below_fill x3 (ofN x0.strike x0.s0 (a1 + a2)) (ofN x0.strike x0.s1 (a1 + a2)) (ofN x0.strike x0.s2 (a1 + a2)))))
  have HL3 := Lib.hid (show LnBlk _ w.heap.size x0 from blk_below HL2.out (below_go hb (below_fill x3 (ofN x0.strike x0.s0 (a1 + a2)) (ofN x0.strike x0.s1 (a1 + a2)) (ofN x0.strike x0.s2 (a1 + a2)))))
  have HA3 := Lib.hid (show OfBlk _ x2.heap.size _ _ _ from blk_below HA.out (below_go hb (below_fill x3 (ofN x0.strike x0.s0 (a1 + a2)) (ofN x0.strike x0.s1 (a1 + a2)) (ofN x0.strike x0.s2 (a1 + a2)))))
  have HB3 := Lib.hid (ofBlk_fill x3 (ofN x0.strike x0.s0 (a1 + a2)) (ofN x0.strike x0.s1 (a1 + a2)) (ofN x0.strike x0.s2 (a1 + a2)))
  clear hb c0 c1 c2 c3 c4 HL2 HA
  go_upto_region 6 with fail
  generalize x3.alloc _ = W3 at *
  generalize x2.heap.size = ga at *
  generalize x3.heap.size = gb at *
  have pA := fun s => (⟨ofN_nonneg x0.strike s a1, ofN_le x0.strike s a1 (HI.out.1), ofN_more x0.strike s a1 a2 (by omega) (by omega)⟩ : 0 ≤ ofN x0.strike s a1 ∧ ofN x0.strike s a1 ≤ 9223372036854775807 ∧ ofN x0.strike s (a1 + a2) = max 0 (ofN x0.strike s a1 - a2))
  obtain ⟨l0, u0, m0⟩ := pA x0.s0
  obtain ⟨l1, u1, m1⟩ := pA x0.s1
  obtain ⟨l2, u2, m2⟩ := pA x0.s2
  have g1 := ofN_fast x0.strike x0.s0 x0.s1 a1 (by omega)
  have g2 := ofN_fast x0.strike x0.s1 x0.s2 a1 (by omega)
  clear pA e1 HI
  obtain ⟨st, sg, s0, s1, s2⟩ := x0
  simp only at *
  generalize ofN st s0 a1 = A0 at *
  generalize ofN st s1 a1 = A1 at *
  generalize ofN st s2 a1 = A2 at *
  generalize ofN st s0 (a1 + a2) = D0 at *
  generalize ofN st s1 (a1 + a2) = D1 at *
  generalize ofN st s2 (a1 + a2) = D2 at *
  go_wp2_with fail
  have hA := ofBlk_all HA3.out
  have hD := ofBlk_all HB3.out
  have hS := fun w' h => (HL3.out.cells w' h).2.2
  have z0 := fun w' (h : Below W3.heap.size W3 w') => (hA w' h).1
  have z1 := fun w' (h : Below W3.heap.size W3 w') => (hA w' h).2.1
  have z2 := fun w' (h : Below W3.heap.size W3 w') => (hA w' h).2.2
  have y0 := fun w' (h : Below W3.heap.size W3 w') => (hD w' h).1
  have y1 := fun w' (h : Below W3.heap.size W3 w') => (hD w' h).2.1
  have y2 := fun w' (h : Below W3.heap.size W3 w') => (hD w' h).2.2
  have x0 : ∀ w', Below W3.heap.size W3 w' → w'.cell? ⟨w.heap.size, 2, none⟩ = some (.int .i64 s0) := fun w' h => (hS w' h).1
  have x1 : ∀ w', Below W3.heap.size W3 w' → w'.cell? ⟨w.heap.size, 3, none⟩ = some (.int .i64 s1) := fun w' h => (hS w' h).2.1
  have x2 : ∀ w', Below W3.heap.size W3 w' → w'.cell? ⟨w.heap.size, 4, none⟩ = some (.int .i64 s2) := fun w' h => (hS w' h).2.2
  have X0 := Lib.hid x0; have X1 := Lib.hid x1; have X2 := Lib.hid x2
  have Y0 := Lib.hid y0; have Y1 := Lib.hid y1; have Y2 := Lib.hid y2
  have Z0 := Lib.hid z0; have Z1 := Lib.hid z1; have Z2 := Lib.hid z2
  clear hA hD hS z0 z1 z2 y0 y1 y2 x0 x1 x2 HL3 HA3 HB3
  go_loopw [10] (fun s10 wr => ∃ k : Nat, k ≤ 3 ∧ s10 = .int .i64 k ∧ Below W3.heap.size W3 wr) (fun s10 _ => 3 - (intOf s10).toNat)
  case atStart => exact ⟨0, by omega, rfl, Below.refl _ _⟩
  case round =>
    obtain ⟨k, hk, rfl, hbr⟩ := hrel
    have HBR := Lib.hid hbr
    clear hbr
    by_cases hlt : k < 3
    · have hS0 : Below W3.heap.size W3 wr.drew := HBR.out.trans ⟨rfl, rfl, rfl, Nat.le_refl _, fun _ _ => rfl⟩
      have x0 := X0.out; have x1 := X1.out; have x2 := X2.out
      have y0 := Y0.out; have y1 := Y1.out; have y2 := Y2.out
      have z0 := Z0.out; have z1 := Z1.out; have z2 := Z2.out
      have hlt' : (k : Int) < 3 := by omega
      go_upto_region 9 with fail
      have hall : (k = 0 ∧ ¬ A0 < D0 ∧ ((a2 < A0 ∧ D0 = A0 - a2) ∨ (¬ a2 < A0 ∧ D0 = 0))) ∨ (k = 1 ∧ ¬ A1 < D1 ∧ ((a2 < A1 ∧ D1 = A1 - a2) ∨ (¬ a2 < A1 ∧ D1 = 0)) ∧ (¬ 1 ≤ s0 ∨ (1 ≤ s0 ∧ ¬ s0 ≤ s1) ∨ (1 ≤ s0 ∧ s0 ≤ s1 ∧ ¬ A0 < A1))) ∨ (k = 2 ∧ ¬ A2 < D2 ∧ ((a2 < A2 ∧ D2 = A2 - a2) ∨ (¬ a2 < A2 ∧ D2 = 0)) ∧ (¬ 1 ≤ s1 ∨ (1 ≤ s1 ∧ ¬ s1 ≤ s2) ∨ (1 ≤ s1 ∧ s1 ≤ s2 ∧ ¬ A1 < A2))) := by
        have h0 : k = 0 ∨ k = 1 ∨ k = 2 := by omega
        clear hlt hlt' hk x0 x1 x2 y0 y1 y2 z0 z1 z2
        rcases h0 with rfl | rfl | rfl
        · left; omega
        · right; left; omega
        · right; right; omega
      have e0 : IntKind.i64.wrap (A0 - a2) = A0 - a2 := by rw [IntKind.wrap_i64]; omega
      have e1 : IntKind.i64.wrap (A1 - a2) = A1 - a2 := by rw [IntKind.wrap_i64]; omega
      have e2 : IntKind.i64.wrap (A2 - a2) = A2 - a2 := by rw [IntKind.wrap_i64]; omega
      have e3 : IntKind.i64.wrap 0 = 0 := by rfl
      have e4 : IntKind.i64.wrap 1 = 1 := by rfl
      clear m0 m1 m2 g1 g2 hlt hlt' hk
      rcases hall with ⟨rfl, n2, ⟨n1, rfl⟩ | ⟨n1, rfl⟩⟩ | ⟨rfl, n2, ⟨n1, rfl⟩ | ⟨n1, rfl⟩, n3 | ⟨n3, n4⟩ | ⟨n3, n4, n5⟩⟩ | ⟨rfl, n2, ⟨n1, rfl⟩ | ⟨n1, rfl⟩, n3 | ⟨n3, n4⟩ | ⟨n3, n4, n5⟩⟩
      all_goals
        refine wp_region_held (S := fun w' => Below W3.heap.size W3 w') (by kernel_rfl) ?_
        change wpAnyH _ _ _ _ _ _ _ _ wr.drew
        change wpAnyH _ _ _ _ _ 53 (Array.replicate 53 false) _ _
        refine wpAnyH_take (i := 0) (oi := ?_) (v := ?_) ?_ (by kernel_rfl) (by kernel_rfl) (by kernel_rfl) ?_ ?_ (by assumption) ?_
        rotate_left 2; (simp only [List.getElem?_toArray, List.getElem?_cons_succ, List.getElem?_cons_zero]; rfl)
        rotate_left; (first | (refine .inl ⟨by rfl, ?_⟩; intro w9 hS9; go_simp; try with_reducible rfl) | (refine .inr ⟨by rfl, ?_⟩; with_reducible rfl))
        rotate_left; (intro _ _ _ h9; exact h9)
        try simp only [Act.put, List.setIfInBounds_toArray, List.set_cons_zero, List.set_cons_succ]
        refine wpAnyH_take (i := 1) (oi := ?_) (v := ?_) ?_ (by kernel_rfl) (by kernel_rfl) (by kernel_rfl) ?_ ?_ (by assumption) ?_
        rotate_left 2; (simp only [List.getElem?_toArray, List.getElem?_cons_succ, List.getElem?_cons_zero]; rfl)
        rotate_left; (first | (refine .inl ⟨by rfl, ?_⟩; intro w9 hS9; go_simp; try with_reducible rfl) | (refine .inr ⟨by rfl, ?_⟩; with_reducible rfl))
        rotate_left; (intro _ _ _ h9; exact h9)
        try simp only [Act.put, List.setIfInBounds_toArray, List.set_cons_zero, List.set_cons_succ]
        refine wpAnyH_take (i := 2) (oi := ?_) (v := ?_) ?_ (by kernel_rfl) (by kernel_rfl) (by kernel_rfl) ?_ ?_ (by assumption) ?_
        rotate_left 2; (simp only [List.getElem?_toArray, List.getElem?_cons_succ, List.getElem?_cons_zero]; rfl)
        rotate_left; (first | (refine .inl ⟨by rfl, ?_⟩; intro w9 hS9; go_simp; try with_reducible rfl) | (refine .inr ⟨by rfl, ?_⟩; with_reducible rfl))
        rotate_left; (intro _ _ _ h9; exact h9)
        try simp only [Act.put, List.setIfInBounds_toArray, List.set_cons_zero, List.set_cons_succ]
        refine wpAnyH_take (i := 3) (oi := ?_) (v := ?_) ?_ (by kernel_rfl) (by kernel_rfl) (by kernel_rfl) ?_ ?_ (by assumption) ?_
        rotate_left 2; (simp only [List.getElem?_toArray, List.getElem?_cons_succ, List.getElem?_cons_zero]; rfl)
        rotate_left; (first | (refine .inl ⟨by rfl, ?_⟩; intro w9 hS9; go_simp; try with_reducible rfl) | (refine .inr ⟨by rfl, ?_⟩; with_reducible rfl))
        rotate_left; (intro _ _ _ h9; exact h9)
        try simp only [Act.put, List.setIfInBounds_toArray, List.set_cons_zero, List.set_cons_succ]
        refine wpAnyH_take (i := 4) (oi := ?_) (v := ?_) ?_ (by kernel_rfl) (by kernel_rfl) (by kernel_rfl) ?_ ?_ (by assumption) ?_
        rotate_left 2; (simp only [List.getElem?_toArray, List.getElem?_cons_succ, List.getElem?_cons_zero]; rfl)
        rotate_left; (first | (refine .inl ⟨by rfl, ?_⟩; intro w9 hS9; go_simp; try with_reducible rfl) | (refine .inr ⟨by rfl, ?_⟩; with_reducible rfl))
        rotate_left; (intro _ _ _ h9; exact h9)
        try simp only [Act.put, List.setIfInBounds_toArray, List.set_cons_zero, List.set_cons_succ]
        refine wpAnyH_take (i := 5) (oi := ?_) (v := ?_) ?_ (by kernel_rfl) (by kernel_rfl) (by kernel_rfl) ?_ ?_ (by assumption) ?_
        rotate_left 2; (simp only [List.getElem?_toArray, List.getElem?_cons_succ, List.getElem?_cons_zero]; rfl)
        rotate_left; (first | (refine .inl ⟨by rfl, ?_⟩; intro w9 hS9; go_simp; try with_reducible rfl) | (refine .inr ⟨by rfl, ?_⟩; with_reducible rfl))
        rotate_left; (intro _ _ _ h9; exact h9)
        try simp only [Act.put, List.setIfInBounds_toArray, List.set_cons_zero, List.set_cons_succ]
        refine wpAnyH_take (i := 6) (oi := ?_) (v := ?_) ?_ (by kernel_rfl) (by kernel_rfl) (by kernel_rfl) ?_ ?_ (by assumption) ?_
        rotate_left 2; (simp only [List.getElem?_toArray, List.getElem?_cons_succ, List.getElem?_cons_zero]; rfl)
        rotate_left; (first | (refine .inl ⟨by rfl, ?_⟩; intro w9 hS9; go_simp; try with_reducible rfl) | (refine .inr ⟨by rfl, ?_⟩; with_reducible rfl))
        rotate_left; (intro _ _ _ h9; exact h9)
        try simp only [Act.put, List.setIfInBounds_toArray, List.set_cons_zero, List.set_cons_succ]
        refine wpAnyH_take (i := 7) (oi := ?_) (v := ?_) ?_ (by kernel_rfl) (by kernel_rfl) (by kernel_rfl) ?_ ?_ (by assumption) ?_
        rotate_left 2; (simp only [List.getElem?_toArray, List.getElem?_cons_succ, List.getElem?_cons_zero]; rfl)
        rotate_left; (first | (refine .inl ⟨by rfl, ?_⟩; intro w9 hS9; go_simp; try with_reducible rfl) | (refine .inr ⟨by rfl, ?_⟩; with_reducible rfl))
        rotate_left; (intro _ _ _ h9; exact h9)
        try simp only [Act.put, List.setIfInBounds_toArray, List.set_cons_zero, List.set_cons_succ]
        refine wpAnyH_take (i := 8) (oi := ?_) (v := ?_) ?_ (by kernel_rfl) (by kernel_rfl) (by kernel_rfl) ?_ ?_ (by assumption) ?_
        rotate_left 2; (simp only [List.getElem?_toArray, List.getElem?_cons_succ, List.getElem?_cons_zero]; rfl)
        rotate_left; (first | (refine .inl ⟨by rfl, ?_⟩; intro w9 hS9; go_simp; try with_reducible rfl) | (refine .inr ⟨by rfl, ?_⟩; with_reducible rfl))
        rotate_left; (intro _ _ _ h9; exact h9)
        try simp only [Act.put, List.setIfInBounds_toArray, List.set_cons_zero, List.set_cons_succ]
        refine wpAnyH_take (i := 9) (oi := ?_) (v := ?_) ?_ (by kernel_rfl) (by kernel_rfl) (by kernel_rfl) ?_ ?_ (by assumption) ?_
        rotate_left 2; (simp only [List.getElem?_toArray, List.getElem?_cons_succ, List.getElem?_cons_zero]; rfl)
        rotate_left; (first | (refine .inl ⟨by rfl, ?_⟩; intro w9 hS9; go_simp; try with_reducible rfl) | (refine .inr ⟨by rfl, ?_⟩; with_reducible rfl))
        rotate_left; (intro _ _ _ h9; exact h9)
        try simp only [Act.put, List.setIfInBounds_toArray, List.set_cons_zero, List.set_cons_succ]
        refine wpAnyH_take (i := 10) (oi := ?_) (v := ?_) ?_ (by kernel_rfl) (by kernel_rfl) (by kernel_rfl) ?_ ?_ (by assumption) ?_
        rotate_left 2; (simp only [List.getElem?_toArray, List.getElem?_cons_succ, List.getElem?_cons_zero]; rfl)
        rotate_left; (first | (refine .inl ⟨by rfl, ?_⟩; intro w9 hS9; go_simp; try with_reducible rfl) | (refine .inr ⟨by rfl, ?_⟩; with_reducible rfl))
        rotate_left; (intro _ _ _ h9; exact h9)
        try simp only [Act.put, List.setIfInBounds_toArray, List.set_cons_zero, List.set_cons_succ]
        refine wpAnyH_take (i := 11) (oi := ?_) (v := ?_) ?_ (by kernel_rfl) (by kernel_rfl) (by kernel_rfl) ?_ ?_ (by assumption) ?_
        rotate_left 2; (simp only [List.getElem?_toArray, List.getElem?_cons_succ, List.getElem?_cons_zero]; rfl)
        rotate_left; (first | (refine .inl ⟨by rfl, ?_⟩; intro w9 hS9; go_simp; try with_reducible rfl) | (refine .inr ⟨by rfl, ?_⟩; with_reducible rfl))
        rotate_left; (intro _ _ _ h9; exact h9)
        try simp only [Act.put, List.setIfInBounds_toArray, List.set_cons_zero, List.set_cons_succ]
        refine wpAnyH_take (i := 12) (oi := ?_) (v := ?_) ?_ (by kernel_rfl) (by kernel_rfl) (by kernel_rfl) ?_ ?_ (by assumption) ?_
        rotate_left 2; (simp only [List.getElem?_toArray, List.getElem?_cons_succ, List.getElem?_cons_zero]; rfl)
        rotate_left; (first | (refine .inl ⟨by rfl, ?_⟩; intro w9 hS9; go_simp; try with_reducible rfl) | (refine .inr ⟨by rfl, ?_⟩; with_reducible rfl))
        rotate_left; (intro _ _ _ h9; exact h9)
        try simp only [Act.put, List.setIfInBounds_toArray, List.set_cons_zero, List.set_cons_succ]
        refine wpAnyH_take (i := 13) (oi := ?_) (v := ?_) ?_ (by kernel_rfl) (by kernel_rfl) (by kernel_rfl) ?_ ?_ (by assumption) ?_
        rotate_left 2; (simp only [List.getElem?_toArray, List.getElem?_cons_succ, List.getElem?_cons_zero]; rfl)
        rotate_left; (first | (refine .inl ⟨by rfl, ?_⟩; intro w9 hS9; go_simp; try with_reducible rfl) | (refine .inr ⟨by rfl, ?_⟩; with_reducible rfl))
        rotate_left; (intro _ _ _ h9; exact h9)
        try simp only [Act.put, List.setIfInBounds_toArray, List.set_cons_zero, List.set_cons_succ]
        refine wpAnyH_take (i := 14) (oi := ?_) (v := ?_) ?_ (by kernel_rfl) (by kernel_rfl) (by kernel_rfl) ?_ ?_ (by assumption) ?_
        rotate_left 2; (simp only [List.getElem?_toArray, List.getElem?_cons_succ, List.getElem?_cons_zero]; rfl)
        rotate_left; (first | (refine .inl ⟨by rfl, ?_⟩; intro w9 hS9; go_simp; try with_reducible rfl) | (refine .inr ⟨by rfl, ?_⟩; with_reducible rfl))
        rotate_left; (intro _ _ _ h9; exact h9)
        try simp only [Act.put, List.setIfInBounds_toArray, List.set_cons_zero, List.set_cons_succ]
        refine wpAnyH_take (i := 15) (oi := ?_) (v := ?_) ?_ (by kernel_rfl) (by kernel_rfl) (by kernel_rfl) ?_ ?_ (by assumption) ?_
        rotate_left 2; (simp only [List.getElem?_toArray, List.getElem?_cons_succ, List.getElem?_cons_zero]; rfl)
        rotate_left; (first | (refine .inl ⟨by rfl, ?_⟩; intro w9 hS9; go_simp; try with_reducible rfl) | (refine .inr ⟨by rfl, ?_⟩; with_reducible rfl))
        rotate_left; (intro _ _ _ h9; exact h9)
        try simp only [Act.put, List.setIfInBounds_toArray, List.set_cons_zero, List.set_cons_succ]
        refine wpAnyH_take (i := 16) (oi := ?_) (v := ?_) ?_ (by kernel_rfl) (by kernel_rfl) (by kernel_rfl) ?_ ?_ (by assumption) ?_
        rotate_left 2; (simp only [List.getElem?_toArray, List.getElem?_cons_succ, List.getElem?_cons_zero]; rfl)
        rotate_left; (first | (refine .inl ⟨by rfl, ?_⟩; intro w9 hS9; go_simp; try with_reducible rfl) | (refine .inr ⟨by rfl, ?_⟩; with_reducible rfl))
        rotate_left; (intro _ _ _ h9; exact h9)
        try simp only [Act.put, List.setIfInBounds_toArray, List.set_cons_zero, List.set_cons_succ]
        refine wpAnyH_take (i := 17) (oi := ?_) (v := ?_) ?_ (by kernel_rfl) (by kernel_rfl) (by kernel_rfl) ?_ ?_ (by assumption) ?_
        rotate_left 2; (simp only [List.getElem?_toArray, List.getElem?_cons_succ, List.getElem?_cons_zero]; rfl)
        rotate_left; (first | (refine .inl ⟨by rfl, ?_⟩; intro w9 hS9; go_simp; try with_reducible rfl) | (refine .inr ⟨by rfl, ?_⟩; with_reducible rfl))
        rotate_left; (intro _ _ _ h9; exact h9)
        try simp only [Act.put, List.setIfInBounds_toArray, List.set_cons_zero, List.set_cons_succ]
        refine wpAnyH_take (i := 18) (oi := ?_) (v := ?_) ?_ (by kernel_rfl) (by kernel_rfl) (by kernel_rfl) ?_ ?_ (by assumption) ?_
        rotate_left 2; (simp only [List.getElem?_toArray, List.getElem?_cons_succ, List.getElem?_cons_zero]; rfl)
        rotate_left; (first | (refine .inl ⟨by rfl, ?_⟩; intro w9 hS9; go_simp; try with_reducible rfl) | (refine .inr ⟨by rfl, ?_⟩; with_reducible rfl))
        rotate_left; (intro _ _ _ h9; exact h9)
        try simp only [Act.put, List.setIfInBounds_toArray, List.set_cons_zero, List.set_cons_succ]
        refine wpAnyH_take (i := 19) (oi := ?_) (v := ?_) ?_ (by kernel_rfl) (by kernel_rfl) (by kernel_rfl) ?_ ?_ (by assumption) ?_
        rotate_left 2; (simp only [List.getElem?_toArray, List.getElem?_cons_succ, List.getElem?_cons_zero]; rfl)
        rotate_left; (first | (refine .inl ⟨by rfl, ?_⟩; intro w9 hS9; go_simp; try with_reducible rfl) | (refine .inr ⟨by rfl, ?_⟩; with_reducible rfl))
        rotate_left; (intro _ _ _ h9; exact h9)
        try simp only [Act.put, List.setIfInBounds_toArray, List.set_cons_zero, List.set_cons_succ]
        refine wpAnyH_take (i := 20) (oi := ?_) (v := ?_) ?_ (by kernel_rfl) (by kernel_rfl) (by kernel_rfl) ?_ ?_ (by assumption) ?_
        rotate_left 2; (simp only [List.getElem?_toArray, List.getElem?_cons_succ, List.getElem?_cons_zero]; rfl)
        rotate_left; (first | (refine .inl ⟨by rfl, ?_⟩; intro w9 hS9; go_simp; try with_reducible rfl) | (refine .inr ⟨by rfl, ?_⟩; with_reducible rfl))
        rotate_left; (intro _ _ _ h9; exact h9)
        try simp only [Act.put, List.setIfInBounds_toArray, List.set_cons_zero, List.set_cons_succ]
        refine wpAnyH_take (i := 21) (oi := ?_) (v := ?_) ?_ (by kernel_rfl) (by kernel_rfl) (by kernel_rfl) ?_ ?_ (by assumption) ?_
        rotate_left 2; (simp only [List.getElem?_toArray, List.getElem?_cons_succ, List.getElem?_cons_zero]; rfl)
        rotate_left; (first | (refine .inl ⟨by rfl, ?_⟩; intro w9 hS9; go_simp; try with_reducible rfl) | (refine .inr ⟨by rfl, ?_⟩; with_reducible rfl))
        rotate_left; (intro _ _ _ h9; exact h9)
        try simp only [Act.put, List.setIfInBounds_toArray, List.set_cons_zero, List.set_cons_succ]
        refine wpAnyH_take (i := 22) (oi := ?_) (v := ?_) ?_ (by kernel_rfl) (by kernel_rfl) (by kernel_rfl) ?_ ?_ (by assumption) ?_
        rotate_left 2; (simp only [List.getElem?_toArray, List.getElem?_cons_succ, List.getElem?_cons_zero]; rfl)
        rotate_left; (first | (refine .inl ⟨by rfl, ?_⟩; intro w9 hS9; go_simp; try with_reducible rfl) | (refine .inr ⟨by rfl, ?_⟩; with_reducible rfl))
        rotate_left; (intro _ _ _ h9; exact h9)
        try simp only [Act.put, List.setIfInBounds_toArray, List.set_cons_zero, List.set_cons_succ]
        refine wpAnyH_take (i := 23) (oi := ?_) (v := ?_) ?_ (by kernel_rfl) (by kernel_rfl) (by kernel_rfl) ?_ ?_ (by assumption) ?_
        rotate_left 2; (simp only [List.getElem?_toArray, List.getElem?_cons_succ, List.getElem?_cons_zero]; rfl)
        rotate_left; (first | (refine .inl ⟨by rfl, ?_⟩; intro w9 hS9; go_simp; try with_reducible rfl) | (refine .inr ⟨by rfl, ?_⟩; with_reducible rfl))
        rotate_left; (intro _ _ _ h9; exact h9)
        try simp only [Act.put, List.setIfInBounds_toArray, List.set_cons_zero, List.set_cons_succ]
        refine wpAnyH_take (i := 24) (oi := ?_) (v := ?_) ?_ (by kernel_rfl) (by kernel_rfl) (by kernel_rfl) ?_ ?_ (by assumption) ?_
        rotate_left 2; (simp only [List.getElem?_toArray, List.getElem?_cons_succ, List.getElem?_cons_zero]; rfl)
        rotate_left; (first | (refine .inl ⟨by rfl, ?_⟩; intro w9 hS9; go_simp; try with_reducible rfl) | (refine .inr ⟨by rfl, ?_⟩; with_reducible rfl))
        rotate_left; (intro _ _ _ h9; exact h9)
        try simp only [Act.put, List.setIfInBounds_toArray, List.set_cons_zero, List.set_cons_succ]
        refine wpAnyH_take (i := 25) (oi := ?_) (v := ?_) ?_ (by kernel_rfl) (by kernel_rfl) (by kernel_rfl) ?_ ?_ (by assumption) ?_
        rotate_left 2; (simp only [List.getElem?_toArray, List.getElem?_cons_succ, List.getElem?_cons_zero]; rfl)
        rotate_left; (first | (refine .inl ⟨by rfl, ?_⟩; intro w9 hS9; go_simp; try with_reducible rfl) | (refine .inr ⟨by rfl, ?_⟩; with_reducible rfl))
        rotate_left; (intro _ _ _ h9; exact h9)
        try simp only [Act.put, List.setIfInBounds_toArray, List.set_cons_zero, List.set_cons_succ]
        refine wpAnyH_take (i := 26) (oi := ?_) (v := ?_) ?_ (by kernel_rfl) (by kernel_rfl) (by kernel_rfl) ?_ ?_ (by assumption) ?_
        rotate_left 2; (simp only [List.getElem?_toArray, List.getElem?_cons_succ, List.getElem?_cons_zero]; rfl)
        rotate_left; (first | (refine .inl ⟨by rfl, ?_⟩; intro w9 hS9; go_simp; try with_reducible rfl) | (refine .inr ⟨by rfl, ?_⟩; with_reducible rfl))
        rotate_left; (intro _ _ _ h9; exact h9)
        try simp only [Act.put, List.setIfInBounds_toArray, List.set_cons_zero, List.set_cons_succ]
        refine wpAnyH_take (i := 27) (oi := ?_) (v := ?_) ?_ (by kernel_rfl) (by kernel_rfl) (by kernel_rfl) ?_ ?_ (by assumption) ?_
        rotate_left 2; (simp only [List.getElem?_toArray, List.getElem?_cons_succ, List.getElem?_cons_zero]; rfl)
        rotate_left; (first | (refine .inl ⟨by rfl, ?_⟩; intro w9 hS9; go_simp; try with_reducible rfl) | (refine .inr ⟨by rfl, ?_⟩; with_reducible rfl))
        rotate_left; (intro _ _ _ h9; exact h9)
        try simp only [Act.put, List.setIfInBounds_toArray, List.set_cons_zero, List.set_cons_succ]
        refine wpAnyH_take (i := 28) (oi := ?_) (v := ?_) ?_ (by kernel_rfl) (by kernel_rfl) (by kernel_rfl) ?_ ?_ (by assumption) ?_
        rotate_left 2; (simp only [List.getElem?_toArray, List.getElem?_cons_succ, List.getElem?_cons_zero]; rfl)
        rotate_left; (first | (refine .inl ⟨by rfl, ?_⟩; intro w9 hS9; go_simp; try with_reducible rfl) | (refine .inr ⟨by rfl, ?_⟩; with_reducible rfl))
        rotate_left; (intro _ _ _ h9; exact h9)
        try simp only [Act.put, List.setIfInBounds_toArray, List.set_cons_zero, List.set_cons_succ]
        refine wpAnyH_take (i := 29) (oi := ?_) (v := ?_) ?_ (by kernel_rfl) (by kernel_rfl) (by kernel_rfl) ?_ ?_ (by assumption) ?_
        rotate_left 2; (simp only [List.getElem?_toArray, List.getElem?_cons_succ, List.getElem?_cons_zero]; rfl)
        rotate_left; (first | (refine .inl ⟨by rfl, ?_⟩; intro w9 hS9; go_simp; try with_reducible rfl) | (refine .inr ⟨by rfl, ?_⟩; with_reducible rfl))
        rotate_left; (intro _ _ _ h9; exact h9)
        try simp only [Act.put, List.setIfInBounds_toArray, List.set_cons_zero, List.set_cons_succ]
        refine wpAnyH_take (i := 30) (oi := ?_) (v := ?_) ?_ (by kernel_rfl) (by kernel_rfl) (by kernel_rfl) ?_ ?_ (by assumption) ?_
        rotate_left 2; (simp only [List.getElem?_toArray, List.getElem?_cons_succ, List.getElem?_cons_zero]; rfl)
        rotate_left; (first | (refine .inl ⟨by rfl, ?_⟩; intro w9 hS9; go_simp; try with_reducible rfl) | (refine .inr ⟨by rfl, ?_⟩; with_reducible rfl))
        rotate_left; (intro _ _ _ h9; exact h9)
        try simp only [Act.put, List.setIfInBounds_toArray, List.set_cons_zero, List.set_cons_succ]
        refine wpAnyH_take (i := 31) (oi := ?_) (v := ?_) ?_ (by kernel_rfl) (by kernel_rfl) (by kernel_rfl) ?_ ?_ (by assumption) ?_
        rotate_left 2; (simp only [List.getElem?_toArray, List.getElem?_cons_succ, List.getElem?_cons_zero]; rfl)
        rotate_left; (first | (refine .inl ⟨by rfl, ?_⟩; intro w9 hS9; go_simp; try with_reducible rfl) | (refine .inr ⟨by rfl, ?_⟩; with_reducible rfl))
        rotate_left; (intro _ _ _ h9; exact h9)
        try simp only [Act.put, List.setIfInBounds_toArray, List.set_cons_zero, List.set_cons_succ]
        refine wpAnyH_take (i := 32) (oi := ?_) (v := ?_) ?_ (by kernel_rfl) (by kernel_rfl) (by kernel_rfl) ?_ ?_ (by assumption) ?_
        rotate_left 2; (simp only [List.getElem?_toArray, List.getElem?_cons_succ, List.getElem?_cons_zero]; rfl)
        rotate_left; (first | (refine .inl ⟨by rfl, ?_⟩; intro w9 hS9; go_simp; try with_reducible rfl) | (refine .inr ⟨by rfl, ?_⟩; with_reducible rfl))
        rotate_left; (intro _ _ _ h9; exact h9)
        try simp only [Act.put, List.setIfInBounds_toArray, List.set_cons_zero, List.set_cons_succ]
        refine wpAnyH_take (i := 33) (oi := ?_) (v := ?_) ?_ (by kernel_rfl) (by kernel_rfl) (by kernel_rfl) ?_ ?_ (by assumption) ?_
        rotate_left 2; (simp only [List.getElem?_toArray, List.getElem?_cons_succ, List.getElem?_cons_zero]; rfl)
        rotate_left; (first | (refine .inl ⟨by rfl, ?_⟩; intro w9 hS9; go_simp; try with_reducible rfl) | (refine .inr ⟨by rfl, ?_⟩; with_reducible rfl))
        rotate_left; (intro _ _ _ h9; exact h9)
        try simp only [Act.put, List.setIfInBounds_toArray, List.set_cons_zero, List.set_cons_succ]
        refine wpAnyH_take (i := 34) (oi := ?_) (v := ?_) ?_ (by kernel_rfl) (by kernel_rfl) (by kernel_rfl) ?_ ?_ (by assumption) ?_
        rotate_left 2; (simp only [List.getElem?_toArray, List.getElem?_cons_succ, List.getElem?_cons_zero]; rfl)
        rotate_left; (first | (refine .inl ⟨by rfl, ?_⟩; intro w9 hS9; go_simp; try with_reducible rfl) | (refine .inr ⟨by rfl, ?_⟩; with_reducible rfl))
        rotate_left; (intro _ _ _ h9; exact h9)
        try simp only [Act.put, List.setIfInBounds_toArray, List.set_cons_zero, List.set_cons_succ]
        refine wpAnyH_take (i := 35) (oi := ?_) (v := ?_) ?_ (by kernel_rfl) (by kernel_rfl) (by kernel_rfl) ?_ ?_ (by assumption) ?_
        rotate_left 2; (simp only [List.getElem?_toArray, List.getElem?_cons_succ, List.getElem?_cons_zero]; rfl)
        rotate_left; (first | (refine .inl ⟨by rfl, ?_⟩; intro w9 hS9; go_simp; try with_reducible rfl) | (refine .inr ⟨by rfl, ?_⟩; with_reducible rfl))
        rotate_left; (intro _ _ _ h9; exact h9)
        try simp only [Act.put, List.setIfInBounds_toArray, List.set_cons_zero, List.set_cons_succ]
        refine wpAnyH_take (i := 36) (oi := ?_) (v := ?_) ?_ (by kernel_rfl) (by kernel_rfl) (by kernel_rfl) ?_ ?_ (by assumption) ?_
        rotate_left 2; (simp only [List.getElem?_toArray, List.getElem?_cons_succ, List.getElem?_cons_zero]; rfl)
        rotate_left; (first | (refine .inl ⟨by rfl, ?_⟩; intro w9 hS9; go_simp; try with_reducible rfl) | (refine .inr ⟨by rfl, ?_⟩; with_reducible rfl))
        rotate_left; (intro _ _ _ h9; exact h9)
        try simp only [Act.put, List.setIfInBounds_toArray, List.set_cons_zero, List.set_cons_succ]
        refine wpAnyH_take (i := 37) (oi := ?_) (v := ?_) ?_ (by kernel_rfl) (by kernel_rfl) (by kernel_rfl) ?_ ?_ (by assumption) ?_
        rotate_left 2; (simp only [List.getElem?_toArray, List.getElem?_cons_succ, List.getElem?_cons_zero]; rfl)
        rotate_left; (first | (refine .inl ⟨by rfl, ?_⟩; intro w9 hS9; go_simp; try with_reducible rfl) | (refine .inr ⟨by rfl, ?_⟩; with_reducible rfl))
        rotate_left; (intro _ _ _ h9; exact h9)
        try simp only [Act.put, List.setIfInBounds_toArray, List.set_cons_zero, List.set_cons_succ]
        refine wpAnyH_take (i := 38) (oi := ?_) (v := ?_) ?_ (by kernel_rfl) (by kernel_rfl) (by kernel_rfl) ?_ ?_ (by assumption) ?_
        rotate_left 2; (simp only [List.getElem?_toArray, List.getElem?_cons_succ, List.getElem?_cons_zero]; rfl)
        rotate_left; (first | (refine .inl ⟨by rfl, ?_⟩; intro w9 hS9; go_simp; try with_reducible rfl) | (refine .inr ⟨by rfl, ?_⟩; with_reducible rfl))
        rotate_left; (intro _ _ _ h9; exact h9)
        try simp only [Act.put, List.setIfInBounds_toArray, List.set_cons_zero, List.set_cons_succ]
        refine wpAnyH_take (i := 39) (oi := ?_) (v := ?_) ?_ (by kernel_rfl) (by kernel_rfl) (by kernel_rfl) ?_ ?_ (by assumption) ?_
        rotate_left 2; (simp only [List.getElem?_toArray, List.getElem?_cons_succ, List.getElem?_cons_zero]; rfl)
        rotate_left; (first | (refine .inl ⟨by rfl, ?_⟩; intro w9 hS9; go_simp; try with_reducible rfl) | (refine .inr ⟨by rfl, ?_⟩; with_reducible rfl))
        rotate_left; (intro _ _ _ h9; exact h9)
        try simp only [Act.put, List.setIfInBounds_toArray, List.set_cons_zero, List.set_cons_succ]
        refine wpAnyH_take (i := 40) (oi := ?_) (v := ?_) ?_ (by kernel_rfl) (by kernel_rfl) (by kernel_rfl) ?_ ?_ (by assumption) ?_
        rotate_left 2; (simp only [List.getElem?_toArray, List.getElem?_cons_succ, List.getElem?_cons_zero]; rfl)
        rotate_left; (first | (refine .inl ⟨by rfl, ?_⟩; intro w9 hS9; go_simp; try with_reducible rfl) | (refine .inr ⟨by rfl, ?_⟩; with_reducible rfl))
        rotate_left; (intro _ _ _ h9; exact h9)
        try simp only [Act.put, List.setIfInBounds_toArray, List.set_cons_zero, List.set_cons_succ]
        refine wpAnyH_take (i := 41) (oi := ?_) (v := ?_) ?_ (by kernel_rfl) (by kernel_rfl) (by kernel_rfl) ?_ ?_ (by assumption) ?_
        rotate_left 2; (simp only [List.getElem?_toArray, List.getElem?_cons_succ, List.getElem?_cons_zero]; rfl)
        rotate_left; (first | (refine .inl ⟨by rfl, ?_⟩; intro w9 hS9; go_simp; try with_reducible rfl) | (refine .inr ⟨by rfl, ?_⟩; with_reducible rfl))
        rotate_left; (intro _ _ _ h9; exact h9)
        try simp only [Act.put, List.setIfInBounds_toArray, List.set_cons_zero, List.set_cons_succ]
        refine wpAnyH_take (i := 42) (oi := ?_) (v := ?_) ?_ (by kernel_rfl) (by kernel_rfl) (by kernel_rfl) ?_ ?_ (by assumption) ?_
        rotate_left 2; (simp only [List.getElem?_toArray, List.getElem?_cons_succ, List.getElem?_cons_zero]; rfl)
        rotate_left; (first | (refine .inl ⟨by rfl, ?_⟩; intro w9 hS9; go_simp; try with_reducible rfl) | (refine .inr ⟨by rfl, ?_⟩; with_reducible rfl))
        rotate_left; (intro _ _ _ h9; exact h9)
        try simp only [Act.put, List.setIfInBounds_toArray, List.set_cons_zero, List.set_cons_succ]
        refine wpAnyH_take (i := 43) (oi := ?_) (v := ?_) ?_ (by kernel_rfl) (by kernel_rfl) (by kernel_rfl) ?_ ?_ (by assumption) ?_
        rotate_left 2; (simp only [List.getElem?_toArray, List.getElem?_cons_succ, List.getElem?_cons_zero]; rfl)
        rotate_left; (first | (refine .inl ⟨by rfl, ?_⟩; intro w9 hS9; go_simp; try with_reducible rfl) | (refine .inr ⟨by rfl, ?_⟩; with_reducible rfl))
        rotate_left; (intro _ _ _ h9; exact h9)
        try simp only [Act.put, List.setIfInBounds_toArray, List.set_cons_zero, List.set_cons_succ]
        refine wpAnyH_take (i := 44) (oi := ?_) (v := ?_) ?_ (by kernel_rfl) (by kernel_rfl) (by kernel_rfl) ?_ ?_ (by assumption) ?_
        rotate_left 2; (simp only [List.getElem?_toArray, List.getElem?_cons_succ, List.getElem?_cons_zero]; rfl)
        rotate_left; (first | (refine .inl ⟨by rfl, ?_⟩; intro w9 hS9; go_simp; try with_reducible rfl) | (refine .inr ⟨by rfl, ?_⟩; with_reducible rfl))
        rotate_left; (intro _ _ _ h9; exact h9)
        try simp only [Act.put, List.setIfInBounds_toArray, List.set_cons_zero, List.set_cons_succ]
        refine wpAnyH_take (i := 45) (oi := ?_) (v := ?_) ?_ (by kernel_rfl) (by kernel_rfl) (by kernel_rfl) ?_ ?_ (by assumption) ?_
        rotate_left 2; (simp only [List.getElem?_toArray, List.getElem?_cons_succ, List.getElem?_cons_zero]; rfl)
        rotate_left; (first | (refine .inl ⟨by rfl, ?_⟩; intro w9 hS9; go_simp; try with_reducible rfl) | (refine .inr ⟨by rfl, ?_⟩; with_reducible rfl))
        rotate_left; (intro _ _ _ h9; exact h9)
        try simp only [Act.put, List.setIfInBounds_toArray, List.set_cons_zero, List.set_cons_succ]
        refine wpAnyH_take (i := 46) (oi := ?_) (v := ?_) ?_ (by kernel_rfl) (by kernel_rfl) (by kernel_rfl) ?_ ?_ (by assumption) ?_
        rotate_left 2; (simp only [List.getElem?_toArray, List.getElem?_cons_succ, List.getElem?_cons_zero]; rfl)
        rotate_left; (first | (refine .inl ⟨by rfl, ?_⟩; intro w9 hS9; go_simp; try with_reducible rfl) | (refine .inr ⟨by rfl, ?_⟩; with_reducible rfl))
        rotate_left; (intro _ _ _ h9; exact h9)
        try simp only [Act.put, List.setIfInBounds_toArray, List.set_cons_zero, List.set_cons_succ]
        refine wpAnyH_take (i := 47) (oi := ?_) (v := ?_) ?_ (by kernel_rfl) (by kernel_rfl) (by kernel_rfl) ?_ ?_ (by assumption) ?_
        rotate_left 2; (simp only [List.getElem?_toArray, List.getElem?_cons_succ, List.getElem?_cons_zero]; rfl)
        rotate_left; (first | (refine .inl ⟨by rfl, ?_⟩; intro w9 hS9; go_simp; try with_reducible rfl) | (refine .inr ⟨by rfl, ?_⟩; with_reducible rfl))
        rotate_left; (intro _ _ _ h9; exact h9)
        try simp only [Act.put, List.setIfInBounds_toArray, List.set_cons_zero, List.set_cons_succ]
        refine wpAnyH_take (i := 48) (oi := ?_) (v := ?_) ?_ (by kernel_rfl) (by kernel_rfl) (by kernel_rfl) ?_ ?_ (by assumption) ?_
        rotate_left 2; (simp only [List.getElem?_toArray, List.getElem?_cons_succ, List.getElem?_cons_zero]; rfl)
        rotate_left; (first | (refine .inl ⟨by rfl, ?_⟩; intro w9 hS9; go_simp; try with_reducible rfl) | (refine .inr ⟨by rfl, ?_⟩; with_reducible rfl))
        rotate_left; (intro _ _ _ h9; exact h9)
        try simp only [Act.put, List.setIfInBounds_toArray, List.set_cons_zero, List.set_cons_succ]
        refine wpAnyH_take (i := 49) (oi := ?_) (v := ?_) ?_ (by kernel_rfl) (by kernel_rfl) (by kernel_rfl) ?_ ?_ (by assumption) ?_
        rotate_left 2; (simp only [List.getElem?_toArray, List.getElem?_cons_succ, List.getElem?_cons_zero]; rfl)
        rotate_left; (first | (refine .inl ⟨by rfl, ?_⟩; intro w9 hS9; go_simp; try with_reducible rfl) | (refine .inr ⟨by rfl, ?_⟩; with_reducible rfl))
        rotate_left; (intro _ _ _ h9; exact h9)
        try simp only [Act.put, List.setIfInBounds_toArray, List.set_cons_zero, List.set_cons_succ]
        refine wpAnyH_take (i := 50) (oi := ?_) (v := ?_) ?_ (by kernel_rfl) (by kernel_rfl) (by kernel_rfl) ?_ ?_ (by assumption) ?_
        rotate_left 2; (simp only [List.getElem?_toArray, List.getElem?_cons_succ, List.getElem?_cons_zero]; rfl)
        rotate_left; (first | (refine .inl ⟨by rfl, ?_⟩; intro w9 hS9; go_simp; try with_reducible rfl) | (refine .inr ⟨by rfl, ?_⟩; with_reducible rfl))
        rotate_left; (intro _ _ _ h9; exact h9)
        try simp only [Act.put, List.setIfInBounds_toArray, List.set_cons_zero, List.set_cons_succ]
        refine wpAnyH_take (i := 51) (oi := ?_) (v := ?_) ?_ (by kernel_rfl) (by kernel_rfl) (by kernel_rfl) ?_ ?_ (by assumption) ?_
        rotate_left 2; (simp only [List.getElem?_toArray, List.getElem?_cons_succ, List.getElem?_cons_zero]; rfl)
        rotate_left; (first | (refine .inl ⟨by rfl, ?_⟩; intro w9 hS9; go_simp; try with_reducible rfl) | (refine .inr ⟨by rfl, ?_⟩; with_reducible rfl))
        rotate_left; (intro _ _ _ h9; exact h9)
        try simp only [Act.put, List.setIfInBounds_toArray, List.set_cons_zero, List.set_cons_succ]
        refine wpAnyH_take (i := 52) (oi := ?_) (v := ?_) ?_ (by kernel_rfl) (by kernel_rfl) (by kernel_rfl) ?_ ?_ (by assumption) ?_
        rotate_left 2; (simp only [List.getElem?_toArray, List.getElem?_cons_succ, List.getElem?_cons_zero]; rfl)
        rotate_left; (first | (refine .inl ⟨by rfl, ?_⟩; intro w9 hS9; go_simp; try with_reducible rfl) | (refine .inr ⟨by rfl, ?_⟩; with_reducible rfl))
        rotate_left; (intro _ _ _ h9; exact h9)
        try simp only [Act.put, List.setIfInBounds_toArray, List.set_cons_zero, List.set_cons_succ]
        refine wpAnyH_done (by kernel_rfl) ?_ _
        try clear x0
        try clear x1
        try clear x2
        try clear y0
        try clear y1
        try clear y2
        try clear z0
        try clear z1
        try clear z2
        go_wp2_with fail
        first | exact ⟨⟨1, by omega, by go_num, hS0⟩, by simp [intOf]⟩ | exact ⟨⟨2, by omega, by go_num, hS0⟩, by simp [intOf]⟩ | exact ⟨⟨3, by omega, by go_num, hS0⟩, by simp [intOf]⟩
    · obtain rfl : k = 3 := by omega
      go_wp2_with fail
      go_ret
      exact ⟨rfl, below_go B3.out HBR.out⟩
end Go.Proofs.YtflicahchahcnaaDoor
