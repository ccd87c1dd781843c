/- Two tables alike; crossings; the head of layer 9's statements: small. -/
import Derived.Test.YtflicahchahcnaaDoorDelayRTab
import Derived.Test.YtflicahchahcnaaDoorCrossing
namespace Go.Proofs.YtflicahchahcnaaDoor
open Go.RowKit
set_option linter.unusedVariables false
set_option linter.unusedSimpArgs false

theorem dl_cells (w0 : World) (b o : Nat) (x : Dl) (h : w0.rangeAt b o (dlc x)) (hb : b < w0.heap.size) : ∀ w', Below w0.heap.size w0 w' → w'.cell? ⟨b, o, none⟩ = some (.int .i64 x.d0) ∧ w'.cell? ⟨b, o + 1, none⟩ = some (.int .i64 x.d1) ∧ w'.cell? ⟨b, o + 2, none⟩ = some (.int .i64 x.d2) :=
  fun w' hw => ⟨(hw.cell (p := ⟨b, o, none⟩) hb).trans (h 0 _ rfl), (hw.cell (p := ⟨b, o + 1, none⟩) hb).trans (h 1 _ rfl), (hw.cell (p := ⟨b, o + 2, none⟩) hb).trans (h 2 _ rfl)⟩
theorem dl_equal (x y : Dl) (w : World) : (Op.equalIn 10000 32 (.agg #[.int .i64 x.d0, .int .i64 x.d1, .int .i64 x.d2]) (.agg #[.int .i64 y.d0, .int .i64 y.d1, .int .i64 y.d2])).run Tryd.prog w = .ok (decide (x = y)) w := by
  have u3 := Tryd.underlying3
  have a3 := Tryd.isAgg3
  have z3 := Tryd.sizeOf3
  rw [show (10000 : Nat) = 9999 + 1 from rfl, Op.equalIn]
  simp only [Sem.run_bind, run_underlying Tryd.underlying32, Result.andThen_ok]
  simp only [Std.Legacy.Range.forIn_eq_forIn_range', Std.Legacy.Range.size, Nat.sub_zero, Nat.add_sub_cancel, Nat.div_one, List.range'_succ, List.range'_zero, List.forIn_cons, List.forIn_nil]
  go_simp
  obtain ⟨a, b, c⟩ := x
  obtain ⟨a', b', c'⟩ := y
  simp only [Dl.mk.injEq]
  by_cases h1 : a = a' <;> by_cases h2 : b = b' <;> by_cases h3 : c = c' <;> simp [h1, h2, h3]
theorem dl_neq (x y : Dl) : ∀ w : World, (binOp .neq 32 (.agg #[.int .i64 x.d0, .int .i64 x.d1, .int .i64 x.d2]) (.agg #[.int .i64 y.d0, .int .i64 y.d1, .int .i64 y.d2])).run Tryd.prog w = .ok (.bool (!(decide (x = y)))) w := by
  intro w
  have := dl_equal x y
  go_simp
theorem dl_eql (x y : Dl) : ∀ w : World, (binOp .eql 32 (.agg #[.int .i64 x.d0, .int .i64 x.d1, .int .i64 x.d2]) (.agg #[.int .i64 y.d0, .int .i64 y.d1, .int .i64 y.d2])).run Tryd.prog w = .ok (.bool (decide (x = y))) w := by
  intro w
  have := dl_equal x y
  go_simp
set_option maxHeartbeats 2000000 in
set_option maxRecDepth 100000 in
theorem r_same (A B : Option Addr) (n c d : Nat) (xs : List Dl) (w : World) (ra : RDl w A n c xs) (rb : RDl w B n d xs) : Calls Tryd.prog 23 #[.slice A n c, .slice B n d] w fun e w' => e = .returned (.bool true) ∧ Below w.heap.size w w' := by
  have hl := Lib.hid ra.len
  have hmx := ra.max
  have HA := Lib.hid ra
  have HB := Lib.hid rb
  clear ra rb
  go_enter Tryd.func23, Tryd.ntmps23
  go_wp2_with fail
  go_loopw [5] (fun s5 wr => ∃ k : Nat, k ≤ n ∧ s5 = .int .i64 k ∧ Below w.heap.size w wr) (fun s5 _ => n - (intOf s5).toNat)
  case atStart => exact ⟨0, Nat.zero_le _, rfl, Below.refl _ _⟩
  case round =>
    obtain ⟨k, hk, rfl, hbr⟩ := hrel
    have HBR := Lib.hid hbr
    by_cases hlt : k < n
    · have hlt' : (k : Int) < n := by omega
      obtain ⟨a, off, rfl, hal, _⟩ := HA.out.cells (by omega)
      obtain ⟨b, ofb, rfl, hbl, _⟩ := HB.out.cells (by omega)
      have hkl : k < xs.length := by rw [hl.out]; exact hlt
      have he := HA.out.elem dlc_len k hkl
      have hf := HB.out.elem dlc_len k hkl
      generalize xs[k] = x at he hf
      have hac := dl_cells w a _ x he hal
      have hbc := dl_cells w b _ x hf hbl
      have x0 := fun w' (h : Below w.heap.size w w') => (hac w' h).1
      have x1 := fun w' (h : Below w.heap.size w w') => (hac w' h).2.1
      have x2 := fun w' (h : Below w.heap.size w w') => (hac w' h).2.2
      have y0 := fun w' (h : Below w.heap.size w w') => (hbc w' h).1
      have y1 := fun w' (h : Below w.heap.size w w') => (hbc w' h).2.1
      have y2 := fun w' (h : Below w.heap.size w w') => (hbc w' h).2.2
      clear he hf hac hbc hbr
      have hne := dl_neq x x
      go_wp2_with fail
      have hS0 : Below w.heap.size w wr.drew := HBR.out.trans ⟨rfl, rfl, rfl, Nat.le_refl _, fun _ _ => rfl⟩
      refine wp_region_held (S := fun w' => Below w.heap.size w w') (by kernel_rfl) ?_
      change wpAnyH _ _ _ _ _ _ _ _ wr.drew
      change wpAnyH _ _ _ _ _ 9 (Array.replicate 9 false) _ _
      refine wpAnyH_take (i := 0) (oi := ?_) (v := ?_) ?_ (by kernel_rfl) (by kernel_rfl) (by kernel_rfl) ?_ ?_ (by assumption) ?_
      rotate_left 2; (simp only [List.getElem?_toArray, List.getElem?_cons_succ, List.getElem?_cons_zero]; rfl)
      rotate_left; (first | (refine .inl ⟨by rfl, ?_⟩; intro w9 hS9; go_simp; try with_reducible rfl) | (refine .inr ⟨by rfl, ?_⟩; with_reducible rfl))
      rotate_left; (intro _ _ _ h9; exact h9)
      try simp only [Act.put, List.setIfInBounds_toArray, List.set_cons_zero, List.set_cons_succ]
      refine wpAnyH_take (i := 1) (oi := ?_) (v := ?_) ?_ (by kernel_rfl) (by kernel_rfl) (by kernel_rfl) ?_ ?_ (by assumption) ?_
      rotate_left 2; (simp only [List.getElem?_toArray, List.getElem?_cons_succ, List.getElem?_cons_zero]; rfl)
      rotate_left; (first | (refine .inl ⟨by rfl, ?_⟩; intro w9 hS9; go_simp; try with_reducible rfl) | (refine .inr ⟨by rfl, ?_⟩; with_reducible rfl))
      rotate_left; (intro _ _ _ h9; exact h9)
      try simp only [Act.put, List.setIfInBounds_toArray, List.set_cons_zero, List.set_cons_succ]
      refine wpAnyH_take (i := 2) (oi := ?_) (v := ?_) ?_ (by kernel_rfl) (by kernel_rfl) (by kernel_rfl) ?_ ?_ (by assumption) ?_
      rotate_left 2; (simp only [List.getElem?_toArray, List.getElem?_cons_succ, List.getElem?_cons_zero]; rfl)
      rotate_left; (first | (refine .inl ⟨by rfl, ?_⟩; intro w9 hS9; go_simp; try with_reducible rfl) | (refine .inr ⟨by rfl, ?_⟩; with_reducible rfl))
      rotate_left; (intro _ _ _ h9; exact h9)
      try simp only [Act.put, List.setIfInBounds_toArray, List.set_cons_zero, List.set_cons_succ]
      refine wpAnyH_take (i := 3) (oi := ?_) (v := ?_) ?_ (by kernel_rfl) (by kernel_rfl) (by kernel_rfl) ?_ ?_ (by assumption) ?_
      rotate_left 2; (simp only [List.getElem?_toArray, List.getElem?_cons_succ, List.getElem?_cons_zero]; rfl)
      rotate_left; (first | (refine .inl ⟨by rfl, ?_⟩; intro w9 hS9; go_simp; try with_reducible rfl) | (refine .inr ⟨by rfl, ?_⟩; with_reducible rfl))
      rotate_left; (intro _ _ _ h9; exact h9)
      try simp only [Act.put, List.setIfInBounds_toArray, List.set_cons_zero, List.set_cons_succ]
      refine wpAnyH_take (i := 4) (oi := ?_) (v := ?_) ?_ (by kernel_rfl) (by kernel_rfl) (by kernel_rfl) ?_ ?_ (by assumption) ?_
      rotate_left 2; (simp only [List.getElem?_toArray, List.getElem?_cons_succ, List.getElem?_cons_zero]; rfl)
      rotate_left; (first | (refine .inl ⟨by rfl, ?_⟩; intro w9 hS9; go_simp; try with_reducible rfl) | (refine .inr ⟨by rfl, ?_⟩; with_reducible rfl))
      rotate_left; (intro _ _ _ h9; exact h9)
      try simp only [Act.put, List.setIfInBounds_toArray, List.set_cons_zero, List.set_cons_succ]
      refine wpAnyH_take (i := 5) (oi := ?_) (v := ?_) ?_ (by kernel_rfl) (by kernel_rfl) (by kernel_rfl) ?_ ?_ (by assumption) ?_
      rotate_left 2; (simp only [List.getElem?_toArray, List.getElem?_cons_succ, List.getElem?_cons_zero]; rfl)
      rotate_left; (first | (refine .inl ⟨by rfl, ?_⟩; intro w9 hS9; go_simp; try with_reducible rfl) | (refine .inr ⟨by rfl, ?_⟩; with_reducible rfl))
      rotate_left; (intro _ _ _ h9; exact h9)
      try simp only [Act.put, List.setIfInBounds_toArray, List.set_cons_zero, List.set_cons_succ]
      refine wpAnyH_take (i := 6) (oi := ?_) (v := ?_) ?_ (by kernel_rfl) (by kernel_rfl) (by kernel_rfl) ?_ ?_ (by assumption) ?_
      rotate_left 2; (simp only [List.getElem?_toArray, List.getElem?_cons_succ, List.getElem?_cons_zero]; rfl)
      rotate_left; (first | (refine .inl ⟨by rfl, ?_⟩; intro w9 hS9; go_simp; try with_reducible rfl) | (refine .inr ⟨by rfl, ?_⟩; with_reducible rfl))
      rotate_left; (intro _ _ _ h9; exact h9)
      try simp only [Act.put, List.setIfInBounds_toArray, List.set_cons_zero, List.set_cons_succ]
      refine wpAnyH_take (i := 7) (oi := ?_) (v := ?_) ?_ (by kernel_rfl) (by kernel_rfl) (by kernel_rfl) ?_ ?_ (by assumption) ?_
      rotate_left 2; (simp only [List.getElem?_toArray, List.getElem?_cons_succ, List.getElem?_cons_zero]; rfl)
      rotate_left; (first | (refine .inl ⟨by rfl, ?_⟩; intro w9 hS9; go_simp; try with_reducible rfl) | (refine .inr ⟨by rfl, ?_⟩; with_reducible rfl))
      rotate_left; (intro _ _ _ h9; exact h9)
      try simp only [Act.put, List.setIfInBounds_toArray, List.set_cons_zero, List.set_cons_succ]
      refine wpAnyH_take (i := 8) (oi := ?_) (v := ?_) ?_ (by kernel_rfl) (by kernel_rfl) (by kernel_rfl) ?_ ?_ (by assumption) ?_
      rotate_left 2; (simp only [List.getElem?_toArray, List.getElem?_cons_succ, List.getElem?_cons_zero]; rfl)
      rotate_left; (first | (refine .inl ⟨by rfl, ?_⟩; intro w9 hS9; go_simp; try with_reducible rfl) | (refine .inr ⟨by rfl, ?_⟩; with_reducible rfl))
      rotate_left; (intro _ _ _ h9; exact h9)
      try simp only [Act.put, List.setIfInBounds_toArray, List.set_cons_zero, List.set_cons_succ]
      refine wpAnyH_done (by kernel_rfl) ?_ _
      clear x0 x1 x2 y0 y1 y2 hne
      try simp only [decide_true, Bool.not_true]
      go_wp2_with fail
      exact ⟨⟨k + 1, by omega, by go_num, hS0⟩, by simp [intOf]; omega⟩
    · obtain rfl : k = n := by omega
      go_wp2_with fail
      go_ret
      exact ⟨rfl, HBR.out⟩

end Go.Proofs.YtflicahchahcnaaDoor
