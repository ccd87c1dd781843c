/- Two crossings alike: crossbuckref08.Same. -/
import Derived.Test.YteeocmkaecoeiaaDoorCfgPure
import Derived.Test.YteeocmkaecoeiaaDoorCfgRef
import Derived.Deep.RegionHeld3
import Derived.Deep.DeepCutAuto
namespace Go.Proofs.YteeocmkaecoeiaaDoor
open Go.RowKit
set_option linter.unusedVariables false
set_option linter.unusedSimpArgs false

theorem arr3_equal (d : Nat) (a b c a' b' c' : Int) (w : World) : (Op.equalIn (d + 2) 46 (.agg #[.int .i64 a, .int .i64 b, .int .i64 c]) (.agg #[.int .i64 a', .int .i64 b', .int .i64 c'])).run Tryd.prog w = .ok (decide (a = a' ∧ b = b' ∧ c = c')) w := by
  have u3 := Tryd.underlying3
  have a3 := Tryd.isAgg3
  have z3 := Tryd.sizeOf3
  rw [show d + 2 = (d + 1) + 1 from rfl, Op.equalIn]
  simp only [Sem.run_bind, run_underlying Tryd.underlying46, Result.andThen_ok]
  simp only [Std.Legacy.Range.forIn_eq_forIn_range', Std.Legacy.Range.size, Nat.sub_zero, Nat.add_sub_cancel, Nat.div_one, List.range'_succ, List.range'_zero, List.forIn_cons, List.forIn_nil]
  go_simp
  by_cases h1 : a = a' <;> by_cases h2 : b = b' <;> by_cases h3 : c = c' <;> simp [h1, h2, h3]
theorem ln_neq (x y : Ln) : ∀ w : World, (binOp .neq 48 (lnv x) (lnv y)).run Tryd.prog w = .ok (.bool (!(decide (x = y)))) w := by
  intro w
  have h := arr3_equal 9997 x.s0 x.s1 x.s2 y.s0 y.s1 y.s2 w
  go_simp
  obtain ⟨a, b, s0, s1, s2⟩ := x
  obtain ⟨a', b', s0', s1', s2'⟩ := y
  clear h
  simp only [Ln.mk.injEq]
  by_cases h1 : a = a' <;> by_cases h2 : b = b' <;> by_cases h3 : s0 = s0' <;> by_cases h4 : s1 = s1' <;> by_cases h5 : s2 = s2' <;> simp [h1, h2, h3, h4, h5]
set_option maxHeartbeats 2000000 in
theorem tm_neq (x y : Tm) : ∀ w : World, (binOp .neq 24 (.agg (tma x)) (.agg (tma y))).run Tryd.prog w = .ok (.bool (!(decide (x = y)))) w := by
  intro w
  go_simp
  obtain ⟨x0, x1, x2, x3, x4, x5, x6, x7, x8, x9⟩ := x
  obtain ⟨y0, y1, y2, y3, y4, y5, y6, y7, y8, y9⟩ := y
  simp only [Tm.mk.injEq]
  by_cases h0 : x0 = y0
  rotate_left
  · simp [h0]
  by_cases h1 : x1 = y1
  rotate_left
  · simp [h0, h1]
  by_cases h2 : x2 = y2
  rotate_left
  · simp [h0, h1, h2]
  by_cases h3 : x3 = y3
  rotate_left
  · simp [h0, h1, h2, h3]
  by_cases h4 : x4 = y4
  rotate_left
  · simp [h0, h1, h2, h3, h4]
  by_cases h5 : x5 = y5
  rotate_left
  · simp [h0, h1, h2, h3, h4, h5]
  by_cases h6 : x6 = y6
  rotate_left
  · simp [h0, h1, h2, h3, h4, h5, h6]
  by_cases h7 : x7 = y7
  rotate_left
  · simp [h0, h1, h2, h3, h4, h5, h6, h7]
  by_cases h8 : x8 = y8
  rotate_left
  · simp [h0, h1, h2, h3, h4, h5, h6, h7, h8]
  by_cases h9 : x9 = y9
  rotate_left
  · simp [h0, h1, h2, h3, h4, h5, h6, h7, h8, h9]
  simp [h0, h1, h2, h3, h4, h5, h6, h7, h8, h9]
theorem take_same {α : Type} (xs ys : List α) (i : Nat) (h : xs.take i = ys.take i) (hx : i < xs.length) (hy : i < ys.length) (e : xs[i] = ys[i]) : xs.take (i + 1) = ys.take (i + 1) := by
  rw [List.take_succ_eq_append_getElem hx, List.take_succ_eq_append_getElem hy, h, e]
/-- Are two crossings alike? -/
def cfSame (xs ys : List Ln) (t u : Tm) : Bool := decide (t = u) && decide (xs = ys)
theorem cfSame_refl (xs : List Ln) (t : Tm) : cfSame xs xs t t = true := by simp [cfSame]
theorem cfSame_iff {xs ys : List Ln} {t u : Tm} : cfSame xs ys t u = true ↔ t = u ∧ xs = ys := by simp [cfSame]
set_option maxHeartbeats 4000000 in
set_option maxRecDepth 100000 in
theorem rf_same (A B : Option Addr) (n m c d : Nat) (xs ys : List Ln) (t u : Tm) (w : World) (ra : RLn w A n c xs) (rb : RLn w B m d ys) : Calls Tryd.prog 17 #[cfv A n c t, cfv B m d u] w fun e w' => e = .returned (.bool (cfSame xs ys t u)) ∧ Below w.heap.size w w' := by
  have hl := Lib.hid ra.len
  have kl := Lib.hid rb.len
  have hmx := ra.max
  have kmx := rb.max
  have RA := Lib.hid ra
  have RB' := Lib.hid rb
  have HA := Lib.hid (show CfBox _ w.heap.size A n c t from heap_alloc2_old w (.cells (cfa A n c t) 26) (.cells (cfa B m d u) 26))
  have HB := Lib.hid (show CfBox _ (w.heap.size + 1) B m d u from heap_alloc2_new w (.cells (cfa A n c t) 26) (.cells (cfa B m d u) 26))
  have HX := Lib.hid ((below_st w (.cells (cfa A n c t) 26)).alloc (Nat.le_of_lt (by simp)) (.cells (cfa B m d u) 26))
  clear ra rb
  go_enter Tryd.func17, Tryd.ntmps17
  go_upto_region 1 with fail
  change Code.wp _ _ _ _ ((w.alloc (.cells (cfa A n c t) 26)).alloc (.cells (cfa B m d u) 26))
  generalize (w.alloc _).alloc _ = W at *
  obtain ⟨p0, p1, p2, p3, p4, p5, p6, p7, p8, p9, p10, _⟩ := cf_cell_all HA.out
  obtain ⟨q0, q1, q2, q3, q4, q5, q6, q7, q8, q9, q10, _⟩ := cf_cell_all HB.out
  have hne := tm_neq t u
  by_cases ht : t = u
  rotate_left
  · have hd : decide (t = u) = false := by simpa using ht
    have hf := Lib.hid (show cfSame xs ys t u = false by simp [cfSame, ht])
    clear ht
    go_wp2_with fail
    go_ret
    exact ⟨by rw [hf.out] <;> rfl, HX.out⟩
  have hd : decide (t = u) = true := by simpa using ht
  have HT := Lib.hid ht
  clear ht
  by_cases hnm : n = m
  rotate_left
  · have hb : ((n : Int) != (m : Int)) = true := by rw [bne_iff_ne]; omega
    have hf := Lib.hid (show cfSame xs ys t u = false by
      simp only [cfSame, Bool.and_eq_false_iff, decide_eq_false_iff_not]
      right
      intro e
      have := congrArg List.length e
      rw [hl.out, kl.out] at this
      exact hnm this)
    clear hnm
    go_wp2_with fail
    go_ret
    exact ⟨by rw [hf.out] <;> rfl, HX.out⟩
  subst hnm
  go_upto_region 3 with fail
  clear p0 p1 p2 p3 p4 p5 p6 p7 p8 p9 p10 q0 q1 q2 q3 q4 q5 q6 q7 q8 q9 q10 hne hd
  have P0 := Lib.hid (fun w' (h : Below W.heap.size W w') => (cf_cell_all (CfBox.below HA.out h)).1)
  have Q0 := Lib.hid (fun w' (h : Below W.heap.size W w') => (cf_cell_all (CfBox.below HB.out h)).1)
  go_wp2_with fail
  go_loopw [5] (fun s5 wr => ∃ k : Nat, k ≤ n ∧ s5 = .int .i64 k ∧ xs.take k = ys.take k ∧ Below W.heap.size W wr) (fun s5 _ => n - (intOf s5).toNat)
  case atStart => exact ⟨0, Nat.zero_le _, rfl, rfl, Below.refl _ _⟩
  case round =>
    obtain ⟨k, hk, rfl, hsame, hbr⟩ := hrel
    have HBR := Lib.hid hbr
    have HSA := Lib.hid hsame
    have p0 := P0.out
    have q0 := Q0.out
    have p0r := P0.out wr hbr
    clear hbr hsame
    by_cases hlt : k < n
    · have hlt' : (k : Int) < n := by omega
      obtain ⟨a, oa, rfl, hal, _⟩ := RA.out.cells (by omega)
      obtain ⟨b, ob, rfl, hbl, _⟩ := RB'.out.cells (by omega)
      have hkl : k < xs.length := by rw [hl.out]; exact hlt
      have hkm : k < ys.length := by rw [kl.out]; exact hlt
      have he := (RA.out.below HX.out).elem lnc_len k hkl
      have hf := (RB'.out.below HX.out).elem lnc_len k hkm
      have hst := Lib.hid (fun e => take_same xs ys k HSA.out hkl hkm e)
      have hdi := Lib.hid (show xs[k] ≠ ys[k] → xs ≠ ys from fun h e => by subst e; exact h rfl)
      generalize xs[k] = x at he hst hdi
      generalize ys[k] = y at hf hst hdi
      have hxc := ln_cells W a _ x he (Nat.lt_of_lt_of_le hal HX.out.size)
      have hyc := ln_cells W b _ y hf (Nat.lt_of_lt_of_le hbl HX.out.size)
      have x0 := fun w' (h : Below W.heap.size W w') => (hxc w' h).1
      have y0 := fun w' (h : Below W.heap.size W w') => (hyc w' h).1
      have x1 := fun w' (h : Below W.heap.size W w') => (hxc w' h).2.1
      have y1 := fun w' (h : Below W.heap.size W w') => (hyc w' h).2.1
      have x2 := fun w' (h : Below W.heap.size W w') => (hxc w' h).2.2.1
      have y2 := fun w' (h : Below W.heap.size W w') => (hyc w' h).2.2.1
      have x3 := fun w' (h : Below W.heap.size W w') => (hxc w' h).2.2.2.1
      have y3 := fun w' (h : Below W.heap.size W w') => (hyc w' h).2.2.2.1
      have x4 := fun w' (h : Below W.heap.size W w') => (hxc w' h).2.2.2.2
      have y4 := fun w' (h : Below W.heap.size W w') => (hyc w' h).2.2.2.2
      have hne := ln_neq x y
      clear he hf hxc hyc
      go_upto_region 6 with fail
      have hS0 : Below W.heap.size W wr.drew := HBR.out.trans ⟨rfl, rfl, rfl, Nat.le_refl _, fun _ _ => rfl⟩
      by_cases hxy : x = y
      case' pos => have hd : decide (x = y) = true := by simpa using hxy
      case' neg => have hd : decide (x = y) = false := by simpa using hxy
      case' pos => have HXY := Lib.hid (hst.out hxy)
      case' neg => have HXY := Lib.hid (show cfSame xs ys t u = false by simp [cfSame, hdi.out hxy])
      all_goals
        clear hxy
        refine wp_region_held (S := fun w' => Below W.heap.size W w') (by kernel_rfl) ?_
        change wpAnyH _ _ _ _ _ _ _ _ wr.drew
        change wpAnyH _ _ _ _ _ 11 (Array.replicate 11 false) _ _
        refine wpAnyH_take (i := 0) (oi := ?_) (v := ?_) ?_ (by kernel_rfl) (by kernel_rfl) (by kernel_rfl) ?_ ?_ (by assumption) ?_
        rotate_left 2; (simp only [List.getElem?_toArray, List.getElem?_cons_succ, List.getElem?_cons_zero]; rfl)
        rotate_left; (first | (refine .inl ⟨by rfl, ?_⟩; intro w9 hS9; go_simp; try with_reducible rfl) | (refine .inr ⟨by rfl, ?_⟩; with_reducible rfl))
        rotate_left; (intro _ _ _ h9; exact h9)
        try simp only [Act.put, List.setIfInBounds_toArray, List.set_cons_zero, List.set_cons_succ]
        refine wpAnyH_take (i := 1) (oi := ?_) (v := ?_) ?_ (by kernel_rfl) (by kernel_rfl) (by kernel_rfl) ?_ ?_ (by assumption) ?_
        rotate_left 2; (simp only [List.getElem?_toArray, List.getElem?_cons_succ, List.getElem?_cons_zero]; rfl)
        rotate_left; (first | (refine .inl ⟨by rfl, ?_⟩; intro w9 hS9; go_simp; try with_reducible rfl) | (refine .inr ⟨by rfl, ?_⟩; with_reducible rfl))
        rotate_left; (intro _ _ _ h9; exact h9)
        try simp only [Act.put, List.setIfInBounds_toArray, List.set_cons_zero, List.set_cons_succ]
        refine wpAnyH_take (i := 2) (oi := ?_) (v := ?_) ?_ (by kernel_rfl) (by kernel_rfl) (by kernel_rfl) ?_ ?_ (by assumption) ?_
        rotate_left 2; (simp only [List.getElem?_toArray, List.getElem?_cons_succ, List.getElem?_cons_zero]; rfl)
        rotate_left; (first | (refine .inl ⟨by rfl, ?_⟩; intro w9 hS9; go_simp; try with_reducible rfl) | (refine .inr ⟨by rfl, ?_⟩; with_reducible rfl))
        rotate_left; (intro _ _ _ h9; exact h9)
        try simp only [Act.put, List.setIfInBounds_toArray, List.set_cons_zero, List.set_cons_succ]
        refine wpAnyH_take (i := 3) (oi := ?_) (v := ?_) ?_ (by kernel_rfl) (by kernel_rfl) (by kernel_rfl) ?_ ?_ (by assumption) ?_
        rotate_left 2; (simp only [List.getElem?_toArray, List.getElem?_cons_succ, List.getElem?_cons_zero]; rfl)
        rotate_left; (first | (refine .inl ⟨by rfl, ?_⟩; intro w9 hS9; go_simp; try with_reducible rfl) | (refine .inr ⟨by rfl, ?_⟩; with_reducible rfl))
        rotate_left; (intro _ _ _ h9; exact h9)
        try simp only [Act.put, List.setIfInBounds_toArray, List.set_cons_zero, List.set_cons_succ]
        refine wpAnyH_take (i := 4) (oi := ?_) (v := ?_) ?_ (by kernel_rfl) (by kernel_rfl) (by kernel_rfl) ?_ ?_ (by assumption) ?_
        rotate_left 2; (simp only [List.getElem?_toArray, List.getElem?_cons_succ, List.getElem?_cons_zero]; rfl)
        rotate_left; (first | (refine .inl ⟨by rfl, ?_⟩; intro w9 hS9; go_simp; try with_reducible rfl) | (refine .inr ⟨by rfl, ?_⟩; with_reducible rfl))
        rotate_left; (intro _ _ _ h9; exact h9)
        try simp only [Act.put, List.setIfInBounds_toArray, List.set_cons_zero, List.set_cons_succ]
        refine wpAnyH_take (i := 5) (oi := ?_) (v := ?_) ?_ (by kernel_rfl) (by kernel_rfl) (by kernel_rfl) ?_ ?_ (by assumption) ?_
        rotate_left 2; (simp only [List.getElem?_toArray, List.getElem?_cons_succ, List.getElem?_cons_zero]; rfl)
        rotate_left; (first | (refine .inl ⟨by rfl, ?_⟩; intro w9 hS9; go_simp; try with_reducible rfl) | (refine .inr ⟨by rfl, ?_⟩; with_reducible rfl))
        rotate_left; (intro _ _ _ h9; exact h9)
        try simp only [Act.put, List.setIfInBounds_toArray, List.set_cons_zero, List.set_cons_succ]
        refine wpAnyH_take (i := 6) (oi := ?_) (v := ?_) ?_ (by kernel_rfl) (by kernel_rfl) (by kernel_rfl) ?_ ?_ (by assumption) ?_
        rotate_left 2; (simp only [List.getElem?_toArray, List.getElem?_cons_succ, List.getElem?_cons_zero]; rfl)
        rotate_left; (first | (refine .inl ⟨by rfl, ?_⟩; intro w9 hS9; go_simp; try with_reducible rfl) | (refine .inr ⟨by rfl, ?_⟩; with_reducible rfl))
        rotate_left; (intro _ _ _ h9; exact h9)
        try simp only [Act.put, List.setIfInBounds_toArray, List.set_cons_zero, List.set_cons_succ]
        refine wpAnyH_take (i := 7) (oi := ?_) (v := ?_) ?_ (by kernel_rfl) (by kernel_rfl) (by kernel_rfl) ?_ ?_ (by assumption) ?_
        rotate_left 2; (simp only [List.getElem?_toArray, List.getElem?_cons_succ, List.getElem?_cons_zero]; rfl)
        rotate_left; (first | (refine .inl ⟨by rfl, ?_⟩; intro w9 hS9; go_simp; try with_reducible rfl) | (refine .inr ⟨by rfl, ?_⟩; with_reducible rfl))
        rotate_left; (intro _ _ _ h9; exact h9)
        try simp only [Act.put, List.setIfInBounds_toArray, List.set_cons_zero, List.set_cons_succ]
        refine wpAnyH_take (i := 8) (oi := ?_) (v := ?_) ?_ (by kernel_rfl) (by kernel_rfl) (by kernel_rfl) ?_ ?_ (by assumption) ?_
        rotate_left 2; (simp only [List.getElem?_toArray, List.getElem?_cons_succ, List.getElem?_cons_zero]; rfl)
        rotate_left; (first | (refine .inl ⟨by rfl, ?_⟩; intro w9 hS9; go_simp; try with_reducible rfl) | (refine .inr ⟨by rfl, ?_⟩; with_reducible rfl))
        rotate_left; (intro _ _ _ h9; exact h9)
        try simp only [Act.put, List.setIfInBounds_toArray, List.set_cons_zero, List.set_cons_succ]
        refine wpAnyH_take (i := 9) (oi := ?_) (v := ?_) ?_ (by kernel_rfl) (by kernel_rfl) (by kernel_rfl) ?_ ?_ (by assumption) ?_
        rotate_left 2; (simp only [List.getElem?_toArray, List.getElem?_cons_succ, List.getElem?_cons_zero]; rfl)
        rotate_left; (first | (refine .inl ⟨by rfl, ?_⟩; intro w9 hS9; go_simp; try with_reducible rfl) | (refine .inr ⟨by rfl, ?_⟩; with_reducible rfl))
        rotate_left; (intro _ _ _ h9; exact h9)
        try simp only [Act.put, List.setIfInBounds_toArray, List.set_cons_zero, List.set_cons_succ]
        refine wpAnyH_take (i := 10) (oi := ?_) (v := ?_) ?_ (by kernel_rfl) (by kernel_rfl) (by kernel_rfl) ?_ ?_ (by assumption) ?_
        rotate_left 2; (simp only [List.getElem?_toArray, List.getElem?_cons_succ, List.getElem?_cons_zero]; rfl)
        rotate_left; (first | (refine .inl ⟨by rfl, ?_⟩; intro w9 hS9; go_simp; try with_reducible rfl) | (refine .inr ⟨by rfl, ?_⟩; with_reducible rfl))
        rotate_left; (intro _ _ _ h9; exact h9)
        try simp only [Act.put, List.setIfInBounds_toArray, List.set_cons_zero, List.set_cons_succ]
        refine wpAnyH_done (by kernel_rfl) ?_ _
        clear x0 x1 x2 x3 x4 y0 y1 y2 y3 y4 hne p0 q0 p0r hd
        go_wp2_with fail
      · go_ret
        exact ⟨by rw [HXY.out] <;> rfl, below_go HX.out hS0⟩
      · exact ⟨⟨k + 1, by omega, by go_num, HXY.out, hS0⟩, by simp [intOf]; omega⟩
    · have hkn : ¬ (k : Int) < n := by omega
      have hf := Lib.hid (show cfSame xs ys t u = true by
        rw [cfSame_iff]
        have h := HSA.out
        rw [List.take_of_length_le (by rw [hl.out]; omega), List.take_of_length_le (by rw [kl.out]; omega)] at h
        exact ⟨HT.out, h⟩)
      clear p0 q0
      go_wp2_with fail
      go_ret
      exact ⟨by rw [hf.out] <;> rfl, below_go HX.out HBR.out⟩
end Go.Proofs.YteeocmkaecoeiaaDoor
