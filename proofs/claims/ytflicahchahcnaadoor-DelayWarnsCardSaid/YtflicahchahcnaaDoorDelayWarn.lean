/- The walk of DelayWarns. -/
import Derived.Test.YtflicahchahcnaaDoorDelayTabs
import Derived.Test.YtflicahchahcnaaDoorCfgFar
namespace Go.Proofs.YtflicahchahcnaaDoor
open Go.RowKit
set_option linter.unusedVariables false
set_option linter.unusedSimpArgs false

def lnSp (x : Ln) (j : Nat) : Int := match j with | 0 => x.s0 | 1 => x.s1 | _ => x.s2
def dlAt (x : Dl) (j : Nat) : Int := match j with | 0 => x.d0 | 1 => x.d1 | _ => x.d2
theorem dlAt_of (w : Int) (x : Ln) (j : Nat) : dlAt (ofD w x) j = ofN x.strike (lnSp x j) w := by unfold dlAt lnSp ofD; split <;> rfl
theorem warn_bd (f s w : Int) (hf : 2 ≤ f ∧ f ≤ 1000000) (hs : 1 ≤ s ∧ s ≤ 5000) (hw : 1 ≤ w ∧ w ≤ 6000) : 0 ≤ ofN f s w ∧ ofN f s w ≤ 1000000 := by
  refine ⟨ofN_nonneg f s w, ?_⟩
  unfold ofN
  rw [if_neg (by omega)]
  have := Int.ediv_le_self s (a := f) (by omega)
  omega
theorem warn_1 (f s w v : Int) (hf : 2 ≤ f ∧ f ≤ 1000000) (hs : 1 ≤ s ∧ s ≤ 5000) (hw : 1 ≤ w ∧ w ≤ 6000) (hv : 0 ≤ v ∧ v ≤ s) (h0 : ¬ ofN f s w = 0) : w * v ≤ f - ofN f s w * v := by
  have h1 : ofN f s w = f / s - w := by
    unfold ofN at *
    rw [if_neg (by omega)] at *
    omega
  rw [h1, Int.sub_mul]
  have h2 : f / s * v ≤ f / s * s := Int.mul_le_mul_of_nonneg_left hv.2 (Int.ediv_nonneg (by omega) (by omega))
  have h3 := Int.ediv_mul_le f (show s ≠ 0 by omega)
  omega
theorem warn_2 (f s w : Int) (hf : 2 ≤ f ∧ f ≤ 1000000) (hs : 1 ≤ s ∧ s ≤ 5000) (hw : 1 ≤ w ∧ w ≤ 6000) : f < (ofN f s w + w + 1) * s := by
  have h1 : f / s + 1 ≤ ofN f s w + w + 1 := by
    unfold ofN
    rw [if_neg (by omega)]
    omega
  have h2 : (f / s + 1) * s ≤ (ofN f s w + w + 1) * s := Int.mul_le_mul_of_nonneg_right h1 (by omega)
  have h3 := Int.lt_ediv_add_one_mul_self f (show 0 < s by omega)
  omega
theorem mul_bd (a b A B : Int) (ha : 0 ≤ a ∧ a ≤ A) (hb : 0 ≤ b ∧ b ≤ B) : 0 ≤ a * b ∧ a * b ≤ A * B := ⟨Int.mul_nonneg ha.1 hb.1, Int.le_trans (Int.mul_le_mul_of_nonneg_left hb.2 ha.1) (Int.mul_le_mul_of_nonneg_right ha.2 (by omega))⟩
theorem i64_bd {a : Int} (h : -9223372036854775808 ≤ a ∧ a ≤ 9223372036854775807) : IntKind.i64.wrap a = a := by rw [IntKind.wrap_i64]; omega
/-- What the last region wants to know, by numbers alone. -/
structure WarnF (d f s w v : Int) : Prop where
  e1 : IntKind.i64.wrap (d * v) = d * v
  e2 : IntKind.i64.wrap (f - d * v) = f - d * v
  e3 : IntKind.i64.wrap (w * v) = w * v
  e4 : IntKind.i64.wrap (d + w) = d + w
  e5 : IntKind.i64.wrap (d + w + 1) = d + w + 1
  e6 : IntKind.i64.wrap ((d + w + 1) * s) = (d + w + 1) * s
  nn : 0 ≤ d
  f1 : ¬ d = 0 → w * v ≤ f - d * v
  f2 : f < (d + w + 1) * s
theorem warnF (f s w v : Int) (hf : 2 ≤ f ∧ f ≤ 1000000) (hs : 1 ≤ s ∧ s ≤ 5000) (hw : 1 ≤ w ∧ w ≤ 6000) (hv : 0 ≤ v ∧ v ≤ s) : WarnF (ofN f s w) f s w v := by
  have hd := warn_bd f s w hf hs hw
  have m1 := mul_bd _ v 1000000 5000 hd (by omega)
  have m2 := mul_bd w v 6000 5000 (by omega) (by omega)
  have m3 := mul_bd (ofN f s w + w + 1) s 1006001 5000 (by omega) (by omega)
  exact ⟨i64_bd (by omega), i64_bd (by omega), i64_bd (by omega), i64_bd (by omega), i64_bd (by omega), i64_bd (by omega), hd.1, warn_1 f s w v hf hs hw hv, warn_2 f s w hf hs hw⟩
theorem tabOf_ok {ls : List Ln} {t : Tm} (h : cfOk ls t = true) : tabOf ls t = ls.map (ofD t.t9) := if_pos h
theorem tabOf_no {ls : List Ln} {t : Tm} (h : ¬ cfOk ls t = true) : tabOf ls t = [] := if_neg h
theorem lnOk_bd (x : Ln) (h : lnOk x = true) : (2 ≤ x.strike ∧ x.strike ≤ 1000000) ∧ (1 ≤ x.s0 ∧ x.s0 ≤ 5000) ∧ (1 ≤ x.s1 ∧ x.s1 ≤ 5000) ∧ (1 ≤ x.s2 ∧ x.s2 ≤ 5000) := by
  unfold lnOk btw at h
  simp at h
  omega
theorem cfOk_t9 {ls : List Ln} {t : Tm} (h : cfOk ls t = true) : 1 ≤ t.t9 ∧ t.t9 ≤ 6000 := by
  have b9 := cfOk_tm ls t h 9 (by omega)
  simpa only [Tm.get] using b9
set_option maxRecDepth 100000 in
set_option maxHeartbeats 16000000 in
theorem delayWarns_walk (a0 : Option Addr) (len0 cap0 : Nat) (t0 : Tm) (a1 : Int) (a2 : Int) (a3 : Int) (w : World) (w0 : IsLns w a0 len0 cap0) (w1 : (Lit.int .i64 a1).wf = true) (w2 : (Lit.int .i64 a2).wf = true) (w3 : (Lit.int .i64 a3).wf = true) (hg : HasTy w) :
    Calls Tryd.prog 5 #[cfv a0 len0 cap0 t0, .int .i64 a1, .int .i64 a2, .int .i64 a3] w fun e w' => e = .returned (.bool true) ∧ Below w.heap.size w w' := by
  have m0 := w0.bd
  have HG := Lib.hid hg
  have HW0 := Lib.hid w0
  have HC := Lib.hid (show CfBox _ w.heap.size a0 len0 cap0 t0 from heap_alloc_new w (.cells (cfa a0 len0 cap0 t0) 39))
  have HX := Lib.hid (below_st w (.cells (cfa a0 len0 cap0 t0) 39))
  clear w0 w1 w2 w3 hg
  go_enter Tryd.func5, Tryd.ntmps5
  go_wp2_with fail
  generalize w.alloc _ = W at *
  refine (l_small _ (HG.out.below HX.out)).mono ?_
  rintro e x1 ⟨rfl, hb⟩
  have B1 := Lib.hid (below_go HX.out hb)
  have hc : CfBox x1 w.heap.size a0 len0 cap0 t0 := HC.out.below hb
  have HC := Lib.hid hc
  obtain ⟨q0, q1, q2, q3, q4, q5, q6, q7, q8, q9, q10, _⟩ := cf_cell_all hc
  clear hb hc HX
  by_cases c8 : 8 < len0
  · go_wp2_with fail
    refine (d_table_far a0 len0 cap0 t0 _ c8 (by omega)).mono ?_
    rintro e x2 ⟨v2, u2, rfl, hown, _, he, hb⟩
    obtain ⟨A2, k2, rfl, _⟩ := hown.re (by simp)
    obtain ⟨tu, uu, rfl⟩ := he.isErr (by decide)
    have B2 := Lib.hid (below_go B1.out hb)
    have hc : CfBox x2 w.heap.size a0 len0 cap0 t0 := HC.out.below hb
    clear q0 q1 q2 q3 q4 q5 q6 q7 q8 q9 q10
    obtain ⟨q0, q1, q2, q3, q4, q5, q6, q7, q8, q9, q10, _⟩ := cf_cell_all hc
    clear hb hc hown he
    go_wp2_with fail
    go_ret
    exact ⟨rfl, B2.out⟩
  obtain ⟨xs, rx⟩ := HW0.out.re (by omega)
  have hl := Lib.hid rx.len
  have RX := Lib.hid rx
  clear rx
  go_wp2_with fail
  refine (d_table a0 len0 cap0 xs t0 _ (RX.out.below B1.out)).mono ?_
  rintro e x2 ⟨v2, u2, rfl, hown, _, he, hb⟩
  obtain ⟨A2, k2, rfl, r2, _⟩ := hown.re (tabOf_len xs t0 (by rw [hl.out]; omega))
  have B2 := Lib.hid (below_go B1.out hb)
  have hc : CfBox x2 w.heap.size a0 len0 cap0 t0 := HC.out.below hb
  clear q0 q1 q2 q3 q4 q5 q6 q7 q8 q9 q10
  obtain ⟨q0, q1, q2, q3, q4, q5, q6, q7, q8, q9, q10, _⟩ := cf_cell_all hc
  have HC := Lib.hid hc
  clear hb hc hown
  by_cases hok : cfOk xs t0 = true
  rotate_left
  · rw [cfErr_no hok] at he
    obtain ⟨tu, uu, rfl⟩ := he.isErr (by decide)
    rw [tabOf_no hok] at r2 ⊢
    clear hok he r2
    go_wp2_with fail
    go_ret
    exact ⟨rfl, B2.out⟩
  have hlen : (tabOf xs t0).length = len0 := by rw [tabOf_ok hok, List.length_map, hl.out]
  have OK := Lib.hid hok
  rw [cfErr_ok hok] at he
  obtain rfl := he.isNil
  rw [hlen] at r2 ⊢
  rw [tabOf_ok hok] at r2
  have R2 := Lib.hid r2
  clear hok he r2 hlen
  by_cases d1 : a1 < 0
  · go_wp2_with fail
    go_ret
    exact ⟨rfl, B2.out⟩
  by_cases d2 : (len0 : Int) ≤ a1
  · go_wp2_with fail
    go_ret
    exact ⟨rfl, B2.out⟩
  by_cases d3 : a2 < 0
  · go_wp2_with fail
    go_ret
    exact ⟨rfl, B2.out⟩
  by_cases d4 : 2 < a2
  · go_wp2_with fail
    go_ret
    exact ⟨rfl, B2.out⟩
  obtain ⟨k, rfl⟩ := Int.eq_ofNat_of_zero_le (show 0 ≤ a1 by omega)
  have hkl : k < xs.length := by rw [hl.out]; omega
  obtain ⟨b, off, rfl, hbl, _⟩ := RX.out.cells (by omega)
  obtain ⟨b2, off2, rfl, hbl2, _⟩ := R2.out.cells (by omega)
  have he := (RX.out.below B2.out).elem lnc_len k hkl
  have hf := R2.out.elem dlc_len k (by rw [List.length_map]; exact hkl)
  rw [List.getElem_map] at hf
  have hx := lnOk_bd _ (cfOk_ln xs t0 OK.out xs[k] (List.getElem_mem hkl))
  have h9 := cfOk_t9 OK.out
  generalize xs[k] = x at he hf hx
  obtain ⟨st, sg, s0, s1, s2⟩ := x
  simp only at hx
  obtain ⟨hst, hs0, hs1, hs2⟩ := hx
  have W0 := Lib.hid (fun hv => warnF st s0 t0.t9 a3 hst hs0 h9 hv)
  have W1 := Lib.hid (fun hv => warnF st s1 t0.t9 a3 hst hs1 h9 hv)
  have W2 := Lib.hid (fun hv => warnF st s2 t0.t9 a3 hst hs2 h9 hv)
  have N0 := Lib.hid (ofN_nonneg st s0 t0.t9)
  have N1 := Lib.hid (ofN_nonneg st s1 t0.t9)
  have N2 := Lib.hid (ofN_nonneg st s2 t0.t9)
  have hfc := dl_cells x2 b2 _ _ hf hbl2
  have hec := ln_cells x2 b _ _ he (Nat.lt_of_lt_of_le hbl B2.out.size)
  simp only [ofD] at hfc hec
  obtain ⟨l0, l1, l2, l3, l4⟩ := hec x2 (Below.refl _ _)
  clear he hf hec hst hs0 hs1 hs2 hkl
  have HY := Lib.hid (show LnBlk (x2.alloc _) x2.heap.size ⟨st, sg, s0, s1, s2⟩ from heap_alloc_new x2 _)
  have HZ := Lib.hid (below_st x2 (.cells #[.int .i64 st, .int .i64 sg, .int .i64 s0, .int .i64 s1, .int .i64 s2] 34))
  have HF := Lib.hid hfc
  clear hfc
  go_upto_region 6 with fail
  generalize x2.alloc _ = x3 at *
  have B3 := Lib.hid (below_go B2.out HZ.out)
  have hcf := CfBox.below HC.out HZ.out
  have hyt : ∀ w', Below x3.heap.size x3 w' → w'.cell? ⟨w.heap.size, 10, none⟩ = some (.int .i64 t0.t9) := fun w' h => (cf_cell_all (CfBox.below hcf h)).2.2.2.2.2.2.2.2.2.2.1
  have hys : ∀ w', Below x3.heap.size x3 w' → w'.cell? ⟨x2.heap.size, 0, none⟩ = some (.int .i64 st) := fun w' h => (HY.out.cells w' h).1
  have hy0 : ∀ w', Below x3.heap.size x3 w' → w'.cell? ⟨x2.heap.size, 2, none⟩ = some (.int .i64 s0) := fun w' h => (HY.out.cells w' h).2.2.1
  have hy1 : ∀ w', Below x3.heap.size x3 w' → w'.cell? ⟨x2.heap.size, 3, none⟩ = some (.int .i64 s1) := fun w' h => (HY.out.cells w' h).2.2.2.1
  have hy2 : ∀ w', Below x3.heap.size x3 w' → w'.cell? ⟨x2.heap.size, 4, none⟩ = some (.int .i64 s2) := fun w' h => (HY.out.cells w' h).2.2.2.2
  have YT := Lib.hid hyt
  have YS := Lib.hid hys
  have Y0 := Lib.hid hy0
  have Y1 := Lib.hid hy1
  have Y2 := Lib.hid hy2
  obtain ⟨f0, f1, f2⟩ := HF.out x3 HZ.out
  clear hcf hyt hys hy0 hy1 hy2 HF HY HC l0 l1 l2 l3 l4
  clear q0 q1 q2 q3 q4 q5 q6 q7 q8 q9 q10
  rcases (by omega : a2 = 0 ∨ a2 = 1 ∨ a2 = 2) with rfl | rfl | rfl
  case' inl =>
    have HW := W0
    have HN := N0
    have HS := Y0
    clear W0 W1 W2 N0 N1 N2 f1 f2 Y0 Y1 Y2
    generalize ofN st s0 t0.t9 = d at *
    generalize s0 = s at *
  case' inr.inl =>
    have HW := W1
    have HN := N1
    have HS := Y1
    clear W0 W1 W2 N0 N1 N2 f0 f2 Y0 Y1 Y2
    generalize ofN st s1 t0.t9 = d at *
    generalize s1 = s at *
  case' inr.inr =>
    have HW := W2
    have HN := N2
    have HS := Y2
    clear W0 W1 W2 N0 N1 N2 f0 f1 Y0 Y1 Y2
    generalize ofN st s2 t0.t9 = d at *
    generalize s2 = s at *
  all_goals
    have y0 := HS.out x3 (Below.refl _ _)
    have nn := HN.out
    by_cases v1 : a3 < 0
    · go_wp2_with fail
      go_ret
      exact ⟨rfl, B3.out⟩
    by_cases v2 : s < a3
    · go_wp2_with fail
      go_ret
      exact ⟨rfl, B3.out⟩
    obtain ⟨e1, e2, e3, e4, e5, e6, _, g1, g2⟩ := HW.out ⟨by omega, by omega⟩
    have G1 := Lib.hid g1
    clear g1
    go_upto_region 9 with fail
    clear y0
    have y0 := HS.out
    have y1 := YT.out
    have y2 := YS.out
    have hS0 : Below x3.heap.size x3 x3.drew := ⟨rfl, rfl, rfl, Nat.le_refl _, fun _ _ => rfl⟩
    by_cases hd0 : d = 0
    case' pos => have q0 : (d == 0) = true := by rw [beq_iff_eq]; exact hd0
    case' neg => have q0 : (d == 0) = false := by rw [beq_eq_false_iff_ne]; exact hd0
    case' neg => have g1 := G1.out hd0
    all_goals
      clear hd0
      refine wp_region_held (S := fun w' => Below x3.heap.size x3 w') (by kernel_rfl) ?_
      change wpAnyH _ _ _ _ _ _ _ _ x3.drew
      change wpAnyH _ _ _ _ _ 40 (Array.replicate 40 false) _ _
      refine wpAnyH_take (i := 0) (oi := ?_) (v := ?_) ?_ (by kernel_rfl) (by kernel_rfl) (by kernel_rfl) ?_ ?_ (by assumption) ?_
      rotate_left 2; (simp only [List.getElem?_toArray, List.getElem?_cons_succ, List.getElem?_cons_zero]; rfl)
      rotate_left; (first | (refine .inl ⟨by rfl, ?_⟩; intro w9 hS9; go_simp; try with_reducible rfl) | (refine .inr ⟨by rfl, ?_⟩; with_reducible rfl))
      rotate_left; (intro _ _ _ h9; exact h9)
      try simp only [Act.put, List.setIfInBounds_toArray, List.set_cons_zero, List.set_cons_succ]
      refine wpAnyH_take (i := 1) (oi := ?_) (v := ?_) ?_ (by kernel_rfl) (by kernel_rfl) (by kernel_rfl) ?_ ?_ (by assumption) ?_
      rotate_left 2; (simp only [List.getElem?_toArray, List.getElem?_cons_succ, List.getElem?_cons_zero]; rfl)
      rotate_left; (first | (refine .inl ⟨by rfl, ?_⟩; intro w9 hS9; go_simp; try with_reducible rfl) | (refine .inr ⟨by rfl, ?_⟩; with_reducible rfl))
      rotate_left; (intro _ _ _ h9; exact h9)
      try simp only [Act.put, List.setIfInBounds_toArray, List.set_cons_zero, List.set_cons_succ]
      refine wpAnyH_take (i := 2) (oi := ?_) (v := ?_) ?_ (by kernel_rfl) (by kernel_rfl) (by kernel_rfl) ?_ ?_ (by assumption) ?_
      rotate_left 2; (simp only [List.getElem?_toArray, List.getElem?_cons_succ, List.getElem?_cons_zero]; rfl)
      rotate_left; (first | (refine .inl ⟨by rfl, ?_⟩; intro w9 hS9; go_simp; try with_reducible rfl) | (refine .inr ⟨by rfl, ?_⟩; with_reducible rfl))
      rotate_left; (intro _ _ _ h9; exact h9)
      try simp only [Act.put, List.setIfInBounds_toArray, List.set_cons_zero, List.set_cons_succ]
      refine wpAnyH_take (i := 3) (oi := ?_) (v := ?_) ?_ (by kernel_rfl) (by kernel_rfl) (by kernel_rfl) ?_ ?_ (by assumption) ?_
      rotate_left 2; (simp only [List.getElem?_toArray, List.getElem?_cons_succ, List.getElem?_cons_zero]; rfl)
      rotate_left; (first | (refine .inl ⟨by rfl, ?_⟩; intro w9 hS9; go_simp; try with_reducible rfl) | (refine .inr ⟨by rfl, ?_⟩; with_reducible rfl))
      rotate_left; (intro _ _ _ h9; exact h9)
      try simp only [Act.put, List.setIfInBounds_toArray, List.set_cons_zero, List.set_cons_succ]
      refine wpAnyH_take (i := 4) (oi := ?_) (v := ?_) ?_ (by kernel_rfl) (by kernel_rfl) (by kernel_rfl) ?_ ?_ (by assumption) ?_
      rotate_left 2; (simp only [List.getElem?_toArray, List.getElem?_cons_succ, List.getElem?_cons_zero]; rfl)
      rotate_left; (first | (refine .inl ⟨by rfl, ?_⟩; intro w9 hS9; go_simp; try with_reducible rfl) | (refine .inr ⟨by rfl, ?_⟩; with_reducible rfl))
      rotate_left; (intro _ _ _ h9; exact h9)
      try simp only [Act.put, List.setIfInBounds_toArray, List.set_cons_zero, List.set_cons_succ]
      refine wpAnyH_take (i := 5) (oi := ?_) (v := ?_) ?_ (by kernel_rfl) (by kernel_rfl) (by kernel_rfl) ?_ ?_ (by assumption) ?_
      rotate_left 2; (simp only [List.getElem?_toArray, List.getElem?_cons_succ, List.getElem?_cons_zero]; rfl)
      rotate_left; (first | (refine .inl ⟨by rfl, ?_⟩; intro w9 hS9; go_simp; try with_reducible rfl) | (refine .inr ⟨by rfl, ?_⟩; with_reducible rfl))
      rotate_left; (intro _ _ _ h9; exact h9)
      try simp only [Act.put, List.setIfInBounds_toArray, List.set_cons_zero, List.set_cons_succ]
      refine wpAnyH_take (i := 6) (oi := ?_) (v := ?_) ?_ (by kernel_rfl) (by kernel_rfl) (by kernel_rfl) ?_ ?_ (by assumption) ?_
      rotate_left 2; (simp only [List.getElem?_toArray, List.getElem?_cons_succ, List.getElem?_cons_zero]; rfl)
      rotate_left; (first | (refine .inl ⟨by rfl, ?_⟩; intro w9 hS9; go_simp; try with_reducible rfl) | (refine .inr ⟨by rfl, ?_⟩; with_reducible rfl))
      rotate_left; (intro _ _ _ h9; exact h9)
      try simp only [Act.put, List.setIfInBounds_toArray, List.set_cons_zero, List.set_cons_succ]
      refine wpAnyH_take (i := 7) (oi := ?_) (v := ?_) ?_ (by kernel_rfl) (by kernel_rfl) (by kernel_rfl) ?_ ?_ (by assumption) ?_
      rotate_left 2; (simp only [List.getElem?_toArray, List.getElem?_cons_succ, List.getElem?_cons_zero]; rfl)
      rotate_left; (first | (refine .inl ⟨by rfl, ?_⟩; intro w9 hS9; go_simp; try with_reducible rfl) | (refine .inr ⟨by rfl, ?_⟩; with_reducible rfl))
      rotate_left; (intro _ _ _ h9; exact h9)
      try simp only [Act.put, List.setIfInBounds_toArray, List.set_cons_zero, List.set_cons_succ]
      refine wpAnyH_take (i := 8) (oi := ?_) (v := ?_) ?_ (by kernel_rfl) (by kernel_rfl) (by kernel_rfl) ?_ ?_ (by assumption) ?_
      rotate_left 2; (simp only [List.getElem?_toArray, List.getElem?_cons_succ, List.getElem?_cons_zero]; rfl)
      rotate_left; (first | (refine .inl ⟨by rfl, ?_⟩; intro w9 hS9; go_simp; try with_reducible rfl) | (refine .inr ⟨by rfl, ?_⟩; with_reducible rfl))
      rotate_left; (intro _ _ _ h9; exact h9)
      try simp only [Act.put, List.setIfInBounds_toArray, List.set_cons_zero, List.set_cons_succ]
      refine wpAnyH_take (i := 9) (oi := ?_) (v := ?_) ?_ (by kernel_rfl) (by kernel_rfl) (by kernel_rfl) ?_ ?_ (by assumption) ?_
      rotate_left 2; (simp only [List.getElem?_toArray, List.getElem?_cons_succ, List.getElem?_cons_zero]; rfl)
      rotate_left; (first | (refine .inl ⟨by rfl, ?_⟩; intro w9 hS9; go_simp; try with_reducible rfl) | (refine .inr ⟨by rfl, ?_⟩; with_reducible rfl))
      rotate_left; (intro _ _ _ h9; exact h9)
      try simp only [Act.put, List.setIfInBounds_toArray, List.set_cons_zero, List.set_cons_succ]
      refine wpAnyH_take (i := 10) (oi := ?_) (v := ?_) ?_ (by kernel_rfl) (by kernel_rfl) (by kernel_rfl) ?_ ?_ (by assumption) ?_
      rotate_left 2; (simp only [List.getElem?_toArray, List.getElem?_cons_succ, List.getElem?_cons_zero]; rfl)
      rotate_left; (first | (refine .inl ⟨by rfl, ?_⟩; intro w9 hS9; go_simp; try with_reducible rfl) | (refine .inr ⟨by rfl, ?_⟩; with_reducible rfl))
      rotate_left; (intro _ _ _ h9; exact h9)
      try simp only [Act.put, List.setIfInBounds_toArray, List.set_cons_zero, List.set_cons_succ]
      refine wpAnyH_take (i := 11) (oi := ?_) (v := ?_) ?_ (by kernel_rfl) (by kernel_rfl) (by kernel_rfl) ?_ ?_ (by assumption) ?_
      rotate_left 2; (simp only [List.getElem?_toArray, List.getElem?_cons_succ, List.getElem?_cons_zero]; rfl)
      rotate_left; (first | (refine .inl ⟨by rfl, ?_⟩; intro w9 hS9; go_simp; try with_reducible rfl) | (refine .inr ⟨by rfl, ?_⟩; with_reducible rfl))
      rotate_left; (intro _ _ _ h9; exact h9)
      try simp only [Act.put, List.setIfInBounds_toArray, List.set_cons_zero, List.set_cons_succ]
      refine wpAnyH_take (i := 12) (oi := ?_) (v := ?_) ?_ (by kernel_rfl) (by kernel_rfl) (by kernel_rfl) ?_ ?_ (by assumption) ?_
      rotate_left 2; (simp only [List.getElem?_toArray, List.getElem?_cons_succ, List.getElem?_cons_zero]; rfl)
      rotate_left; (first | (refine .inl ⟨by rfl, ?_⟩; intro w9 hS9; go_simp; try with_reducible rfl) | (refine .inr ⟨by rfl, ?_⟩; with_reducible rfl))
      rotate_left; (intro _ _ _ h9; exact h9)
      try simp only [Act.put, List.setIfInBounds_toArray, List.set_cons_zero, List.set_cons_succ]
      refine wpAnyH_take (i := 13) (oi := ?_) (v := ?_) ?_ (by kernel_rfl) (by kernel_rfl) (by kernel_rfl) ?_ ?_ (by assumption) ?_
      rotate_left 2; (simp only [List.getElem?_toArray, List.getElem?_cons_succ, List.getElem?_cons_zero]; rfl)
      rotate_left; (first | (refine .inl ⟨by rfl, ?_⟩; intro w9 hS9; go_simp; try with_reducible rfl) | (refine .inr ⟨by rfl, ?_⟩; with_reducible rfl))
      rotate_left; (intro _ _ _ h9; exact h9)
      try simp only [Act.put, List.setIfInBounds_toArray, List.set_cons_zero, List.set_cons_succ]
      refine wpAnyH_take (i := 14) (oi := ?_) (v := ?_) ?_ (by kernel_rfl) (by kernel_rfl) (by kernel_rfl) ?_ ?_ (by assumption) ?_
      rotate_left 2; (simp only [List.getElem?_toArray, List.getElem?_cons_succ, List.getElem?_cons_zero]; rfl)
      rotate_left; (first | (refine .inl ⟨by rfl, ?_⟩; intro w9 hS9; go_simp; try with_reducible rfl) | (refine .inr ⟨by rfl, ?_⟩; with_reducible rfl))
      rotate_left; (intro _ _ _ h9; exact h9)
      try simp only [Act.put, List.setIfInBounds_toArray, List.set_cons_zero, List.set_cons_succ]
      refine wpAnyH_take (i := 15) (oi := ?_) (v := ?_) ?_ (by kernel_rfl) (by kernel_rfl) (by kernel_rfl) ?_ ?_ (by assumption) ?_
      rotate_left 2; (simp only [List.getElem?_toArray, List.getElem?_cons_succ, List.getElem?_cons_zero]; rfl)
      rotate_left; (first | (refine .inl ⟨by rfl, ?_⟩; intro w9 hS9; go_simp; try with_reducible rfl) | (refine .inr ⟨by rfl, ?_⟩; with_reducible rfl))
      rotate_left; (intro _ _ _ h9; exact h9)
      try simp only [Act.put, List.setIfInBounds_toArray, List.set_cons_zero, List.set_cons_succ]
      refine wpAnyH_take (i := 16) (oi := ?_) (v := ?_) ?_ (by kernel_rfl) (by kernel_rfl) (by kernel_rfl) ?_ ?_ (by assumption) ?_
      rotate_left 2; (simp only [List.getElem?_toArray, List.getElem?_cons_succ, List.getElem?_cons_zero]; rfl)
      rotate_left; (first | (refine .inl ⟨by rfl, ?_⟩; intro w9 hS9; go_simp; try with_reducible rfl) | (refine .inr ⟨by rfl, ?_⟩; with_reducible rfl))
      rotate_left; (intro _ _ _ h9; exact h9)
      try simp only [Act.put, List.setIfInBounds_toArray, List.set_cons_zero, List.set_cons_succ]
      refine wpAnyH_take (i := 17) (oi := ?_) (v := ?_) ?_ (by kernel_rfl) (by kernel_rfl) (by kernel_rfl) ?_ ?_ (by assumption) ?_
      rotate_left 2; (simp only [List.getElem?_toArray, List.getElem?_cons_succ, List.getElem?_cons_zero]; rfl)
      rotate_left; (first | (refine .inl ⟨by rfl, ?_⟩; intro w9 hS9; go_simp; try with_reducible rfl) | (refine .inr ⟨by rfl, ?_⟩; with_reducible rfl))
      rotate_left; (intro _ _ _ h9; exact h9)
      try simp only [Act.put, List.setIfInBounds_toArray, List.set_cons_zero, List.set_cons_succ]
      refine wpAnyH_take (i := 18) (oi := ?_) (v := ?_) ?_ (by kernel_rfl) (by kernel_rfl) (by kernel_rfl) ?_ ?_ (by assumption) ?_
      rotate_left 2; (simp only [List.getElem?_toArray, List.getElem?_cons_succ, List.getElem?_cons_zero]; rfl)
      rotate_left; (first | (refine .inl ⟨by rfl, ?_⟩; intro w9 hS9; go_simp; try with_reducible rfl) | (refine .inr ⟨by rfl, ?_⟩; with_reducible rfl))
      rotate_left; (intro _ _ _ h9; exact h9)
      try simp only [Act.put, List.setIfInBounds_toArray, List.set_cons_zero, List.set_cons_succ]
      refine wpAnyH_take (i := 19) (oi := ?_) (v := ?_) ?_ (by kernel_rfl) (by kernel_rfl) (by kernel_rfl) ?_ ?_ (by assumption) ?_
      rotate_left 2; (simp only [List.getElem?_toArray, List.getElem?_cons_succ, List.getElem?_cons_zero]; rfl)
      rotate_left; (first | (refine .inl ⟨by rfl, ?_⟩; intro w9 hS9; go_simp; try with_reducible rfl) | (refine .inr ⟨by rfl, ?_⟩; with_reducible rfl))
      rotate_left; (intro _ _ _ h9; exact h9)
      try simp only [Act.put, List.setIfInBounds_toArray, List.set_cons_zero, List.set_cons_succ]
      refine wpAnyH_take (i := 20) (oi := ?_) (v := ?_) ?_ (by kernel_rfl) (by kernel_rfl) (by kernel_rfl) ?_ ?_ (by assumption) ?_
      rotate_left 2; (simp only [List.getElem?_toArray, List.getElem?_cons_succ, List.getElem?_cons_zero]; rfl)
      rotate_left; (first | (refine .inl ⟨by rfl, ?_⟩; intro w9 hS9; go_simp; try with_reducible rfl) | (refine .inr ⟨by rfl, ?_⟩; with_reducible rfl))
      rotate_left; (intro _ _ _ h9; exact h9)
      try simp only [Act.put, List.setIfInBounds_toArray, List.set_cons_zero, List.set_cons_succ]
      refine wpAnyH_take (i := 21) (oi := ?_) (v := ?_) ?_ (by kernel_rfl) (by kernel_rfl) (by kernel_rfl) ?_ ?_ (by assumption) ?_
      rotate_left 2; (simp only [List.getElem?_toArray, List.getElem?_cons_succ, List.getElem?_cons_zero]; rfl)
      rotate_left; (first | (refine .inl ⟨by rfl, ?_⟩; intro w9 hS9; go_simp; try with_reducible rfl) | (refine .inr ⟨by rfl, ?_⟩; with_reducible rfl))
      rotate_left; (intro _ _ _ h9; exact h9)
      try simp only [Act.put, List.setIfInBounds_toArray, List.set_cons_zero, List.set_cons_succ]
      refine wpAnyH_take (i := 22) (oi := ?_) (v := ?_) ?_ (by kernel_rfl) (by kernel_rfl) (by kernel_rfl) ?_ ?_ (by assumption) ?_
      rotate_left 2; (simp only [List.getElem?_toArray, List.getElem?_cons_succ, List.getElem?_cons_zero]; rfl)
      rotate_left; (first | (refine .inl ⟨by rfl, ?_⟩; intro w9 hS9; go_simp; try with_reducible rfl) | (refine .inr ⟨by rfl, ?_⟩; with_reducible rfl))
      rotate_left; (intro _ _ _ h9; exact h9)
      try simp only [Act.put, List.setIfInBounds_toArray, List.set_cons_zero, List.set_cons_succ]
      refine wpAnyH_take (i := 23) (oi := ?_) (v := ?_) ?_ (by kernel_rfl) (by kernel_rfl) (by kernel_rfl) ?_ ?_ (by assumption) ?_
      rotate_left 2; (simp only [List.getElem?_toArray, List.getElem?_cons_succ, List.getElem?_cons_zero]; rfl)
      rotate_left; (first | (refine .inl ⟨by rfl, ?_⟩; intro w9 hS9; go_simp; try with_reducible rfl) | (refine .inr ⟨by rfl, ?_⟩; with_reducible rfl))
      rotate_left; (intro _ _ _ h9; exact h9)
      try simp only [Act.put, List.setIfInBounds_toArray, List.set_cons_zero, List.set_cons_succ]
      refine wpAnyH_take (i := 24) (oi := ?_) (v := ?_) ?_ (by kernel_rfl) (by kernel_rfl) (by kernel_rfl) ?_ ?_ (by assumption) ?_
      rotate_left 2; (simp only [List.getElem?_toArray, List.getElem?_cons_succ, List.getElem?_cons_zero]; rfl)
      rotate_left; (first | (refine .inl ⟨by rfl, ?_⟩; intro w9 hS9; go_simp; try with_reducible rfl) | (refine .inr ⟨by rfl, ?_⟩; with_reducible rfl))
      rotate_left; (intro _ _ _ h9; exact h9)
      try simp only [Act.put, List.setIfInBounds_toArray, List.set_cons_zero, List.set_cons_succ]
      refine wpAnyH_take (i := 25) (oi := ?_) (v := ?_) ?_ (by kernel_rfl) (by kernel_rfl) (by kernel_rfl) ?_ ?_ (by assumption) ?_
      rotate_left 2; (simp only [List.getElem?_toArray, List.getElem?_cons_succ, List.getElem?_cons_zero]; rfl)
      rotate_left; (first | (refine .inl ⟨by rfl, ?_⟩; intro w9 hS9; go_simp; try with_reducible rfl) | (refine .inr ⟨by rfl, ?_⟩; with_reducible rfl))
      rotate_left; (intro _ _ _ h9; exact h9)
      try simp only [Act.put, List.setIfInBounds_toArray, List.set_cons_zero, List.set_cons_succ]
      refine wpAnyH_take (i := 26) (oi := ?_) (v := ?_) ?_ (by kernel_rfl) (by kernel_rfl) (by kernel_rfl) ?_ ?_ (by assumption) ?_
      rotate_left 2; (simp only [List.getElem?_toArray, List.getElem?_cons_succ, List.getElem?_cons_zero]; rfl)
      rotate_left; (first | (refine .inl ⟨by rfl, ?_⟩; intro w9 hS9; go_simp; try with_reducible rfl) | (refine .inr ⟨by rfl, ?_⟩; with_reducible rfl))
      rotate_left; (intro _ _ _ h9; exact h9)
      try simp only [Act.put, List.setIfInBounds_toArray, List.set_cons_zero, List.set_cons_succ]
      refine wpAnyH_take (i := 27) (oi := ?_) (v := ?_) ?_ (by kernel_rfl) (by kernel_rfl) (by kernel_rfl) ?_ ?_ (by assumption) ?_
      rotate_left 2; (simp only [List.getElem?_toArray, List.getElem?_cons_succ, List.getElem?_cons_zero]; rfl)
      rotate_left; (first | (refine .inl ⟨by rfl, ?_⟩; intro w9 hS9; go_simp; try with_reducible rfl) | (refine .inr ⟨by rfl, ?_⟩; with_reducible rfl))
      rotate_left; (intro _ _ _ h9; exact h9)
      try simp only [Act.put, List.setIfInBounds_toArray, List.set_cons_zero, List.set_cons_succ]
      refine wpAnyH_take (i := 28) (oi := ?_) (v := ?_) ?_ (by kernel_rfl) (by kernel_rfl) (by kernel_rfl) ?_ ?_ (by assumption) ?_
      rotate_left 2; (simp only [List.getElem?_toArray, List.getElem?_cons_succ, List.getElem?_cons_zero]; rfl)
      rotate_left; (first | (refine .inl ⟨by rfl, ?_⟩; intro w9 hS9; go_simp; try with_reducible rfl) | (refine .inr ⟨by rfl, ?_⟩; with_reducible rfl))
      rotate_left; (intro _ _ _ h9; exact h9)
      try simp only [Act.put, List.setIfInBounds_toArray, List.set_cons_zero, List.set_cons_succ]
      refine wpAnyH_take (i := 29) (oi := ?_) (v := ?_) ?_ (by kernel_rfl) (by kernel_rfl) (by kernel_rfl) ?_ ?_ (by assumption) ?_
      rotate_left 2; (simp only [List.getElem?_toArray, List.getElem?_cons_succ, List.getElem?_cons_zero]; rfl)
      rotate_left; (first | (refine .inl ⟨by rfl, ?_⟩; intro w9 hS9; go_simp; try with_reducible rfl) | (refine .inr ⟨by rfl, ?_⟩; with_reducible rfl))
      rotate_left; (intro _ _ _ h9; exact h9)
      try simp only [Act.put, List.setIfInBounds_toArray, List.set_cons_zero, List.set_cons_succ]
      refine wpAnyH_take (i := 30) (oi := ?_) (v := ?_) ?_ (by kernel_rfl) (by kernel_rfl) (by kernel_rfl) ?_ ?_ (by assumption) ?_
      rotate_left 2; (simp only [List.getElem?_toArray, List.getElem?_cons_succ, List.getElem?_cons_zero]; rfl)
      rotate_left; (first | (refine .inl ⟨by rfl, ?_⟩; intro w9 hS9; go_simp; try with_reducible rfl) | (refine .inr ⟨by rfl, ?_⟩; with_reducible rfl))
      rotate_left; (intro _ _ _ h9; exact h9)
      try simp only [Act.put, List.setIfInBounds_toArray, List.set_cons_zero, List.set_cons_succ]
      refine wpAnyH_take (i := 31) (oi := ?_) (v := ?_) ?_ (by kernel_rfl) (by kernel_rfl) (by kernel_rfl) ?_ ?_ (by assumption) ?_
      rotate_left 2; (simp only [List.getElem?_toArray, List.getElem?_cons_succ, List.getElem?_cons_zero]; rfl)
      rotate_left; (first | (refine .inl ⟨by rfl, ?_⟩; intro w9 hS9; go_simp; try with_reducible rfl) | (refine .inr ⟨by rfl, ?_⟩; with_reducible rfl))
      rotate_left; (intro _ _ _ h9; exact h9)
      try simp only [Act.put, List.setIfInBounds_toArray, List.set_cons_zero, List.set_cons_succ]
      refine wpAnyH_take (i := 32) (oi := ?_) (v := ?_) ?_ (by kernel_rfl) (by kernel_rfl) (by kernel_rfl) ?_ ?_ (by assumption) ?_
      rotate_left 2; (simp only [List.getElem?_toArray, List.getElem?_cons_succ, List.getElem?_cons_zero]; rfl)
      rotate_left; (first | (refine .inl ⟨by rfl, ?_⟩; intro w9 hS9; go_simp; try with_reducible rfl) | (refine .inr ⟨by rfl, ?_⟩; with_reducible rfl))
      rotate_left; (intro _ _ _ h9; exact h9)
      try simp only [Act.put, List.setIfInBounds_toArray, List.set_cons_zero, List.set_cons_succ]
      refine wpAnyH_take (i := 33) (oi := ?_) (v := ?_) ?_ (by kernel_rfl) (by kernel_rfl) (by kernel_rfl) ?_ ?_ (by assumption) ?_
      rotate_left 2; (simp only [List.getElem?_toArray, List.getElem?_cons_succ, List.getElem?_cons_zero]; rfl)
      rotate_left; (first | (refine .inl ⟨by rfl, ?_⟩; intro w9 hS9; go_simp; try with_reducible rfl) | (refine .inr ⟨by rfl, ?_⟩; with_reducible rfl))
      rotate_left; (intro _ _ _ h9; exact h9)
      try simp only [Act.put, List.setIfInBounds_toArray, List.set_cons_zero, List.set_cons_succ]
      refine wpAnyH_take (i := 34) (oi := ?_) (v := ?_) ?_ (by kernel_rfl) (by kernel_rfl) (by kernel_rfl) ?_ ?_ (by assumption) ?_
      rotate_left 2; (simp only [List.getElem?_toArray, List.getElem?_cons_succ, List.getElem?_cons_zero]; rfl)
      rotate_left; (first | (refine .inl ⟨by rfl, ?_⟩; intro w9 hS9; go_simp; try with_reducible rfl) | (refine .inr ⟨by rfl, ?_⟩; with_reducible rfl))
      rotate_left; (intro _ _ _ h9; exact h9)
      try simp only [Act.put, List.setIfInBounds_toArray, List.set_cons_zero, List.set_cons_succ]
      refine wpAnyH_take (i := 35) (oi := ?_) (v := ?_) ?_ (by kernel_rfl) (by kernel_rfl) (by kernel_rfl) ?_ ?_ (by assumption) ?_
      rotate_left 2; (simp only [List.getElem?_toArray, List.getElem?_cons_succ, List.getElem?_cons_zero]; rfl)
      rotate_left; (first | (refine .inl ⟨by rfl, ?_⟩; intro w9 hS9; go_simp; try with_reducible rfl) | (refine .inr ⟨by rfl, ?_⟩; with_reducible rfl))
      rotate_left; (intro _ _ _ h9; exact h9)
      try simp only [Act.put, List.setIfInBounds_toArray, List.set_cons_zero, List.set_cons_succ]
      refine wpAnyH_take (i := 36) (oi := ?_) (v := ?_) ?_ (by kernel_rfl) (by kernel_rfl) (by kernel_rfl) ?_ ?_ (by assumption) ?_
      rotate_left 2; (simp only [List.getElem?_toArray, List.getElem?_cons_succ, List.getElem?_cons_zero]; rfl)
      rotate_left; (first | (refine .inl ⟨by rfl, ?_⟩; intro w9 hS9; go_simp; try with_reducible rfl) | (refine .inr ⟨by rfl, ?_⟩; with_reducible rfl))
      rotate_left; (intro _ _ _ h9; exact h9)
      try simp only [Act.put, List.setIfInBounds_toArray, List.set_cons_zero, List.set_cons_succ]
      refine wpAnyH_take (i := 37) (oi := ?_) (v := ?_) ?_ (by kernel_rfl) (by kernel_rfl) (by kernel_rfl) ?_ ?_ (by assumption) ?_
      rotate_left 2; (simp only [List.getElem?_toArray, List.getElem?_cons_succ, List.getElem?_cons_zero]; rfl)
      rotate_left; (first | (refine .inl ⟨by rfl, ?_⟩; intro w9 hS9; go_simp; try with_reducible rfl) | (refine .inr ⟨by rfl, ?_⟩; with_reducible rfl))
      rotate_left; (intro _ _ _ h9; exact h9)
      try simp only [Act.put, List.setIfInBounds_toArray, List.set_cons_zero, List.set_cons_succ]
      refine wpAnyH_take (i := 38) (oi := ?_) (v := ?_) ?_ (by kernel_rfl) (by kernel_rfl) (by kernel_rfl) ?_ ?_ (by assumption) ?_
      rotate_left 2; (simp only [List.getElem?_toArray, List.getElem?_cons_succ, List.getElem?_cons_zero]; rfl)
      rotate_left; (first | (refine .inl ⟨by rfl, ?_⟩; intro w9 hS9; go_simp; try with_reducible rfl) | (refine .inr ⟨by rfl, ?_⟩; with_reducible rfl))
      rotate_left; (intro _ _ _ h9; exact h9)
      try simp only [Act.put, List.setIfInBounds_toArray, List.set_cons_zero, List.set_cons_succ]
      refine wpAnyH_take (i := 39) (oi := ?_) (v := ?_) ?_ (by kernel_rfl) (by kernel_rfl) (by kernel_rfl) ?_ ?_ (by assumption) ?_
      rotate_left 2; (simp only [List.getElem?_toArray, List.getElem?_cons_succ, List.getElem?_cons_zero]; rfl)
      rotate_left; (first | (refine .inl ⟨by rfl, ?_⟩; intro w9 hS9; go_simp; try with_reducible rfl) | (refine .inr ⟨by rfl, ?_⟩; with_reducible rfl))
      rotate_left; (intro _ _ _ h9; exact h9)
      try simp only [Act.put, List.setIfInBounds_toArray, List.set_cons_zero, List.set_cons_succ]
      refine wpAnyH_done (by kernel_rfl) ?_ _
      clear y0 y1 y2
      go_wp2_with fail
      go_ret
      exact ⟨rfl, below_go B3.out hS0⟩
end Go.Proofs.YtflicahchahcnaaDoor
