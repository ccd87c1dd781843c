/- The walk of DelayBounds. -/
import Derived.Test.YtflicahchahcnaaDoorDelayReck
import Derived.Test.YtflicahchahcnaaDoorCfgArgs
namespace Go.Proofs.YtflicahchahcnaaDoor
open Go.RowKit
set_option linter.unusedVariables false
set_option linter.unusedSimpArgs false

theorem cfErr_ok {ls : List Ln} {t : Tm} (h : cfOk ls t = true) : cfErr ls t = 0 := if_pos h
theorem cfErr_no {ls : List Ln} {t : Tm} (h : ¬ cfOk ls t = true) : cfErr ls t = 6 := if_neg h
theorem bndOf_ok {ls : List Ln} {t : Tm} (h : cfOk ls t = true) : bndOf ls t = t.t8 + 2 * t.t7 + t.t3 + 8 := if_pos h
theorem bndOf_no {ls : List Ln} {t : Tm} (h : ¬ cfOk ls t = true) : bndOf ls t = 0 := if_neg h
theorem cfOk_bd {ls : List Ln} {t : Tm} (h : cfOk ls t = true) : (1 ≤ t.t3 ∧ t.t3 ≤ 6000) ∧ (1 ≤ t.t7 ∧ t.t7 ≤ 6000) ∧ (1 ≤ t.t8 ∧ t.t8 ≤ 6000) := by
  have b3 := cfOk_tm ls t h 3 (by omega)
  have b7 := cfOk_tm ls t h 7 (by omega)
  have b8 := cfOk_tm ls t h 8 (by omega)
  simp only [Tm.get] at b3 b7 b8
  exact ⟨b3, b7, b8⟩

set_option maxRecDepth 100000 in
set_option maxHeartbeats 8000000 in
theorem delayBounds_walk (a0 : Option Addr) (len0 cap0 : Nat) (t0 : Tm) (a1 : Option Addr) (len1 cap1 : Nat) (t1 : Tm) (w : World) (w0 : IsLns w a0 len0 cap0) (w1 : IsLns w a1 len1 cap1) (hg : HasTy w) :
    Calls Tryd.prog 8 #[cfv a0 len0 cap0 t0, cfv a1 len1 cap1 t1] w fun e w' => e = .returned (.bool true) ∧ Below w.heap.size w w' := by
  have m0 := w0.bd
  have m1 := w1.bd
  have HG := Lib.hid hg
  have HW0 := Lib.hid w0
  have HW1 := Lib.hid w1
  have HA := Lib.hid (heap_alloc2_old w (.cells (cfa a0 len0 cap0 t0) 39) (.cells (cfa a1 len1 cap1 t1) 39))
  have HB := Lib.hid (heap_alloc2_new w (.cells (cfa a0 len0 cap0 t0) 39) (.cells (cfa a1 len1 cap1 t1) 39))
  have HX := Lib.hid ((below_st w (.cells (cfa a0 len0 cap0 t0) 39)).alloc (Nat.le_of_lt (by simp)) (.cells (cfa a1 len1 cap1 t1) 39))
  clear hg w0 w1
  go_enter Tryd.func8, Tryd.ntmps8
  go_wp2_with fail
  generalize (w.alloc _).alloc _ = W at *
  refine (l_small _ (HG.out.below HX.out)).mono ?_
  rintro e x1 ⟨rfl, hb⟩
  have bA := CfBox.below HA.out hb
  have bB := CfBox.below HB.out hb
  have B1 := Lib.hid (below_go HX.out hb)
  clear hb
  by_cases c1 : (20 : Int) < len0
  · obtain ⟨c0, _, _, _, c4, _, _, _, c8, c9, _, _⟩ := cf_cell_all bA
    obtain ⟨d0, _, _, _, d4, _, _, _, d8, d9, _, _⟩ := cf_cell_all bB
    clear bA bB
    go_wp2_with fail
    go_ret
    exact ⟨rfl, B1.out⟩
  by_cases c2 : (20 : Int) < len1
  · obtain ⟨c0, _, _, _, c4, _, _, _, c8, c9, _, _⟩ := cf_cell_all bA
    obtain ⟨d0, _, _, _, d4, _, _, _, d8, d9, _, _⟩ := cf_cell_all bB
    clear bA bB
    go_wp2_with fail
    go_ret
    exact ⟨rfl, B1.out⟩
  obtain ⟨xs, rx⟩ := HW0.out.re (by omega)
  obtain ⟨ys, ry⟩ := HW1.out.re (by omega)
  have RX := Lib.hid rx
  have RY := Lib.hid ry
  have BA := Lib.hid bA
  have BB := Lib.hid bB
  obtain ⟨q0, q1, q2, q3, q4, q5, q6, q7, q8, q9, q10, _⟩ := cf_cell_all bA
  obtain ⟨p0, _⟩ := cf_cell_all bB
  clear rx ry bA bB
  go_wp2_with fail
  refine (d_bound a0 len0 cap0 xs t0 _ (RX.out.below B1.out)).mono ?_
  rintro e x2 ⟨v2, rfl, hv, hb⟩
  have E2 := Lib.hid hv
  have BA := Lib.hid (CfBox.below BA.out hb)
  have bB := CfBox.below BB.out hb
  have BB := Lib.hid bB
  have B2 := Lib.hid (below_go B1.out hb)
  clear q0 q1 q2 q3 q4 q5 q6 q7 q8 q9 q10 p0 hv hb
  obtain ⟨q0, q1, q2, q3, q4, q5, q6, q7, q8, q9, q10, _⟩ := cf_cell_all bB
  clear bB
  go_wp2_with fail
  refine (d_bound a1 len1 cap1 ys t1 _ (RY.out.below B2.out)).mono ?_
  rintro e x3 ⟨v3, rfl, hv, hb⟩
  have E3 := Lib.hid hv
  have E2 := Lib.hid (E2.out.below hb)
  have bA := CfBox.below BA.out hb
  have bB := CfBox.below BB.out hb
  have B3 := Lib.hid (below_go B2.out hb)
  clear q0 q1 q2 q3 q4 q5 q6 q7 q8 q9 q10 hv hb BA BB
  by_cases k0 : cfOk xs t0 = true
  · obtain ⟨⟨u1, u2⟩, ⟨u3, u4⟩, ⟨u5, u6⟩⟩ := cfOk_bd k0
    have e2 := E2.out
    rw [cfErr_ok k0] at e2
    obtain rfl := e2.isNil
    rw [bndOf_ok k0]
    clear e2
    by_cases k1 : cfOk ys t1 = true
    · obtain ⟨⟨v1, v2⟩, ⟨v3, v4⟩, ⟨v5, v6⟩⟩ := cfOk_bd k1
      have e3 := E3.out
      rw [cfErr_ok k1] at e3
      obtain rfl := e3.isNil
      rw [bndOf_ok k1]
      clear e3
      obtain ⟨c0, _, _, _, c4, _, _, _, c8, c9, _, _⟩ := cf_cell_all bA
      obtain ⟨d0, _, _, _, d4, _, _, _, d8, d9, _, _⟩ := cf_cell_all bB
      clear bA bB k0 k1
      have g1 : t0.t8 + 2 * t0.t7 + t0.t3 + 8 - (t1.t8 + 2 * t1.t7 + t1.t3 + 8) = t0.t8 - t1.t8 + 2 * (t0.t7 - t1.t7) + t0.t3 - t1.t3 := by omega
      have g2 : 12 ≤ t0.t8 + 2 * t0.t7 + t0.t3 + 8 := by omega
      have G1 := Lib.hid g1
      clear g1
      go_wp2_with fail
      go_ret
      exact ⟨rfl, B3.out⟩
    · have e3 := E3.out
      rw [cfErr_no k1] at e3
      obtain ⟨ta, ua, rfl⟩ := e3.isErr (by decide)
      rw [bndOf_no k1]
      clear e3
      clear bA bB k0 k1
      go_wp2_with fail
      go_ret
      exact ⟨rfl, B3.out⟩
  · have e2 := E2.out
    rw [cfErr_no k0] at e2
    obtain ⟨tb, ub, rfl⟩ := e2.isErr (by decide)
    rw [bndOf_no k0]
    clear e2
    by_cases k1 : cfOk ys t1 = true
    · have e3 := E3.out
      rw [cfErr_ok k1] at e3
      obtain rfl := e3.isNil
      rw [bndOf_ok k1]
      clear e3
      clear bA bB k0 k1
      go_wp2_with fail
      go_ret
      exact ⟨rfl, B3.out⟩
    · have e3 := E3.out
      rw [cfErr_no k1] at e3
      obtain ⟨ta, ua, rfl⟩ := e3.isErr (by decide)
      rw [bndOf_no k1]
      clear e3
      clear bA bB k0 k1
      go_wp2_with fail
      go_ret
      exact ⟨rfl, B3.out⟩
end Go.Proofs.YtflicahchahcnaaDoor
