/- The walk of DelayReckons. -/
import Derived.Test.YtflicahchahcnaaDoorDelayHead
namespace Go.Proofs.YtflicahchahcnaaDoor
open Go.RowKit
set_option linter.unusedVariables false
set_option linter.unusedSimpArgs false

theorem inI_wf {a : Int} (h : (Lit.int .i64 a).wf = true) : inI a := by
  have h1 : IntKind.i64.min = -9223372036854775808 := rfl
  have h2 : IntKind.i64.max = 9223372036854775807 := rfl
  simp only [Lit.wf, Bool.and_eq_true, decide_eq_true_eq] at h
  unfold inI; omega
def wayN (f s : Int) : Int := if f < 0 ∨ s < 1 then 0 else f / s
def wayE (f s : Int) : Int := if f < 0 ∨ s < 1 then 1 else 0
theorem d_way' (f s : Int) (w : World) (hf : inI f) (hs : inI s) : Calls Tryd.prog 14 #[.int .i64 f, .int .i64 s] w (IsNe (wayN f s) (wayE f s) w) := d_way f s w hf hs
theorem r_way' (f s : Int) (w : World) (hf : inI f) (hs : inI s) : Calls Tryd.prog 15 #[.int .i64 f, .int .i64 s] w fun e w' => e = .returned (.tuple #[.int .i64 (wayN f s), .int .i64 (wayE f s)]) ∧ w = w' := r_way f s w hf hs
set_option maxRecDepth 100000 in
set_option maxHeartbeats 8000000 in
theorem delayReckons_walk (a0 : Int) (a1 : Int) (w : World) (w0 : (Lit.int .i64 a0).wf = true) (w1 : (Lit.int .i64 a1).wf = true) (hg : HasTy w) :
    Calls Tryd.prog 3 #[.int .i64 a0, .int .i64 a1] w fun e w' => e = .returned (.bool true) ∧ Below w.heap.size w w' := by
  have HG := Lib.hid hg
  have HA := Lib.hid (inI_wf w0)
  have HB := Lib.hid (inI_wf w1)
  clear hg w0 w1
  go_enter Tryd.func3, Tryd.ntmps3
  go_wp2_with fail
  refine (l_small _ HG.out).mono ?_
  rintro e x1 ⟨rfl, hb⟩
  have B1 := Lib.hid hb
  clear hb
  go_wp2_with fail
  refine (d_add a0 a1 HA.out HB.out _).mono ?_
  rintro e x2 ⟨v2, rfl, hv, hb⟩
  have E2 := Lib.hid hv
  have B2 := Lib.hid (below_go B1.out hb)
  clear hv hb
  go_wp2_with fail
  refine (r_add a0 a1 HA.out HB.out _).mono ?_
  rintro e x3 ⟨rfl, rfl⟩
  go_wp2_with fail
  refine (d_mul a0 a1 HA.out HB.out _).mono ?_
  rintro e x3 ⟨v3, rfl, hv, hb⟩
  have E3 := Lib.hid hv
  have E2' := Lib.hid (E2.out.below hb)
  have B3 := Lib.hid (below_go B2.out hb)
  clear hv hb
  go_wp2_with fail
  refine (r_mul a0 a1 HA.out HB.out _).mono ?_
  rintro e x4 ⟨rfl, rfl⟩
  go_wp2_with fail
  refine (d_way' a0 a1 _ HA.out HB.out).mono ?_
  rintro e x4 ⟨v4, rfl, hv, hb⟩
  have E4 := Lib.hid hv
  have E2'' := Lib.hid (E2'.out.below hb)
  have E3'' := Lib.hid (E3.out.below hb)
  have B4 := Lib.hid (below_go B3.out hb)
  clear hv hb
  go_wp2_with fail
  refine (r_way' a0 a1 _ HA.out HB.out).mono ?_
  rintro e x5 ⟨rfl, rfl⟩
  go_wp2_with fail
  refine (code_is _ _ _ (HG.out.below B4.out) E2''.out).mono ?_
  rintro e x5 ⟨rfl, hb⟩
  have B5 := Lib.hid (below_go B4.out hb)
  have E3 := Lib.hid (E3''.out.below hb)
  have E4 := Lib.hid (E4.out.below hb)
  clear hb
  go_wp2_with fail
  refine (code_is _ _ _ (HG.out.below B5.out) E3.out).mono ?_
  rintro e x6 ⟨rfl, hb⟩
  have B6 := Lib.hid (below_go B5.out hb)
  have E4 := Lib.hid (E4.out.below hb)
  clear hb
  go_wp2_with fail
  refine (code_is _ _ _ (HG.out.below B6.out) E4.out).mono ?_
  rintro e x7 ⟨rfl, hb⟩
  have B7 := Lib.hid (below_go B6.out hb)
  clear hb
  go_wp2_with fail
  go_ret
  exact ⟨rfl, B7.out⟩
end Go.Proofs.YtflicahchahcnaaDoor
