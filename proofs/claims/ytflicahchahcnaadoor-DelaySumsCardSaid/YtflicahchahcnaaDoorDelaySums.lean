/- The walk of DelaySums. -/
import Derived.Test.YtflicahchahcnaaDoorDelayBnds
import Derived.Test.YtflicahchahcnaaDoorReg
import Derived.Deep.DeepCutAuto
namespace Go.Proofs.YtflicahchahcnaaDoor
open Go.RowKit
set_option linter.unusedVariables false
set_option linter.unusedSimpArgs false

theorem i64_same {a : Int} (h : inI a) : IntKind.i64.wrap a = a := by unfold inI at h; rw [IntKind.wrap_i64]; omega
theorem numOf_in {n : Int} (h : inI n) : numOf n = n := if_pos h
theorem numOf_out {n : Int} (h : ¬ inI n) : numOf n = 0 := if_neg h
theorem errOf_in {n : Int} (h : inI n) : errOf n = 0 := if_pos h
theorem errOf_out {n : Int} (h : ¬ inI n) : errOf n = 6 := if_neg h
set_option maxRecDepth 100000 in
set_option maxHeartbeats 16000000 in
theorem delaySums_walk (a0 : Int) (a1 : Int) (w : World) (w0 : (Lit.int .i64 a0).wf = true) (w1 : (Lit.int .i64 a1).wf = true) (hg : HasTy w) :
    Calls Tryd.prog 7 #[.int .i64 a0, .int .i64 a1] w fun e w' => e = .returned (.bool true) ∧ Below w.heap.size w w' := by
  have HG := Lib.hid hg
  have HA := Lib.hid (inI_wf w0)
  have HB := Lib.hid (inI_wf w1)
  clear hg w0 w1
  go_enter Tryd.func7, Tryd.ntmps7
  go_wp2_with fail
  refine (l_small _ HG.out).mono ?_
  rintro e x1 ⟨rfl, hb⟩
  have B1 := Lib.hid hb
  clear hb
  go_wp2_with fail
  refine (d_add a0 a1 HA.out HB.out _).mono ?_
  rintro e x2 ⟨v2, rfl, hv, hb⟩
  have E2 := Lib.hid hv
  have B2 := Lib.hid (below_go B1.out hb)
  clear hv hb
  go_wp2_with fail
  refine (d_mul a0 a1 HA.out HB.out _).mono ?_
  rintro e x3 ⟨v3, rfl, hv, hb⟩
  have E3 := Lib.hid hv
  have E2 := Lib.hid (E2.out.below hb)
  have B3 := Lib.hid (below_go B2.out hb)
  clear hv hb
  go_wp2_with fail
  refine (d_add a1 a0 HB.out HA.out _).mono ?_
  rw [Int.add_comm a1 a0]
  rintro e x4 ⟨v4, rfl, hv, hb⟩
  have E4 := Lib.hid hv
  have E2 := Lib.hid (E2.out.below hb)
  have E3 := Lib.hid (E3.out.below hb)
  have B4 := Lib.hid (below_go B3.out hb)
  clear hv hb
  go_wp2_with fail
  refine (d_mul a1 a0 HB.out HA.out _).mono ?_
  rw [Int.mul_comm a1 a0]
  rintro e x4 ⟨v5, rfl, hv, hb⟩
  have E5 := Lib.hid hv
  have E2 := Lib.hid (E2.out.below hb)
  have E3 := Lib.hid (E3.out.below hb)
  have E4 := Lib.hid (E4.out.below hb)
  have B4 := Lib.hid (below_go B4.out hb)
  clear hv hb
  go_wp2_with fail
  refine (code_is _ _ _ (HG.out.below B4.out) E2.out).mono ?_
  rintro e x5 ⟨rfl, hb⟩
  have B5 := Lib.hid (below_go B4.out hb)
  have E2 := Lib.hid (E2.out.below hb)
  have E3 := Lib.hid (E3.out.below hb)
  have E4 := Lib.hid (E4.out.below hb)
  have E5 := Lib.hid (E5.out.below hb)
  clear hb
  go_wp2_with fail
  refine (code_is _ _ _ (HG.out.below B5.out) E4.out).mono ?_
  rintro e x6 ⟨rfl, hb⟩
  have B6 := Lib.hid (below_go B5.out hb)
  have E2 := Lib.hid (E2.out.below hb)
  have E3 := Lib.hid (E3.out.below hb)
  have E5 := Lib.hid (E5.out.below hb)
  clear hb
  go_wp2_with fail
  refine (code_is _ _ _ (HG.out.below B6.out) E3.out).mono ?_
  rintro e x7 ⟨rfl, hb⟩
  have B7 := Lib.hid (below_go B6.out hb)
  have E2 := Lib.hid (E2.out.below hb)
  have E3 := Lib.hid (E3.out.below hb)
  have E5 := Lib.hid (E5.out.below hb)
  clear hb
  go_wp2_with fail
  refine (code_is _ _ _ (HG.out.below B7.out) E5.out).mono ?_
  rintro e x8 ⟨rfl, hb⟩
  have B8 := Lib.hid (below_go B7.out hb)
  clear hb
  by_cases hs : inI (a0 + a1)
  all_goals (by_cases hp : inI (a0 * a1))
  all_goals (have es := E2.out; have ep := E3.out; have hA := HA.out; have hB := HB.out)
  all_goals (first | (rw [errOf_in hp] at ep; obtain rfl := ep.isNil; rw [numOf_in hp]; by_cases z0 : a0 = 0) | (rw [errOf_out hp] at ep; obtain ⟨tp, up, rfl⟩ := ep.isErr (by decide); rw [numOf_out hp]; have z0 : ¬ a0 = 0 := (fun h => hp (by rw [h]; unfold inI; omega)); have z1 : ¬ a1 = 0 := (fun h => hp (by rw [h]; unfold inI; omega))))
  all_goals (first | (rw [errOf_in hs] at es; obtain rfl := es.isNil; rw [numOf_in hs]; have s1 : IntKind.i64.wrap (a0 + a1 - a0) = a1 := (by rw [show a0 + a1 - a0 = a1 by omega]; exact i64_same HB.out); rcases (by omega : a1 < 0 ∨ 0 < a1 ∨ (a1 ≤ 0 ∧ 0 ≤ a1)) with n1 | n1 | ⟨n1, n2⟩) | (rw [errOf_out hs] at es; obtain ⟨ts, us, rfl⟩ := es.isErr (by decide); rw [numOf_out hs]; rcases (by unfold inI at *; omega : (0 < a0 ∧ 0 < a1) ∨ (¬ 0 < a0 ∧ ¬ 0 < a1)) with ⟨n0, n1⟩ | ⟨n0, n1⟩))
  all_goals (try rw [show a0 * a1 = 0 by rw [z0]; simp])
  all_goals (try have q1 : (a0 * a1).tdiv a0 = a1 := Int.mul_tdiv_cancel_left _ z0)
  all_goals (try have q2 : (a0 * a1).tmod a0 = 0 := Int.mul_tmod_right _ _)
  all_goals (have q3 := i64_same hB)
  all_goals (clear hs hp es ep hA hB)
  all_goals (have m1 : a1 ≤ 0 ∨ 0 ≤ a1 := (by omega))
  all_goals (first | (have m2 : a1 ≤ 0 := (by omega)) | skip)
  all_goals (first | (have m3 : 0 ≤ a1 := (by omega)) | skip)
  all_goals
    clear m1 
    clear E2 E3 E4 E5 B1 B2 B3 B4 B5 B6 B7 HA HB HG
    try have k1 : 0 < a0 := by omega
    try have k1 : ¬ 0 < a0 := by omega
    try have k4 : a0 ≤ a0 + a1 := by omega
    try have k4 : ¬ a0 ≤ a0 + a1 := by omega
    try have k5 : a0 + a1 ≤ a0 := by omega
    try have k5 : ¬ a0 + a1 ≤ a0 := by omega
    try have d6 : (a0 == 0) = true := by rw [beq_iff_eq]; omega
    try have d6 : (a0 == 0) = false := by rw [beq_eq_false_iff_ne]; omega
    try have d6n : (a0 != 0) = true := by rw [bne_iff_ne]; omega
    try have d6n : (a0 != 0) = false := by rw [bne_eq_false_iff_eq]; omega
    try have d7 : (a1 == 0) = true := by rw [beq_iff_eq]; omega
    try have d7 : (a1 == 0) = false := by rw [beq_eq_false_iff_ne]; omega
    try have d7n : (a1 != 0) = true := by rw [bne_iff_ne]; omega
    try have d7n : (a1 != 0) = false := by rw [bne_eq_false_iff_eq]; omega
    try clear z0
    try clear z0'
    go_upto_region 8 with fail
    try have d1 : 0 < a0 := by omega
    try have d1 : ¬ 0 < a0 := by omega
    try have d2 : 0 < a1 := by omega
    try have d2 : ¬ 0 < a1 := by omega
    try have d3 : a1 < 0 := by omega
    try have d3 : ¬ a1 < 0 := by omega
    try have d4 : a0 ≤ a0 + a1 := by omega
    try have d4 : ¬ a0 ≤ a0 + a1 := by omega
    try have d5 : a0 + a1 ≤ a0 := by omega
    try have d5 : ¬ a0 + a1 ≤ a0 := by omega
    try have z9 : ¬ a0 = 0 := by simpa using d6
    refine wl_enter ?_
    simp only [List.append_eq, List.cons_append, List.nil_append]
    (refine wpList_r1 5 ?_ ?_ (wanted_none rfl) ?_ ?_ ?_; rotate_left 2; exact rfl; (intro ρ9 rc9 r09; go_simp; try with_reducible rfl))
    try simp only [Act.put, List.setIfInBounds_toArray, List.set_cons_zero, List.set_cons_succ]
    (refine wpList_r1 61 ?_ ?_ (wanted_none rfl) ?_ ?_ ?_; rotate_left 2; exact rfl; (intro ρ9 rc9 r09; go_simp; try with_reducible rfl))
    try simp only [Act.put, List.setIfInBounds_toArray, List.set_cons_zero, List.set_cons_succ]
    first
      | (refine wpList_gskip 1 62 true rfl (by kernel_rfl) (u := ?_) ?_ ?_ ?_; rotate_left; (exact rfl); (first | exact .inl rfl | exact .inr rfl))
      | (refine wpList_r1 7 ?_ ?_ (wanted_some 1 62 true rfl (by kernel_rfl) (by rfl)) ?_ ?_ ?_; rotate_left 2; exact rfl; (intro ρ9 rc9 r09; go_simp; try with_reducible rfl))
    try simp only [Act.put, List.setIfInBounds_toArray, List.set_cons_zero, List.set_cons_succ]
    first
      | (refine wpList_gskip 1 62 true rfl (by kernel_rfl) (u := ?_) ?_ ?_ ?_; rotate_left; (exact rfl); (first | exact .inl rfl | exact .inr rfl))
      | (refine wpList_r1 63 ?_ ?_ (wanted_some 1 62 true rfl (by kernel_rfl) (by rfl)) ?_ ?_ ?_; rotate_left 2; exact rfl; (intro ρ9 rc9 r09; go_simp; try with_reducible rfl))
    try simp only [Act.put, List.setIfInBounds_toArray, List.set_cons_zero, List.set_cons_succ]
    first
      | (refine wpList_gskip 1 62 true rfl (by kernel_rfl) (u := ?_) ?_ ?_ ?_; rotate_left; (exact rfl); (first | exact .inl rfl | exact .inr rfl))
      | (refine wpList_r1 64 ?_ ?_ (wanted_some 1 62 true rfl (by kernel_rfl) (by rfl)) ?_ ?_ ?_; rotate_left 2; exact rfl; (intro ρ9 rc9 r09; go_simp; try with_reducible rfl))
    try simp only [Act.put, List.setIfInBounds_toArray, List.set_cons_zero, List.set_cons_succ]
    first
      | (refine wpList_gskip 4 65 true rfl (by kernel_rfl) (u := ?_) ?_ ?_ ?_; rotate_left; (exact rfl); (first | exact .inl rfl | exact .inr rfl))
      | (refine wpList_r1 6 ?_ ?_ (wanted_some 4 65 true rfl (by kernel_rfl) (by rfl)) ?_ ?_ ?_; rotate_left 2; exact rfl; (intro ρ9 rc9 r09; go_simp; try with_reducible rfl))
    try simp only [Act.put, List.setIfInBounds_toArray, List.set_cons_zero, List.set_cons_succ]
    first
      | (refine wpList_gskip 4 65 true rfl (by kernel_rfl) (u := ?_) ?_ ?_ ?_; rotate_left; (exact rfl); (first | exact .inl rfl | exact .inr rfl))
      | (refine wpList_r1 66 ?_ ?_ (wanted_some 4 65 true rfl (by kernel_rfl) (by rfl)) ?_ ?_ ?_; rotate_left 2; exact rfl; (intro ρ9 rc9 r09; go_simp; try with_reducible rfl))
    try simp only [Act.put, List.setIfInBounds_toArray, List.set_cons_zero, List.set_cons_succ]
    first
      | (refine wpList_gskip 1 62 true rfl (by kernel_rfl) (u := ?_) ?_ ?_ ?_; rotate_left; (exact rfl); (first | exact .inl rfl | exact .inr rfl))
      | (refine wpList_r2 65 67 ?_ ?_ ?_ (wanted_some 1 62 true rfl (by kernel_rfl) (by rfl)) ?_ ?_ ?_ ?_; rotate_left 3; exact rfl; exact rfl; (intro ρ9 rc9 r09 r19; go_simp; try with_reducible rfl))
    try simp only [Act.put, List.setIfInBounds_toArray, List.set_cons_zero, List.set_cons_succ]
    first
      | (refine wpList_gskip 1 62 true rfl (by kernel_rfl) (u := ?_) ?_ ?_ ?_; rotate_left; (exact rfl); (first | exact .inl rfl | exact .inr rfl))
      | (refine wpList_r1 68 ?_ ?_ (wanted_some 1 62 true rfl (by kernel_rfl) (by rfl)) ?_ ?_ ?_; rotate_left 2; exact rfl; (intro ρ9 rc9 r09; go_simp; try with_reducible rfl))
    try simp only [Act.put, List.setIfInBounds_toArray, List.set_cons_zero, List.set_cons_succ]
    first
      | (refine wpList_gskip 8 69 true rfl (by kernel_rfl) (u := ?_) ?_ ?_ ?_; rotate_left; (exact rfl); (first | exact .inl rfl | exact .inr rfl))
      | (refine wpList_r1 0 ?_ ?_ (wanted_some 8 69 true rfl (by kernel_rfl) (by rfl)) ?_ ?_ ?_; rotate_left 2; exact rfl; (intro ρ9 rc9 r09; go_simp; try with_reducible rfl))
    try simp only [Act.put, List.setIfInBounds_toArray, List.set_cons_zero, List.set_cons_succ]
    first
      | (refine wpList_gskip 8 69 true rfl (by kernel_rfl) (u := ?_) ?_ ?_ ?_; rotate_left; (exact rfl); (first | exact .inl rfl | exact .inr rfl))
      | (refine wpList_r1 70 ?_ ?_ (wanted_some 8 69 true rfl (by kernel_rfl) (by rfl)) ?_ ?_ ?_; rotate_left 2; exact rfl; (intro ρ9 rc9 r09; go_simp; try with_reducible rfl))
    try simp only [Act.put, List.setIfInBounds_toArray, List.set_cons_zero, List.set_cons_succ]
    first
      | (refine wpList_gskip 8 69 true rfl (by kernel_rfl) (u := ?_) ?_ ?_ ?_; rotate_left; (exact rfl); (first | exact .inl rfl | exact .inr rfl))
      | (refine wpList_r1 1 ?_ ?_ (wanted_some 8 69 true rfl (by kernel_rfl) (by rfl)) ?_ ?_ ?_; rotate_left 2; exact rfl; (intro ρ9 rc9 r09; go_simp; try with_reducible rfl))
    try simp only [Act.put, List.setIfInBounds_toArray, List.set_cons_zero, List.set_cons_succ]
    first
      | (refine wpList_gskip 8 69 true rfl (by kernel_rfl) (u := ?_) ?_ ?_ ?_; rotate_left; (exact rfl); (first | exact .inl rfl | exact .inr rfl))
      | (refine wpList_r1 72 ?_ ?_ (wanted_some 8 69 true rfl (by kernel_rfl) (by rfl)) ?_ ?_ ?_; rotate_left 2; exact rfl; (intro ρ9 rc9 r09; go_simp; try with_reducible rfl))
    try simp only [Act.put, List.setIfInBounds_toArray, List.set_cons_zero, List.set_cons_succ]
    first
      | (refine wpList_gskip 8 69 true rfl (by kernel_rfl) (u := ?_) ?_ ?_ ?_; rotate_left; (exact rfl); (first | exact .inl rfl | exact .inr rfl))
      | (refine wpList_r2 71 73 ?_ ?_ ?_ (wanted_some 8 69 true rfl (by kernel_rfl) (by rfl)) ?_ ?_ ?_ ?_; rotate_left 3; exact rfl; exact rfl; (intro ρ9 rc9 r09 r19; go_simp; try with_reducible rfl))
    try simp only [Act.put, List.setIfInBounds_toArray, List.set_cons_zero, List.set_cons_succ]
    first
      | (refine wpList_gskip 1 62 true rfl (by kernel_rfl) (u := ?_) ?_ ?_ ?_; rotate_left; (exact rfl); (first | exact .inl rfl | exact .inr rfl))
      | (refine wpList_r2 69 74 ?_ ?_ ?_ (wanted_some 1 62 true rfl (by kernel_rfl) (by rfl)) ?_ ?_ ?_ ?_; rotate_left 3; exact rfl; exact rfl; (intro ρ9 rc9 r09 r19; go_simp; try with_reducible rfl))
    try simp only [Act.put, List.setIfInBounds_toArray, List.set_cons_zero, List.set_cons_succ]
    first
      | (refine wpList_gskip 1 62 true rfl (by kernel_rfl) (u := ?_) ?_ ?_ ?_; rotate_left; (exact rfl); (first | exact .inl rfl | exact .inr rfl))
      | (refine wpList_r1 75 ?_ ?_ (wanted_some 1 62 true rfl (by kernel_rfl) (by rfl)) ?_ ?_ ?_; rotate_left 2; exact rfl; (intro ρ9 rc9 r09; go_simp; try with_reducible rfl))
    try simp only [Act.put, List.setIfInBounds_toArray, List.set_cons_zero, List.set_cons_succ]
    first
      | (refine wpList_gskip 15 76 false rfl (by kernel_rfl) (u := ?_) ?_ ?_ ?_; rotate_left; (exact rfl); (first | exact .inl rfl | exact .inr rfl))
      | (refine wpList_r1 7 ?_ ?_ (wanted_some 15 76 false rfl (by kernel_rfl) (by rfl)) ?_ ?_ ?_; rotate_left 2; exact rfl; (intro ρ9 rc9 r09; go_simp; try with_reducible rfl))
    try simp only [Act.put, List.setIfInBounds_toArray, List.set_cons_zero, List.set_cons_succ]
    first
      | (refine wpList_gskip 15 76 false rfl (by kernel_rfl) (u := ?_) ?_ ?_ ?_; rotate_left; (exact rfl); (first | exact .inl rfl | exact .inr rfl))
      | (refine wpList_r1 77 ?_ ?_ (wanted_some 15 76 false rfl (by kernel_rfl) (by rfl)) ?_ ?_ ?_; rotate_left 2; exact rfl; (intro ρ9 rc9 r09; go_simp; try with_reducible rfl))
    try simp only [Act.put, List.setIfInBounds_toArray, List.set_cons_zero, List.set_cons_succ]
    first
      | (refine wpList_gskip 15 76 false rfl (by kernel_rfl) (u := ?_) ?_ ?_ ?_; rotate_left; (exact rfl); (first | exact .inl rfl | exact .inr rfl))
      | (refine wpList_r1 78 ?_ ?_ (wanted_some 15 76 false rfl (by kernel_rfl) (by rfl)) ?_ ?_ ?_; rotate_left 2; exact rfl; (intro ρ9 rc9 r09; go_simp; try with_reducible rfl))
    try simp only [Act.put, List.setIfInBounds_toArray, List.set_cons_zero, List.set_cons_succ]
    first
      | (refine wpList_gskip 18 79 true rfl (by kernel_rfl) (u := ?_) ?_ ?_ ?_; rotate_left; (exact rfl); (first | exact .inl rfl | exact .inr rfl))
      | (refine wpList_r1 6 ?_ ?_ (wanted_some 18 79 true rfl (by kernel_rfl) (by rfl)) ?_ ?_ ?_; rotate_left 2; exact rfl; (intro ρ9 rc9 r09; go_simp; try with_reducible rfl))
    try simp only [Act.put, List.setIfInBounds_toArray, List.set_cons_zero, List.set_cons_succ]
    first
      | (refine wpList_gskip 18 79 true rfl (by kernel_rfl) (u := ?_) ?_ ?_ ?_; rotate_left; (exact rfl); (first | exact .inl rfl | exact .inr rfl))
      | (refine wpList_r1 0 ?_ ?_ (wanted_some 18 79 true rfl (by kernel_rfl) (by rfl)) ?_ ?_ ?_; rotate_left 2; exact rfl; (intro ρ9 rc9 r09; go_simp; try with_reducible rfl))
    try simp only [Act.put, List.setIfInBounds_toArray, List.set_cons_zero, List.set_cons_succ]
    first
      | (refine wpList_gskip 18 79 true rfl (by kernel_rfl) (u := ?_) ?_ ?_ ?_; rotate_left; (exact rfl); (first | exact .inl rfl | exact .inr rfl))
      | (refine wpList_r2 80 81 ?_ ?_ ?_ (wanted_some 18 79 true rfl (by kernel_rfl) (by rfl)) ?_ ?_ ?_ ?_; rotate_left 3; exact rfl; exact rfl; (intro ρ9 rc9 r09 r19; go_simp; try with_reducible rfl))
    try simp only [Act.put, List.setIfInBounds_toArray, List.set_cons_zero, List.set_cons_succ]
    first
      | (refine wpList_gskip 18 79 true rfl (by kernel_rfl) (u := ?_) ?_ ?_ ?_; rotate_left; (exact rfl); (first | exact .inl rfl | exact .inr rfl))
      | (refine wpList_r1 1 ?_ ?_ (wanted_some 18 79 true rfl (by kernel_rfl) (by rfl)) ?_ ?_ ?_; rotate_left 2; exact rfl; (intro ρ9 rc9 r09; go_simp; try with_reducible rfl))
    try simp only [Act.put, List.setIfInBounds_toArray, List.set_cons_zero, List.set_cons_succ]
    first
      | (refine wpList_gskip 18 79 true rfl (by kernel_rfl) (u := ?_) ?_ ?_ ?_; rotate_left; (exact rfl); (first | exact .inl rfl | exact .inr rfl))
      | (refine wpList_r2 82 83 ?_ ?_ ?_ (wanted_some 18 79 true rfl (by kernel_rfl) (by rfl)) ?_ ?_ ?_ ?_; rotate_left 3; exact rfl; exact rfl; (intro ρ9 rc9 r09 r19; go_simp; try with_reducible rfl))
    try simp only [Act.put, List.setIfInBounds_toArray, List.set_cons_zero, List.set_cons_succ]
    first
      | (refine wpList_gskip 15 76 false rfl (by kernel_rfl) (u := ?_) ?_ ?_ ?_; rotate_left; (exact rfl); (first | exact .inl rfl | exact .inr rfl))
      | (refine wpList_r2 79 84 ?_ ?_ ?_ (wanted_some 15 76 false rfl (by kernel_rfl) (by rfl)) ?_ ?_ ?_ ?_; rotate_left 3; exact rfl; exact rfl; (intro ρ9 rc9 r09 r19; go_simp; try with_reducible rfl))
    try simp only [Act.put, List.setIfInBounds_toArray, List.set_cons_zero, List.set_cons_succ]
    first
      | (refine wpList_gskip 15 76 false rfl (by kernel_rfl) (u := ?_) ?_ ?_ ?_; rotate_left; (exact rfl); (first | exact .inl rfl | exact .inr rfl))
      | (refine wpList_r1 85 ?_ ?_ (wanted_some 15 76 false rfl (by kernel_rfl) (by rfl)) ?_ ?_ ?_; rotate_left 2; exact rfl; (intro ρ9 rc9 r09; go_simp; try with_reducible rfl))
    try simp only [Act.put, List.setIfInBounds_toArray, List.set_cons_zero, List.set_cons_succ]
    first
      | (refine wpList_gskip 25 86 true rfl (by kernel_rfl) (u := ?_) ?_ ?_ ?_; rotate_left; (exact rfl); (first | exact .inl rfl | exact .inr rfl))
      | (refine wpList_r1 1 ?_ ?_ (wanted_some 25 86 true rfl (by kernel_rfl) (by rfl)) ?_ ?_ ?_; rotate_left 2; exact rfl; (intro ρ9 rc9 r09; go_simp; try with_reducible rfl))
    try simp only [Act.put, List.setIfInBounds_toArray, List.set_cons_zero, List.set_cons_succ]
    first
      | (refine wpList_gskip 25 86 true rfl (by kernel_rfl) (u := ?_) ?_ ?_ ?_; rotate_left; (exact rfl); (first | exact .inl rfl | exact .inr rfl))
      | (refine wpList_r1 87 ?_ ?_ (wanted_some 25 86 true rfl (by kernel_rfl) (by rfl)) ?_ ?_ ?_; rotate_left 2; exact rfl; (intro ρ9 rc9 r09; go_simp; try with_reducible rfl))
    try simp only [Act.put, List.setIfInBounds_toArray, List.set_cons_zero, List.set_cons_succ]
    first
      | (refine wpList_gskip 25 86 true rfl (by kernel_rfl) (u := ?_) ?_ ?_ ?_; rotate_left; (exact rfl); (first | exact .inl rfl | exact .inr rfl))
      | (refine wpList_r1 88 ?_ ?_ (wanted_some 25 86 true rfl (by kernel_rfl) (by rfl)) ?_ ?_ ?_; rotate_left 2; exact rfl; (intro ρ9 rc9 r09; go_simp; try with_reducible rfl))
    try simp only [Act.put, List.setIfInBounds_toArray, List.set_cons_zero, List.set_cons_succ]
    first
      | (refine wpList_gskip 28 89 false rfl (by kernel_rfl) (u := ?_) ?_ ?_ ?_; rotate_left; (exact rfl); (first | exact .inl rfl | exact .inr rfl))
      | (refine wpList_r1 6 ?_ ?_ (wanted_some 28 89 false rfl (by kernel_rfl) (by rfl)) ?_ ?_ ?_; rotate_left 2; exact rfl; (intro ρ9 rc9 r09; go_simp; try with_reducible rfl))
    try simp only [Act.put, List.setIfInBounds_toArray, List.set_cons_zero, List.set_cons_succ]
    first
      | (refine wpList_gskip 28 89 false rfl (by kernel_rfl) (u := ?_) ?_ ?_ ?_; rotate_left; (exact rfl); (first | exact .inl rfl | exact .inr rfl))
      | (refine wpList_r1 0 ?_ ?_ (wanted_some 28 89 false rfl (by kernel_rfl) (by rfl)) ?_ ?_ ?_; rotate_left 2; exact rfl; (intro ρ9 rc9 r09; go_simp; try with_reducible rfl))
    try simp only [Act.put, List.setIfInBounds_toArray, List.set_cons_zero, List.set_cons_succ]
    first
      | (refine wpList_gskip 28 89 false rfl (by kernel_rfl) (u := ?_) ?_ ?_ ?_; rotate_left; (exact rfl); (first | exact .inl rfl | exact .inr rfl))
      | (refine wpList_r2 90 91 ?_ ?_ ?_ (wanted_some 28 89 false rfl (by kernel_rfl) (by rfl)) ?_ ?_ ?_ ?_; rotate_left 3; exact rfl; exact rfl; (intro ρ9 rc9 r09 r19; go_simp; try with_reducible rfl))
    try simp only [Act.put, List.setIfInBounds_toArray, List.set_cons_zero, List.set_cons_succ]
    first
      | (refine wpList_gskip 25 86 true rfl (by kernel_rfl) (u := ?_) ?_ ?_ ?_; rotate_left; (exact rfl); (first | exact .inl rfl | exact .inr rfl))
      | (refine wpList_r2 89 92 ?_ ?_ ?_ (wanted_some 25 86 true rfl (by kernel_rfl) (by rfl)) ?_ ?_ ?_ ?_; rotate_left 3; exact rfl; exact rfl; (intro ρ9 rc9 r09 r19; go_simp; try with_reducible rfl))
    try simp only [Act.put, List.setIfInBounds_toArray, List.set_cons_zero, List.set_cons_succ]
    first
      | (refine wpList_gskip 15 76 false rfl (by kernel_rfl) (u := ?_) ?_ ?_ ?_; rotate_left; (exact rfl); (first | exact .inl rfl | exact .inr rfl))
      | (refine wpList_r2 86 93 ?_ ?_ ?_ (wanted_some 15 76 false rfl (by kernel_rfl) (by rfl)) ?_ ?_ ?_ ?_; rotate_left 3; exact rfl; exact rfl; (intro ρ9 rc9 r09 r19; go_simp; try with_reducible rfl))
    try simp only [Act.put, List.setIfInBounds_toArray, List.set_cons_zero, List.set_cons_succ]
    first
      | (refine wpList_gskip 15 76 false rfl (by kernel_rfl) (u := ?_) ?_ ?_ ?_; rotate_left; (exact rfl); (first | exact .inl rfl | exact .inr rfl))
      | (refine wpList_r1 94 ?_ ?_ (wanted_some 15 76 false rfl (by kernel_rfl) (by rfl)) ?_ ?_ ?_; rotate_left 2; exact rfl; (intro ρ9 rc9 r09; go_simp; try with_reducible rfl))
    try simp only [Act.put, List.setIfInBounds_toArray, List.set_cons_zero, List.set_cons_succ]
    first
      | (refine wpList_gskip 34 95 true rfl (by kernel_rfl) (u := ?_) ?_ ?_ ?_; rotate_left; (exact rfl); (first | exact .inl rfl | exact .inr rfl))
      | (refine wpList_r1 1 ?_ ?_ (wanted_some 34 95 true rfl (by kernel_rfl) (by rfl)) ?_ ?_ ?_; rotate_left 2; exact rfl; (intro ρ9 rc9 r09; go_simp; try with_reducible rfl))
    try simp only [Act.put, List.setIfInBounds_toArray, List.set_cons_zero, List.set_cons_succ]
    first
      | (refine wpList_gskip 34 95 true rfl (by kernel_rfl) (u := ?_) ?_ ?_ ?_; rotate_left; (exact rfl); (first | exact .inl rfl | exact .inr rfl))
      | (refine wpList_r1 96 ?_ ?_ (wanted_some 34 95 true rfl (by kernel_rfl) (by rfl)) ?_ ?_ ?_; rotate_left 2; exact rfl; (intro ρ9 rc9 r09; go_simp; try with_reducible rfl))
    try simp only [Act.put, List.setIfInBounds_toArray, List.set_cons_zero, List.set_cons_succ]
    first
      | (refine wpList_gskip 34 95 true rfl (by kernel_rfl) (u := ?_) ?_ ?_ ?_; rotate_left; (exact rfl); (first | exact .inl rfl | exact .inr rfl))
      | (refine wpList_r1 97 ?_ ?_ (wanted_some 34 95 true rfl (by kernel_rfl) (by rfl)) ?_ ?_ ?_; rotate_left 2; exact rfl; (intro ρ9 rc9 r09; go_simp; try with_reducible rfl))
    try simp only [Act.put, List.setIfInBounds_toArray, List.set_cons_zero, List.set_cons_succ]
    first
      | (refine wpList_gskip 37 98 false rfl (by kernel_rfl) (u := ?_) ?_ ?_ ?_; rotate_left; (exact rfl); (first | exact .inl rfl | exact .inr rfl))
      | (refine wpList_r1 6 ?_ ?_ (wanted_some 37 98 false rfl (by kernel_rfl) (by rfl)) ?_ ?_ ?_; rotate_left 2; exact rfl; (intro ρ9 rc9 r09; go_simp; try with_reducible rfl))
    try simp only [Act.put, List.setIfInBounds_toArray, List.set_cons_zero, List.set_cons_succ]
    first
      | (refine wpList_gskip 37 98 false rfl (by kernel_rfl) (u := ?_) ?_ ?_ ?_; rotate_left; (exact rfl); (first | exact .inl rfl | exact .inr rfl))
      | (refine wpList_r1 0 ?_ ?_ (wanted_some 37 98 false rfl (by kernel_rfl) (by rfl)) ?_ ?_ ?_; rotate_left 2; exact rfl; (intro ρ9 rc9 r09; go_simp; try with_reducible rfl))
    try simp only [Act.put, List.setIfInBounds_toArray, List.set_cons_zero, List.set_cons_succ]
    first
      | (refine wpList_gskip 37 98 false rfl (by kernel_rfl) (u := ?_) ?_ ?_ ?_; rotate_left; (exact rfl); (first | exact .inl rfl | exact .inr rfl))
      | (refine wpList_r2 99 100 ?_ ?_ ?_ (wanted_some 37 98 false rfl (by kernel_rfl) (by rfl)) ?_ ?_ ?_ ?_; rotate_left 3; exact rfl; exact rfl; (intro ρ9 rc9 r09 r19; go_simp; try with_reducible rfl))
    try simp only [Act.put, List.setIfInBounds_toArray, List.set_cons_zero, List.set_cons_succ]
    first
      | (refine wpList_gskip 34 95 true rfl (by kernel_rfl) (u := ?_) ?_ ?_ ?_; rotate_left; (exact rfl); (first | exact .inl rfl | exact .inr rfl))
      | (refine wpList_r2 98 101 ?_ ?_ ?_ (wanted_some 34 95 true rfl (by kernel_rfl) (by rfl)) ?_ ?_ ?_ ?_; rotate_left 3; exact rfl; exact rfl; (intro ρ9 rc9 r09 r19; go_simp; try with_reducible rfl))
    try simp only [Act.put, List.setIfInBounds_toArray, List.set_cons_zero, List.set_cons_succ]
    first
      | (refine wpList_gskip 15 76 false rfl (by kernel_rfl) (u := ?_) ?_ ?_ ?_; rotate_left; (exact rfl); (first | exact .inl rfl | exact .inr rfl))
      | (refine wpList_r2 95 102 ?_ ?_ ?_ (wanted_some 15 76 false rfl (by kernel_rfl) (by rfl)) ?_ ?_ ?_ ?_; rotate_left 3; exact rfl; exact rfl; (intro ρ9 rc9 r09 r19; go_simp; try with_reducible rfl))
    try simp only [Act.put, List.setIfInBounds_toArray, List.set_cons_zero, List.set_cons_succ]
    first
      | (refine wpList_gskip 1 62 true rfl (by kernel_rfl) (u := ?_) ?_ ?_ ?_; rotate_left; (exact rfl); (first | exact .inl rfl | exact .inr rfl))
      | (refine wpList_r2 76 103 ?_ ?_ ?_ (wanted_some 1 62 true rfl (by kernel_rfl) (by rfl)) ?_ ?_ ?_ ?_; rotate_left 3; exact rfl; exact rfl; (intro ρ9 rc9 r09 r19; go_simp; try with_reducible rfl))
    try simp only [Act.put, List.setIfInBounds_toArray, List.set_cons_zero, List.set_cons_succ]
    (refine wpList_r2 62 104 ?_ ?_ ?_ (wanted_none rfl) ?_ ?_ ?_ ?_; rotate_left 3; exact rfl; exact rfl; (intro ρ9 rc9 r09 r19; go_simp; try with_reducible rfl))
    try simp only [Act.put, List.setIfInBounds_toArray, List.set_cons_zero, List.set_cons_succ]
    (refine wpList_r1 105 ?_ ?_ (wanted_none rfl) ?_ ?_ ?_; rotate_left 2; exact rfl; (intro ρ9 rc9 r09; go_simp; try with_reducible rfl))
    try simp only [Act.put, List.setIfInBounds_toArray, List.set_cons_zero, List.set_cons_succ]
    first
      | (refine wpList_gskip 45 106 true rfl (by kernel_rfl) (u := ?_) ?_ ?_ ?_; rotate_left; (exact rfl); (first | exact .inl rfl | exact .inr rfl))
      | (refine wpList_r1 9 ?_ ?_ (wanted_some 45 106 true rfl (by kernel_rfl) (by rfl)) ?_ ?_ ?_; rotate_left 2; exact rfl; (intro ρ9 rc9 r09; go_simp; try with_reducible rfl))
    try simp only [Act.put, List.setIfInBounds_toArray, List.set_cons_zero, List.set_cons_succ]
    first
      | (refine wpList_gskip 45 106 true rfl (by kernel_rfl) (u := ?_) ?_ ?_ ?_; rotate_left; (exact rfl); (first | exact .inl rfl | exact .inr rfl))
      | (refine wpList_r1 107 ?_ ?_ (wanted_some 45 106 true rfl (by kernel_rfl) (by rfl)) ?_ ?_ ?_; rotate_left 2; exact rfl; (intro ρ9 rc9 r09; go_simp; try with_reducible rfl))
    try simp only [Act.put, List.setIfInBounds_toArray, List.set_cons_zero, List.set_cons_succ]
    first
      | (refine wpList_gskip 45 106 true rfl (by kernel_rfl) (u := ?_) ?_ ?_ ?_; rotate_left; (exact rfl); (first | exact .inl rfl | exact .inr rfl))
      | (refine wpList_r1 108 ?_ ?_ (wanted_some 45 106 true rfl (by kernel_rfl) (by rfl)) ?_ ?_ ?_; rotate_left 2; exact rfl; (intro ρ9 rc9 r09; go_simp; try with_reducible rfl))
    try simp only [Act.put, List.setIfInBounds_toArray, List.set_cons_zero, List.set_cons_succ]
    first
      | (refine wpList_gskip 48 109 true rfl (by kernel_rfl) (u := ?_) ?_ ?_ ?_; rotate_left; (exact rfl); (first | exact .inl rfl | exact .inr rfl))
      | (refine wpList_r1 8 ?_ ?_ (wanted_some 48 109 true rfl (by kernel_rfl) (by rfl)) ?_ ?_ ?_; rotate_left 2; exact rfl; (intro ρ9 rc9 r09; go_simp; try with_reducible rfl))
    try simp only [Act.put, List.setIfInBounds_toArray, List.set_cons_zero, List.set_cons_succ]
    first
      | (refine wpList_gskip 48 109 true rfl (by kernel_rfl) (u := ?_) ?_ ?_ ?_; rotate_left; (exact rfl); (first | exact .inl rfl | exact .inr rfl))
      | (refine wpList_r1 110 ?_ ?_ (wanted_some 48 109 true rfl (by kernel_rfl) (by rfl)) ?_ ?_ ?_; rotate_left 2; exact rfl; (intro ρ9 rc9 r09; go_simp; try with_reducible rfl))
    try simp only [Act.put, List.setIfInBounds_toArray, List.set_cons_zero, List.set_cons_succ]
    first
      | (refine wpList_gskip 45 106 true rfl (by kernel_rfl) (u := ?_) ?_ ?_ ?_; rotate_left; (exact rfl); (first | exact .inl rfl | exact .inr rfl))
      | (refine wpList_r2 109 111 ?_ ?_ ?_ (wanted_some 45 106 true rfl (by kernel_rfl) (by rfl)) ?_ ?_ ?_ ?_; rotate_left 3; exact rfl; exact rfl; (intro ρ9 rc9 r09 r19; go_simp; try with_reducible rfl))
    try simp only [Act.put, List.setIfInBounds_toArray, List.set_cons_zero, List.set_cons_succ]
    first
      | (refine wpList_gskip 45 106 true rfl (by kernel_rfl) (u := ?_) ?_ ?_ ?_; rotate_left; (exact rfl); (first | exact .inl rfl | exact .inr rfl))
      | (refine wpList_r1 112 ?_ ?_ (wanted_some 45 106 true rfl (by kernel_rfl) (by rfl)) ?_ ?_ ?_; rotate_left 2; exact rfl; (intro ρ9 rc9 r09; go_simp; try with_reducible rfl))
    try simp only [Act.put, List.setIfInBounds_toArray, List.set_cons_zero, List.set_cons_succ]
    first
      | (refine wpList_gskip 52 113 true rfl (by kernel_rfl) (u := ?_) ?_ ?_ ?_; rotate_left; (exact rfl); (first | exact .inl rfl | exact .inr rfl))
      | (refine wpList_r1 0 ?_ ?_ (wanted_some 52 113 true rfl (by kernel_rfl) (by rfl)) ?_ ?_ ?_; rotate_left 2; exact rfl; (intro ρ9 rc9 r09; go_simp; try with_reducible rfl))
    try simp only [Act.put, List.setIfInBounds_toArray, List.set_cons_zero, List.set_cons_succ]
    first
      | (refine wpList_gskip 52 113 true rfl (by kernel_rfl) (u := ?_) ?_ ?_ ?_; rotate_left; (exact rfl); (first | exact .inl rfl | exact .inr rfl))
      | (refine wpList_r1 114 ?_ ?_ (wanted_some 52 113 true rfl (by kernel_rfl) (by rfl)) ?_ ?_ ?_; rotate_left 2; exact rfl; (intro ρ9 rc9 r09; go_simp; try with_reducible rfl))
    try simp only [Act.put, List.setIfInBounds_toArray, List.set_cons_zero, List.set_cons_succ]
    first
      | (refine wpList_gskip 45 106 true rfl (by kernel_rfl) (u := ?_) ?_ ?_ ?_; rotate_left; (exact rfl); (first | exact .inl rfl | exact .inr rfl))
      | (refine wpList_r2 113 115 ?_ ?_ ?_ (wanted_some 45 106 true rfl (by kernel_rfl) (by rfl)) ?_ ?_ ?_ ?_; rotate_left 3; exact rfl; exact rfl; (intro ρ9 rc9 r09 r19; go_simp; try with_reducible rfl))
    try simp only [Act.put, List.setIfInBounds_toArray, List.set_cons_zero, List.set_cons_succ]
    first
      | (refine wpList_gskip 45 106 true rfl (by kernel_rfl) (u := ?_) ?_ ?_ ?_; rotate_left; (exact rfl); (first | exact .inl rfl | exact .inr rfl))
      | (refine wpList_r1 116 ?_ ?_ (wanted_some 45 106 true rfl (by kernel_rfl) (by rfl)) ?_ ?_ ?_; rotate_left 2; exact rfl; (intro ρ9 rc9 r09; go_simp; try with_reducible rfl))
    try simp only [Act.put, List.setIfInBounds_toArray, List.set_cons_zero, List.set_cons_succ]
    first
      | (refine wpList_gskip 56 117 true rfl (by kernel_rfl) (u := ?_) ?_ ?_ ?_; rotate_left; (exact rfl); (first | exact .inl rfl | exact .inr rfl))
      | (refine wpList_r1 1 ?_ ?_ (wanted_some 56 117 true rfl (by kernel_rfl) (by rfl)) ?_ ?_ ?_; rotate_left 2; exact rfl; (intro ρ9 rc9 r09; go_simp; try with_reducible rfl))
    try simp only [Act.put, List.setIfInBounds_toArray, List.set_cons_zero, List.set_cons_succ]
    first
      | (refine wpList_gskip 56 117 true rfl (by kernel_rfl) (u := ?_) ?_ ?_ ?_; rotate_left; (exact rfl); (first | exact .inl rfl | exact .inr rfl))
      | (refine wpList_r1 118 ?_ ?_ (wanted_some 56 117 true rfl (by kernel_rfl) (by rfl)) ?_ ?_ ?_; rotate_left 2; exact rfl; (intro ρ9 rc9 r09; go_simp; try with_reducible rfl))
    try simp only [Act.put, List.setIfInBounds_toArray, List.set_cons_zero, List.set_cons_succ]
    first
      | (refine wpList_gskip 45 106 true rfl (by kernel_rfl) (u := ?_) ?_ ?_ ?_; rotate_left; (exact rfl); (first | exact .inl rfl | exact .inr rfl))
      | (refine wpList_r2 117 119 ?_ ?_ ?_ (wanted_some 45 106 true rfl (by kernel_rfl) (by rfl)) ?_ ?_ ?_ ?_; rotate_left 3; exact rfl; exact rfl; (intro ρ9 rc9 r09 r19; go_simp; try with_reducible rfl))
    try simp only [Act.put, List.setIfInBounds_toArray, List.set_cons_zero, List.set_cons_succ]
    first
      | (refine wpList_gskip 45 106 true rfl (by kernel_rfl) (u := ?_) ?_ ?_ ?_; rotate_left; (exact rfl); (first | exact .inl rfl | exact .inr rfl))
      | (refine wpList_r1 120 ?_ ?_ (wanted_some 45 106 true rfl (by kernel_rfl) (by rfl)) ?_ ?_ ?_; rotate_left 2; exact rfl; (intro ρ9 rc9 r09; go_simp; try with_reducible rfl))
    try simp only [Act.put, List.setIfInBounds_toArray, List.set_cons_zero, List.set_cons_succ]
    first
      | (refine wpList_gskip 60 121 false rfl (by kernel_rfl) (u := ?_) ?_ ?_ ?_; rotate_left; (exact rfl); (first | exact .inl rfl | exact .inr rfl))
      | (refine wpList_r1 9 ?_ ?_ (wanted_some 60 121 false rfl (by kernel_rfl) (by rfl)) ?_ ?_ ?_; rotate_left 2; exact rfl; (intro ρ9 rc9 r09; go_simp; try with_reducible rfl))
    try simp only [Act.put, List.setIfInBounds_toArray, List.set_cons_zero, List.set_cons_succ]
    first
      | (refine wpList_gskip 60 121 false rfl (by kernel_rfl) (u := ?_) ?_ ?_ ?_; rotate_left; (exact rfl); (first | exact .inl rfl | exact .inr rfl))
      | (refine wpList_r1 122 ?_ ?_ (wanted_some 60 121 false rfl (by kernel_rfl) (by rfl)) ?_ ?_ ?_; rotate_left 2; exact rfl; (intro ρ9 rc9 r09; go_simp; try with_reducible rfl))
    try simp only [Act.put, List.setIfInBounds_toArray, List.set_cons_zero, List.set_cons_succ]
    first
      | (refine wpList_gskip 60 121 false rfl (by kernel_rfl) (u := ?_) ?_ ?_ ?_; rotate_left; (exact rfl); (first | exact .inl rfl | exact .inr rfl))
      | (refine wpList_r1 123 ?_ ?_ (wanted_some 60 121 false rfl (by kernel_rfl) (by rfl)) ?_ ?_ ?_; rotate_left 2; exact rfl; (intro ρ9 rc9 r09; go_simp; try with_reducible rfl))
    try simp only [Act.put, List.setIfInBounds_toArray, List.set_cons_zero, List.set_cons_succ]
    first
      | (refine wpList_gskip 63 124 true rfl (by kernel_rfl) (u := ?_) ?_ ?_ ?_; rotate_left; (exact rfl); (first | exact .inl rfl | exact .inr rfl))
      | (refine wpList_r1 0 ?_ ?_ (wanted_some 63 124 true rfl (by kernel_rfl) (by rfl)) ?_ ?_ ?_; rotate_left 2; exact rfl; (intro ρ9 rc9 r09; go_simp; try with_reducible rfl))
    try simp only [Act.put, List.setIfInBounds_toArray, List.set_cons_zero, List.set_cons_succ]
    first
      | (refine wpList_gskip 63 124 true rfl (by kernel_rfl) (u := ?_) ?_ ?_ ?_; rotate_left; (exact rfl); (first | exact .inl rfl | exact .inr rfl))
      | (refine wpList_r1 125 ?_ ?_ (wanted_some 63 124 true rfl (by kernel_rfl) (by rfl)) ?_ ?_ ?_; rotate_left 2; exact rfl; (intro ρ9 rc9 r09; go_simp; try with_reducible rfl))
    try simp only [Act.put, List.setIfInBounds_toArray, List.set_cons_zero, List.set_cons_succ]
    first
      | (refine wpList_gskip 63 124 true rfl (by kernel_rfl) (u := ?_) ?_ ?_ ?_; rotate_left; (exact rfl); (first | exact .inl rfl | exact .inr rfl))
      | (refine wpList_r1 126 ?_ ?_ (wanted_some 63 124 true rfl (by kernel_rfl) (by rfl)) ?_ ?_ ?_; rotate_left 2; exact rfl; (intro ρ9 rc9 r09; go_simp; try with_reducible rfl))
    try simp only [Act.put, List.setIfInBounds_toArray, List.set_cons_zero, List.set_cons_succ]
    first
      | (refine wpList_gskip 66 127 true rfl (by kernel_rfl) (u := ?_) ?_ ?_ ?_; rotate_left; (exact rfl); (first | exact .inl rfl | exact .inr rfl))
      | (refine wpList_r1 8 ?_ ?_ (wanted_some 66 127 true rfl (by kernel_rfl) (by rfl)) ?_ ?_ ?_; rotate_left 2; exact rfl; (intro ρ9 rc9 r09; go_simp; try with_reducible rfl))
    try simp only [Act.put, List.setIfInBounds_toArray, List.set_cons_zero, List.set_cons_succ]
    first
      | (refine wpList_gskip 66 127 true rfl (by kernel_rfl) (u := ?_) ?_ ?_ ?_; rotate_left; (exact rfl); (first | exact .inl rfl | exact .inr rfl))
      | (refine wpList_r1 128 ?_ ?_ (wanted_some 66 127 true rfl (by kernel_rfl) (by rfl)) ?_ ?_ ?_; rotate_left 2; exact rfl; (intro ρ9 rc9 r09; go_simp; try with_reducible rfl))
    try simp only [Act.put, List.setIfInBounds_toArray, List.set_cons_zero, List.set_cons_succ]
    first
      | (refine wpList_gskip 63 124 true rfl (by kernel_rfl) (u := ?_) ?_ ?_ ?_; rotate_left; (exact rfl); (first | exact .inl rfl | exact .inr rfl))
      | (refine wpList_r2 127 129 ?_ ?_ ?_ (wanted_some 63 124 true rfl (by kernel_rfl) (by rfl)) ?_ ?_ ?_ ?_; rotate_left 3; exact rfl; exact rfl; (intro ρ9 rc9 r09 r19; go_simp; try with_reducible rfl))
    try simp only [Act.put, List.setIfInBounds_toArray, List.set_cons_zero, List.set_cons_succ]
    first
      | (refine wpList_gskip 63 124 true rfl (by kernel_rfl) (u := ?_) ?_ ?_ ?_; rotate_left; (exact rfl); (first | exact .inl rfl | exact .inr rfl))
      | (refine wpList_r1 130 ?_ ?_ (wanted_some 63 124 true rfl (by kernel_rfl) (by rfl)) ?_ ?_ ?_; rotate_left 2; exact rfl; (intro ρ9 rc9 r09; go_simp; try with_reducible rfl))
    try simp only [Act.put, List.setIfInBounds_toArray, List.set_cons_zero, List.set_cons_succ]
    first
      | (refine wpList_gskip 70 131 false rfl (by kernel_rfl) (u := ?_) ?_ ?_ ?_; rotate_left; (exact rfl); (first | exact .inl rfl | exact .inr rfl))
      | (refine wpList_r1 0 ?_ ?_ (wanted_some 70 131 false rfl (by kernel_rfl) (by rfl)) ?_ ?_ ?_; rotate_left 2; exact rfl; (intro ρ9 rc9 r09; go_simp; try with_reducible rfl))
    try simp only [Act.put, List.setIfInBounds_toArray, List.set_cons_zero, List.set_cons_succ]
    first
      | (refine wpList_gskip 70 131 false rfl (by kernel_rfl) (u := ?_) ?_ ?_ ?_; rotate_left; (exact rfl); (first | exact .inl rfl | exact .inr rfl))
      | (refine wpList_r1 132 ?_ ?_ (wanted_some 70 131 false rfl (by kernel_rfl) (by rfl)) ?_ ?_ ?_; rotate_left 2; exact rfl; (intro ρ9 rc9 r09; go_simp; try with_reducible rfl))
    try simp only [Act.put, List.setIfInBounds_toArray, List.set_cons_zero, List.set_cons_succ]
    first
      | (refine wpList_gskip 70 131 false rfl (by kernel_rfl) (u := ?_) ?_ ?_ ?_; rotate_left; (exact rfl); (first | exact .inl rfl | exact .inr rfl))
      | (refine wpList_r1 133 ?_ ?_ (wanted_some 70 131 false rfl (by kernel_rfl) (by rfl)) ?_ ?_ ?_; rotate_left 2; exact rfl; (intro ρ9 rc9 r09; go_simp; try with_reducible rfl))
    try simp only [Act.put, List.setIfInBounds_toArray, List.set_cons_zero, List.set_cons_succ]
    first
      | (refine wpList_gskip 73 134 true rfl (by kernel_rfl) (u := ?_) ?_ ?_ ?_; rotate_left; (exact rfl); (first | exact .inl rfl | exact .inr rfl))
      | (refine wpList_r1 8 ?_ ?_ (wanted_some 73 134 true rfl (by kernel_rfl) (by rfl)) ?_ ?_ ?_; rotate_left 2; exact rfl; (intro ρ9 rc9 r09; go_simp; try with_reducible rfl))
    try simp only [Act.put, List.setIfInBounds_toArray, List.set_cons_zero, List.set_cons_succ]
    first
      | (refine wpList_gskip 73 134 true rfl (by kernel_rfl) (u := ?_) ?_ ?_ ?_; rotate_left; (exact rfl); (first | exact .inl rfl | exact .inr rfl))
      | (refine wpList_r1 0 ?_ ?_ (wanted_some 73 134 true rfl (by kernel_rfl) (by rfl)) ?_ ?_ ?_; rotate_left 2; exact rfl; (intro ρ9 rc9 r09; go_simp; try with_reducible rfl))
    try simp only [Act.put, List.setIfInBounds_toArray, List.set_cons_zero, List.set_cons_succ]
    first
      | (refine wpList_gskip 73 134 true rfl (by kernel_rfl) (u := ?_) ?_ ?_ ?_; rotate_left; (exact rfl); (first | exact .inl rfl | exact .inr rfl))
      | (refine wpList_r2 135 136 ?_ ?_ ?_ (wanted_some 73 134 true rfl (by kernel_rfl) (by rfl)) ?_ ?_ ?_ ?_; rotate_left 3; exact rfl; exact rfl; (intro ρ9 rc9 r09 r19; go_simp; try with_reducible rfl))
    try simp only [Act.put, List.setIfInBounds_toArray, List.set_cons_zero, List.set_cons_succ]
    first
      | (refine wpList_gskip 73 134 true rfl (by kernel_rfl) (u := ?_) ?_ ?_ ?_; rotate_left; (exact rfl); (first | exact .inl rfl | exact .inr rfl))
      | (refine wpList_r1 1 ?_ ?_ (wanted_some 73 134 true rfl (by kernel_rfl) (by rfl)) ?_ ?_ ?_; rotate_left 2; exact rfl; (intro ρ9 rc9 r09; go_simp; try with_reducible rfl))
    try simp only [Act.put, List.setIfInBounds_toArray, List.set_cons_zero, List.set_cons_succ]
    first
      | (refine wpList_gskip 73 134 true rfl (by kernel_rfl) (u := ?_) ?_ ?_ ?_; rotate_left; (exact rfl); (first | exact .inl rfl | exact .inr rfl))
      | (refine wpList_r2 137 138 ?_ ?_ ?_ (wanted_some 73 134 true rfl (by kernel_rfl) (by rfl)) ?_ ?_ ?_ ?_; rotate_left 3; exact rfl; exact rfl; (intro ρ9 rc9 r09 r19; go_simp; try with_reducible rfl))
    try simp only [Act.put, List.setIfInBounds_toArray, List.set_cons_zero, List.set_cons_succ]
    first
      | (refine wpList_gskip 70 131 false rfl (by kernel_rfl) (u := ?_) ?_ ?_ ?_; rotate_left; (exact rfl); (first | exact .inl rfl | exact .inr rfl))
      | (refine wpList_r2 134 139 ?_ ?_ ?_ (wanted_some 70 131 false rfl (by kernel_rfl) (by rfl)) ?_ ?_ ?_ ?_; rotate_left 3; exact rfl; exact rfl; (intro ρ9 rc9 r09 r19; go_simp; try with_reducible rfl))
    try simp only [Act.put, List.setIfInBounds_toArray, List.set_cons_zero, List.set_cons_succ]
    first
      | (refine wpList_gskip 70 131 false rfl (by kernel_rfl) (u := ?_) ?_ ?_ ?_; rotate_left; (exact rfl); (first | exact .inl rfl | exact .inr rfl))
      | (refine wpList_r1 140 ?_ ?_ (wanted_some 70 131 false rfl (by kernel_rfl) (by rfl)) ?_ ?_ ?_; rotate_left 2; exact rfl; (intro ρ9 rc9 r09; go_simp; try with_reducible rfl))
    try simp only [Act.put, List.setIfInBounds_toArray, List.set_cons_zero, List.set_cons_succ]
    first
      | (refine wpList_gskip 80 141 true rfl (by kernel_rfl) (u := ?_) ?_ ?_ ?_; rotate_left; (exact rfl); (first | exact .inl rfl | exact .inr rfl))
      | (refine wpList_r1 8 ?_ ?_ (wanted_some 80 141 true rfl (by kernel_rfl) (by rfl)) ?_ ?_ ?_; rotate_left 2; exact rfl; (intro ρ9 rc9 r09; go_simp; try with_reducible rfl))
    try simp only [Act.put, List.setIfInBounds_toArray, List.set_cons_zero, List.set_cons_succ]
    first
      | (refine wpList_gskip 80 141 true rfl (by kernel_rfl) (u := ?_) ?_ ?_ ?_; rotate_left; (exact rfl); (first | exact .inl rfl | exact .inr rfl))
      | (refine wpList_r1 0 ?_ ?_ (wanted_some 80 141 true rfl (by kernel_rfl) (by rfl)) ?_ ?_ ?_; rotate_left 2; exact rfl; (intro ρ9 rc9 r09; go_simp; try with_reducible rfl))
    try simp only [Act.put, List.setIfInBounds_toArray, List.set_cons_zero, List.set_cons_succ]
    first
      | (refine wpList_gskip 80 141 true rfl (by kernel_rfl) (u := ?_) ?_ ?_ ?_; rotate_left; (exact rfl); (first | exact .inl rfl | exact .inr rfl))
      | (refine wpList_r2 142 143 ?_ ?_ ?_ (wanted_some 80 141 true rfl (by kernel_rfl) (by rfl)) ?_ ?_ ?_ ?_; rotate_left 3; exact rfl; exact rfl; (intro ρ9 rc9 r09 r19; go_simp; try with_reducible rfl))
    try simp only [Act.put, List.setIfInBounds_toArray, List.set_cons_zero, List.set_cons_succ]
    first
      | (refine wpList_gskip 80 141 true rfl (by kernel_rfl) (u := ?_) ?_ ?_ ?_; rotate_left; (exact rfl); (first | exact .inl rfl | exact .inr rfl))
      | (refine wpList_r1 144 ?_ ?_ (wanted_some 80 141 true rfl (by kernel_rfl) (by rfl)) ?_ ?_ ?_; rotate_left 2; exact rfl; (intro ρ9 rc9 r09; go_simp; try with_reducible rfl))
    try simp only [Act.put, List.setIfInBounds_toArray, List.set_cons_zero, List.set_cons_succ]
    first
      | (refine wpList_gskip 70 131 false rfl (by kernel_rfl) (u := ?_) ?_ ?_ ?_; rotate_left; (exact rfl); (first | exact .inl rfl | exact .inr rfl))
      | (refine wpList_r2 141 145 ?_ ?_ ?_ (wanted_some 70 131 false rfl (by kernel_rfl) (by rfl)) ?_ ?_ ?_ ?_; rotate_left 3; exact rfl; exact rfl; (intro ρ9 rc9 r09 r19; go_simp; try with_reducible rfl))
    try simp only [Act.put, List.setIfInBounds_toArray, List.set_cons_zero, List.set_cons_succ]
    first
      | (refine wpList_gskip 63 124 true rfl (by kernel_rfl) (u := ?_) ?_ ?_ ?_; rotate_left; (exact rfl); (first | exact .inl rfl | exact .inr rfl))
      | (refine wpList_r2 131 146 ?_ ?_ ?_ (wanted_some 63 124 true rfl (by kernel_rfl) (by rfl)) ?_ ?_ ?_ ?_; rotate_left 3; exact rfl; exact rfl; (intro ρ9 rc9 r09 r19; go_simp; try with_reducible rfl))
    try simp only [Act.put, List.setIfInBounds_toArray, List.set_cons_zero, List.set_cons_succ]
    first
      | (refine wpList_gskip 60 121 false rfl (by kernel_rfl) (u := ?_) ?_ ?_ ?_; rotate_left; (exact rfl); (first | exact .inl rfl | exact .inr rfl))
      | (refine wpList_r2 124 147 ?_ ?_ ?_ (wanted_some 60 121 false rfl (by kernel_rfl) (by rfl)) ?_ ?_ ?_ ?_; rotate_left 3; exact rfl; exact rfl; (intro ρ9 rc9 r09 r19; go_simp; try with_reducible rfl))
    try simp only [Act.put, List.setIfInBounds_toArray, List.set_cons_zero, List.set_cons_succ]
    first
      | (refine wpList_gskip 45 106 true rfl (by kernel_rfl) (u := ?_) ?_ ?_ ?_; rotate_left; (exact rfl); (first | exact .inl rfl | exact .inr rfl))
      | (refine wpList_r2 121 148 ?_ ?_ ?_ (wanted_some 45 106 true rfl (by kernel_rfl) (by rfl)) ?_ ?_ ?_ ?_; rotate_left 3; exact rfl; exact rfl; (intro ρ9 rc9 r09 r19; go_simp; try with_reducible rfl))
    try simp only [Act.put, List.setIfInBounds_toArray, List.set_cons_zero, List.set_cons_succ]
    (refine wpList_r2 106 149 ?_ ?_ ?_ (wanted_none rfl) ?_ ?_ ?_ ?_; rotate_left 3; exact rfl; exact rfl; (intro ρ9 rc9 r09 r19; go_simp; try with_reducible rfl))
    try simp only [Act.put, List.setIfInBounds_toArray, List.set_cons_zero, List.set_cons_succ]
    (refine wpList_r1 150 ?_ ?_ (wanted_none rfl) ?_ ?_ ?_; rotate_left 2; exact rfl; (intro ρ9 rc9 r09; go_simp; try with_reducible rfl))
    try simp only [Act.put, List.setIfInBounds_toArray, List.set_cons_zero, List.set_cons_succ]
    refine wl_nil ?_
    go_wp2_with fail
    go_ret
    exact ⟨rfl, B8.out⟩
end Go.Proofs.YtflicahchahcnaaDoor
