/- The walks of the clock's laws without a loop: ClockReckons, ClockSums, ClockOrder. -/
import Derived.Test.YtcbcbddkhdbbdaaClkSmall
namespace Go.Proofs.Ytcbcbddkhdbbdaa
open Go.RowKit

theorem u64_bd {a : Int} (h : (Lit.int .u64 a).wf = true) : 0 ≤ a ∧ a ≤ 18446744073709551615 := by
  have h1 : IntKind.u64.min = 0 := rfl
  have h2 : IntKind.u64.max = 18446744073709551615 := rfl
  simp only [Lit.wf, Bool.and_eq_true, decide_eq_true_eq] at h
  omega
theorem cAdd_bd (a b : Int) (ha : 0 ≤ a) (hb : 0 ≤ b) : 0 ≤ cAdd a b ∧ cAdd a b ≤ 18446744073709551615 := by
  unfold cAdd; split <;> omega
theorem cSince_bd (a b : Int) (hb : 0 ≤ b) (ha : 0 ≤ a) (ha1 : a ≤ 18446744073709551615) : 0 ≤ cSince a b ∧ cSince a b ≤ 18446744073709551615 := by
  unfold cSince; split <;> omega

set_option maxHeartbeats 400000 in
theorem clockReckons_walk (a0 a1 : Int) (w0 : (Lit.int .u64 a0).wf = true) (w1 : (Lit.int .u64 a1).wf = true) (w : World) :
    Calls Try.prog 3 #[.int .u64 a0, .int .u64 a1] w fun e w' => e = .returned (.bool true) ∧ Below w.heap.size w w' := by
  have b0 := Lib.hid (u64_bd w0)
  have b1 := Lib.hid (u64_bd w1)
  clear w0 w1
  go_enter Try.func3, Try.ntmps3
  go_wp2_with fail
  refine (clk_small _).mono ?_
  rintro e w' ⟨rfl, hb⟩
  go_wp2_with (first | (go_at_call 10; refine (clk_add _ _ b0.out.1 b1.out.1 b0.out.2 b1.out.2 _).mono ?_; rintro e w' ⟨rfl, rfl⟩) | (go_at_call 12; refine (clk_since _ _ b0.out.1 b1.out.1 b0.out.2 b1.out.2 _).mono ?_; rintro e w' ⟨rfl, rfl⟩) | (go_at_call 11; refine (ref_add _ _ _ rfl b1.out.1 b1.out.2 b0.out.1 b0.out.2 _).mono ?_; rintro e w' ⟨rfl, rfl⟩) | (go_at_call 13; refine (ref_since _ _ b0.out.1 b1.out.1 b0.out.2 _).mono ?_; rintro e w' ⟨rfl, rfl⟩))
  go_ret
  exact ⟨rfl, hb⟩

set_option maxHeartbeats 1000000 in
theorem clockSums_walk (a0 a1 a2 : Int) (w0 : (Lit.int .u64 a0).wf = true) (w1 : (Lit.int .u64 a1).wf = true) (w2 : (Lit.int .u64 a2).wf = true) (w : World) :
    Calls Try.prog 6 #[.int .u64 a0, .int .u64 a1, .int .u64 a2] w fun e w' => e = .returned (.bool true) ∧ Below w.heap.size w w' := by
  obtain ⟨l0, u0⟩ := u64_bd w0
  obtain ⟨l1, u1⟩ := u64_bd w1
  obtain ⟨l2, u2⟩ := u64_bd w2
  have s0 := Lib.hid (cAdd_bd a0 a1 l0 l1)
  have s1 := Lib.hid (cAdd_bd a1 a2 l1 l2)
  have hA := Lib.hid (And.intro (And.intro l0 u0) (And.intro (And.intro l1 u1) (And.intro l2 u2)))
  have c1 : cAdd a1 a0 = cAdd a0 a1 := by unfold cAdd; rw [Int.add_comm]
  have c2 : cAdd (cAdd a0 a1) a2 = cAdd a0 (cAdd a1 a2) := by unfold cAdd; split <;> split <;> (try split) <;> (try split) <;> omega
  have c3 : ¬ cAdd a0 a1 < a0 := by unfold cAdd; split <;> omega
  have c4 : ¬ cAdd a0 a1 < a1 := by unfold cAdd; split <;> omega
  have c5 : cSince a0 (cAdd a0 a1) = 0 := by unfold cSince cAdd; split <;> (try split at *) <;> omega
  have c6 : (cAdd a0 a1 == maxTick) = true ∨ ((cAdd a0 a1 == maxTick) = false ∧ cSince (cAdd a0 a1) a0 = a1) := by
    by_cases h : cAdd a0 a1 = maxTick
    · exact .inl (by simp [h])
    · refine .inr ⟨by simp [h], ?_⟩
      unfold maxTick at h; revert h; unfold cSince cAdd; split <;> (intro h; split <;> omega)
  clear w0 w1 w2 l0 u0 l1 u1 l2 u2
  unfold maxTick at c6
  rcases c6 with c6 | ⟨c6, c7⟩
  all_goals
    go_enter Try.func6, Try.ntmps6
    go_wp2_with fail
    refine (clk_small _).mono ?_
    rintro e w' ⟨rfl, hb⟩
    go_wp2_with (first | (go_at_call 10; refine (clk_add _ _ ?_ ?_ ?_ ?_ _).mono ?_; (first | exact hA.out.1.1 | exact hA.out.2.1.1 | exact s0.out.1); (first | exact hA.out.1.1 | exact hA.out.2.1.1 | exact hA.out.2.2.1 | exact s1.out.1); (first | exact hA.out.1.2 | exact hA.out.2.1.2 | exact s0.out.2); (first | exact hA.out.1.2 | exact hA.out.2.1.2 | exact hA.out.2.2.2 | exact s1.out.2); rintro e w' ⟨rfl, rfl⟩) | (go_at_call 12; refine (clk_since _ _ ?_ ?_ ?_ ?_ _).mono ?_; (first | exact hA.out.1.1 | exact s0.out.1); (first | exact hA.out.1.1 | exact s0.out.1); (first | exact hA.out.1.2 | exact s0.out.2); (first | exact hA.out.1.2 | exact s0.out.2); rintro e w' ⟨rfl, rfl⟩))
    go_ret
    exact ⟨rfl, hb⟩
end Go.Proofs.Ytcbcbddkhdbbdaa
