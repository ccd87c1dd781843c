/- The walks of the clock's laws: ClockOrder, and those with a loop: ClockTicks, ClockForward, ClockTwo. -/
import Derived.Test.YtcbcbddkhdbbdaaClkLaws
import Derived.LoopTactic
import Derived.Outline
namespace Go.Proofs.Ytcbcbddkhdbbdaa
open Go.RowKit
set_option linter.unusedVariables false

set_option maxHeartbeats 1000000 in
theorem clockOrder_walk (a0 a1 a2 : Int) (w0 : (Lit.int .u64 a0).wf = true) (w1 : (Lit.int .u64 a1).wf = true) (w2 : (Lit.int .u64 a2).wf = true) (w : World) :
    Calls Try.prog 7 #[.int .u64 a0, .int .u64 a1, .int .u64 a2] w fun e w' => e = .returned (.bool true) ∧ Below w.heap.size w w' := by
  obtain ⟨l0, u0⟩ := u64_bd w0
  obtain ⟨l1, u1⟩ := u64_bd w1
  obtain ⟨l2, u2⟩ := u64_bd w2
  have s0 := Lib.hid (cSince_bd a1 a0 l0 l1 u1)
  have hA := Lib.hid (And.intro (And.intro l0 u0) (And.intro (And.intro l1 u1) (And.intro l2 u2)))
  by_cases h1 : a1 < a0
  · have c0 : cSince a1 a0 = 0 := by unfold cSince; rw [if_pos h1]
    have h2 : ¬ a0 ≤ a1 := by omega
    clear w0 w1 w2 l0 u0 l1 u1 l2 u2
    go_enter Try.func7, Try.ntmps7
    go_wp2_with fail
    refine (clk_small _).mono ?_
    rintro e w' ⟨rfl, hb⟩
    go_wp2_with (go_at_call 12; refine (clk_since _ _ hA.out.2.1.1 hA.out.1.1 hA.out.2.1.2 hA.out.1.2 _).mono ?_; rintro e w' ⟨rfl, rfl⟩)
    go_ret
    exact ⟨rfl, hb⟩
  · have h2 : a0 ≤ a1 := by omega
    by_cases h3 : a2 < a1
    · clear w0 w1 w2 l0 u0 l1 u1 l2 u2
      go_enter Try.func7, Try.ntmps7
      go_wp2_with fail
      refine (clk_small _).mono ?_
      rintro e w' ⟨rfl, hb⟩
      go_wp2
      go_ret
      exact ⟨rfl, hb⟩
    · have c1 : cSince a2 a0 = a2 - a0 := by unfold cSince; rw [if_neg (by omega)]
      have c2 : IntKind.u64.wrap (cSince a2 a1 + cSince a1 a0) = a2 - a0 := by
        rw [IntKind.wrap_u64]; unfold cSince; rw [if_neg (by omega), if_neg (by omega)]; omega
      have c3 : cAdd a0 (cSince a1 a0) = a1 := by unfold cSince; rw [if_neg (by omega)]; unfold cAdd; rw [if_pos (by omega)]; omega
      clear w0 w1 w2 l0 u0 l1 u1 l2 u2
      go_enter Try.func7, Try.ntmps7
      go_wp2_with fail
      refine (clk_small _).mono ?_
      rintro e w' ⟨rfl, hb⟩
      go_wp2_with (first | (go_at_call 12; refine (clk_since _ _ ?_ ?_ ?_ ?_ _).mono ?_; (first | exact hA.out.2.1.1 | exact hA.out.2.2.1); (first | exact hA.out.1.1 | exact hA.out.2.1.1); (first | exact hA.out.2.1.2 | exact hA.out.2.2.2); (first | exact hA.out.1.2 | exact hA.out.2.1.2); rintro e w' ⟨rfl, rfl⟩) | (go_at_call 10; refine (clk_add _ _ hA.out.1.1 s0.out.1 hA.out.1.2 s0.out.2 _).mono ?_; rintro e w' ⟨rfl, rfl⟩))
      go_ret
      exact ⟨rfl, hb⟩

theorem cAdd_step (s : Int) (k : Nat) (h : (cAdd s k == maxTick) = false) : cAdd s (k + 1 : Nat) = cAdd s k + 1 := by
  have h' : cAdd s k ≠ maxTick := by simpa using h
  unfold maxTick at h'; revert h'
  unfold cAdd; split <;> intro h' <;> split <;> omega
theorem cAdd_stay (s : Int) (k : Nat) (h : (cAdd s k == maxTick) = true) : cAdd s (k + 1 : Nat) = cAdd s k := by
  have h' : cAdd s k = maxTick := by simpa using h
  unfold maxTick at h'; revert h'
  unfold cAdd; split <;> intro h' <;> split <;> omega
theorem cAdd_one (x : Int) (s : Int) (k : Nat) (hx : x = cAdd s k) : cAdd x 1 = cAdd s (k + 1 : Nat) := by
  subst hx; unfold cAdd; split <;> split <;> omega
theorem cAdd_zero (s : Int) (hs : s ≤ 18446744073709551615) : cAdd s (0 : Nat) = s := by unfold cAdd; split <;> omega
theorem cell_top (w : World) (v : Value) (t : TypeId) : (w.alloc (.cells #[v] t)).cell? ⟨w.heap.size, 0, none⟩ = some v := by simp
theorem free_top (w : World) (v : Value) (t : TypeId) : (w.alloc (.cells #[v] t)).frozen? ⟨w.heap.size, 0, none⟩ = false := by simp

set_option maxHeartbeats 1000000 in
theorem clockTicks_walk (a0 a1 : Int) (w0 : (Lit.int .u64 a0).wf = true) (w1 : (Lit.int .i64 a1).wf = true) (w : World) :
    Calls Try.prog 4 #[.int .u64 a0, .int .i64 a1] w fun e w' => e = .returned (.bool true) ∧ Below w.heap.size w w' := by
  obtain ⟨l0, u0⟩ := u64_bd w0
  have hz := Lib.hid (cAdd_zero a0 u0)
  have hA := Lib.hid (And.intro l0 u0)
  clear w0 w1 l0 u0
  by_cases h1 : a1 < 0
  · go_enter Try.func4, Try.ntmps4
    go_wp2_with fail
    refine (clk_small _).mono ?_
    rintro e w1 ⟨rfl, hb⟩
    go_wp2_with (go_at_call 14; refine (clk_at _ _).mono ?_; rintro e w' ⟨rfl, rfl⟩)
    go_ret
    exact ⟨rfl, hb.alloc hb.size _⟩
  by_cases h2 : 500 < a1
  · go_enter Try.func4, Try.ntmps4
    go_wp2_with fail
    refine (clk_small _).mono ?_
    rintro e w1 ⟨rfl, hb⟩
    go_wp2_with (go_at_call 14; refine (clk_at _ _).mono ?_; rintro e w' ⟨rfl, rfl⟩)
    go_ret
    exact ⟨rfl, hb.alloc hb.size _⟩
  obtain ⟨n, rfl⟩ := Int.eq_ofNat_of_zero_le (show 0 ≤ a1 by omega)
  go_enter Try.func4, Try.ntmps4
  go_wp2_with fail
  refine (clk_small _).mono ?_
  rintro e w1 ⟨rfl, hb⟩
  go_wp2_with (go_at_call 14; refine (clk_at _ _).mono ?_; rintro e w' ⟨rfl, rfl⟩)
  go_loopw [7, 8] (fun now i wr => ∃ k : Nat, k ≤ n ∧ i = .int .i64 k ∧ now = .int .u64 (cAdd a0 k) ∧ wr = w1.alloc (.cells #[.int .u64 (cAdd a0 k)] 35)) (fun _ i _ => n - (intOf i).toNat)
  case atStart => exact ⟨0, Nat.zero_le _, rfl, by rw [hz.out], by rw [hz.out]⟩
  case round =>
    obtain ⟨k, hk, rfl, rfl, rfl⟩ := hrel
    have bk := Lib.hid (cAdd_bd a0 k hA.out.1 (by omega))
    have hc := cell_top w1 (.int .u64 (cAdd a0 k)) 35
    have hf := free_top w1 (.int .u64 (cAdd a0 k)) 35
    by_cases hlt : k < n
    · have e1 := Lib.hid (cAdd_one _ a0 k rfl)
      cases hm : (cAdd a0 k == maxTick)
      · have e2 := Lib.hid (cAdd_step a0 k hm)
        have hm2 : (cAdd a0 k == 18446744073709551615) = false := hm
        have HM := Lib.hid hm
        go_wp2_with (first | (go_at_call 15; refine (clk_now _ _ _ hc).mono ?_; rintro e w' ⟨rfl, rfl⟩) | (go_at_call 16; refine (clk_full _ _ _ hc).mono ?_; rintro e w' ⟨rfl, rfl⟩) | (go_at_call 17; refine (clk_tick _ _ _ _ hc hf HM.out bk.out.1 bk.out.2 rfl).mono ?_; rintro e w' ⟨rfl, rfl⟩) | (go_at_call 11; refine (ref_add _ _ _ rfl (by decide) (by decide) bk.out.1 bk.out.2 _).mono ?_; rintro e w' ⟨rfl, rfl⟩))
        exact ⟨⟨k + 1, by omega, by go_num, by rw [e1.out], by rw [e2.out]⟩, by simp [intOf]; omega⟩
      · have e2 := Lib.hid (cAdd_stay a0 k hm)
        have hm2 : (cAdd a0 k == 18446744073709551615) = true := hm
        have HM := Lib.hid hm
        go_wp2_with (first | (go_at_call 15; refine (clk_now _ _ _ hc).mono ?_; rintro e w' ⟨rfl, rfl⟩) | (go_at_call 16; refine (clk_full _ _ _ hc).mono ?_; rintro e w' ⟨rfl, rfl⟩) | (go_at_call 17; refine (clk_tick_full _ _ _ hc HM.out).mono ?_; rintro e w' ⟨rfl, rfl⟩) | (go_at_call 11; refine (ref_add _ _ _ rfl (by decide) (by decide) bk.out.1 bk.out.2 _).mono ?_; rintro e w' ⟨rfl, rfl⟩))
        exact ⟨⟨k + 1, by omega, by go_num, by rw [e1.out], by rw [e2.out]⟩, by simp [intOf]; omega⟩
    · go_wp2_with (go_at_call 15; refine (clk_now _ _ _ hc).mono ?_; rintro e w' ⟨rfl, rfl⟩)
      go_ret
      exact ⟨rfl, hb.alloc hb.size _⟩

theorem cSince_add (s : Int) (k : Nat) (h1 : s ≤ 18446744073709551615) : cSince (cAdd s k) s = cAdd s k - s := by unfold cSince cAdd; split <;> split <;> omega
theorem went_or (s : Int) (k : Nat) : (cAdd s k - s == (k : Int)) = true ∨ ((cAdd s k - s == (k : Int)) = false ∧ (cAdd s k == maxTick) = true) := by
  by_cases h : cAdd s k - s = k
  · exact .inl (by simp [h])
  · refine .inr ⟨by simp [h], ?_⟩
    have : cAdd s k = maxTick := by
      revert h; unfold maxTick cAdd; split <;> intro h <;> omega
    simp [this]

set_option maxHeartbeats 1000000 in
theorem clockForward_walk (a0 a1 : Int) (w0 : (Lit.int .u64 a0).wf = true) (w1 : (Lit.int .i64 a1).wf = true) (w : World) :
    Calls Try.prog 5 #[.int .u64 a0, .int .i64 a1] w fun e w' => e = .returned (.bool true) ∧ Below w.heap.size w w' := by
  obtain ⟨l0, u0⟩ := u64_bd w0
  have hz := Lib.hid (cAdd_zero a0 u0)
  have hA := Lib.hid (And.intro l0 u0)
  clear w0 w1 l0 u0
  by_cases h1 : a1 < 0
  · go_enter Try.func5, Try.ntmps5
    go_wp2_with fail
    refine (clk_small _).mono ?_
    rintro e w1 ⟨rfl, hb⟩
    go_wp2_with (go_at_call 14; refine (clk_at _ _).mono ?_; rintro e w' ⟨rfl, rfl⟩)
    go_ret
    exact ⟨rfl, hb.alloc hb.size _⟩
  by_cases h2 : 500 < a1
  · go_enter Try.func5, Try.ntmps5
    go_wp2_with fail
    refine (clk_small _).mono ?_
    rintro e w1 ⟨rfl, hb⟩
    go_wp2_with (go_at_call 14; refine (clk_at _ _).mono ?_; rintro e w' ⟨rfl, rfl⟩)
    go_ret
    exact ⟨rfl, hb.alloc hb.size _⟩
  obtain ⟨n, rfl⟩ := Int.eq_ofNat_of_zero_le (show 0 ≤ a1 by omega)
  go_enter Try.func5, Try.ntmps5
  go_wp2_with fail
  refine (clk_small _).mono ?_
  rintro e w1 ⟨rfl, hb⟩
  go_wp2_with (go_at_call 14; refine (clk_at _ _).mono ?_; rintro e w' ⟨rfl, rfl⟩)
  go_loopw [7, 8] (fun went i wr => ∃ k : Nat, k ≤ n ∧ i = .int .i64 k ∧ went = .int .u64 (cAdd a0 k - a0) ∧ wr = w1.alloc (.cells #[.int .u64 (cAdd a0 k)] 35)) (fun _ i _ => n - (intOf i).toNat)
  case atStart => exact ⟨0, Nat.zero_le _, rfl, by rw [hz.out]; simp, by rw [hz.out]⟩
  case round =>
    obtain ⟨k, hk, rfl, rfl, rfl⟩ := hrel
    have bk := Lib.hid (cAdd_bd a0 k hA.out.1 (by omega))
    have hc := cell_top w1 (.int .u64 (cAdd a0 k)) 35
    have hf := free_top w1 (.int .u64 (cAdd a0 k)) 35
    by_cases hlt : k < n
    · cases hm : (cAdd a0 k == maxTick)
      · have e2 := Lib.hid (cAdd_step a0 k hm)
        have HM := Lib.hid hm
        have hc2 := cell_top w1 (.int .u64 (cAdd a0 k + 1)) 35
        have g1 : ¬ cAdd a0 k + 1 < cAdd a0 k := by omega
        have g2 : IntKind.u64.wrap (cAdd a0 k + 1 - cAdd a0 k) = 1 := by rw [IntKind.wrap_u64]; omega
        have g3 : IntKind.u64.wrap (cAdd a0 k - a0 + 1) = cAdd a0 k + 1 - a0 := by
          rw [IntKind.wrap_u64]; have := bk.out; have h3 := hA.out
          have h4 : cAdd a0 k ≠ maxTick := by simpa using hm
          have h5 : a0 ≤ cAdd a0 k := by unfold cAdd; split <;> omega
          unfold maxTick at h4; omega
        clear hm
        go_wp2_with (first | (go_at_call 15; refine (clk_now _ _ _ hc).mono ?_; rintro e w' ⟨rfl, rfl⟩) | (go_at_call 15; refine (clk_now _ _ _ hc2).mono ?_; rintro e w' ⟨rfl, rfl⟩) | (go_at_call 17; refine (clk_tick _ _ _ _ hc hf HM.out bk.out.1 bk.out.2 rfl).mono ?_; rintro e w' ⟨rfl, rfl⟩))
        exact ⟨⟨k + 1, by omega, by go_num, by rw [e2.out], by rw [e2.out]⟩, by simp [intOf]; omega⟩
      · have e2 := Lib.hid (cAdd_stay a0 k hm)
        have HM := Lib.hid hm
        clear hm
        have g2 : IntKind.u64.wrap (cAdd a0 k - cAdd a0 k) = 0 := by rw [IntKind.wrap_u64]; omega
        go_wp2_with (first | (go_at_call 15; refine (clk_now _ _ _ hc).mono ?_; rintro e w' ⟨rfl, rfl⟩) | (go_at_call 17; refine (clk_tick_full _ _ _ hc HM.out).mono ?_; rintro e w' ⟨rfl, rfl⟩))
        exact ⟨⟨k + 1, by omega, by go_num, by rw [e2.out], by rw [e2.out]⟩, by simp [intOf]; omega⟩
    · obtain rfl : k = n := by omega
      have e3 : cSince (cAdd a0 k) a0 = cAdd a0 k - a0 := cSince_add a0 k hA.out.2
      have e4 : IntKind.u64.wrap (k : Int) = k := by rw [IntKind.wrap_u64]; omega
      rcases went_or a0 k with e5 | ⟨e5, e6⟩
      all_goals
        go_wp2_with (first | (go_at_call 15; refine (clk_now _ _ _ hc).mono ?_; rintro e w' ⟨rfl, rfl⟩) | (go_at_call 16; refine (clk_full _ _ _ hc).mono ?_; rintro e w' ⟨rfl, rfl⟩) | (go_at_call 12; refine (clk_since _ _ bk.out.1 hA.out.1 bk.out.2 hA.out.2 _).mono ?_; rintro e w' ⟨rfl, rfl⟩) | (go_at_call 10; refine (clk_add _ _ hA.out.1 (by omega) hA.out.2 (by omega) _).mono ?_; rintro e w' ⟨rfl, rfl⟩))
        go_ret
        exact ⟨rfl, hb.alloc hb.size _⟩
end Go.Proofs.Ytcbcbddkhdbbdaa
