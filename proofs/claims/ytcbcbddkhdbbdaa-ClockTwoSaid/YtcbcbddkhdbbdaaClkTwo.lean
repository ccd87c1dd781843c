/- The walk of ClockTwo: two clocks in two blocks. -/
import Derived.Test.YtcbcbddkhdbbdaaClkLoops
namespace Go.Proofs.Ytcbcbddkhdbbdaa
open Go.RowKit
set_option linter.unusedVariables false

/-- A world with two clocks more. -/
def twoClk (w : World) (x y : Int) : World := (w.alloc (.cells #[.int .u64 x] 35)).alloc (.cells #[.int .u64 y] 35)
theorem below_two {w w1 : World} (hb : Below w.heap.size w w1) (x y : Int) : Below w.heap.size w (twoClk w1 x y) := (hb.alloc hb.size _).alloc (by have := hb.size; simp; omega) _
theorem two_c1 (w : World) (x y : Int) : (twoClk w x y).cell? ⟨w.heap.size, 0, none⟩ = some (.int .u64 x) := by
  unfold twoClk; rw [World.cell?_alloc_past _ _ _ (by simp), World.cell?_alloc_at _ _ _ _ rfl]; rfl
theorem two_c2 (w : World) (x y : Int) : (twoClk w x y).cell? ⟨w.heap.size + 1, 0, none⟩ = some (.int .u64 y) := by
  unfold twoClk; rw [World.cell?_alloc_at _ _ _ _ (by simp)]; rfl
theorem two_f1 (w : World) (x y : Int) : (twoClk w x y).frozen? ⟨w.heap.size, 0, none⟩ = false := by
  unfold twoClk; simp
theorem two_f2 (w : World) (x y : Int) : (twoClk w x y).frozen? ⟨w.heap.size + 1, 0, none⟩ = false := by
  unfold twoClk; simp
theorem two_s1 (w : World) (x y z : Int) : (twoClk w x y).setCell ⟨w.heap.size, 0, none⟩ (.int .u64 z) = twoClk w z y := by
  unfold twoClk; simp [go_sem]
theorem two_s2 (w : World) (x y z : Int) : (twoClk w x y).setCell ⟨w.heap.size + 1, 0, none⟩ (.int .u64 z) = twoClk w x z := by
  unfold twoClk; simp [go_sem]

/-- A tick of the first clock, and of the second: whatever their times. -/
theorem tick1 (w : World) (x y : Int) (k : Nat) (hx : 0 ≤ x) : Calls Try.prog 17 #[.pointer (some ⟨w.heap.size, 0, none⟩)] (twoClk w (cAdd x k) y) fun e w' => (∃ b, e = .returned (.bool b)) ∧ twoClk w (cAdd x (k + 1 : Nat)) y = w' := by
  have bd := cAdd_bd x k hx (by omega)
  cases hm : (cAdd x k == maxTick)
  · refine (clk_tick _ _ _ _ (two_c1 _ _ _) (two_f1 _ _ _) hm bd.1 bd.2 rfl).mono ?_
    rintro e w' ⟨rfl, rfl⟩
    exact ⟨⟨_, rfl⟩, by rw [two_s1, cAdd_step x k hm]⟩
  · refine (clk_tick_full _ _ _ (two_c1 _ _ _) hm).mono ?_
    rintro e w' ⟨rfl, rfl⟩
    exact ⟨⟨_, rfl⟩, by rw [cAdd_stay x k hm]⟩
theorem tick2 (w : World) (x y : Int) (k : Nat) (hy : 0 ≤ y) : Calls Try.prog 17 #[.pointer (some ⟨w.heap.size + 1, 0, none⟩)] (twoClk w x (cAdd y k)) fun e w' => (∃ b, e = .returned (.bool b)) ∧ twoClk w x (cAdd y (k + 1 : Nat)) = w' := by
  have bd := cAdd_bd y k hy (by omega)
  cases hm : (cAdd y k == maxTick)
  · refine (clk_tick _ _ _ _ (two_c2 _ _ _) (two_f2 _ _ _) hm bd.1 bd.2 rfl).mono ?_
    rintro e w' ⟨rfl, rfl⟩
    exact ⟨⟨_, rfl⟩, by rw [two_s2, cAdd_step y k hm]⟩
  · refine (clk_tick_full _ _ _ (two_c2 _ _ _) hm).mono ?_
    rintro e w' ⟨rfl, rfl⟩
    exact ⟨⟨_, rfl⟩, by rw [cAdd_stay y k hm]⟩
theorem since_far (a b : Int) (n : Nat) (ha : a ≤ 18446744073709551615) (hb : b ≤ 18446744073709551615) (h1 : (cAdd a n == maxTick) = false) (h2 : (cAdd b n == maxTick) = false) :
    cSince (cAdd a n) (cAdd b n) = cSince a b := by
  have h1' : cAdd a n ≠ maxTick := by simpa using h1
  have h2' : cAdd b n ≠ maxTick := by simpa using h2
  revert h1' h2'; unfold maxTick cSince cAdd; split <;> split <;> intro h3 h4 <;> split <;> split <;> omega

set_option maxHeartbeats 1000000 in
theorem clockTwo_walk (a0 a1 a2 : Int) (w0 : (Lit.int .u64 a0).wf = true) (w1 : (Lit.int .u64 a1).wf = true) (w2 : (Lit.int .i64 a2).wf = true) (w : World) :
    Calls Try.prog 8 #[.int .u64 a0, .int .u64 a1, .int .i64 a2] w fun e w' => e = .returned (.bool true) ∧ Below w.heap.size w w' := by
  obtain ⟨l0, u0⟩ := u64_bd w0
  obtain ⟨l1, u1⟩ := u64_bd w1
  have hz0 := Lib.hid (cAdd_zero a0 u0)
  have hz1 := Lib.hid (cAdd_zero a1 u1)
  have hA := Lib.hid (And.intro l0 u0)
  have hB := Lib.hid (And.intro l1 u1)
  clear w0 w1 w2 l0 u0 l1 u1
  by_cases h1 : a2 < 0
  · go_enter Try.func8, Try.ntmps8
    go_wp2_with fail
    refine (clk_small _).mono ?_
    rintro e w1 ⟨rfl, hb⟩
    go_wp2_with (go_at_call 14; refine (clk_at _ _).mono ?_; rintro e w' ⟨rfl, rfl⟩)
    go_ret
    exact ⟨rfl, below_two hb _ _⟩
  by_cases h2 : 500 < a2
  · go_enter Try.func8, Try.ntmps8
    go_wp2_with fail
    refine (clk_small _).mono ?_
    rintro e w1 ⟨rfl, hb⟩
    go_wp2_with (go_at_call 14; refine (clk_at _ _).mono ?_; rintro e w' ⟨rfl, rfl⟩)
    go_ret
    exact ⟨rfl, below_two hb _ _⟩
  obtain ⟨n, rfl⟩ := Int.eq_ofNat_of_zero_le (show 0 ≤ a2 by omega)
  go_enter Try.func8, Try.ntmps8
  go_wp2_with fail
  refine (clk_small _).mono ?_
  rintro e w1 ⟨rfl, hb⟩
  go_wp2_with (go_at_call 14; refine (clk_at _ _).mono ?_; rintro e w' ⟨rfl, rfl⟩)
  go_loopw [10] (fun i wr => ∃ k : Nat, k ≤ n ∧ i = .int .i64 k ∧ wr = twoClk w1 (cAdd a0 k) (cAdd a1 k)) (fun i _ => n - (intOf i).toNat)
  case atStart => exact ⟨0, Nat.zero_le _, rfl, by rw [hz0.out, hz1.out]; rfl⟩
  case round =>
    obtain ⟨k, hk, rfl, rfl⟩ := hrel
    by_cases hlt : k < n
    · go_wp2_with fail
      refine (tick1 w1 a0 (cAdd a1 k) k hA.out.1).mono ?_
      rintro e w' ⟨⟨b, rfl⟩, rfl⟩
      go_wp2_with fail
      refine (tick2 w1 (cAdd a0 (k + 1 : Nat)) a1 k hB.out.1).mono ?_
      rintro e w' ⟨⟨b, rfl⟩, rfl⟩
      go_wp2_with fail
      exact ⟨⟨k + 1, by omega, by go_num, rfl⟩, by simp [intOf]; omega⟩
    · obtain rfl : k = n := by omega
      have b0 := Lib.hid (cAdd_bd a0 k hA.out.1 (by omega))
      have b1 := Lib.hid (cAdd_bd a1 k hB.out.1 (by omega))
      have c1 := two_c1 w1 (cAdd a0 k) (cAdd a1 k)
      have c2 := two_c2 w1 (cAdd a0 k) (cAdd a1 k)
      cases m0 : (cAdd a0 k == maxTick)
      · cases m1 : (cAdd a1 k == maxTick)
        · have e1 := since_far a0 a1 k hA.out.2 hB.out.2 m0 m1
          have e2 := since_far a1 a0 k hB.out.2 hA.out.2 m1 m0
          go_wp2_with (first | (go_at_call 16; (first | with_reducible refine (clk_full _ _ _ c1).mono ?_ | with_reducible refine (clk_full _ _ _ c2).mono ?_); rintro e w' ⟨rfl, rfl⟩) | (go_at_call 15; (first | with_reducible refine (clk_now _ _ _ c1).mono ?_ | with_reducible refine (clk_now _ _ _ c2).mono ?_); rintro e w' ⟨rfl, rfl⟩) | (go_at_call 12; (first | with_reducible refine (clk_since _ _ b0.out.1 b1.out.1 b0.out.2 b1.out.2 _).mono ?_ | with_reducible refine (clk_since _ _ b1.out.1 b0.out.1 b1.out.2 b0.out.2 _).mono ?_ | with_reducible refine (clk_since _ _ hA.out.1 hB.out.1 hA.out.2 hB.out.2 _).mono ?_ | with_reducible refine (clk_since _ _ hB.out.1 hA.out.1 hB.out.2 hA.out.2 _).mono ?_); rintro e w' ⟨rfl, rfl⟩))
          go_ret
          exact ⟨rfl, below_two hb _ _⟩
        · go_wp2_with (go_at_call 16; (first | with_reducible refine (clk_full _ _ _ c1).mono ?_ | with_reducible refine (clk_full _ _ _ c2).mono ?_); rintro e w' ⟨rfl, rfl⟩)
          go_ret
          exact ⟨rfl, below_two hb _ _⟩
      · go_wp2_with (go_at_call 16; refine (clk_full _ _ _ c1).mono ?_; rintro e w' ⟨rfl, rfl⟩)
        go_ret
        exact ⟨rfl, below_two hb _ _⟩
end Go.Proofs.Ytcbcbddkhdbbdaa
