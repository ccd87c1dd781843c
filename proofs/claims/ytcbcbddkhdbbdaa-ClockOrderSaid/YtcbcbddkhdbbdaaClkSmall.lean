/- The clock laws' small case: it returns true, and nothing that was there has turned. The document's sum and difference. -/
import Derived.Test.YtcbcbddkhdbbdaaClk
namespace Go.Proofs.Ytcbcbddkhdbbdaa
open Go.RowKit

theorem ref_add (x y z : Int) (hz : z = 18446744073709551615 - y) (hy : 0 ≤ y) (hy1 : y ≤ 18446744073709551615) (hx : 0 ≤ x) (hx1 : x ≤ 18446744073709551615) (w : World) :
    Calls Try.prog 11 #[.int .u64 x, .int .u64 y] w fun e w' => e = .returned (.int .u64 (cAdd x y)) ∧ w = w' := by
  have hw : IntKind.u64.wrap (18446744073709551615 - y) = z := by rw [IntKind.wrap_u64]; omega
  by_cases h : x + y < 18446744073709551616
  · have hb : ¬ z < x := by omega
    have hs : IntKind.u64.wrap (x + y) = x + y := by rw [IntKind.wrap_u64]; omega
    have hf := Lib.hid (show x + y = cAdd x y by unfold cAdd; rw [if_pos h])
    clear hz hy hy1 hx hx1 h
    go_enter Try.func11, Try.ntmps11
    go_wp2
    go_ret
    exact ⟨ret_u64 hf.out, rfl⟩
  · have hb : z < x := by omega
    have hf := Lib.hid (show 18446744073709551615 = cAdd x y by unfold cAdd; rw [if_neg h])
    clear hz hy hy1 hx hx1 h
    go_enter Try.func11, Try.ntmps11
    go_wp2
    go_ret
    exact ⟨ret_u64 hf.out, rfl⟩

theorem ref_since (x y : Int) (hx : 0 ≤ x) (hy : 0 ≤ y) (hx1 : x ≤ 18446744073709551615) (w : World) :
    Calls Try.prog 13 #[.int .u64 x, .int .u64 y] w fun e w' => e = .returned (.int .u64 (cSince x y)) ∧ w = w' := by
  by_cases h : x < y
  · have hf := Lib.hid (show 0 = cSince x y by unfold cSince; rw [if_pos h])
    clear hx1
    go_enter Try.func13, Try.ntmps13
    go_wp2
    go_ret
    exact ⟨ret_u64 hf.out, rfl⟩
  · have hs : IntKind.u64.wrap (x - y) = x - y := by rw [IntKind.wrap_u64]; omega
    have hf := Lib.hid (show x - y = cSince x y by unfold cSince; rw [if_neg h])
    clear hx1
    go_enter Try.func13, Try.ntmps13
    go_wp2
    go_ret
    exact ⟨ret_u64 hf.out, rfl⟩

set_option maxHeartbeats 400000 in
theorem clk_small (w : World) : Calls Try.prog 9 #[] w fun e w' => e = .returned (.bool true) ∧ Below w.heap.size w w' := by
  have h0 : ((18446744073709551614 : Int) == maxTick) = false := by decide
  have h1 : ((18446744073709551615 : Int) == maxTick) = true := by decide
  have a1 : cAdd 18446744073709551615 1 = 18446744073709551615 := by decide
  have a2 : cAdd 2 3 = 5 := by decide
  have a3 : cSince 5 3 = 2 := by decide
  have a4 : cSince 3 5 = 0 := by decide
  go_enter Try.func9, Try.ntmps9
  go_wp2_with fail
  refine (clk_at _ _).mono ?_
  rintro e w' ⟨rfl, rfl⟩
  go_wp2_with fail
  refine (clk_tick _ 18446744073709551614 18446744073709551615 _ (by simp) (by simp) h0 (by decide) (by decide) (by decide)).mono ?_
  rintro e w' ⟨rfl, rfl⟩
  go_wp2_with fail
  refine (clk_tick_full _ 18446744073709551615 _ (by simp) h1).mono ?_
  rintro e w' ⟨rfl, rfl⟩
  go_wp2_with fail
  refine (clk_full _ 18446744073709551615 _ (by simp)).mono ?_
  rintro e w' ⟨rfl, rfl⟩
  go_wp2_with fail
  refine (clk_now _ 18446744073709551615 _ (by simp)).mono ?_
  rintro e w' ⟨rfl, rfl⟩
  go_wp2_with (first | (go_at_call 10; refine (clk_add _ _ (by decide) (by decide) (by decide) (by decide) _).mono ?_; rintro e w' ⟨rfl, rfl⟩) | (go_at_call 12; refine (clk_since _ _ (by decide) (by decide) (by decide) (by decide) _).mono ?_; rintro e w' ⟨rfl, rfl⟩))
  go_ret
  exact ⟨rfl, (Below.refl _ _).alloc (Nat.le_refl _) _⟩
end Go.Proofs.Ytcbcbddkhdbbdaa
