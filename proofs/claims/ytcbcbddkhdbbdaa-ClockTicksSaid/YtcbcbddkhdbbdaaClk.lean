/- The clock's functions (Add, Since, At, Now, Full, Tick), each by a contract: what a call returns, and what becomes of the world. -/
import Derived.Test.YtcbcbddkhdbbdaaProg
import Derived.WalkKit
import Derived.Lib.Hide
namespace Go.Proofs.Ytcbcbddkhdbbdaa
open Go.RowKit

/-- The sum of two times; how long ago a time was. -/
def cAdd (a b : Int) : Int := if a + b < 18446744073709551616 then a + b else 18446744073709551615
def cSince (a b : Int) : Int := if a < b then 0 else a - b
def maxTick : Int := 18446744073709551615

theorem bv_zero : BitVec.ofInt 64 0 = 0#64 := by decide
theorem bv_ones : BitVec.ofInt 64 (IntKind.u64.wrap (-1)) = BitVec.allOnes 64 := by decide
theorem or_zero_u64 (x : Int) (h0 : 0 ≤ x) (h1 : x < 18446744073709551616) : bits .or .u64 x 0 = x := by
  obtain ⟨n, rfl⟩ := Int.eq_ofNat_of_zero_le h0
  have h : (BitVec.ofInt 64 (n : Int)).toNat = n := by rw [BitVec.ofInt_natCast, BitVec.toNat_ofNat]; exact Nat.mod_eq_of_lt (by omega)
  show IntKind.u64.wrap ((BitVec.ofInt 64 (n : Int) ||| BitVec.ofInt 64 0).toNat : Int) = _
  rw [bv_zero, BitVec.or_zero, h, IntKind.wrap_u64]
  omega
theorem or_ones_u64 (x : Int) : bits .or .u64 x (IntKind.u64.wrap (-1)) = 18446744073709551615 := by
  show IntKind.u64.wrap ((BitVec.ofInt 64 x ||| BitVec.ofInt 64 (IntKind.u64.wrap (-1))).toNat : Int) = _
  rw [bv_ones, BitVec.or_allOnes]
  decide
theorem andNot_zero_u64 (x : Int) (h0 : 0 ≤ x) (h1 : x < 18446744073709551616) : bits .andNot .u64 x 0 = x := by
  obtain ⟨n, rfl⟩ := Int.eq_ofNat_of_zero_le h0
  have h : (BitVec.ofInt 64 (n : Int)).toNat = n := by rw [BitVec.ofInt_natCast, BitVec.toNat_ofNat]; exact Nat.mod_eq_of_lt (by omega)
  show IntKind.u64.wrap ((BitVec.ofInt 64 (n : Int) &&& ~~~ BitVec.ofInt 64 0).toNat : Int) = _
  rw [bv_zero, BitVec.not_zero, BitVec.and_allOnes, h, IntKind.wrap_u64]
  omega
theorem andNot_ones_u64 (x : Int) : bits .andNot .u64 x (IntKind.u64.wrap (-1)) = 0 := by
  show IntKind.u64.wrap ((BitVec.ofInt 64 x &&& ~~~ BitVec.ofInt 64 (IntKind.u64.wrap (-1))).toNat : Int) = _
  rw [bv_ones, BitVec.not_allOnes, BitVec.and_zero]
  decide
theorem ret_u64 {a b : Int} (h : a = b) : Ending.returned (.int .u64 a) = .returned (.int .u64 b) := by rw [h]

theorem add_call (x y s c : Int) (hx : 0 ≤ x) (hy : 0 ≤ y) (hs : s = (x + y) % 18446744073709551616) (hc : c = (x + y) / 18446744073709551616) (w : World) :
    (callFunc 18 #[.int .u64 x, .int .u64 y, .int .u64 0]).run Try.prog w = .ok (.value (.tuple #[.int .u64 s, .int .u64 c])) w := by
  rw [run_callFunc_extern (e := add64Entry) Try.func18 (by kernel_rfl) (by kernel_rfl) (by kernel_rfl) (by kernel_rfl), run_add64 x y 0 hx hy (by omega) (by omega)]
  subst hs; subst hc
  simp only [Result.andThen, Int.add_zero]

/-- The model's entry for math/bits.Sub64. -/
def sub64E : Array Value → Sem Value := fun args => do
  let (x, y, b) ← Extern.MathBitsCarry.three "Sub64" args
  pure (Extern.MathBitsCarry.pair ((x + Extern.MathBitsCarry.m64 - y - b) % Extern.MathBitsCarry.m64) (if x < y + b then 1 else 0))
theorem run_sub64E (x y : Nat) (w : World) :
    (sub64E #[.int .u64 x, .int .u64 y, .int .u64 0]).run Try.prog w =
      .ok (.tuple #[.int .u64 (((x + 18446744073709551616 - y - 0) % 18446744073709551616 : Nat) : Int), .int .u64 ((if x < y + 0 then 1 else 0 : Nat) : Int)]) w := rfl
theorem sub_call (x y : Nat) (s c : Int) (hs : s = ((x + 18446744073709551616 - y) % 18446744073709551616 : Nat)) (hc : c = if x < y then 1 else 0) (w : World) :
    (callFunc 19 #[.int .u64 x, .int .u64 y, .int .u64 0]).run Try.prog w = .ok (.value (.tuple #[.int .u64 s, .int .u64 c])) w := by
  rw [run_callFunc_extern (e := sub64E) Try.func19 (by kernel_rfl) (by kernel_rfl) (by kernel_rfl) (by kernel_rfl), run_sub64E]
  subst hs; subst hc
  simp only [Result.andThen, Nat.sub_zero, Nat.add_zero]
  split <;> rfl

theorem clk_add (x y : Int) (hx : 0 ≤ x) (hy : 0 ≤ y) (hx1 : x ≤ 18446744073709551615) (hy1 : y ≤ 18446744073709551615) (w : World) :
    Calls Try.prog 10 #[.int .u64 x, .int .u64 y] w fun e w' => e = .returned (.int .u64 (cAdd x y)) ∧ w = w' := by
  by_cases h : x + y < 18446744073709551616
  · have hc := fun w => add_call x y (x + y) 0 hx hy (by omega) (by omega) w
    have hf := Lib.hid (show bits .or .u64 (x + y) 0 = cAdd x y by unfold cAdd; rw [if_pos h]; exact or_zero_u64 _ (by omega) h)
    clear hx1 hy1 h
    go_enter Try.func10, Try.ntmps10
    go_wp2
    go_ret
    exact ⟨ret_u64 hf.out, rfl⟩
  · obtain ⟨s, hs⟩ : ∃ s, s = (x + y) % 18446744073709551616 := ⟨_, rfl⟩
    have hc := fun w => add_call x y s 1 hx hy hs (by omega) w
    have hf := Lib.hid (show bits .or .u64 s (IntKind.u64.wrap (-1)) = cAdd x y by unfold cAdd; rw [if_neg h]; exact or_ones_u64 _)
    clear hx1 hy1 h hs
    go_enter Try.func10, Try.ntmps10
    go_wp2
    go_ret
    exact ⟨ret_u64 hf.out, rfl⟩

theorem clk_since (x y : Int) (hx : 0 ≤ x) (hy : 0 ≤ y) (hx1 : x ≤ 18446744073709551615) (hy1 : y ≤ 18446744073709551615) (w : World) :
    Calls Try.prog 12 #[.int .u64 x, .int .u64 y] w fun e w' => e = .returned (.int .u64 (cSince x y)) ∧ w = w' := by
  obtain ⟨x, rfl⟩ := Int.eq_ofNat_of_zero_le hx
  obtain ⟨y, rfl⟩ := Int.eq_ofNat_of_zero_le hy
  by_cases h : x < y
  · obtain ⟨s, hs⟩ : ∃ s : Int, s = ((x + 18446744073709551616 - y) % 18446744073709551616 : Nat) := ⟨_, rfl⟩
    have hc := fun w => sub_call x y s 1 hs (by rw [if_pos h]) w
    have hf := Lib.hid (show bits .andNot .u64 s (IntKind.u64.wrap (-1)) = cSince x y by unfold cSince; rw [if_pos (by omega)]; exact andNot_ones_u64 _)
    clear hx1 hy1 h hs
    go_enter Try.func12, Try.ntmps12
    go_wp2
    go_ret
    exact ⟨ret_u64 hf.out, rfl⟩
  · have hc := fun w => sub_call x y ((x : Int) - y) 0 (by omega) (by rw [if_neg h]) w
    have hf := Lib.hid (show bits .andNot .u64 ((x : Int) - y) 0 = cSince x y by unfold cSince; rw [if_neg (by omega)]; exact andNot_zero_u64 _ (by omega) (by omega))
    clear hx1 hy1 h
    go_enter Try.func12, Try.ntmps12
    go_wp2
    go_ret
    exact ⟨ret_u64 hf.out, rfl⟩

theorem clk_at (s : Int) (w : World) : Calls Try.prog 14 #[.int .u64 s] w fun e w' =>
    e = .returned (.pointer (some ⟨w.heap.size, 0, none⟩)) ∧ w.alloc (.cells #[.int .u64 s] 35) = w' := by
  go_enter Try.func14, Try.ntmps14
  go_wp2
  go_ret
  exact ⟨rfl, rfl⟩

theorem clk_now (a : Addr) (n : Int) (w : World) (h : w.cell? a = some (.int .u64 n)) : Calls Try.prog 15 #[.pointer (some a)] w fun e w' =>
    e = .returned (.int .u64 n) ∧ w = w' := by
  go_enter Try.func15, Try.ntmps15
  go_wp2
  go_ret
  exact ⟨rfl, rfl⟩

theorem clk_full (a : Addr) (n : Int) (w : World) (h : w.cell? a = some (.int .u64 n)) : Calls Try.prog 16 #[.pointer (some a)] w fun e w' =>
    e = .returned (.bool (n == maxTick)) ∧ w = w' := by
  go_enter Try.func16, Try.ntmps16
  go_wp2
  go_ret
  exact ⟨rfl, rfl⟩

/-- A tick, where the clock is not full, and where it is. -/
theorem clk_tick (a : Addr) (n m : Int) (w : World) (h : w.cell? a = some (.int .u64 n)) (hf : w.frozen? a = false) (hn : (n == maxTick) = false) (h0 : 0 ≤ n) (h1 : n ≤ 18446744073709551615) (hm : m = n + 1) :
    Calls Try.prog 17 #[.pointer (some a)] w fun e w' => e = .returned (.bool true) ∧ w.setCell a (.int .u64 m) = w' := by
  have hw : IntKind.u64.wrap (n + 1) = m := by
    have : n ≠ 18446744073709551615 := by simpa [maxTick] using hn
    rw [IntKind.wrap_u64, hm]; omega
  clear h0 h1 hm
  go_enter Try.func17, Try.ntmps17
  go_wp2_with (go_at_call 16; refine (clk_full a n _ h).mono ?_; rintro e w' ⟨rfl, rfl⟩)
  go_ret
  exact ⟨rfl, rfl⟩
theorem clk_tick_full (a : Addr) (n : Int) (w : World) (h : w.cell? a = some (.int .u64 n)) (hn : (n == maxTick) = true) :
    Calls Try.prog 17 #[.pointer (some a)] w fun e w' => e = .returned (.bool false) ∧ w = w' := by
  go_enter Try.func17, Try.ntmps17
  go_wp2_with (go_at_call 16; refine (clk_full a n _ h).mono ?_; rintro e w' ⟨rfl, rfl⟩)
  go_ret
  exact ⟨rfl, rfl⟩
end Go.Proofs.Ytcbcbddkhdbbdaa
