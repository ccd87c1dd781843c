/- Numbers' bits, as the wheel asks them. -/
import Derived.Lib.Hide
import Derived.WalkKit
namespace Go.Proofs.YtpfoocndohpbbaaDoor
open Go Go.RowKit
set_option linter.unusedVariables false
set_option linter.unusedSimpArgs false
theorem xor_i64 (a b : Nat) (ha : a < 4611686018427387904) (hb : b < 4611686018427387904) : bits .xor .i64 (a : Int) (b : Int) = ((a ^^^ b : Nat) : Int) := by
  have hx : a ^^^ b < 2 ^ 62 := Nat.xor_lt_two_pow (by omega) (by omega)
  show IntKind.i64.wrap (((BitVec.ofInt 64 (a : Int)) ^^^ (BitVec.ofInt 64 (b : Int))).toNat : Int) = _
  rw [BitVec.ofInt_natCast, BitVec.ofInt_natCast, BitVec.toNat_xor, BitVec.toNat_ofNat, BitVec.toNat_ofNat, Nat.mod_eq_of_lt (by omega), Nat.mod_eq_of_lt (by omega)]
  generalize a ^^^ b = c at *
  simp [IntKind.wrap, IntKind.bits, IntKind.signed]
  omega
theorem xor_div (a b k : Nat) : (a ^^^ b) / 2 ^ k = 0 ↔ a / 2 ^ k = b / 2 ^ k := by
  rw [← Nat.shiftRight_eq_div_pow, ← Nat.shiftRight_eq_div_pow, ← Nat.shiftRight_eq_div_pow, Nat.shiftRight_xor_distrib]
  constructor
  · intro h
    have h2 := congrArg (· ^^^ (b >>> k)) h
    simpa [Nat.xor_assoc] using h2
  · intro h
    rw [h, Nat.xor_self]
end Go.Proofs.YtpfoocndohpbbaaDoor
