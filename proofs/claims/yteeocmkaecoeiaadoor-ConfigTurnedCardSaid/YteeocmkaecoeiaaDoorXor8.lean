/- Two bytes xored. -/
import Derived.Test.YteeocmkaecoeiaaDoorBy
namespace Go.Proofs.YteeocmkaecoeiaaDoor
open Go.RowKit
theorem xor8 (a b : UInt8) : bits .xor .u8 (nb a) (nb b) = nb (a ^^^ b) := by
  have h : ∀ x : UInt8, BitVec.ofInt 8 (nb x) = x.toBitVec := by
    intro x; unfold nb; rw [BitVec.ofInt_natCast]; simp
  show IntKind.u8.wrap ((BitVec.ofInt 8 (nb a) ^^^ BitVec.ofInt 8 (nb b)).toNat : Int) = _
  rw [h, h, ← UInt8.toBitVec_xor, IntKind.wrap_u8]
  have := (a ^^^ b).toNat_lt
  show ((a ^^^ b).toNat : Int) % 256 = _
  unfold nb
  omega
end Go.Proofs.YteeocmkaecoeiaaDoor
