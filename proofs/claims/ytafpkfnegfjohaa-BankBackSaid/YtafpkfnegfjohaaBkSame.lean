/- crossbuckref16.Same. -/
import Derived.Test.YtafpkfnegfjohaaBkFirst
namespace Go.Proofs.Ytafpkfnegfjohaa
open Go Go.RowKit
set_option linter.unusedVariables false
set_option linter.unusedSimpArgs false
set_option maxHeartbeats 4000000 in
set_option maxRecDepth 100000 in
/-- Two records that read as the same. -/
theorem rf_same (s e : Int) (A1 A2 : Option Addr) (c1 c2 : Nat) (n : Nat) (d : List UInt8) (w : World) (h1 : RS w A1 n c1 d) (h2 : RS w A2 n c2 d) :
    Calls Try.prog 16 #[.agg (nta s A1 n c1 e), .agg (nta s A2 n c2 e)] w fun r w' => r = .returned (.bool true) ∧ Below w.heap.size w w' := by
  have hb : Below w.heap.size w ((w.alloc (.cells (nta s A1 n c1 e) 33)).alloc (.cells (nta s A2 n c2 e) 33)) := ((Below.refl _ w).alloc (Nat.le_refl _) _).alloc (by simp) _
  have k1 := by_string _ _ _ c1 _ (h1.below hb).rb
  have k2 := by_string _ _ _ c2 _ (h2.below hb).rb
  have HB := Lib.hid hb
  clear hb h1 h2
  go_enter Try.func16, Try.ntmps16
  go_wp2_with fail
  go_ret
  exact ⟨by simp, HB.out⟩
end Go.Proofs.Ytafpkfnegfjohaa
