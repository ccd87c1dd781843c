/- Errors by their number; numbers of an int. -/
import Derived.Test.YtpfoocndohpbbaaDoorFault
import Derived.Test.YtpfoocndohpbbaaDoorHasTy
namespace Go.Proofs.YtpfoocndohpbbaaDoor
open Go.RowKit
set_option linter.unusedVariables false
set_option linter.unusedSimpArgs false

/-- An error's number, or none. -/
def ErrIs (w : World) (v : Value) (c : Int) : Prop := (c = 0 ∧ v = .nilIface) ∨ ((c == 0) = false ∧ ∃ d, ErrN w d v c)
theorem ErrIs.none (w : World) : ErrIs w .nilIface 0 := .inl ⟨rfl, rfl⟩
theorem ErrIs.below {w w' : World} {v : Value} {c : Int} (h : ErrIs w v c) (hb : Below w.heap.size w w') : ErrIs w' v c := h.imp id fun ⟨hc, d, hd⟩ => ⟨hc, d, hd.below hb⟩
theorem code_is (v : Value) (c : Int) (w : World) (hg : HasTy w) (h : ErrIs w v c) :
    Calls Tryd.prog 14 #[v] w fun r w' => r = .returned (.int .i64 c) ∧ Below w.heap.size w w' := by
  rcases h with ⟨rfl, rfl⟩ | ⟨_, d, hd⟩
  · exact (fault_code_nil w).mono (fun r w' h => ⟨h.1, h.2 ▸ Below.refl _ _⟩)
  · exact fault_code d v c w hg hd
/-- A number and an error. -/
def IsNe (n c : Int) (w : World) (e : Ending) (w' : World) : Prop := ∃ v, e = .returned (.tuple #[.int .i64 n, v]) ∧ ErrIs w' v c ∧ Below w.heap.size w w'
def inI (n : Int) : Prop := -9223372036854775808 ≤ n ∧ n ≤ 9223372036854775807
instance (n : Int) : Decidable (inI n) := by unfold inI; infer_instance
end Go.Proofs.YtpfoocndohpbbaaDoor
