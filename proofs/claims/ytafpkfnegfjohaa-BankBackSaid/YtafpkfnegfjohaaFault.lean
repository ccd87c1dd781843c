/- Errors: what a chain of steps around a number is; fault.New, fault.Wrap, errors.As at it, fault.Code. After the kit's worked text ToyasAs. -/
import Derived.Test.YtafpkfnegfjohaaFr
import Derived.Test.YtafpkfnegfjohaaProg
import Derived.LaidEql
import Derived.Stop.Asserts
import Derived.RowKitTokens
import Derived.Deep.LoopGhost
namespace Go.Proofs.Ytafpkfnegfjohaa
open Go.RowKit Go.Extern.Stop Go.Stop Go.Extern
set_option linter.unusedVariables false
set_option linter.unusedSimpArgs false

/-- An error: so many steps around a number. -/
def ErrN (w : World) : Nat → Value → Int → Prop
  | 0, v, e => v = .iface 78 (.int .i64 e)
  | d + 1, v, e => ∃ (g : Nat) (s : ByteArray) (u : Value), v = .iface 79 (.pointer (some ⟨g, 0, none⟩)) ∧ w.heap[g]? = some (.cells #[.string s, u] 81 (0, 0)) ∧ ErrN w d u e
/-- The frame turns no step. -/
def NoStep (w : World) (F : Nat → Prop) : Prop := ∀ k cs m, F k → w.heap[k]? ≠ some (.cells cs 81 m)
theorem NoStep.none (w : World) : NoStep w (fun _ => False) := fun _ _ _ h => h.elim
theorem noStep_block {w : World} {g : Nat} {cs : Array Value} {t : TypeId} {m : Nat × Nat} (h : w.heap[g]? = some (.cells cs t m)) (ht : t ≠ 81) : NoStep w (fun k => k = g) := by
  intro k cs' m' e h1
  rw [e, h] at h1
  injection h1 with h1
  injection h1 with _ h2
  exact ht h2
theorem ErrN.fr {F : Nat → Prop} {w w' : World} (hf : Fr F w w') (hF : NoStep w F) {e : Int} : ∀ {d : Nat} {v : Value}, ErrN w d v e → ErrN w' d v e
  | 0, _, h => h
  | d + 1, _, ⟨g, s, u, hv, hh, hu⟩ => ⟨g, s, u, hv, (hf.block g (Array.getElem?_eq_some_iff.1 hh).1 (fun h => hF g _ _ h hh)).trans hh, hu.fr hf hF⟩
theorem ErrN.below {w w' : World} (hb : Below w.heap.size w w') {e : Int} {d : Nat} {v : Value} (h : ErrN w d v e) : ErrN w' d v e := h.fr (Fr.ofBelow hb (fun _ => False)) (NoStep.none w)
theorem ErrN.iface {w : World} {e : Int} : ∀ {d : Nat} {v : Value}, ErrN w d v e → ∃ t u, v = .iface t u
  | 0, _, h => ⟨_, _, h⟩
  | d + 1, _, ⟨g, s, u, hv, _⟩ => ⟨_, _, hv⟩

theorem fault_new (e : Int) (s : ByteArray) (w : World) (he : (e == 0) = false) :
    Calls Try.prog 49 #[.int .i64 e, .string s] w fun r w' => ∃ v, r = .returned v ∧ ErrN w' 1 v e ∧ Below w.heap.size w w' := by
  go_enter Try.func49, Try.ntmps49
  go_wp2_with fail
  go_ret
  exact ⟨_, rfl, ⟨w.heap.size, s, _, rfl, heap_alloc_new w _, rfl⟩, (Below.refl _ _).alloc (Nat.le_refl _) _⟩

end Go.Proofs.Ytafpkfnegfjohaa
