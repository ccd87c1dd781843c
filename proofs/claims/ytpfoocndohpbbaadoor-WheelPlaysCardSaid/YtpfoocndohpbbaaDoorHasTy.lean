/- The cell of errors.errorType, as later worlds have it. -/
import Derived.Test.YtpfoocndohpbbaaDoorFault
namespace Go.Proofs.YtpfoocndohpbbaaDoor
open Go.RowKit
set_option linter.unusedVariables false
set_option linter.unusedSimpArgs false

/-- The cell of errors.errorType, as a later world has it. -/
abbrev HasTy (w : World) : Prop := w.cell? ⟨0, 0, none⟩ = some (.iface 90 (.agg #[.pointer (some ⟨1, 31, none⟩)]))
theorem HasTy.below {w w' : World} (h : HasTy w) (hb : Below w.heap.size w w') : HasTy w' := (hb.cell (World.block_lt_of_cell? w _ h)).trans h
theorem HasTy.lt {w : World} (h : HasTy w) : 0 < w.heap.size := World.block_lt_of_cell? w _ h
theorem below_one {w w1 w2 : World} {g : Nat} (hb : Below w.heap.size w w1) (hf : Fr (fun i => i = g) w1 w2) (hg : w.heap.size ≤ g) : Below w.heap.size w w2 := hb.trans (hf.below w.heap.size hb.size (fun i e => by rw [e]; exact hg))
theorem below_two {w w1 w2 : World} {g gb : Nat} (hb : Below w.heap.size w w1) (hf : Fr (fun i => i = g ∨ i = gb) w1 w2) (hg : w.heap.size ≤ g) (hgb : w.heap.size ≤ gb) : Below w.heap.size w w2 := hb.trans (hf.below w.heap.size hb.size (fun i e => by rcases e with rfl | rfl <;> assumption))
end Go.Proofs.YtpfoocndohpbbaaDoor
