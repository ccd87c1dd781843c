/- slices.Collect, bank.Notes. -/
import Derived.Test.YtcppmihambcihaaDoorBkNotes
namespace Go.Proofs.YtcppmihambcihaaDoor
open Go Go.RowKit Go.Shelf
set_option linter.unusedVariables false
set_option linter.unusedSimpArgs false
theorem NtsAt.base {lo lo' : Nat} {w : World} {v : Value} {ys : List NV} (h : NtsAt lo w v ys) (hl : lo' ≤ lo) : NtsAt lo' w v ys :=
  ⟨h.own, fun k hk => Nat.le_trans hl (h.far k hk), fun x hx => ⟨(h.dat x hx).1.base hl, (h.dat x hx).2⟩, h.apart⟩
theorem RS.old {w : World} {A : Option Addr} {n c : Nat} {xs : List UInt8} (h : RS w A n c xs) (h0 : 0 < n) (k off : Nat) (e : A = some ⟨k, off, Option.none⟩) : k < w.heap.size := by
  obtain ⟨b', o', e', hl, _⟩ := h.rb.cells h0
  rw [e'] at e
  cases e
  exact hl
end Go.Proofs.YtcppmihambcihaaDoor
