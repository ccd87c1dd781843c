/- Events that came in. -/
import Derived.Test.YtdhkfdaajkehhaaEv
import Derived.Test.YtdhkfdaajkehhaaOpenE
namespace Go.Proofs.Ytdhkfdaajkehhaa
open Go.RowKit Go.ChangeShapes Go.WideShapes Go.Deep
set_option linter.unusedVariables false
set_option linter.unusedSimpArgs false
abbrev IsEvs (w : World) (A : Option Addr) (n c : Nat) : Prop := IsE evc w A n c
theorem trod_ev {H : Type} {enc : TypeId × Value → H} {w : World} {base : Nat} {spare : Nat → Bool} {held : Bool} (n : Nat) (cs : List Value) (y : DataW H × List MemPlace)
    (h : DataW.trod enc Try.prog w base spare held n 31 cs = some y) : ∃ x : Ev, cs = evc x := by
  obtain ⟨xs, m, _, _, hcl, hxl, hf⟩ := DataW.trod_struct Try.underlying31 h
  have hc3 : Try.prog.cellsOf 31 = 3 := by kernel_rfl
  have hc0 : Try.prog.cellsOf 29 = 1 := by kernel_rfl
  have hc1 : Try.prog.cellsOf 3 = 1 := by kernel_rfl
  rw [hc3] at hcl
  match cs, hcl, xs, hxl with
  | [c0, c1, c2], _, [y0, y1, y2], _ =>
    have h0 : DataW.trod enc Try.prog w base spare held m 29 (([c0, c1, c2].drop 0).take (Try.prog.cellsOf 29)) = some y0 := hf 0 _ rfl
    have h1 : DataW.trod enc Try.prog w base spare held m 3 (([c0, c1, c2].drop 1).take (Try.prog.cellsOf 3)) = some y1 := hf 1 _ rfl
    have h2 : DataW.trod enc Try.prog w base spare held m 3 (([c0, c1, c2].drop 2).take (Try.prog.cellsOf 3)) = some y2 := hf 2 _ rfl
    rw [hc0] at h0
    rw [hc1] at h1 h2
    obtain ⟨n0, e0, _, _⟩ := DataW.trod_int Try.underlying29 h0
    obtain ⟨n1, e1, _, _⟩ := DataW.trod_int Try.underlying3 h1
    obtain ⟨n2, e2, _, _⟩ := DataW.trod_int Try.underlying3 h2
    cases e0; cases e1; cases e2
    exact ⟨⟨n0, n1, n2⟩, rfl⟩
end Go.Proofs.Ytdhkfdaajkehhaa
