/- Arrays of bytes that came in. -/
import Derived.Test.YtfhcjpodlclioaaDoorArgs
import Derived.ProofKit
import Derived.OpenShut
import Derived.Laws.IdiomArrays
namespace Go.Proofs.YtfhcjpodlclioaaDoor
open Go.RowKit Go.ChangeShapes Go.WideShapes
set_option linter.unusedVariables false
set_option linter.unusedSimpArgs false

section
variable {H : Type} {enc : TypeId × Value → H} {P : Program} {w : World} {base : Nat} {spare : Nat → Bool} {held : Bool}
theorem okWide_arr {r : Reach} {b0 n : Nat} {t e : TypeId} {v : Value} (ht : P.underlying t = some (.array n e)) (h : Value.okWide P w r b0 t v) : ∃ cs, v = .agg cs ∧ cs.size = P.cellsOf t := by
  simp only [Value.okWide, ht] at h
  obtain ⟨cs, h1, h2, _⟩ := h
  exact ⟨cs, h1, h2⟩
theorem byte_of {e : TypeId} {n : Nat} {c : Value} {y : DataW H × List MemPlace} (he : P.underlying e = some (.int .u8)) (h : DataW.trod enc P w base spare held n e [c] = some y) : ∃ b : UInt8, c = .int .u8 (nb b) := by
  obtain ⟨m, e1, _, hw⟩ := DataW.trod_int he h
  have bd := u8_bd hw
  refine ⟨UInt8.ofNat m.toNat, ?_⟩
  simp only [List.cons.injEq, and_true] at e1
  rw [e1]
  unfold nb
  congr 1
  simp only [UInt8.toNat_ofNat']
  omega
theorem open_by4 {t e : TypeId} (ht : P.underlying t = some (.array 4 e)) (he : P.underlying e = some (.int .u8)) (hce : P.cellsOf e = 1) (hC : P.cellsOf t = 4) {cs : Array Value} {d : DataW H} {p : List MemPlace} (hsz : cs.size = P.cellsOf t)
    (h : DataW.Trod enc P w base spare held t (.agg cs) d p) : ∃ b0 b1 b2 b3 : UInt8, cs = #[.int .u8 (nb b0), .int .u8 (nb b1), .int .u8 (nb b2), .int .u8 (nb b3)] := by
  obtain ⟨c0, c1, c2, c3, rfl⟩ : ∃ c0 c1 c2 c3, cs = #[c0, c1, c2, c3] := by
    obtain ⟨l⟩ := cs
    rw [hC] at hsz
    match l, hsz with
    | [c0, c1, c2, c3], _ => exact ⟨c0, c1, c2, c3, rfl⟩
  obtain ⟨fuel, hf⟩ := h
  obtain ⟨y0, y1, y2, y3, n, _, h0, h1, h2, h3⟩ := trod_array4 ht hce (by simpa [Value.cells] using hf)
  obtain ⟨b0, rfl⟩ := byte_of he h0
  obtain ⟨b1, rfl⟩ := byte_of he h1
  obtain ⟨b2, rfl⟩ := byte_of he h2
  obtain ⟨b3, rfl⟩ := byte_of he h3
  exact ⟨b0, b1, b2, b3, rfl⟩
end
end Go.Proofs.YtfhcjpodlclioaaDoor
