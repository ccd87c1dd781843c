/- Arguments: numbers and slices of numbers that came in. -/
import Derived.Test.YtcppmihambcihaaDoorBy
import Derived.Test.YtcppmihambcihaaDoorRow
namespace Go.Proofs.YtcppmihambcihaaDoor
open Go.RowKit
set_option linter.unusedVariables false
set_option linter.unusedSimpArgs false

theorem u8_bd {a : Int} (h : (Lit.int .u8 a).wf = true) : 0 ≤ a ∧ a ≤ 255 := by
  have h1 : IntKind.u8.min = 0 := rfl
  have h2 : IntKind.u8.max = 255 := rfl
  simp only [Lit.wf, Bool.and_eq_true, decide_eq_true_eq] at h
  omega
theorem i64_bd {a : Int} (h : (Lit.int .i64 a).wf = true) : -9223372036854775808 ≤ a ∧ a ≤ 9223372036854775807 := by
  have h1 : IntKind.i64.min = -9223372036854775808 := rfl
  have h2 : IntKind.i64.max = 9223372036854775807 := rfl
  simp only [Lit.wf, Bool.and_eq_true, decide_eq_true_eq] at h
  omega
theorem u32_bd {a : Int} (h : (Lit.int .u32 a).wf = true) : 0 ≤ a ∧ a ≤ 4294967295 := by
  have h1 : IntKind.u32.min = 0 := rfl
  have h2 : IntKind.u32.max = 4294967295 := rfl
  simp only [Lit.wf, Bool.and_eq_true, decide_eq_true_eq] at h
  omega
theorem u16_bd {a : Int} (h : (Lit.int .u16 a).wf = true) : 0 ≤ a ∧ a ≤ 65535 := by
  have h1 : IntKind.u16.min = 0 := rfl
  have h2 : IntKind.u16.max = 65535 := rfl
  simp only [Lit.wf, Bool.and_eq_true, decide_eq_true_eq] at h
  omega
/-- Bytes that came in. -/
theorem IsRow.bytes {w : World} {a : Option Addr} {len cap : Nat} {zs : List Int} (h : IsRow .u8 w a len cap zs) : ∃ xs : List UInt8, RS w a len cap xs := by
  rcases h with ⟨rfl, rfl, rfl, rfl⟩ | ⟨x, rfl, hl, hm, hz, hc, hw⟩
  · exact ⟨[], RS.none _⟩
  · have hlen : ((zs.take len).map fun n => UInt8.ofNat n.toNat).length = len := by rw [List.length_map, List.length_take]; omega
    refine ⟨(zs.take len).map fun n => UInt8.ofNat n.toNat, ⟨hlen, ?_, fun h0 => ?_⟩, (fun e => by cases e), hl⟩
    · simp only [maxLen] at hm; omega
    · obtain ⟨b, off, spot⟩ := x
      have h1 := hc 0 (by omega)
      have hs : spot = none := by simpa [Addr.add] using World.cell?_spot h1
      subst hs
      refine ⟨b, off, rfl, fun i hi => ?_⟩
      have h2 := hc i (by omega)
      rw [add_at] at h2
      rw [h2]
      have hi' : i < zs.length := by omega
      have hmem : zs[i] ∈ zs := List.getElem_mem hi'
      have bd := u8_bd (hw _ hmem)
      unfold bv nb
      simp [List.getD_eq_getElem?_getD, List.getElem?_eq_getElem hi', hi]
      omega

/-- A slice of numbers that reads as xs. -/
def RI (k : IntKind) (w : World) (A : Option Addr) (n : Nat) (xs : List Int) : Prop :=
  xs.length = n ∧ n ≤ 9223372036854775807 ∧ (∀ x ∈ xs, (Lit.int k x).wf = true) ∧ (0 < n → ∃ b off, A = some ⟨b, off, none⟩ ∧ b < w.heap.size ∧ ∀ i, i < n → w.cell? ⟨b, off + i, none⟩ = some (.int k (xs.getD i 0)))
theorem RI.below {k : IntKind} {w w1 : World} {A : Option Addr} {n : Nat} {xs : List Int} (h : RI k w A n xs) (hb : Below w.heap.size w w1) : RI k w1 A n xs :=
  ⟨h.1, h.2.1, h.2.2.1, fun h0 => by
    obtain ⟨b, off, e, hlt, hc⟩ := h.2.2.2 h0
    exact ⟨b, off, e, Nat.lt_of_lt_of_le hlt hb.size, fun i hi => (hb.cell (p := ⟨b, off + i, none⟩) hlt).trans (hc i hi)⟩⟩
theorem RI.wf {k : IntKind} {w : World} {A : Option Addr} {n : Nat} {xs : List Int} (h : RI k w A n xs) (i : Nat) (hi : i < n) : (Lit.int k (xs.getD i 0)).wf = true := by
  have hi' : i < xs.length := by rw [h.1]; exact hi
  have := h.2.2.1 xs[i] (List.getElem_mem hi')
  simpa [List.getD_eq_getElem?_getD, List.getElem?_eq_getElem hi'] using this
/-- Numbers that came in. -/
theorem IsRow.ints {k : IntKind} {w : World} {a : Option Addr} {len cap : Nat} {zs : List Int} (h : IsRow k w a len cap zs) : ∃ xs : List Int, RI k w a len xs ∧ len ≤ cap ∧ cap ≤ 9223372036854775807 ∧ (a = none → cap = 0) := by
  rcases h with ⟨rfl, rfl, rfl, rfl⟩ | ⟨x, rfl, hl, hm, hz, hc, hw⟩
  · exact ⟨[], ⟨rfl, by omega, by simp, fun h => absurd h (by omega)⟩, Nat.le_refl _, by omega, fun _ => rfl⟩
  · have hlen : (zs.take len).length = len := by rw [List.length_take]; omega
    simp only [maxLen] at hm
    refine ⟨zs.take len, ⟨hlen, by omega, fun y hy => hw y (List.mem_of_mem_take hy), fun h0 => ?_⟩, hl, hm, (fun e => by cases e)⟩
    obtain ⟨b, off, spot⟩ := x
    have h1 := hc 0 (by omega)
    have hs : spot = none := by simpa [Addr.add] using World.cell?_spot h1
    subst hs
    have hbl := World.block_lt_of_cell? w _ h1
    rw [add_at] at hbl
    refine ⟨b, off, rfl, hbl, fun i hi => ?_⟩
    have h2 := hc i (by omega)
    rw [add_at] at h2
    rw [h2]
    simp [List.getD_eq_getElem?_getD, hi]
end Go.Proofs.YtcppmihambcihaaDoor
