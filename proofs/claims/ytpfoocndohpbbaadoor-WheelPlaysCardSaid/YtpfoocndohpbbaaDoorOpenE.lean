/- Slices that came in, of elements of any number of cells. -/
import Derived.Test.YtpfoocndohpbbaaDoorFr
import Derived.ProofKit
import Derived.OpenShut
import Derived.Deep.Slices
import Derived.Deep.Fields
import Derived.ChangeSame
namespace Go.Proofs.YtpfoocndohpbbaaDoor
open Go.RowKit Go.ChangeShapes Go.WideShapes Go.Deep
set_option linter.unusedVariables false
set_option linter.unusedSimpArgs false

/-- What a walk is told of a slice that came in. -/
def IsE {α : Type} (f : α → List Value) (w : World) (A : Option Addr) (n c : Nat) : Prop := ∃ xs : List α, xs.length = n ∧ (A = none → c = 0) ∧ n ≤ c ∧ c ≤ maxLen ∧ (0 < n → ∃ b off, A = some ⟨b, off, none⟩ ∧ b < w.heap.size ∧ w.rangeAt b off (xs.flatMap f))
theorem IsE.re {α : Type} {f : α → List Value} {w : World} {A : Option Addr} {n c : Nat} (h : IsE f w A n c) (hn : n ≤ 140737488355328) : ∃ xs, RE f w A n c xs :=
  h.elim fun xs ⟨h1, h2, h3, _, h5⟩ => ⟨xs, h1, h2, h3, hn, h5⟩
theorem IsE.bd {α : Type} {f : α → List Value} {w : World} {A : Option Addr} {n c : Nat} (h : IsE f w A n c) : n ≤ c ∧ c ≤ 9223372036854775807 := h.elim fun xs ⟨h1, h2, h3, h4, _⟩ => ⟨h3, by simp only [maxLen] at h4; omega⟩
theorem list_of {α : Type} {p : Nat → α → Prop} : ∀ n : Nat, (∀ i, i < n → ∃ x, p i x) → ∃ xs : List α, xs.length = n ∧ ∀ i (h : i < xs.length), p i xs[i]
  | 0, _ => ⟨[], rfl, fun i h => absurd h (by simp)⟩
  | n + 1, h => by
    obtain ⟨xs, hl, hx⟩ := list_of n (fun i hi => h i (by omega))
    obtain ⟨x, hp⟩ := h n (by omega)
    refine ⟨xs ++ [x], by simp [hl], fun i hi => ?_⟩
    rw [List.length_append, List.length_singleton] at hi
    rcases Nat.lt_or_ge i xs.length with h1 | h1
    · rw [List.getElem_append_left h1]; exact hx i h1
    · obtain rfl : i = xs.length := by omega
      rw [List.getElem_append_right (Nat.le_refl _)]
      simp only [Nat.sub_self, List.getElem_cons_zero]
      rw [hl]; exact hp
theorem flat_at {α : Type} {f : α → List Value} {k : Nat} (hk : ∀ x, (f x).length = k) (hk0 : 0 < k) (xs : List α) (j : Nat) (v : Value) (h : (xs.flatMap f)[j]? = some v) : ∃ (i : Nat) (hi : i < xs.length), (f xs[i])[j - i * k]? = some v ∧ i * k ≤ j ∧ j - i * k < k := by
  have hj : j < xs.length * k := by rw [← flat_len hk]; exact (List.getElem?_eq_some_iff.1 h).1
  have hi : j / k < xs.length := (Nat.div_lt_iff_lt_mul hk0).2 hj
  have h1 := Nat.div_add_mod j k
  have h2 := Nat.mod_lt j hk0
  have h3 : j / k * k ≤ j := Nat.div_mul_le_self j k
  have h4 : j - j / k * k = j % k := by rw [Nat.mul_comm] at h1; omega
  refine ⟨j / k, hi, ?_, h3, by rw [h4]; exact h2⟩
  rw [← flat_get hk xs _ hi _ (by rw [h4]; exact h2), show j / k * k + (j - j / k * k) = j by omega]
  exact h
section
variable {H : Type} {enc : TypeId × Value → H} {P : Program} {w : World} {base : Nat} {spare : Nat → Bool} {held : Bool}
theorem open_es {α : Type} {f : α → List Value} {k : Nat} (hk : ∀ x, (f x).length = k) (hk0 : 0 < k) {t e : TypeId} (ht : P.underlying t = some (.slice e)) (hC : P.cellsOf e = k)
    (hdec : ∀ (n : Nat) (cs : List Value) (y : DataW H × List MemPlace), DataW.trod enc P w base spare held n e cs = some y → ∃ x : α, cs = f x)
    {A : Option Addr} {len cap fuel : Nat} {x : DataW H × List MemPlace} (h : DataW.trod enc P w base spare held fuel t [.slice A len cap] = some x) : IsE f w A len cap := by
  rcases open_slice ht h with ⟨h0, _⟩ | ⟨a, l, c, m, n, D, Pl, hcs, hb, hl, hm, hmm, hx, hi⟩
  · simp only [List.cons.injEq, Value.slice.injEq, and_true] at h0
    obtain ⟨rfl, rfl, rfl⟩ := h0
    exact ⟨[], rfl, fun _ => rfl, Nat.le_refl _, Nat.zero_le _, fun h => absurd h (by omega)⟩
  · simp only [List.cons.injEq, Value.slice.injEq, and_true] at hcs
    obtain ⟨rfl, rfl, rfl⟩ := hcs
    rw [hC] at hi
    have hlm : len ≤ m := by rw [hmm]; split <;> omega
    obtain ⟨xs, hxl, hxs⟩ := list_of (p := fun i x => w.cells? base (a.add (i * k)) k = some (f x)) len (fun i hil => by
      obtain ⟨cs', hc, hd⟩ := hi i (by omega)
      obtain ⟨x, rfl⟩ := hdec _ _ _ hd
      exact ⟨x, hc⟩)
    have cellat : ∀ j v, (xs.flatMap f)[j]? = some v → w.cell? (a.add j) = some v := by
      intro j v hv
      obtain ⟨i, hil, h1, h2, h3⟩ := flat_at hk hk0 xs j v hv
      obtain ⟨_, _, hat⟩ := World.cells?_some (hxs i hil)
      have := hat (j - i * k) h3
      rw [add_add, show i * k + (j - i * k) = j by omega] at this
      rw [this]; exact h1
    refine ⟨xs, hxl, (fun e => by cases e), hl, hm, fun h0 => ?_⟩
    obtain ⟨b, off, spot⟩ := a
    have hlen0 : 0 < (xs.flatMap f).length := by rw [flat_len hk, hxl]; exact Nat.mul_pos h0 hk0
    have hc0 := cellat 0 _ (List.getElem?_eq_getElem hlen0)
    have hs : spot = none := by simpa [Addr.add] using World.cell?_spot hc0
    subst hs
    have hbl := World.block_lt_of_cell? w _ hc0
    rw [Addr.add_mid] at hbl
    exact ⟨b, off, rfl, hbl, fun j v hv => by have := cellat j v hv; rwa [Addr.add_mid] at this⟩
end
end Go.Proofs.YtpfoocndohpbbaaDoor
