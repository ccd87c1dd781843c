/- Rows of rows of bytes that came in. -/
import Derived.Test.YtcppmihambcihaaDoorOpenE
import Derived.Test.YtcppmihambcihaaDoorArgs
namespace Go.Proofs.YtcppmihambcihaaDoor
open Go.RowKit Go.ChangeShapes Go.WideShapes Go.Deep
set_option linter.unusedVariables false
set_option linter.unusedSimpArgs false
/-- What a walk is told of a slice that came in, and of each of its elements. -/
def IsEP {α : Type} (f : α → List Value) (p : α → Prop) (w : World) (A : Option Addr) (n c : Nat) : Prop := ∃ xs : List α, (∀ x ∈ xs, p x) ∧ xs.length = n ∧ (A = none → c = 0) ∧ n ≤ c ∧ c ≤ maxLen ∧ (0 < n → ∃ b off, A = some ⟨b, off, none⟩ ∧ b < w.heap.size ∧ w.rangeAt b off (xs.flatMap f))
theorem IsEP.re {α : Type} {f : α → List Value} {p : α → Prop} {w : World} {A : Option Addr} {n c : Nat} (h : IsEP f p w A n c) (hn : n ≤ 140737488355328) : ∃ xs, RE f w A n c xs ∧ ∀ x ∈ xs, p x :=
  h.elim fun xs ⟨h0, h1, h2, h3, _, h5⟩ => ⟨xs, ⟨h1, h2, h3, hn, h5⟩, h0⟩
theorem IsEP.bd {α : Type} {f : α → List Value} {p : α → Prop} {w : World} {A : Option Addr} {n c : Nat} (h : IsEP f p w A n c) : n ≤ c ∧ c ≤ 9223372036854775807 := h.elim fun xs ⟨_, h1, h2, h3, h4, _⟩ => ⟨h3, by simp only [maxLen] at h4; omega⟩
section
variable {H : Type} {enc : TypeId × Value → H} {P : Program} {w : World} {base : Nat} {spare : Nat → Bool} {held : Bool}
theorem open_esP {α : Type} {f : α → List Value} {p : α → Prop} {k : Nat} (hk : ∀ x, (f x).length = k) (hk0 : 0 < k) {t e : TypeId} (ht : P.underlying t = some (.slice e)) (hC : P.cellsOf e = k)
    (hdec : ∀ (n : Nat) (cs : List Value) (y : DataW H × List MemPlace), DataW.trod enc P w base spare held n e cs = some y → ∃ x : α, cs = f x ∧ p x)
    {A : Option Addr} {len cap fuel : Nat} {x : DataW H × List MemPlace} (h : DataW.trod enc P w base spare held fuel t [.slice A len cap] = some x) : IsEP f p w A len cap := by
  rcases open_slice ht h with ⟨h0, _⟩ | ⟨a, l, c, m, n, D, Pl, hcs, hb, hl, hm, hmm, hx, hi⟩
  · simp only [List.cons.injEq, Value.slice.injEq, and_true] at h0
    obtain ⟨rfl, rfl, rfl⟩ := h0
    exact ⟨[], (fun x hx => by cases hx), rfl, fun _ => rfl, Nat.le_refl _, Nat.zero_le _, fun h => absurd h (by omega)⟩
  · simp only [List.cons.injEq, Value.slice.injEq, and_true] at hcs
    obtain ⟨rfl, rfl, rfl⟩ := hcs
    rw [hC] at hi
    have hlm : len ≤ m := by rw [hmm]; split <;> omega
    obtain ⟨xs, hxl, hxs⟩ := list_of (p := fun i x => w.cells? base (a.add (i * k)) k = some (f x) ∧ p x) len (fun i hil => by
      obtain ⟨cs', hc, hd⟩ := hi i (by omega)
      obtain ⟨x, rfl, hpx⟩ := hdec _ _ _ hd
      exact ⟨x, hc, hpx⟩)
    have cellat : ∀ j v, (xs.flatMap f)[j]? = some v → w.cell? (a.add j) = some v := by
      intro j v hv
      obtain ⟨i, hil, h1, h2, h3⟩ := flat_at hk hk0 xs j v hv
      obtain ⟨_, _, hat⟩ := World.cells?_some (hxs i hil).1
      have := hat (j - i * k) h3
      rw [add_add, show i * k + (j - i * k) = j by omega] at this
      rw [this]; exact h1
    refine ⟨xs, fun x hx => ?_, hxl, (fun e => by cases e), hl, hm, fun h0 => ?_⟩
    · obtain ⟨i, hi, rfl⟩ := List.mem_iff_getElem.1 hx
      exact (hxs i hi).2
    obtain ⟨b, off, spot⟩ := a
    have hlen0 : 0 < (xs.flatMap f).length := by rw [flat_len hk, hxl]; exact Nat.mul_pos h0 hk0
    have hc0 := cellat 0 _ (List.getElem?_eq_getElem hlen0)
    have hs : spot = none := by simpa [Addr.add] using World.cell?_spot hc0
    subst hs
    have hbl := World.block_lt_of_cell? w _ hc0
    rw [Addr.add_mid] at hbl
    exact ⟨b, off, rfl, hbl, fun j v hv => by have := cellat j v hv; rwa [Addr.add_mid] at this⟩
end
section
variable {H : Type} {enc : TypeId × Value → H} {w : World} {base : Nat} {held : Bool}
theorem row_of_trod {a : Option Addr} {len cap fuel : Nat} {x : DataW H × List MemPlace} (hf : DataW.trod enc Tryd.prog w base (fun _ => true) held fuel 29 [.slice a len cap] = some x) : ∃ zs, IsRow .u8 w a len cap zs := by
  rcases open_ints Tryd.underlying29 Tryd.underlying5 (by kernel_rfl) hf with ⟨hcs, _⟩ | ⟨x, l, c, zs, hcs, _, hl, hm, hz, hx, hcell, hwz⟩
  · simp at hcs
    obtain ⟨rfl, rfl, rfl⟩ := hcs
    exact ⟨[], .inl ⟨rfl, rfl, rfl, rfl⟩⟩
  · simp at hcs
    obtain ⟨rfl, rfl, rfl⟩ := hcs
    exact ⟨zs, .inr ⟨_, rfl, hl, hm, by simpa using hz, hcell, hwz⟩⟩
/-- A row of bytes as an element. -/
structure BR where
  A : Option Addr
  n : Nat
  c : Nat
  xs : List UInt8
def brc (r : BR) : List Value := [.slice r.A r.n r.c]
theorem brc_len (r : BR) : (brc r).length = 1 := rfl
theorem brc_one (r : BR) : ∀ v ∈ brc r, v.oneCell' = true := by
  intro v hv
  simp only [brc, List.mem_cons, List.not_mem_nil, or_false] at hv
  subst hv; rfl
/-- Rows of rows of bytes that came in. -/
abbrev IsRows (w : World) (A : Option Addr) (n c : Nat) : Prop := IsEP brc (fun r => RS w r.A r.n r.c r.xs) w A n c
theorem trod_row (n : Nat) (cs : List Value) (y : DataW H × List MemPlace) (h : DataW.trod enc Tryd.prog w base (fun _ => true) held n 29 cs = some y) : ∃ r : BR, cs = brc r ∧ RS w r.A r.n r.c r.xs := by
  obtain ⟨A, k, c, rfl⟩ : ∃ A k c, cs = [.slice A k c] := by
    rcases open_slice Tryd.underlying29 h with ⟨h0, _⟩ | ⟨a, l, c, m, n, D, Pl, hcs, _⟩
    · exact ⟨_, _, _, h0⟩
    · exact ⟨_, _, _, hcs⟩
  obtain ⟨zs, hz⟩ := row_of_trod h
  obtain ⟨xs, hr⟩ := hz.bytes
  exact ⟨⟨A, k, c, xs⟩, rfl, hr⟩
end
end Go.Proofs.YtcppmihambcihaaDoor
