/- store.Store: Write, as one contract. -/
import Derived.Test.YtcppmihambcihaaDoorJrPure
namespace Go.Proofs.YtcppmihambcihaaDoor
open Go Go.RowKit Go.Shelf
set_option linter.unusedVariables false
set_option linter.unusedSimpArgs false
abbrev StOf (w : World) (g gb : Nat) (t : Sto) : Prop := StIs w g gb t.xs t.lim t.dead
structure IsWr (w : World) (g gb : Nat) (r : Nat × Sto) (e : Ending) (w' : World) : Prop where
  err : ∃ v, e = .returned v ∧ ErrIs w' v r.1
  st : StOf w' g gb r.2
  fr : Fr (fun k => k = g ∨ k = gb) w w'
theorem st_write (g gb : Nat) (t : Sto) (a : Nat) (A : Option Addr) (m c : Nat) (ys : List UInt8) (w : World) (h : StOf w g gb t) (hr : RS w A m c ys) :
    Calls Tryd.prog 31 #[.pointer (some ⟨g, 0, none⟩), .int .i64 a, .slice A m c] w (IsWr w g gb (t.wr a ys)) := by
  obtain ⟨xs, lim, dead⟩ := t
  have hl := hr.len
  unfold Sto.wr
  cases dead with
  | true =>
    refine (st_write_dead g gb xs lim a A m c w h).mono ?_
    rintro e w' ⟨v, rfl, he, hb⟩
    exact ⟨⟨v, rfl, .inr ⟨rfl, 1, he⟩⟩, StIs.below h hb, Fr.ofBelow hb _⟩
  | false =>
    by_cases hin : a + m ≤ xs.length
    · simp only [Bool.false_eq_true, if_false, hl, show ¬ xs.length < a + m by omega]
      cases lim with
      | none =>
        refine (st_write_fits g gb xs none a A m c ys w h hr hin (fun k e => by cases e)).mono ?_
        rintro e w' ⟨rfl, h2, hf⟩
        exact ⟨⟨_, rfl, .inl ⟨rfl, rfl⟩⟩, h2, hf⟩
      | some k =>
        by_cases hk : k < m
        · simp only [hk, if_true]
          refine (st_write_torn g gb xs k a A m c ys w h hr (fun _ _ _ _ => trivial) hin hk).mono ?_
          rintro e w' ⟨v, rfl, he, h2, hf⟩
          exact ⟨⟨v, rfl, .inr ⟨rfl, 1, he⟩⟩, h2, hf⟩
        · simp only [hk, if_false]
          refine (st_write_fits g gb xs (some k) a A m c ys w h hr hin (fun k' e => by cases e; omega)).mono ?_
          rintro e w' ⟨rfl, h2, hf⟩
          exact ⟨⟨_, rfl, .inl ⟨rfl, rfl⟩⟩, h2, hf⟩
    · simp only [Bool.false_eq_true, if_false, hl, show xs.length < a + m by omega, if_true]
      refine (st_write_range g gb xs lim a A m c w h (by rw [Bool.eq_false_iff]; intro h; have := stIn_iff.1 h; omega)).mono ?_
      rintro e w' ⟨v, rfl, he, hb⟩
      exact ⟨⟨v, rfl, .inr ⟨rfl, 1, he⟩⟩, StIs.below h hb, Fr.ofBelow hb _⟩
end Go.Proofs.YtcppmihambcihaaDoor
