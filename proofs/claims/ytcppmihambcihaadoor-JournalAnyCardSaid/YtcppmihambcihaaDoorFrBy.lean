/- Bytes behind frames by footprints. -/
import Derived.Test.YtcppmihambcihaaDoorFr
import Derived.Test.YtcppmihambcihaaDoorByClone
import Derived.Test.YtcppmihambcihaaDoorByCopy
namespace Go.Proofs.YtcppmihambcihaaDoor
open Go.RowKit
set_option linter.unusedVariables false
set_option linter.unusedSimpArgs false

theorem RB.fr {F : Nat → Prop} {w w' : World} {A : Option Addr} {n : Nat} {xs : List UInt8} (h : RB w A n xs) (hf : Fr F w w') (hA : 0 < n → ∀ b off, A = some ⟨b, off, none⟩ → ¬ F b) : RB w' A n xs :=
  ⟨h.1, h.2.1, fun h0 => by
    obtain ⟨b, off, e, hlt, hc⟩ := h.cells h0
    exact ⟨b, off, e, fun i hi => (hf.cell (p := ⟨b, off + i, none⟩) hlt (hA h0 b off e)).trans (hc i hi)⟩⟩
theorem RS.fr {F : Nat → Prop} {w w' : World} {A : Option Addr} {n c : Nat} {xs : List UInt8} (h : RS w A n c xs) (hf : Fr F w w') (hA : 0 < n → ∀ b off, A = some ⟨b, off, Option.none⟩ → ¬ F b) : RS w' A n c xs := ⟨h.rb.fr hf hA, h.nil, h.cap⟩
theorem OwnB.fr {F : Nat → Prop} {w w' : World} {base : Nat} {v : Value} {xs : List UInt8} (h : OwnB w base v xs) (hf : Fr F w w') (hv : ∀ g, v.ownBlock = some g → ¬ F g) : OwnB w' base v xs := by
  refine ⟨h.1, ?_⟩
  rcases h.2 with h2 | ⟨g, cap, cur, rfl, hb, hh, r⟩
  · exact .inl h2
  · exact .inr ⟨g, cap, cur, rfl, hb, (hf.block g (Array.getElem?_eq_some_iff.1 hh).1 (hv g rfl)).trans hh, r⟩
theorem RS.sub {w : World} {A : Option Addr} {n c : Nat} {xs : List UInt8} (h : RS w A n c xs) (k : Nat) (hk : k ≤ n) : RS w (subA A c k) (n - k) (c - k) (xs.drop k) := by
  refine ⟨h.rb.sub k hk h.cap, fun e => ?_, by have := h.cap; omega⟩
  unfold subA at e
  split at e
  · omega
  · cases A with
    | none => have := h.nil rfl; omega
    | some a => cases e
theorem RS.take {w : World} {A : Option Addr} {n c : Nat} {xs : List UInt8} (h : RS w A n c xs) (k : Nat) (hk : k ≤ n) : RS w A k c (xs.take k) := ⟨h.rb.take k hk, h.nil, by have := h.cap; omega⟩
/-- What is owned, its form: nil and empty, or at the head of a block of its own. -/
theorem OwnB.form {w : World} {base : Nat} {v : Value} {xs : List UInt8} (h : OwnB w base v xs) : (v = .slice none 0 0 ∧ xs = []) ∨ ∃ g c, v = .slice (some ⟨g, 0, none⟩) xs.length c ∧ base ≤ g ∧ g < w.heap.size ∧ (∀ i, w.frozen? ⟨g, i, none⟩ = false) ∧ RS w (some ⟨g, 0, none⟩) xs.length c xs := by
  rcases h.2 with ⟨rfl, h0⟩ | ⟨g, cap, cur, rfl, hb, hh, r⟩
  · exact .inl ⟨rfl, List.eq_nil_of_length_eq_zero h0⟩
  · exact .inr ⟨g, cap, rfl, hb, (Array.getElem?_eq_some_iff.1 hh).1, fun i => by simp [World.frozen?, hh], OwnB.rs h⟩
theorem fr_one {w w' : World} {g : Nat} (h : Fr (fun k => k = g) w w') {B : Nat} (hB : B ≤ w.heap.size) (hg : B ≤ g) : Below B w w' := h.below B hB (fun i e => by rw [e]; exact hg)
theorem fr_same {F : Nat → Prop} {w w1 w2 : World} (h : Fr F w w1) (k : Fr F w1 w2) : Fr F w w2 := h.trans k (fun _ h => .inl h)
theorem fr_new {F : Nat → Prop} {w w1 w2 : World} (h : Fr F w w1) (k : Below w1.heap.size w1 w2) : Fr F w w2 := h.trans (Fr.ofBelow k (fun _ => False)) (fun _ h => h.elim)
theorem fr_pre {F : Nat → Prop} {w w1 w2 : World} (h : Below w.heap.size w w1) (k : Fr F w1 w2) : Fr F w w2 := (Fr.ofBelow h F).trans k (fun _ h => .inl h)
end Go.Proofs.YtcppmihambcihaaDoor
