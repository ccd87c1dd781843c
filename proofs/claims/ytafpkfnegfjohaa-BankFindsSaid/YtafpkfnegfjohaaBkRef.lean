/- The document's: all records, the last one. -/
import Derived.Test.YtafpkfnegfjohaaBkLast
import Derived.Test.YtafpkfnegfjohaaBkOne
import Derived.Test.YtafpkfnegfjohaaBkLaw
import Derived.Deep.DeepCutAuto
namespace Go.Proofs.Ytafpkfnegfjohaa
open Go Go.RowKit Go.Shelf
set_option linter.unusedVariables false
set_option linter.unusedSimpArgs false
theorem NtsAt.push {lo : Nat} {wr w1 w' : World} {v v' : Value} {ys : List NV} {x : NV} (h : NtsAt lo wr v ys) (hlo : lo ≤ wr.heap.size) (hb : Below wr.heap.size wr w1) (hx : DatIs wr.heap.size w1 x.A x.c x.nt.dat)
    (hF : Fr (fun i => v.ownBlock = some i) w1 w') (hown : OwnNt w' v' (ys ++ [x])) (hfar : ∀ k, v'.ownBlock = some k → v.ownBlock = some k ∨ w1.heap.size ≤ k) : NtsAt lo w' v' (ys ++ [x]) := by
  have hsz := hb.size
  have hv : ∀ k, v.ownBlock = some k → k < wr.heap.size := fun k hk => h.own.lt k hk
  refine ⟨hown, fun k hk => ?_, fun y hy => ?_, ?_⟩
  · rcases hfar k hk with h2 | h2
    · exact h.far k h2
    · omega
  · rw [List.mem_append, List.mem_singleton] at hy
    rcases hy with hy | rfl
    · have hd := (h.dat y hy).1.fr (Fr.ofBelow hb (fun _ => False)) (fun _ _ _ h => h)
      refine ⟨hd.fr hF (fun k o e e2 => (h.dat y hy).2 k o e e2), fun k o e e2 => ?_⟩
      have h3 := (h.dat y hy).1.blk k o e
      rcases hfar k e2 with h4 | h4
      · exact (h.dat y hy).2 k o e h4
      · omega
    · refine ⟨(hx.fr hF (fun k o e e2 => ?_)).base hlo, fun k o e e2 => ?_⟩
      · have h3 := hx.blk k o e
        have := hv k e2
        omega
      · have h3 := hx.blk k o e
        rcases hfar k e2 with h4 | h4
        · have := hv k h4; omega
        · omega
  · rw [List.pairwise_append]
    refine ⟨h.apart, List.pairwise_singleton _ _, fun y hy z hz k o k' o' e e' => ?_⟩
    rw [List.mem_singleton] at hz
    subst hz
    have h3 := (h.dat y hy).1.blk k o e
    have h4 := hx.blk k' o' e'
    omega
theorem NtsAt.below {lo : Nat} {w w' : World} {v : Value} {ys : List NV} (h : NtsAt lo w v ys) (hb : Below w.heap.size w w') : NtsAt lo w' v ys :=
  ⟨h.own.fr (Fr.ofBelow hb (fun _ => False)) (fun _ _ h => h), h.far, fun x hx => ⟨(h.dat x hx).1.fr (Fr.ofBelow hb (fun _ => False)) (fun _ _ _ h => h), (h.dat x hx).2⟩, h.apart⟩
theorem IsOne.any {r : Option (Nat × List UInt8)} {w : World} {e : Ending} {w' : World} (h : IsOne r w e w') : ∃ (s : Nat) (A : Option Addr) (d : List UInt8) (c : Nat) (n : Int), e = .returned (.tuple #[.agg (nta s A d.length c 0), .int .i64 n]) ∧ ((r = none ∧ n = 0) ∨ (r = some (s, d) ∧ n = 8 + d.length ∧ DatIs w.heap.size w' A c d)) ∧ Below w.heap.size w w' := by
  cases r with
  | none => exact ⟨0, none, [], 0, 0, h.1, .inl ⟨rfl, rfl⟩, h.2⟩
  | some p =>
    obtain ⟨s, d⟩ := p
    obtain ⟨A, c, h1, h2, h3⟩ := h
    exact ⟨s, A, d, c, 8 + d.length, h1, .inr ⟨rfl, rfl, h2⟩, h3⟩
structure RNI (w : World) (xs : List UInt8) (wr : World) (v : Value) (ys : List NV) (k : Nat) : Prop where
  nts : NtsAt w.heap.size wr v ys
  all : bkNotes xs = ys.map (·.nt) ++ bkAll (ys.getLast?.map (·.nt.seq)) k (xs.drop k)
  le : k ≤ xs.length
  few : ys.length ≤ k
  u32 : ∀ x ∈ ys, x.nt.seq < 4294967296
  bel : Below w.heap.size w wr
theorem RNI.start (w : World) (xs : List UInt8) : RNI w xs w (.slice none 0 0) [] 0 :=
  ⟨⟨OwnE.nil _ _, (fun k h => by cases h), (fun x hx => by cases hx), List.Pairwise.nil⟩, (by rw [List.drop_zero]; rfl), Nat.zero_le _, Nat.le_refl _, (fun x hx => by cases hx), Below.refl _ _⟩
theorem bkAll_nil_no {p : Option Nat} {k : Nat} {xs : List UInt8} (h : ∀ s d, bkFirst xs = some (s, d) → bkNext p s = false) : bkAll p k xs = [] := by
  cases hf : bkFirst xs with
  | none => exact bkAll_none hf
  | some r => obtain ⟨s, d⟩ := r; exact bkAll_no hf (h s d hf)
theorem RNI.done {w : World} {xs : List UInt8} {wr : World} {v : Value} {ys : List NV} {k : Nat} (h : RNI w xs wr v ys k) (hno : ∀ s d, bkFirst (xs.drop k) = some (s, d) → bkNext (ys.getLast?.map (·.nt.seq)) s = false) : ys.map (·.nt) = bkNotes xs := by
  rw [h.all, bkAll_nil_no hno, List.append_nil]
theorem RNI.push {w : World} {xs : List UInt8} {wr w1 w' : World} {v v' : Value} {ys : List NV} {k s : Nat} {d : List UInt8} {A : Option Addr} {c : Nat} (h : RNI w xs wr v ys k) (hb : Below wr.heap.size wr w1) (hx : DatIs wr.heap.size w1 A c d) (hf : bkFirst (xs.drop k) = some (s, d)) (hn : bkNext (ys.getLast?.map (·.nt.seq)) s = true)
    (hF : Fr (fun i => v.ownBlock = some i) w1 w') (hown : OwnNt w' v' (ys ++ [⟨⟨s, d, k + (8 + d.length)⟩, A, c⟩])) (hfar : ∀ k, v'.ownBlock = some k → v.ownBlock = some k ∨ w1.heap.size ≤ k) : RNI w xs w' v' (ys ++ [⟨⟨s, d, k + (8 + d.length)⟩, A, c⟩]) (k + (8 + d.length)) := by
  have hl := bkFirst_len hf
  rw [List.length_drop] at hl
  have hle := h.le
  refine ⟨NtsAt.push h.nts h.bel.size hb hx hF hown hfar, ?_, by omega, by have := h.few; rw [List.length_append]; simp; omega, ?_, (h.bel.trans (hb.mono h.bel.size)).trans (hF.below w.heap.size (Nat.le_trans h.bel.size hb.size) (fun i e => h.nts.far i e))⟩
  · rw [h.all, bkAll_yes hf hn, List.drop_drop]; simp
  · intro x hx
    rw [List.mem_append, List.mem_singleton] at hx
    rcases hx with hx | rfl
    · exact h.u32 x hx
    · exact hl.2.2.2
/-- The last one's number in memory. -/
theorem nts_last {lo : Nat} {w : World} {v : Value} {ys : List NV} {x : NV} (h : NtsAt lo w v (ys ++ [x])) (hl : ys.length ≤ 1000000) : ∃ g c, v = .slice (some ⟨g, 0, none⟩) (ys.length + 1) c ∧ g < w.heap.size ∧ w.rangeAt g (ys.length * 3) (ntc x) := by
  obtain ⟨A, c, rfl, hr, _, ha⟩ := h.own.re (by simp; omega)
  rw [List.length_append, List.length_singleton] at hr ⊢
  obtain ⟨b, off, rfl, hlt, _⟩ := hr.cells (by omega)
  obtain ⟨h0, _⟩ := ha _ rfl
  simp only at h0
  subst h0
  have h2 := hr.elem ntc_len ys.length (by simp)
  refine ⟨b, c, by simp, hlt, ?_⟩
  simpa using h2
end Go.Proofs.Ytafpkfnegfjohaa
