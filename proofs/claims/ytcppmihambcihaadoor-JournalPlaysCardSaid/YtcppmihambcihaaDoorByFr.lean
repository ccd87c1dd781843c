/- Bytes as rows of elements of one cell: append of bytes, one operation. -/
import Derived.Test.YtcppmihambcihaaDoorFrBy
namespace Go.Proofs.YtcppmihambcihaaDoor
open Go.RowKit
set_option linter.unusedVariables false
set_option linter.unusedSimpArgs false
def byf (x : UInt8) : List Value := [bv x]
theorem byf_len (x : UInt8) : (byf x).length = 1 := rfl
theorem byf_one (x : UInt8) : ∀ v ∈ byf x, v.oneCell' = true := by
  intro v hv
  simp only [byf, List.mem_cons, List.not_mem_nil, or_false] at hv
  subst hv; rfl
theorem byf_flat (xs : List UInt8) : xs.flatMap byf = xs.map bv := by
  induction xs with
  | nil => rfl
  | cons x xs ih => rw [List.flatMap_cons, ih]; rfl
theorem byT : ElT Tryd.prog 29 5 1 1 (.int .u8 0) := ⟨Tryd.underlying29, by kernel_rfl, rfl, by omega⟩
theorem OwnB.own0 {w : World} {base : Nat} {v : Value} {xs : List UInt8} (h : OwnB w base v xs) : OwnE byf 1 5 w v xs := by
  unfold OwnE
  rw [byf_flat]
  exact h.base (Nat.zero_le _)
theorem OwnE.ownB {w : World} {base : Nat} {v : Value} {xs : List UInt8} (h : OwnE byf 1 5 w v xs) (hb : ∀ k, v.ownBlock = some k → base ≤ k) : OwnB w base v xs := by
  unfold OwnE at h
  rw [byf_flat] at h
  refine ⟨h.1, ?_⟩
  rcases h.2 with h2 | ⟨g, cap, cur, rfl, _, r⟩
  · exact .inl h2
  · exact .inr ⟨g, cap, cur, rfl, hb g rfl, r⟩
theorem RS.re {w : World} {A : Option Addr} {n c : Nat} {xs : List UInt8} (h : RS w A n c xs) (hn : n ≤ 140737488355328) : RE byf w A n c xs :=
  ⟨h.rb.1, h.nil, h.cap, hn, fun h0 => by
    obtain ⟨b, off, rfl, hlt, hc⟩ := h.rb.cells h0
    refine ⟨b, off, rfl, hlt, fun j v hv => ?_⟩
    rw [byf_flat, List.getElem?_map] at hv
    have hj : j < xs.length := by
      rcases Nat.lt_or_ge j xs.length with h | h
      · exact h
      · rw [List.getElem?_eq_none h] at hv; cases hv
    rw [List.getElem?_eq_getElem hj] at hv
    have := hc j (by rw [← h.rb.1]; exact hj)
    rw [this, List.getD_eq_getElem?_getD, List.getElem?_eq_getElem hj]
    simpa using hv⟩
/-- append of bytes onto a row of one's own: one operation. -/
theorem wp_append_by {w : World} {o : Oper} {a : Act} {K : Act → World → Prop} {Q : Exit → Act → World → Prop} (s x : Operand)
    (ho : o.op = .call { callee := .builtin .append, args := #[s, x], argTypes := #[29, 29] }) (base : Nat) (hbase : base ≤ w.heap.size) (v : Value) (xs : List UInt8) (hs : a.eval s = v) (hown : OwnB w base v xs)
    (A : Option Addr) (m c : Nat) (news : List UInt8) (hx : a.eval x = .slice A m c) (hr : RS w A m c news) (hlen : xs.length + m ≤ 140737488355328)
    (h : ∀ v' w', OwnB w' base v' (xs ++ news) → Below base w w' → w.grownBy w' v.ownBlock → (∀ g, v'.ownBlock = some g → v.ownBlock = some g ∨ w.heap.size ≤ g) → K (a.put o.dst v') w') : o.wp Tryd.prog a w K Q := by
  refine wp_append_fr byT byf_len byf_one s x ho v xs hs hown.own0 A m c news hx (hr.re (by omega)) (by omega) hlen ?_
  intro v' w' hown' hg hf
  have hb : ∀ k, v.ownBlock = some k → base ≤ k := fun k hk => (hown.own k hk).1
  refine h v' w' (hown'.ownB (fun k hk => ?_)) ⟨hg.os, hg.tape, hg.output, hg.size, fun i hi => hg.block i (by omega) (fun e => ?_)⟩ hg hf
  · rcases hf k hk with h2 | h2
    · exact hb k h2
    · omega
  · have := hb i e.symm; omega
end Go.Proofs.YtcppmihambcihaaDoor
