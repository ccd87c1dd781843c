/- BankBack: what stands between its rounds. -/
import Derived.Test.YtafpkfnegfjohaaBkOrderW
import Derived.Test.YtafpkfnegfjohaaOpenR
import Derived.LoopTactic
namespace Go.Proofs.Ytafpkfnegfjohaa
open Go Go.RowKit Go.Shelf
set_option linter.unusedVariables false
set_option linter.unusedSimpArgs false
theorem wpList_append_byf {w : World} {ops : Array Oper} {rest : List Oper} {o : Oper} {a : Act} {Q : Exit → Act → World → Prop} (hgd : o.guard = none) (s x : Operand)
    (ho : o.op = .call { callee := .builtin .append, args := #[s, x], argTypes := #[23, 23] }) (base : Nat) (hbase : base ≤ w.heap.size) (v : Value) (xs : List UInt8) (hs : a.eval s = v) (hown : OwnB w base v xs)
    (A : Option Addr) (m c : Nat) (news : List UInt8) (hx : a.eval x = .slice A m c) (hr : RS w A m c news) (hlen : xs.length + m ≤ 140737488355328)
    (h : ∀ v' w', OwnB w' base v' (xs ++ news) → Below base w w' → w.grownBy w' v.ownBlock → (∀ g, v'.ownBlock = some g → v.ownBlock = some g ∨ w.heap.size ≤ g) → wpList Try.prog ops Q rest (a.put o.dst v') w') : wpList Try.prog ops Q (o :: rest) a w :=
  wpList_plain hgd fun _ hK => wp_append_by s x ho base hbase v xs hs hown A m c news hx hr hlen fun v' w' h1 h2 h3 h4 => hK _ _ (h v' w' h1 h2 h3 h4)
/-- Rows of ints. -/
def ic (n : Nat) : List Value := [.int .i64 n]
theorem ic_len (n : Nat) : (ic n).length = 1 := rfl
theorem ic_one (n : Nat) : ∀ v ∈ ic n, v.oneCell' = true := by
  intro v hv
  simp only [ic, List.mem_cons, List.not_mem_nil, or_false] at hv
  subst hv; rfl
theorem icT : ElT Try.prog 38 3 1 8 (.int .i64 0) := ⟨Try.underlying38, by kernel_rfl, rfl, by omega⟩
def endsOf (s : Nat) (ds : List (List UInt8)) : List Nat := (List.range ds.length).map (fun j => (bkRows s (ds.take (j + 1))).length)
theorem endsOf_len (s : Nat) (ds : List (List UInt8)) : (endsOf s ds).length = ds.length := by simp [endsOf]
theorem endsOf_snoc (s : Nat) (ds : List (List UInt8)) (d : List UInt8) : endsOf s (ds ++ [d]) = endsOf s ds ++ [(bkRows s (ds ++ [d])).length] := by
  unfold endsOf
  rw [List.length_append, List.length_singleton, List.range_succ, List.map_append]
  congr 1
  · apply List.map_congr_left
    intro j hj
    rw [List.mem_range] at hj
    rw [List.take_append_of_le_length (by omega)]
  · rw [List.map_cons, List.map_nil, List.take_of_length_le (by simp)]
theorem endsOf_get (s : Nat) (ds : List (List UInt8)) (i : Nat) (hi : i < ds.length) : (endsOf s ds)[i]? = some (bkRows s (ds.take (i + 1))).length := by
  simp [endsOf, hi]
theorem bkRows_max (s : Nat) (ds : List (List UInt8)) (h : ∀ d ∈ ds, bkOk d = true) : (bkRows s ds).length ≤ 48 * ds.length := by
  induction ds generalizing s with
  | nil => simp [bkRows]
  | cons d ds ih =>
    have h1 := bkOk_iff.1 (h d (by simp))
    have h2 := ih (s + 1) (fun e he => h e (by simp [he]))
    simp only [bkRows, List.length_append, bkPrint_len, List.length_cons]
    omega
/-- The bytes, and where each record ends. -/
structure BB (s : Nat) (wa wr : World) (v8 v9 : Value) (zs : List UInt8) (es : List Nat) : Prop where
  own : OwnB wr wa.heap.size v8 zs
  ends : OwnE ic 1 3 wr v9 es
  far : ∀ g, v9.ownBlock = some g → wa.heap.size ≤ g
  apart : ∀ g, v8.ownBlock = some g → v9.ownBlock ≠ some g
  bel : Below wa.heap.size wa wr
theorem BB.start (s : Nat) (wa : World) : BB s wa wa (.slice none 0 0) (.slice none 0 0) [] [] :=
  ⟨OwnB.nil _ _, OwnE.nil _ _, (fun g h => by cases h), (fun g h => by cases h), Below.refl _ _⟩
/-- Behind what only adds. -/
theorem BB.step {s : Nat} {wa wr w' : World} {v8 v9 : Value} {zs : List UInt8} {es : List Nat} (h : BB s wa wr v8 v9 zs es) (hb : Below wr.heap.size wr w') : BB s wa w' v8 v9 zs es :=
  ⟨h.own.below hb, h.ends.fr (Fr.ofBelow hb (fun _ => False)) (fun _ _ h => h), h.far, h.apart, below_step h.bel hb⟩
/-- Behind an append of bytes. -/
theorem BB.bytes {s : Nat} {wa wr w' : World} {v8 v9 v' : Value} {zs zs' : List UInt8} {es : List Nat} (h : BB s wa wr v8 v9 zs es) (hown : OwnB w' wa.heap.size v' zs') (hb : Below wa.heap.size wr w') (hg : wr.grownBy w' v8.ownBlock) (hf : ∀ g, v'.ownBlock = some g → v8.ownBlock = some g ∨ wr.heap.size ≤ g) : BB s wa w' v' v9 zs' es := by
  refine ⟨hown, h.ends.fr (Fr.ofGrown hg) (fun g hg9 e => h.apart g e.symm hg9), h.far, fun g hg8 hg9 => ?_, h.bel.trans hb⟩
  rcases hf g hg8 with h1 | h1
  · exact h.apart g h1 hg9
  · have := h.ends.lt g hg9; omega
/-- Behind an append of an end. -/
theorem BB.endp {s : Nat} {wa wr w' : World} {v8 v9 v' : Value} {zs : List UInt8} {es es' : List Nat} (h : BB s wa wr v8 v9 zs es) (hown : OwnE ic 1 3 w' v' es') (hg : wr.grownBy w' v9.ownBlock) (hf : ∀ g, v'.ownBlock = some g → v9.ownBlock = some g ∨ wr.heap.size ≤ g) : BB s wa w' v8 v' zs es' := by
  have hs := h.bel.size
  refine ⟨h.own.fr (Fr.ofGrown hg) (fun g hg8 e => h.apart g hg8 e.symm), hown, fun g hg9 => ?_, fun g hg8 hg9 => ?_, h.bel.trans ⟨hg.os, hg.tape, hg.output, hg.size, fun i hi => hg.block i (by omega) (fun e => by have := h.far i e.symm; omega)⟩⟩
  · rcases hf g hg9 with h1 | h1
    · exact h.far g h1
    · omega
  · rcases hf g hg9 with h1 | h1
    · exact h.apart g hg8 h1
    · have := (h.own.own g hg8).2; omega
def dsOf (rs : List BR) (k : Nat) : List (List UInt8) := (rs.take k).map (·.xs)
theorem dsOf_succ (rs : List BR) (k : Nat) (hk : k < rs.length) : dsOf rs (k + 1) = dsOf rs k ++ [rs[k].xs] := by
  rw [dsOf, List.take_succ_eq_append_getElem hk, List.map_append]; rfl
theorem dsOf_len (rs : List BR) (k : Nat) (hk : k ≤ rs.length) : (dsOf rs k).length = k := by simp [dsOf, hk]
theorem dsOf_get (rs : List BR) (k i : Nat) (hk : k ≤ rs.length) (hi : i < k) : (dsOf rs k)[i]? = some (rs[i]'(by omega)).xs := by
  simp [dsOf, List.getElem?_take, hi, show i < rs.length by omega]
theorem dsOf_take (rs : List BR) (k i : Nat) (hi : i ≤ k) : (dsOf rs k).take i = dsOf rs i := by
  rw [dsOf, dsOf, ← List.map_take, List.take_take]; congr 2; omega
end Go.Proofs.Ytafpkfnegfjohaa
