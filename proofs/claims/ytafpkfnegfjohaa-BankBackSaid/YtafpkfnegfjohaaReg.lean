/- An ordered region, operation by operation. No program in sight. -/
import Derived.WalkKit
import Derived.LoopTactic
namespace Go.Proofs.Ytafpkfnegfjohaa
open Go.RowKit
section
variable {P : Program} {ops : Array Oper} {Q : Exit → Act → World → Prop} {a : Act} {w : World} {rest : List Oper} {o : Oper} {v : Value}
/-- The list's rule, shut (so that Lean does not run it by itself). -/
structure WL (P : Program) (ops : Array Oper) (Q : Exit → Act → World → Prop) (l : List Oper) (a : Act) (w : World) : Prop where
  out : wpList P ops Q l a w
theorem wl_enter {id : Nat} {l : List Oper} (h : WL P l.toArray Q l a w) : (Code.region id l.toArray false).wp P Q a w := wp_region_lit h.out
theorem wl_nil (h : Q .normal a w) : WL P ops Q [] a w := ⟨wpList_nil h⟩
theorem wl_step (h : ∀ K : Act → World → Prop, (∀ a w, WL P ops Q rest a w → K a w) → if Region.wanted o (yielded ops a.tmps) then o.wp P a w K Q else K (a.put o.dst undef) w) : WL P ops Q (o :: rest) a w := ⟨wpList_step fun K hK => h K (fun a w hw => hK a w hw.out)⟩
theorem wl_at (h : WL P ops Q (o :: rest) a w) : wpList P ops Q (o :: rest) a w := h.out
def boolOf : Value → Option Bool
  | .bool b => some b
  | _ => none
theorem yielded_at {j d : Nat} {u : Value} (hd : (ops[j]?).bind (·.dst) = some d) (hu : a.tmps[d]? = some u) : yielded ops a.tmps j = boolOf u := by
  unfold yielded
  simp only [hd, Option.bind_some, hu]
  cases u <;> rfl
theorem wanted_none (hg : o.guard = none) : Region.wanted o (yielded ops a.tmps) = true := by simp [Region.wanted, hg]
theorem wanted_some (j d : Nat) (want : Bool) (hg : o.guard = some (j, want)) (hd : (ops[j]?).bind (·.dst) = some d) (hu : a.tmps[d]? = some (.bool want)) : Region.wanted o (yielded ops a.tmps) = true := by simp [Region.wanted, hg, yielded_at hd hu, boolOf]
theorem eval_at {x : Nat} {u : Value} (h : a.tmps[x]? = some u) : a.eval (.tmp x) = u := by
  show a.tmps.getD x undef = u
  rw [Array.getD_eq_getD_getElem?, h]
  rfl
/-- An operation that reads no slot, one, two, three. -/
theorem wpList_r0 (v : Value) (hw : Region.wanted o (yielded ops a.tmps) = true) (hv : ∀ ρ : Operand → Value, (∀ c, ρ (.const c) = c) → (execOp ρ o).run P w = .ok (.value v) w) (h : WL P ops Q rest (a.put o.dst v) w) : WL P ops Q (o :: rest) a w := by
  constructor
  unfold wpList
  rw [if_pos hw]
  left
  unfold Oper.wp Oper.upon
  rw [hv a.eval (fun _ => rfl)]
  exact h.out
theorem wpList_r1 (x : Nat) (u v : Value) (hw : Region.wanted o (yielded ops a.tmps) = true) (hx : a.tmps[x]? = some u) (hv : ∀ ρ : Operand → Value, (∀ c, ρ (.const c) = c) → ρ (.tmp x) = u → (execOp ρ o).run P w = .ok (.value v) w) (h : WL P ops Q rest (a.put o.dst v) w) : WL P ops Q (o :: rest) a w := by
  constructor
  unfold wpList
  rw [if_pos hw]
  left
  unfold Oper.wp Oper.upon
  rw [hv a.eval (fun _ => rfl) (eval_at hx)]
  exact h.out
theorem wpList_r2 (x y : Nat) (u u' v : Value) (hw : Region.wanted o (yielded ops a.tmps) = true) (hx : a.tmps[x]? = some u) (hy : a.tmps[y]? = some u') (hv : ∀ ρ : Operand → Value, (∀ c, ρ (.const c) = c) → ρ (.tmp x) = u → ρ (.tmp y) = u' → (execOp ρ o).run P w = .ok (.value v) w) (h : WL P ops Q rest (a.put o.dst v) w) : WL P ops Q (o :: rest) a w := by
  constructor
  unfold wpList
  rw [if_pos hw]
  left
  unfold Oper.wp Oper.upon
  rw [hv a.eval (fun _ => rfl) (eval_at hx) (eval_at hy)]
  exact h.out
theorem wpList_r3 (x y z : Nat) (u u' u'' v : Value) (hw : Region.wanted o (yielded ops a.tmps) = true) (hx : a.tmps[x]? = some u) (hy : a.tmps[y]? = some u') (hz : a.tmps[z]? = some u'') (hv : ∀ ρ : Operand → Value, (∀ c, ρ (.const c) = c) → ρ (.tmp x) = u → ρ (.tmp y) = u' → ρ (.tmp z) = u'' → (execOp ρ o).run P w = .ok (.value v) w) (h : WL P ops Q rest (a.put o.dst v) w) : WL P ops Q (o :: rest) a w := by
  constructor
  unfold wpList
  rw [if_pos hw]
  left
  unfold Oper.wp Oper.upon
  rw [hv a.eval (fun _ => rfl) (eval_at hx) (eval_at hy) (eval_at hz)]
  exact h.out
/-- A guarded one that is passed over. -/
theorem wpList_gskip (j d : Nat) (want : Bool) (hg : o.guard = some (j, want)) (hd : (ops[j]?).bind (·.dst) = some d) {u : Value} (hu : a.tmps[d]? = some u) (hn : u = undef ∨ u = .bool (!want)) (h : WL P ops Q rest (a.put o.dst undef) w) : WL P ops Q (o :: rest) a w := by
  refine ⟨wpList_skip ?_ h.out⟩
  unfold Region.wanted
  rw [hg]
  simp only [yielded_at hd hu]
  rcases hn with rfl | rfl
  · rfl
  · cases want <;> rfl
end
end Go.Proofs.Ytafpkfnegfjohaa
