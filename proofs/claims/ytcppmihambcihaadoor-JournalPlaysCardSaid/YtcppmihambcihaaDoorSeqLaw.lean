/- A range over a function whose rounds all end normally: the statement, and one round. No program in it. -/
import Derived.RangeFuncNested
import Derived.RangeFuncBound
import Derived.RangeFuncCalls
import Derived.RangeFuncLeaves
import Derived.Shelf.Abstract
import Derived.Shelf.RegionOpen
import Derived.WalkKit
import Derived.OwnWalkIn
import Derived.TacticsInMore
import Derived.LoopNIn
import Derived.LoopIn
import Derived.Test.YtcppmihambcihaaDoorFr
namespace Go.Proofs.YtcppmihambcihaaDoor
open Go Go.RowKit
set_option linter.unusedVariables false
set_option linter.unusedSimpArgs false
/-- The loop's record. -/
def lrec (fn : FuncId) (tmps : Array Value) (ps : Array Tmp) (assign body : Code) (D : Nat) (st : LoopState) : Loop := { state := st, pending := none, fn, tmps, params := ps, assign, body, defers := D }
/-- A call of yield, where the record is ready and the round ends normally. -/
theorem yield_on {P : Program} {m l D : Nat} {fn : FuncId} {tmps : Array Value} {ps : Array Tmp} {assign body : Code} {args : Array Value} {W : World} {R : World → Prop}
    (hl : W.heap[l]? = some (.loop (lrec fn tmps ps assign body D .ready))) (hs : args.size = ps.size)
    (h : assign.wpIn (Fence.wide.inRound l) m P (Exit.then (fun a1 W1 => W1.heap[l]? = some (.loop (lrec fn tmps ps assign body D .ready)) ∧
      body.wpIn (Fence.wide.inRound l) m P (fun e _ W3 => e = .normal ∧ W3.heap[l]? = some (.loop (lrec fn tmps ps assign body D .busy)) ∧ R (W3.putObj l (.loop (lrec fn tmps ps assign body D .ready)))) a1 (W1.putObj l (.loop (lrec fn tmps ps assign body D .busy)))) (fun _ _ _ => False))
      { tmps := (ps.zip args).foldl (fun t (p, v) => t.setIfInBounds p v) tmps, defers := [] } W) :
    YieldAt Fence.wide m P l args W fun e W' => e = .returned (.bool true) ∧ R W' := by
  have hy := run_yield (P := P) (args := args) hl hs
  refine ⟨fn, _, assign, body, hy, roundIn_of_wpIn trivial (wpIn_mono h ?_)⟩
  rintro e a1 W1 hq
  cases e with
  | normal =>
    obtain ⟨hl1, hb⟩ := hq
    refine ⟨_, run_beginRound hl1 rfl, wpIn_mono hb ?_⟩
    rintro e2 a2 W3 ⟨rfl, hl3, hR⟩
    exact ⟨_, _, run_endRound none hl3, rfl, hR⟩
  | _ => exact hq.elim
/-- The statement. -/
theorem range_on {P : Program} {n gf : Nat} {lb : Array Value} {g : Operand} {ps : Array Tmp} {assign body : Code} {Q : Exit → Act → World → Prop} {a : Act} {w : World} (T : FuncId → World → Prop)
    (hg : a.eval g = .func (.func gf) #[] lb) (eg : ∀ args w, (callFunc gf args).run P w = .ok (.enter gf args) w)
    (hcall : ∀ fn, CallsIn Fence.wide (n - 1) P gf (#[.func (.yield (w.heap.size + 1)) #[] #[]] ++ lb) ((w.alloc (.deferred (some []))).alloc (.loop (lrec fn a.tmps ps assign body w.heap.size .ready)))
      (fun e W2 => (∃ v, e = .returned v) ∧ W2.heap[w.heap.size + 1]? = some (.loop (lrec fn a.tmps ps assign body w.heap.size .ready)) ∧ T fn W2))
    (hdone : ∀ fn W2, T fn W2 → W2.heap[w.heap.size + 1]? = some (.loop (lrec fn a.tmps ps assign body w.heap.size .ready)) → Q .normal { a with defers := { target := .collected w.heap.size, args := #[] } :: a.defers } (W2.putObj (w.heap.size + 1) (.loop (lrec fn a.tmps ps assign body w.heap.size .exhausted)))) :
    (Code.rangeFunc g ps assign body).wpIn Fence.wide n P Q a w := by
  refine wpIn_rangeFunc ?_
  intro fn hfn
  obtain ⟨W1, hW1⟩ : ∃ W1, W1 = (w.alloc (.deferred (some []))).alloc (.loop (lrec fn a.tmps ps assign body w.heap.size .ready)) := ⟨_, rfl⟩
  have hc := hcall fn
  rw [← hW1] at hc
  refine ⟨w.heap.size + 1, [{ target := .collected w.heap.size, args := #[] }], W1, { target := .fn (.func gf) lb, args := #[.func (.yield (w.heap.size + 1)) #[] #[]] }, W1, gf,
    #[.func (.yield (w.heap.size + 1)) #[] #[]] ++ lb, W1, ?_, ?_, ?_, ?_, ?_, ?_⟩
  · rw [hW1]; exact run_enterLoop_outer _ _ _ _ _
  · simp only [resolve, hg]
    simp [go_sem]
  · intro f' _; trivial
  · simp [invoke, go_sem, eg]
  · intro h; simp [Fence.wide] at h
  · refine hc.mono ?_
    rintro e W2 ⟨⟨v, rfl⟩, hl, hT⟩
    exact ⟨none, _, run_endLoop (P := P) hl (by simp [lrec]), hdone fn W2 hT hl⟩
/-- append in a round. -/
theorem wpListIn_append_fr {α : Type} {f : α → List Value} {k : Nat} {F : Fence} {n : Nat} {P : Program} {st e : TypeId} {bytes : Nat} {z : Value} (T : ElT P st e k bytes z) (hk : ∀ x, (f x).length = k) (h1 : ∀ x, ∀ v ∈ f x, v.oneCell' = true) {w : World} {ops : Array Oper} {rest : List Oper} {o : Oper} {a : Act} {Q : Exit → Act → World → Prop} (hgd : o.guard = none) (s x : Operand)
    (ho : o.op = .call { callee := .builtin .append, args := #[s, x], argTypes := #[st, st] }) (v : Value) (xs : List α) (hs : a.eval s = v) (hown : OwnE f k e w v xs)
    (A : Option Addr) (m c : Nat) (news : List α) (hx : a.eval x = .slice A m c) (hr : RE f w A m c news) (hbytes : (xs.length + m) * bytes ≤ 140737488355328) (h63 : xs.length + m ≤ 140737488355328)
    (h : ∀ v' w', OwnE f k e w' v' (xs ++ news) → w.grownBy w' v.ownBlock → (∀ g, v'.ownBlock = some g → v.ownBlock = some g ∨ w.heap.size ≤ g) → wpListIn F n P ops Q rest (a.put o.dst v') w') : wpListIn F n P ops Q (o :: rest) a w := by
  refine wpListIn_plain hgd fun K hK => ?_
  obtain ⟨v', w', hrun, h2, h3, h4, _⟩ := run_append_fr T hk h1 w o.type v xs hown A m c news hr hbytes h63
  unfold Oper.wpIn
  refine ⟨?_, ?_⟩
  · simp [Oper.about, ho, resolve, Target.leads, Sem.run_pure]
  · rw [Oper.semAt_plain F _ _ (by rw [ho]; intro c hc'; cases hc')]
    simp [execOp, ho, resolve, invoke, builtin, hs, hx, hrun, Result.andThen]
    exact hK _ _ (h v' w' h2 h3 h4)
end Go.Proofs.YtcppmihambcihaaDoor
