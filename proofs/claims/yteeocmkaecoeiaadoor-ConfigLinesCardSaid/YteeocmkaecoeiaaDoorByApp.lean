/- append of bytes onto a slice that has no room left, whatever it is. -/
import Derived.Test.YteeocmkaecoeiaaDoorBy
import Derived.ArgAppend
namespace Go.Proofs.YteeocmkaecoeiaaDoor
open Go.RowKit
set_option linter.unusedVariables false
set_option linter.unusedSimpArgs false
theorem wpList_append_grow_by {w : World} {ops : Array Oper} {rest : List Oper} {o : Oper} {a : Act} {Q : Exit → Act → World → Prop} (hgd : o.guard = none) (s x : Operand)
    (ho : o.op = .call { callee := .builtin .append, args := #[s, x], argTypes := #[27, 27] })
    (A : Option Addr) (n cap : Nat) (xs : List UInt8) (hs : a.eval s = .slice A n cap) (rs : RS w A n cap xs)
    (ad : Addr) (m c : Nat) (news : List UInt8) (hx : a.eval x = .slice (some ad) m c) (hr : RB w (some ad) m news)
    (hfull : cap < n + m) (hlen : n + m ≤ 140737488355328)
    (h : ∀ v' w', OwnB w' w.heap.size v' (xs ++ news) → Below w.heap.size w w' → wpList Tryd.prog ops Q rest (a.put o.dst v') w') : wpList Tryd.prog ops Q (o :: rest) a w := by
  obtain ⟨i0, hi, hz0, hz1, hz2⟩ := info_parts by_info
  refine wpList_append_grows w hgd s x 27 ho 5 i0 (.int .u8 0) 1 1 Tryd.underlying27 hi hz0 hz1 hz2 rfl (by decide) A n cap (xs.map bv) hs (fun e => by have h0 := rs.nil e; have := rs.cap; omega) (by simp [rs.len]) (fun b e => by have h2 := rs.rb; rw [e] at h2; exact h2.news) ad m c (news.map bv) hx (by simp [hr.len]) hr.news (bv_one news) hfull (by simp only [maxLen]; omega) (by omega) ?_
  intro v' w' hown hg
  refine h v' w' ?_ (⟨hg.os, hg.tape, hg.output, hg.size, fun i hi => hg.block i hi (by simp)⟩)
  unfold OwnB
  rw [List.length_append, List.map_append, hr.len, rs.len]
  exact hown
end Go.Proofs.YteeocmkaecoeiaaDoor
