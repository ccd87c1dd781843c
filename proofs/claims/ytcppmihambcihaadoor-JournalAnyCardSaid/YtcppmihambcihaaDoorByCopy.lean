/- copy(dst, src) of bytes into a row that the call owns. -/
import Derived.Test.YtcppmihambcihaaDoorBy
import Derived.Laws.CopyOwn
namespace Go.Proofs.YtcppmihambcihaaDoor
open Go.RowKit
set_option linter.unusedVariables false
set_option linter.unusedSimpArgs false

theorem splice_map {α β : Type} (f : α → β) (L : List α) (off : Nat) (cs : List α) : (splice L off cs).map f = splice (L.map f) off (cs.map f) := by
  simp [splice, List.map_take, List.map_drop]
theorem splice_whole {α : Type} (L cs : List α) (h : cs.length = L.length) : splice L 0 cs = cs := by
  simp [splice, List.drop_eq_nil_of_le, h]
theorem take_splice {α : Type} (L : List α) (off : Nat) (cs : List α) (n : Nat) (hn : off + cs.length ≤ n) (hL : n ≤ L.length) : (splice L off cs).take n = splice (L.take n) off cs := by
  unfold splice
  have e1 : min off L.length = off := by omega
  have e2 : min off n = off := by omega
  rw [List.take_append, List.take_append, List.take_take, List.drop_take, List.length_take, e1, Nat.min_comm, e2, List.take_take, e2, List.take_of_length_le (l := cs) (by omega), Nat.sub_sub]
theorem wpList_copy_by {w : World} {ops : Array Oper} {rest : List Oper} {o : Oper} {a : Act} {Q : Exit → Act → World → Prop} (hgd : o.guard = none) (d s : Operand)
    (ho : o.op = .call { callee := .builtin .copy, args := #[d, s], argTypes := #[29, 29] })
    (w0 : World) (base g n0 c0 : Nat) (xs : List UInt8) (hown : OwnB w base (.slice (some ⟨g, 0, none⟩) n0 c0) xs) (hb : Below w0.heap.size w0 w) (hbase : w0.heap.size ≤ base)
    (dp : Option Addr) (off dLen dCap : Nat) (hd : a.eval d = .slice dp dLen dCap) (A : Option Addr) (m c : Nat) (news : List UInt8) (hs : a.eval s = .slice A m c) (hr : RB w A m news)
    (hdp : 0 < m → dp = some ⟨g, off, none⟩) (hk : m ≤ dLen) (hfit : off + m ≤ xs.length)
    (h : ∀ w', OwnB w' base (.slice (some ⟨g, 0, none⟩) n0 c0) (splice xs off news) → Below w0.heap.size w0 w' → w.heap.size ≤ w'.heap.size → wpList Tryd.prog ops Q rest (a.put o.dst (goInt m)) w') : wpList Tryd.prog ops Q (o :: rest) a w := by
  have hinfo : (Tryd.prog.info? 5).map (·.size) = some 1 := by
    obtain ⟨i0, hi, hz0, hz1, hz2⟩ := info_parts by_info
    rw [hi]; simp [hz1]
  rcases hown with ⟨hh0, h2 | ⟨g', cap, cur, e, hg, hh, h1, h2, h3, h4⟩⟩
  · cases h2.1
  · cases e
    have hml : (news.map bv).length = m := by rw [List.length_map, hr.len]
    simp only [Nat.mul_one] at h3 h4
    have hcl : cur.toList.length = cur.size := Array.length_toList
    have hxl : xs.length ≤ cur.size := by
      have := congrArg List.length h4
      simp at this; omega
    have hgs := (Array.getElem?_eq_some_iff.1 hh).1
    rw [show goInt m = goInt (news.map bv).length by rw [hml]] at h
    have hls : (splice xs off news).length = xs.length := length_splice _ _ _ (by rw [hr.len]; exact hfit)
    refine wpList_copy_splice hgd d s _ _ ho 5 Tryd.underlying29 hinfo dp A dLen dCap m c hd hs g off cur.toList _ (by simpa using hh) (news.map bv) (by rw [hml]; exact (Nat.min_eq_left hk).symm) ?_ (by rw [hml]; omega) (bv_one news) g w (Below.refl _ _) (Nat.le_refl _) ?_
    · intro h0
      rw [hml] at h0
      obtain ⟨b, o', rfl, _, _⟩ := hr.cells h0
      exact ⟨hdp h0, _, rfl, hr.news⟩
    · intro w' hg' hb'
      refine h w' ⟨by simp, .inr ⟨g, c0, _, by rw [hls], hg, hg', by rw [hls]; exact h1, h2, ?_, ?_⟩⟩ (hb.trans (hb'.mono (by omega))) hb'.size
      · rw [Nat.mul_one, ← h3]
        simp only [List.size_toArray]
        rw [length_splice _ _ _ (by rw [hml]; omega), hcl]
      · rw [Nat.mul_one, hls]
        show (splice cur.toList off (news.map bv)).take xs.length = _
        rw [take_splice _ _ _ _ (by rw [hml]; exact hfit) (by omega), h4, splice_map]
theorem by_slice_h (w : World) (A : Option Addr) (n c k : Nat) (hk : k ≤ c) (z : Int) (hz : z = (k : Int)) : (Instr.slice 29 (.slice A n c) none (some (.int .i64 z)) none).run Tryd.prog w = .ok (.slice A k c) w := by
  subst hz
  obtain ⟨i0, hi, hz0, hz1, hz2⟩ := info_parts by_info
  have hs : (sizeOf 5).run Tryd.prog w = .ok 1 w := by simp [sizeOf, typeInfo, hi, hz1]
  simp [Instr.slice, run_underlying Tryd.underlying29, Instr.sliceBounds, run_sliceBound, hk, hs]
  intro _
  cases A with
  | none => rfl
  | some a => obtain ⟨b, o, s⟩ := a; simp [Addr.add]
theorem by_slice_3 (w : World) (A : Option Addr) (n c k : Nat) (hk : k ≤ c) (z z2 : Int) (hz : z = (k : Int)) (hz2 : z2 = (k : Int)) : (Instr.slice 29 (.slice A n c) none (some (.int .i64 z)) (some (.int .i64 z2))).run Tryd.prog w = .ok (.slice A k k) w := by
  subst hz hz2
  obtain ⟨i0, hi, hz0, hz1, hz2⟩ := info_parts by_info
  have hs : (sizeOf 5).run Tryd.prog w = .ok 1 w := by simp [sizeOf, typeInfo, hi, hz1]
  simp [Instr.slice, run_underlying Tryd.underlying29, Instr.sliceBounds, run_sliceBound, hk, hs]
  intro _
  cases A with
  | none => rfl
  | some a => obtain ⟨b, o, s⟩ := a; simp [Addr.add]
/-- s[lo:hi]. -/
theorem by_slice_lh (w : World) (A : Option Addr) (n c lo hi : Nat) (h1 : lo ≤ hi) (h2 : hi ≤ c) (z z2 : Int) (hz : z = (lo : Int)) (hz2 : z2 = (hi : Int)) : (Instr.slice 29 (.slice A n c) (some (.int .i64 z)) (some (.int .i64 z2)) none).run Tryd.prog w = .ok (.slice (subA A c lo) (hi - lo) (c - lo)) w := by
  subst hz hz2
  obtain ⟨i0, hi, hz0, hz1, hz2⟩ := info_parts by_info
  have hs : (sizeOf 5).run Tryd.prog w = .ok 1 w := by simp [sizeOf, typeInfo, hi, hz1]
  simp [Instr.slice, run_underlying Tryd.underlying29, Instr.sliceBounds, run_sliceBound, h1, h2, hs, subA]
end Go.Proofs.YtcppmihambcihaaDoor
