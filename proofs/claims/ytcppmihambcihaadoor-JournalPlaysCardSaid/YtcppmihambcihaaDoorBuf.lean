/- Blocks of bytes that the program's objects keep: copy into them; bytes.Repeat of one byte. -/
import Derived.Test.YtcppmihambcihaaDoorFrBy
import Derived.Test.YtcppmihambcihaaDoorFault
import Derived.Lib.MakeNoZero
namespace Go.Proofs.YtcppmihambcihaaDoor
open Go.RowKit
set_option linter.unusedVariables false
set_option linter.unusedSimpArgs false

/-- Block g holds cells, the first of which are the bytes xs. -/
structure BufC (w : World) (g : Nat) (cur : List Value) (xs : List UInt8) : Prop where
  heap : w.heap[g]? = some (.cells cur.toArray 5 (0, 0))
  pre : cur.take xs.length = xs.map bv
theorem BufC.lt {w : World} {g : Nat} {cur : List Value} {xs : List UInt8} (h : BufC w g cur xs) : g < w.heap.size := (Array.getElem?_eq_some_iff.1 h.heap).1
theorem BufC.le {w : World} {g : Nat} {cur : List Value} {xs : List UInt8} (h : BufC w g cur xs) : xs.length ≤ cur.length := by
  have := congrArg List.length h.pre
  simp at this; omega
theorem BufC.fr {F : Nat → Prop} {w w' : World} {g : Nat} {cur : List Value} {xs : List UInt8} (h : BufC w g cur xs) (hf : Fr F w w') (hg : ¬ F g) : BufC w' g cur xs := ⟨(hf.block g h.lt hg).trans h.heap, h.pre⟩
theorem BufC.below {w w' : World} {g : Nat} {cur : List Value} {xs : List UInt8} (h : BufC w g cur xs) (hb : Below w.heap.size w w') : BufC w' g cur xs := h.fr (Fr.ofBelow hb (fun _ => False)) id
theorem BufC.cell {w : World} {g : Nat} {cur : List Value} {xs : List UInt8} (h : BufC w g cur xs) (i : Nat) (hi : i < xs.length) : w.cell? ⟨g, i, none⟩ = some (bv (xs.getD i 0)) := by
  have hc : w.cell? ⟨g, i, none⟩ = cur[i]? := by simp [World.cell?, h.heap]
  have h2 : (cur.take xs.length)[i]? = cur[i]? := by rw [List.getElem?_take, if_pos hi]
  rw [hc, ← h2, h.pre]
  simp [List.getElem?_eq_getElem hi, List.getD_eq_getElem?_getD]
theorem BufC.free {w : World} {g : Nat} {cur : List Value} {xs : List UInt8} (h : BufC w g cur xs) (i : Nat) : w.frozen? ⟨g, i, none⟩ = false := by simp [World.frozen?, h.heap]
theorem BufC.rs {w : World} {g : Nat} {cur : List Value} {xs : List UInt8} (h : BufC w g cur xs) (n c : Nat) (hn : n = xs.length) (hc : n ≤ c) (hm : n ≤ 9223372036854775807) : RS w (some ⟨g, 0, none⟩) n c xs :=
  ⟨⟨hn.symm, hm, fun h0 => ⟨g, 0, rfl, fun i hi => by rw [Nat.zero_add]; exact h.cell i (by omega)⟩⟩, (fun e => by cases e), hc⟩
theorem BufC.noStep {w : World} {g : Nat} {cur : List Value} {xs : List UInt8} (h : BufC w g cur xs) : NoStep w (fun k => k = g) := noStep_block h.heap (by decide)

theorem by_size1 : (Tryd.prog.info? 5).map (·.size) = some 1 := by
  obtain ⟨i0, hi, hz0, hz1, hz2⟩ := info_parts by_info
  rw [hi]; simp [hz1]
theorem fr_setRow (w : World) (g : Nat) (cs : Array Value) : Fr (fun k => k = g) w (w.setRow g cs) := ⟨rfl, rfl, rfl, by simp [World.setRow], fun k _ hk => setRow_other w g k cs (by exact hk)⟩
/-- copy(dst, src) of bytes: the block's cells behind it. -/
theorem wp_copy_raw {w : World} {o : Oper} {a : Act} {K : Act → World → Prop} {Q : Exit → Act → World → Prop} (d s : Operand)
    (ho : o.op = .call { callee := .builtin .copy, args := #[d, s], argTypes := #[29, 29] })
    (g off : Nat) (cur : List Value) (hh : w.heap[g]? = some (.cells cur.toArray 5 (0, 0)))
    (dp : Option Addr) (dLen dCap : Nat) (hd : a.eval d = .slice dp dLen dCap) (A : Option Addr) (m c : Nat) (news : List UInt8) (hs : a.eval s = .slice A m c) (hr : RB w A m news)
    (k : Nat) (hk : k = min m dLen) (hdp : 0 < k → dp = some ⟨g, off, none⟩) (hfit : off + k ≤ cur.length)
    (h : ∀ w', w'.heap[g]? = some (.cells (splice cur off ((news.take k).map bv)).toArray 5 (0, 0)) → Fr (fun i => i = g) w w' → K (a.put o.dst (goInt k)) w') : o.wp Tryd.prog a w K Q := by
  have hml : ((news.take k).map bv).length = k := by rw [List.length_map, List.length_take, hr.len]; omega
  rcases Nat.eq_zero_or_pos k with h0 | h0
  · subst h0
    have hrun := run_copy_none (P := Tryd.prog) w 29 29 o.type 5 dp A dLen dCap m c Tryd.underlying29 by_size1 (by rw [hk])
    unfold Oper.wp
    simp [execOp, ho, resolve, invoke, builtin, hd, hs, hrun, Result.andThen]
    exact h w (by simpa [splice] using hh) (Fr.refl _ _)
  · obtain rfl := hdp h0
    obtain ⟨b, o', rfl, _, _⟩ := hr.cells (by omega)
    have hrun := run_copy_row (P := Tryd.prog) w 29 29 o.type 5 g off dLen dCap ⟨b, o', none⟩ m c cur.toArray 5 ((news.take k).map bv) Tryd.underlying29 by_size1 hh (by rw [hml, hk]) (fun j v hv => by
      refine hr.news j v ?_
      rw [List.map_take, List.getElem?_take] at hv
      split at hv
      · exact hv
      · cases hv) (by rw [hml]; simpa using hfit) (bv_one _)
    have e9 : (cur.toArray.toList.take off ++ ((news.take k).map bv) ++ cur.toArray.toList.drop (off + ((news.take k).map bv).length)) = Go.splice cur off ((news.take k).map bv) := by unfold Go.splice; rw [List.append_assoc]
    rw [e9, hml] at hrun
    unfold Oper.wp
    simp only [execOp, ho, resolve, invoke, builtin, Sem.run_bind, Sem.run_pure, Result.andThen_ok, List.map_toArray, List.map_cons, List.map_nil, hd, hs, hrun]
    exact h _ (setRow_heap w g _ _ 5 _ hh) (fr_setRow w g _)
theorem BufC.splice {w w' : World} {g off : Nat} {cur : List Value} {xs news : List UInt8} (h : BufC w g cur xs) (hfit : off + news.length ≤ xs.length) (hh : w'.heap[g]? = some (.cells (Go.splice cur off (news.map bv)).toArray 5 (0, 0))) : BufC w' g (Go.splice cur off (news.map bv)) (Go.splice xs off news) := by
  refine ⟨hh, ?_⟩
  have hl := h.le
  rw [length_splice _ _ _ hfit, take_splice _ _ _ _ (by rw [List.length_map]; exact hfit) hl, h.pre, splice_map]
theorem BufC.snoc {w w' : World} {g : Nat} {cur : List Value} {xs news : List UInt8} (h : BufC w g cur xs) (hfit : xs.length + news.length ≤ cur.length) (hh : w'.heap[g]? = some (.cells (Go.splice cur xs.length (news.map bv)).toArray 5 (0, 0))) : BufC w' g (Go.splice cur xs.length (news.map bv)) (xs ++ news) := by
  refine ⟨hh, ?_⟩
  unfold Go.splice
  rw [h.pre, ← List.append_assoc, ← List.map_append, List.take_left' (by simp)]
theorem wpList_copy_raw {w : World} {ops : Array Oper} {rest : List Oper} {o : Oper} {a : Act} {Q : Exit → Act → World → Prop} (hgd : o.guard = none) (d s : Operand)
    (ho : o.op = .call { callee := .builtin .copy, args := #[d, s], argTypes := #[29, 29] })
    (g off : Nat) (cur : List Value) (hh : w.heap[g]? = some (.cells cur.toArray 5 (0, 0)))
    (dp : Option Addr) (dLen dCap : Nat) (hd : a.eval d = .slice dp dLen dCap) (A : Option Addr) (m c : Nat) (news : List UInt8) (hs : a.eval s = .slice A m c) (hr : RB w A m news)
    (k : Nat) (hk : k = min m dLen) (hdp : 0 < k → dp = some ⟨g, off, none⟩) (hfit : off + k ≤ cur.length)
    (h : ∀ w', w'.heap[g]? = some (.cells (splice cur off ((news.take k).map bv)).toArray 5 (0, 0)) → Fr (fun i => i = g) w w' → wpList Tryd.prog ops Q rest (a.put o.dst (goInt k)) w') : wpList Tryd.prog ops Q (o :: rest) a w :=
  wpList_plain hgd fun _ hK => wp_copy_raw d s ho g off cur hh dp dLen dCap hd A m c news hs hr k hk hdp hfit fun w' h1 h2 => hK _ _ (h w' h1 h2)

/-- math/bits.Mul(1, n). -/
theorem mul_one64 (n : Nat) (hn : n ≤ 65536) (w : World) : Calls Tryd.prog 43 #[.int .u64 1, .int .u64 n] w fun e w' => e = .returned (.tuple #[.int .u64 0, .int .u64 n]) ∧ w = w' := by
  have e1 : bits .and .u64 (n : Int) 4294967295 = n := by
    show IntKind.u64.wrap ((BitVec.ofInt 64 (n : Int) &&& BitVec.ofInt 64 4294967295).toNat : Int) = _
    have e : (BitVec.ofInt 64 4294967295).toNat = 2 ^ 32 - 1 := by decide
    rw [BitVec.ofInt_natCast, BitVec.toNat_and, e, BitVec.toNat_ofNat, Nat.and_two_pow_sub_one_eq_mod, Nat.mod_eq_of_lt (by omega), Nat.mod_eq_of_lt (by omega)]
    simp [IntKind.wrap, IntKind.bits, IntKind.signed]; omega
  have e2 : (n : Int) / 4294967296 = 0 := by omega
  have e3 : IntKind.u64.wrap (n : Int) = n := by simp [IntKind.wrap, IntKind.bits, IntKind.signed]; omega
  have e4 : bits .and .u64 1 4294967295 = 1 := by decide
  have e5 : IntKind.u64.wrap 0 = 0 := by decide
  have e6 : bits .and .u64 0 4294967295 = 0 := by decide
  have hn' : (n : Int) ≤ 65536 := by omega
  go_enter Tryd.func43, Tryd.ntmps43
  go_wp2
  go_ret2
  exact ⟨rfl, rfl⟩
end Go.Proofs.YtcppmihambcihaaDoor
