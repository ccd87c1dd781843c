/- Slices of bytes as lists of bytes: what reads as a list (RB), what the call owns (OwnB), and the laws of append, make, conversion and slicing in these words. -/
import Derived.Test.YtcppmihambcihaaDoorProg
import Derived.WalkKit
import Derived.WalkSpells
import Derived.Lib.Hide
import Derived.Laws.AppendOwnNone
import Derived.Laws.BytesArg
import Derived.Lib.SlBytesConst
import Derived.Deep.QuietTactic
import Derived.BigQuiet
import Derived.Deep.RegionWith
import Derived.Deep.RegionHeld3
import Derived.StillTailTactics
namespace Go.Proofs.YtcppmihambcihaaDoor
open Go.RowKit
set_option linter.unusedVariables false
set_option linter.unusedSimpArgs false

/-- A byte's number, kept from the walk's simp. -/
def nb (x : UInt8) : Int := (x.toNat : Int)
def bv (x : UInt8) : Value := .int .u8 (nb x)
theorem nb_bd (x : UInt8) : 0 ≤ nb x ∧ nb x ≤ 255 := by unfold nb; have := x.toNat_lt; omega
theorem bv_one (xs : List UInt8) : ∀ u ∈ xs.map bv, u.oneCell' = true := by
  intro u hu
  obtain ⟨x, _, rfl⟩ := List.mem_map.1 hu
  rfl
theorem add_at (b off i : Nat) : (⟨b, off, none⟩ : Addr).add i = ⟨b, off + i, none⟩ := by unfold Addr.add; split <;> simp_all

/-- The slice at A of length n reads as the bytes xs. -/
def RB (w : World) (A : Option Addr) (n : Nat) (xs : List UInt8) : Prop :=
  xs.length = n ∧ n ≤ 9223372036854775807 ∧ (0 < n → ∃ b off, A = some ⟨b, off, none⟩ ∧ ∀ i, i < n → w.cell? ⟨b, off + i, none⟩ = some (bv (xs.getD i 0)))
theorem RB.len {w : World} {A : Option Addr} {n : Nat} {xs : List UInt8} (h : RB w A n xs) : xs.length = n := h.1
theorem RB.nil (w : World) (A : Option Addr) : RB w A 0 [] := ⟨rfl, by omega, fun h => absurd h (by omega)⟩
theorem RB.cells {w : World} {A : Option Addr} {n : Nat} {xs : List UInt8} (h : RB w A n xs) (h0 : 0 < n) : ∃ b off, A = some ⟨b, off, none⟩ ∧ b < w.heap.size ∧ ∀ i, i < n → w.cell? ⟨b, off + i, none⟩ = some (bv (xs.getD i 0)) := by
  obtain ⟨b, off, e, hc⟩ := h.2.2 h0
  exact ⟨b, off, e, World.block_lt_of_cell? w _ (hc 0 h0), hc⟩
/-- What was read is read the same where no old block has turned. -/
theorem RB.below {w w1 : World} {A : Option Addr} {n : Nat} {xs : List UInt8} (h : RB w A n xs) (hb : Below w.heap.size w w1) : RB w1 A n xs :=
  ⟨h.1, h.2.1, fun h0 => by
    obtain ⟨b, off, e, hlt, hc⟩ := h.cells h0
    exact ⟨b, off, e, fun i hi => (hb.cell (p := ⟨b, off + i, none⟩) hlt).trans (hc i hi)⟩⟩
theorem RB.belowB {w w1 : World} {B : Nat} {b off n : Nat} {xs : List UInt8} (h : RB w (some ⟨b, off, none⟩) n xs) (hlt : b < B) (hb : Below B w w1) : RB w1 (some ⟨b, off, none⟩) n xs :=
  ⟨h.1, h.2.1, fun h0 => by
    obtain ⟨b', off', e, _, hc⟩ := h.cells h0
    cases e
    exact ⟨b, off, rfl, fun i hi => (hb.cell (p := ⟨b, off + i, none⟩) hlt).trans (hc i hi)⟩⟩
theorem RB.news {w : World} {a : Addr} {n : Nat} {xs : List UInt8} (h : RB w (some a) n xs) : ∀ j u, (xs.map bv)[j]? = some u → w.cell? (a.add j) = some u := by
  intro j u hu
  have hj : j < xs.length := by
    rcases Nat.lt_or_ge j xs.length with h' | h'
    · exact h'
    · rw [List.getElem?_eq_none (by simpa using h')] at hu; cases hu
  obtain ⟨b, off, e, _, hc⟩ := h.cells (by have := h.len; omega)
  cases e
  rw [add_at, hc j (by have := h.len; omega)]
  simp [List.getElem?_eq_getElem hj] at hu
  rw [← hu]
  simp [List.getD_eq_getElem?_getD, List.getElem?_eq_getElem hj]
theorem RB.take {w : World} {A : Option Addr} {n : Nat} {xs : List UInt8} (h : RB w A n xs) (k : Nat) (hk : k ≤ n) : RB w A k (xs.take k) :=
  ⟨by rw [List.length_take, h.1]; omega, by have := h.2.1; omega, fun h0 => by
    obtain ⟨b, off, e, _, hc⟩ := h.cells (by omega)
    refine ⟨b, off, e, fun i hi => ?_⟩
    rw [hc i (by omega)]
    simp [List.getD_eq_getElem?_getD, hi]⟩
theorem RB.drop {w : World} {b off n : Nat} {xs : List UInt8} (h : RB w (some ⟨b, off, none⟩) n xs) (k : Nat) (hk : k ≤ n) : RB w (some ⟨b, off + k, none⟩) (n - k) (xs.drop k) :=
  ⟨by rw [List.length_drop, h.1], by have := h.2.1; omega, fun h0 => by
    obtain ⟨b', off', e, _, hc⟩ := h.cells (by omega)
    cases e
    refine ⟨b, off + k, rfl, fun i hi => ?_⟩
    rw [show off + k + i = off + (k + i) by omega, hc (k + i) (by omega)]
    simp [List.getD_eq_getElem?_getD]⟩

/-- Draws turn no block. -/
theorem below_drewN (w : World) (m : Nat) : Below w.heap.size w (w.drewN m) := ⟨rfl, rfl, rfl, Nat.le_refl _, fun _ _ => rfl⟩
theorem RB.drewN {w : World} {A : Option Addr} {n : Nat} {xs : List UInt8} (h : RB w A n xs) (m : Nat) : RB (w.drewN m) A n xs := h.below (below_drewN w m)
theorem quiet_same {P : Program} {f : FuncId} {args : Array Value} {w : World} {n : Nat} {v : Value}
    (h : Calls P f args (w.drewN n) fun e w' => e = .returned v ∧ w.drewN n = w') : Calls P f args (w.drewN n) fun e w'' => e = .returned v ∧ ∃ m, w'' = w.drewN m :=
  h.mono fun _ _ ⟨he, hm⟩ => ⟨he, n, hm.symm⟩
/-- s[k:]: where it begins. -/
def subA (A : Option Addr) (c k : Nat) : Option Addr := if c = k then A else A.map (·.add k)
theorem RB.sub {w : World} {A : Option Addr} {n c : Nat} {xs : List UInt8} (h : RB w A n xs) (k : Nat) (hk : k ≤ n) (hc : n ≤ c) : RB w (subA A c k) (n - k) (xs.drop k) := by
  rcases Nat.eq_zero_or_pos (n - k) with h0 | h0
  · rw [h0]
    have : xs.drop k = [] := List.eq_nil_of_length_eq_zero (by rw [List.length_drop, h.1]; exact h0)
    rw [this]
    exact RB.nil _ _
  · obtain ⟨b, off, rfl, _, _⟩ := h.cells (by omega)
    unfold subA
    rw [if_neg (by omega)]
    show RB w (some ((⟨b, off, none⟩ : Addr).add k)) _ _
    rw [add_at]
    exact h.drop k hk

/-- The call owns the slice v, which holds the bytes xs. -/
def OwnB (w : World) (base : Nat) (v : Value) (xs : List UInt8) : Prop := w.ownsRow base 5 1 v xs.length (xs.map bv)
theorem OwnB.nil (w : World) (base : Nat) : OwnB w base (.slice none 0 0) [] := World.ownsRow_nil w base _ 1
theorem OwnB.kept {w w' : World} {base : Nat} {v : Value} {xs : List UInt8} {row : Option Nat} (h : OwnB w base v xs) (hg : w.grownBy w' row) (hne : v.ownBlock = none ∨ v.ownBlock ≠ row) : OwnB w' base v xs := World.ownsRow.kept h hg hne
theorem grown_below {w w1 : World} (h : Below w.heap.size w w1) (row : Option Nat) : w.grownBy w1 row := ⟨h.os, h.tape, h.output, h.size, fun i hi _ => h.block i hi⟩
theorem OwnB.below {w w' : World} {base : Nat} {v : Value} {xs : List UInt8} (h : OwnB w base v xs) (hb : Below w.heap.size w w') : OwnB w' base v xs := h.kept (grown_below hb none) (by cases v.ownBlock <;> simp)
theorem OwnB.base {w : World} {base base' : Nat} {v : Value} {xs : List UInt8} (h : OwnB w base v xs) (hb : base' ≤ base) : OwnB w base' v xs := by
  refine ⟨h.1, ?_⟩
  rcases h.2 with h2 | ⟨g, cap, cur, e, hg, r⟩
  · exact .inl h2
  · exact .inr ⟨g, cap, cur, e, by omega, r⟩
theorem OwnB.own {w : World} {base : Nat} {v : Value} {xs : List UInt8} (h : OwnB w base v xs) (k : Nat) (hk : v.ownBlock = some k) : base ≤ k ∧ k < w.heap.size := World.ownsRow.lt h k hk
/-- A whole slice that reads as bytes: its capacity besides. -/
structure RS (w : World) (A : Option Addr) (n c : Nat) (xs : List UInt8) : Prop where
  rb : RB w A n xs
  nil : A = none → c = 0
  cap : n ≤ c
theorem RS.below {w w1 : World} {A : Option Addr} {n c : Nat} {xs : List UInt8} (h : RS w A n c xs) (hb : Below w.heap.size w w1) : RS w1 A n c xs := ⟨h.rb.below hb, h.nil, h.cap⟩
theorem below_drew1 (w : World) : Below w.heap.size w w.drew := ⟨rfl, rfl, rfl, Nat.le_refl _, fun _ _ => rfl⟩
theorem RS.drew {w : World} {A : Option Addr} {n c : Nat} {xs : List UInt8} (h : RS w A n c xs) : RS w.drew A n c xs := h.below (below_drew1 w)
theorem RS.len {w : World} {A : Option Addr} {n c : Nat} {xs : List UInt8} (h : RS w A n c xs) : xs.length = n := h.rb.1
/-- What is owned: its form, and that it reads as its bytes. -/
theorem OwnB.reads {w : World} {base : Nat} {v : Value} {xs : List UInt8} (h : OwnB w base v xs) : ∃ A c, v = .slice A xs.length c ∧ RS w A xs.length c xs := by
  rcases h.2 with ⟨rfl, h0⟩ | ⟨g, cap, cur, rfl, hb, hh, h1, h2, h3, h4⟩
  · have hx : xs = [] := List.eq_nil_of_length_eq_zero h0
    subst hx
    exact ⟨none, 0, rfl, RB.nil _ _, fun _ => rfl, Nat.le_refl _⟩
  · refine ⟨_, cap, rfl, ⟨rfl, by simp only [maxLen] at h2; omega, fun h0 => ⟨g, 0, rfl, fun i hi => ?_⟩⟩, (fun e => by cases e), h1⟩
    have := World.ownsRow.cells h (g := g) rfl i (bv (xs.getD i 0)) (by simp [List.getElem?_map, List.getElem?_eq_getElem hi, List.getD_eq_getElem?_getD])
    rwa [add_at] at this
theorem OwnB.rs {w : World} {base : Nat} {A : Option Addr} {n c : Nat} {xs : List UInt8} (h : OwnB w base (.slice A n c) xs) : RS w A n c xs := by
  obtain ⟨A', c', e, r⟩ := h.reads
  cases e
  exact r
/-- A cell of what is owned may be written. -/
theorem OwnB.free {w : World} {base : Nat} {v : Value} {xs : List UInt8} (h : OwnB w base v xs) {g off c n : Nat} (hv : v = .slice (some ⟨g, off, none⟩) n c) : off = 0 ∧ base ≤ g ∧ g < w.heap.size ∧ ∀ i, w.frozen? ⟨g, i, none⟩ = false := by
  rcases h.2 with ⟨rfl, h0⟩ | ⟨g', cap, cur, rfl, hb, hh, _⟩
  · cases hv
  · cases hv
    exact ⟨rfl, hb, (Array.getElem?_eq_some_iff.1 hh).1, fun i => by simp [World.frozen?, hh]⟩
/-- .. and holds what was written. -/
theorem OwnB.set {w : World} {base g c n : Nat} {xs : List UInt8} (h : OwnB w base (.slice (some ⟨g, 0, none⟩) n c) xs) (i : Nat) (hi : i < xs.length) (x : UInt8) : OwnB (w.setCell ⟨g, i, none⟩ (bv x)) base (.slice (some ⟨g, 0, none⟩) n c) (xs.set i x) := by
  rcases h.2 with ⟨e, h0⟩ | ⟨g', cap, cur, e, hb, hh, h1, h2, h3, h4⟩
  · cases e
  · cases e
    refine ⟨by simp, .inr ⟨g, c, cur.setIfInBounds i (bv x), by rw [List.length_set], hb, ?_, by rw [List.length_set]; exact h1, h2, by simpa using h3, ?_⟩⟩
    · simp [World.setCell, Array.getElem?_modify, hh]
    · rw [List.length_set, Array.toList_setIfInBounds, List.take_set, h4, List.map_set]
theorem setCell_grown (w : World) (g i : Nat) (u : Value) : w.grownBy (w.setCell ⟨g, i, none⟩ u) (some g) :=
  ⟨rfl, rfl, rfl, by simp [World.setCell], fun k _ hk => by simp [World.setCell, Array.getElem?_modify]; intro e; exact absurd (by rw [e]) hk⟩

/-! ### A region that draws its order: moves of the walk -/
/-- Take number i first. -/
theorem region_take {P : Program} {md : Region.Mode} {ops : Array Oper} {Q : Exit → Act → World → Prop} {S : World → Prop} (i : Nat) {fuel : Nat} {listed : Array Bool} {a : Act} {w : World}
    (hs : Region.noSelect ops = true) (hf : Region.free md ops listed i = true) (hr : (Region.ready md ops listed).contains i = true)
    (hQ : ∀ c a (d : Option Tmp) v w, Q (.panic c) (a.put d v) w → Q (.panic c) a w) (hS : S w) (oi : Oper) (hi : ops[i]? = some oi)
    (h : ∀ K : Act → World → Prop, (∀ v, wpAnyH P md ops Q S fuel (listed.setIfInBounds i true) (a.put oi.dst v) w → K (a.put oi.dst v) w) → ∃ v, YieldsIf P ops S oi v a ∧ K (a.put oi.dst v) w) : wpAnyH P md ops Q S (fuel + 1) listed a w := by
  obtain ⟨v, hy, hk⟩ := h (fun a' w' => wpAnyH P md ops Q S fuel (listed.setIfInBounds i true) a' w') (fun v h => h)
  exact wpAnyH_take hi hs hf hr (fun c a w => hQ c a _ v w) hy hS hk
theorem yields_now {P : Program} {ops : Array Oper} {S : World → Prop} {o : Oper} {a : Act} {w : World} {K : Act → World → Prop} (hw : Region.wanted o (yielded ops a.tmps) = true) (v : Value) (h : ∀ w, S w → (execOp a.eval o).run P w = .ok (.value v) w) (hk : K (a.put o.dst v) w) : ∃ v, YieldsIf P ops S o v a ∧ K (a.put o.dst v) w := ⟨v, .inl ⟨hw, h⟩, hk⟩
theorem yields_not {P : Program} {ops : Array Oper} {S : World → Prop} {o : Oper} {a : Act} {w : World} {K : Act → World → Prop} (hw : Region.wanted o (yielded ops a.tmps) = false) (hk : K (a.put o.dst undef) w) : ∃ v, YieldsIf P ops S o v a ∧ K (a.put o.dst v) w := ⟨undef, .inr ⟨hw, rfl⟩, hk⟩
theorem wpAnyH_weaken {P : Program} {md : Region.Mode} {ops : Array Oper} {Q : Exit → Act → World → Prop} {S T : World → Prop} (h : ∀ w, T w → S w) : ∀ (fuel : Nat) (listed : Array Bool) (a : Act) (w : World), wpAnyH P md ops Q T fuel listed a w → wpAnyH P md ops Q S fuel listed a w
  | 0, _, _, _, k => k
  | fuel + 1, _, _, _, k => ⟨k.1, fun i hi => wpOp_mono (fun a' w' k' => ⟨h _ k'.1, wpAnyH_weaken h fuel _ a' w' k'.2⟩) (k.2 i hi)⟩

/-! ### The element's row of the table -/
theorem by_info : (Tryd.prog.info? 5).map (fun i => (i.zero, i.size, i.bytes)) = some (some (.int .u8 0), 1, 1) := by kernel_rfl

theorem Below.new {w0 w : World} (h : Below w0.heap.size w0 w) (o : Obj) : Below w0.heap.size w0 (w.alloc o) := h.alloc h.size o
theorem below_new (w : World) (o : Obj) : Below w.heap.size w (w.alloc o) := (Below.refl _ _).alloc (Nat.le_refl _) o
theorem below_step {w0 w w1 : World} (h : Below w0.heap.size w0 w) (k : Below w.heap.size w w1) : Below w0.heap.size w0 w1 := h.trans (k.mono h.size)

/-- s[k:] and s[:k]. -/
theorem by_slice_l (w : World) (A : Option Addr) (n c k : Nat) (hk : k ≤ n) (z : Int) (hz : z = (k : Int)) : (Instr.slice 29 (.slice A n c) (some (.int .i64 z)) none none).run Tryd.prog w = .ok (.slice (subA A c k) (n - k) (c - k)) w := by
  subst hz
  obtain ⟨i0, hi, hz0, hz1, hz2⟩ := info_parts by_info
  have hs : (sizeOf 5).run Tryd.prog w = .ok 1 w := by simp [sizeOf, typeInfo, hi, hz1]
  simp [Instr.slice, run_underlying Tryd.underlying29, Instr.sliceBounds, run_sliceBound, hk, hs, subA]

/-- append(v, x...): v the call's own (from the world w0 on), x whatever reads as bytes. -/
theorem wpList_append_by {w : World} {ops : Array Oper} {rest : List Oper} {o : Oper} {a : Act} {Q : Exit → Act → World → Prop} (hgd : o.guard = none) (s x : Operand)
    (ho : o.op = .call { callee := .builtin .append, args := #[s, x], argTypes := #[29, 29] })
    (w0 : World) (hb : Below w0.heap.size w0 w) (v : Value) (xs : List UInt8) (hs : a.eval s = v) (hown : OwnB w w0.heap.size v xs)
    (A : Option Addr) (m c : Nat) (news : List UInt8) (hx : a.eval x = .slice A m c) (hA : A = none → c = 0) (hr : RB w A m news)
    (hlen : xs.length + m ≤ 140737488355328)
    (h : ∀ v' w', OwnB w' w0.heap.size v' (xs ++ news) → Below w0.heap.size w0 w' → w.grownBy w' v.ownBlock → wpList Tryd.prog ops Q rest (a.put o.dst v') w') : wpList Tryd.prog ops Q (o :: rest) a w := by
  obtain ⟨i0, hi, hz0, hz1, hz2⟩ := info_parts by_info
  cases A with
  | none =>
    obtain rfl : c = 0 := hA rfl
    obtain rfl : m = 0 := by
      rcases Nat.eq_zero_or_pos m with h0 | h0
      · exact h0
      · obtain ⟨b, off, e, _⟩ := hr.cells h0; cases e
    have hn : news = [] := List.eq_nil_of_length_eq_zero hr.len
    subst hn
    refine wpList_append_own_none hgd s x 29 ho w0.heap.size 5 i0 1 Tryd.underlying29 hi v xs.length (xs.map bv) hs hown hx (h v w ?_ hb ?_)
    · rw [List.append_nil]; exact hown
    · exact ⟨rfl, rfl, rfl, Nat.le_refl _, fun _ _ _ => rfl⟩
  | some ad =>
    refine wpList_append_own w hgd s x 29 ho w0.heap.size 5 i0 (.int .u8 0) 1 1 Tryd.underlying29 hi hz0 hz1 hz2 rfl (by decide) v xs.length (xs.map bv) hs hown ad m c (news.map bv) hx (by simp [hr.len]) hr.news (bv_one news) (by simp only [maxLen]; omega) (by omega) hb.size ?_
    intro v' w' hown' hg hn
    refine h v' w' ?_ (hb.grown hg hb.size (fun k hk => (hown.own k hk).1)) hg
    unfold OwnB
    rw [List.length_append, List.map_append, hr.len]
    exact hown'

/-- make([]byte, 0, c). -/
theorem by_make (w : World) (c : Nat) (hc : c ≤ 140737488355328) (z : Int) (hz : z = (c : Int)) : (Instr.makeSlice 29 (.int .i64 0) (.int .i64 z)).run Tryd.prog w = .ok (.slice (some ⟨w.heap.size, 0, none⟩) 0 c) (w.alloc (.cells (madeCells #[.int .u8 0] c) 5)) := by
  subst hz
  obtain ⟨i0, hi, hz0, hz1, hz2⟩ := info_parts by_info
  have := run_make (P := Tryd.prog) w 29 5 i0 (.int .u8 0) Tryd.underlying29 hi hz0 .i64 .i64 0 (c : Int) (by omega) (by omega) (by rw [hz2]; omega) (by omega)
  rw [hz1] at this
  simpa [Value.cells] using this
theorem by_make_own (w : World) (base c : Nat) (hc : c ≤ 140737488355328) (hb : base ≤ w.heap.size) : OwnB (w.alloc (.cells (madeCells #[.int .u8 0] c) 5)) base (.slice (some ⟨w.heap.size, 0, none⟩) 0 c) [] :=
  World.ownsRow_made w _ c hb (by simp only [maxLen]; omega) (by rw [size_madeCells]; omega)
/-- make([]byte, n, c): n nothings. -/
theorem by_make2 (w : World) (n c : Nat) (hn : n ≤ c) (hc : c ≤ 140737488355328) (y z : Int) (hy : y = (n : Int)) (hz : z = (c : Int)) : (Instr.makeSlice 29 (.int .i64 y) (.int .i64 z)).run Tryd.prog w = .ok (.slice (some ⟨w.heap.size, 0, none⟩) n c) (w.alloc (.cells (madeCells #[.int .u8 0] c) 5)) := by
  subst hy hz
  obtain ⟨i0, hi, hz0, hz1, hz2⟩ := info_parts by_info
  have := run_make (P := Tryd.prog) w 29 5 i0 (.int .u8 0) Tryd.underlying29 hi hz0 .i64 .i64 (n : Int) (c : Int) (by omega) (by omega) (by rw [hz2]; omega) (by omega)
  rw [hz1] at this
  simpa [Value.cells] using this
theorem madeCells_zero (c : Nat) : madeCells #[Value.int .u8 0] c = (List.replicate c (bv 0)).toArray := by
  apply Array.ext
  · simp [madeCells]
  · intro i h1 h2
    simp [madeCells, Nat.mod_one, bv, nb]
theorem by_make2_own (w : World) (base n c : Nat) (hn : n ≤ c) (hc : c ≤ 140737488355328) (hb : base ≤ w.heap.size) : OwnB (w.alloc (.cells (madeCells #[.int .u8 0] c) 5)) base (.slice (some ⟨w.heap.size, 0, none⟩) n c) (List.replicate n 0) := by
  refine ⟨by simp, .inr ⟨w.heap.size, c, _, by simp, hb, heap_alloc_new w _, by simpa using hn, by simp only [maxLen]; omega, by rw [size_madeCells]; omega, ?_⟩⟩
  rw [madeCells_zero]
  simp [List.take_replicate, Nat.min_eq_left hn]

/-- A slice literal's block: n bytes written out. -/
theorem by_lit (w : World) (base : Nat) (xs : List UInt8) (hx : 0 < xs.length) (hl : xs.length ≤ 140737488355328) (hb : base ≤ w.heap.size) : OwnB (w.alloc (.cells (xs.map bv).toArray 5)) base (.slice (some ⟨w.heap.size, 0, none⟩) xs.length xs.length) xs :=
  ⟨by simp, .inr ⟨w.heap.size, xs.length, _, rfl, hb, heap_alloc_new w _, Nat.le_refl _, by simp only [maxLen]; omega, by simp, by simp [List.take_of_length_le]⟩⟩
theorem by_lit0 (w : World) (base : Nat) (hb : base ≤ w.heap.size) : OwnB (w.alloc (.cells #[] 5)) base (.slice (some ⟨w.heap.size, 0, none⟩) 0 0) [] :=
  ⟨by simp, .inr ⟨w.heap.size, 0, _, rfl, hb, heap_alloc_new w _, Nat.le_refl _, by simp only [maxLen]; omega, by simp, by simp⟩⟩

/-- A block of two bytes that a slice literal made. -/
theorem rb_new (w : World) (xs : List UInt8) (t : TypeId) (hl : xs.length ≤ 140737488355328) : RB (w.alloc (.cells (xs.map bv).toArray t)) (some ⟨w.heap.size, 0, none⟩) xs.length xs :=
  ⟨rfl, by omega, fun h0 => ⟨_, _, rfl, fun i hi => by
    rw [World.cell?_alloc_at _ _ _ _ rfl]
    simp [List.getElem?_eq_getElem hi, List.getD_eq_getElem?_getD]⟩⟩
theorem rs_new (w : World) (xs : List UInt8) (t : TypeId) (hl : xs.length ≤ 140737488355328) : RS (w.alloc (.cells (xs.map bv).toArray t)) (some ⟨w.heap.size, 0, none⟩) xs.length xs.length xs := ⟨rb_new w xs t hl, (fun e => by cases e), Nat.le_refl _⟩
theorem rb_two (w : World) (x y : UInt8) (t : TypeId) : RB (w.alloc (.cells #[.int .u8 (nb x), .int .u8 (nb y)] t)) (some ⟨w.heap.size, 0, none⟩) 2 [x, y] := rb_new w [x, y] t (by simp)
theorem rb_one (w : World) (x : UInt8) (t : TypeId) : RB (w.alloc (.cells #[.int .u8 (nb x)] t)) (some ⟨w.heap.size, 0, none⟩) 1 [x] := rb_new w [x] t (by simp)
/-- A constant string's bytes: their block bears a mark behind its last cell. -/
theorem rb_mark (w : World) (xs : List UInt8) (t : TypeId) (m : Nat × Nat) (hl : xs.length ≤ 140737488355328) : RB (w.alloc (.cells (xs.map bv).toArray t m)) (some ⟨w.heap.size, 0, none⟩) xs.length xs :=
  ⟨rfl, by omega, fun h0 => ⟨_, _, rfl, fun i hi => by
    rw [World.cell?_alloc_mark]
    simp [List.getElem?_eq_getElem hi, List.getD_eq_getElem?_getD]⟩⟩
theorem rs_mark (w : World) (xs : List UInt8) (t : TypeId) (m : Nat × Nat) (hl : xs.length ≤ 140737488355328) : RS (w.alloc (.cells (xs.map bv).toArray t m)) (some ⟨w.heap.size, 0, none⟩) xs.length xs.length xs := ⟨rb_mark w xs t m hl, (fun e => by cases e), Nat.le_refl _⟩
theorem RS.none (w : World) : RS w none 0 0 [] := ⟨RB.nil _ _, fun _ => rfl, Nat.le_refl _⟩
theorem by_const (w : World) (C : Array Value) (n c : Nat) : (convert 29 29 (.slice (some ⟨w.heap.size, 0, none⟩) n c)).run Tryd.prog (w.alloc (.cells C 5)) = .ok (.slice (some ⟨w.heap.size, 0, none⟩) n c) (w.alloc (.cells C 5 (C.size, C.size + 1))) := Lib.run_convert_bytes_const (P := Tryd.prog) w 29 5 C n c Tryd.underlying29 Tryd.underlying5
theorem OwnB.alloc {w : World} {base : Nat} {v : Value} {xs : List UInt8} (h : OwnB w base v xs) (o : Obj) : OwnB (w.alloc o) base v xs := World.ownsRow.alloc h o

/-- string(b). -/
def strB (xs : List UInt8) : ByteArray := ⟨xs.toArray⟩
theorem strB_inj {xs ys : List UInt8} (h : strB xs = strB ys) : xs = ys := by
  unfold strB at h
  injection h with h
  simpa using h
theorem strB_toList (xs : List UInt8) : (strB xs).toList = xs := by rw [ByteArray.toList_eq]; rfl
set_option maxRecDepth 4000 in
theorem by_string (w : World) (A : Option Addr) (n c : Nat) (xs : List UInt8) (h : RB w A n xs) : (convert 29 9 (.slice A n c)).run Tryd.prog w = .ok (.string (strB xs)) w := by
  rcases Nat.eq_zero_or_pos n with h0 | h0
  · subst h0
    have hx : xs = [] := List.eq_nil_of_length_eq_zero h.len
    subst hx
    rw [run_convert_bytes_string w 29 9 5 A 0 c Tryd.underlying29 Tryd.underlying5 Tryd.underlying9]
    cases A <;> simp [Conv.bytesToString, loadCells, loadCellsFrom, strB, ByteArray.empty, ByteArray.emptyWithCapacity] <;> rfl
  · obtain ⟨b, off, rfl, _, hc⟩ := h.cells h0
    have hl := h.len
    have := run_convert_bytes_arg (P := Tryd.prog) w 29 5 Tryd.underlying29 Tryd.underlying5 b off n c (xs.map nb) (by simp [hl]) (fun i hi => by
      rw [hc i hi]
      simp [bv, List.getD_eq_getElem?_getD, List.getElem?_eq_getElem (show i < xs.length by omega)]) 9 Tryd.underlying9
    rw [this]
    congr 2
    unfold strOfNums strB
    rw [List.map_map]
    congr 2
    conv => rhs; rw [← List.map_id xs]
    apply List.map_congr_left
    intro x _
    simp [nb]
set_option maxRecDepth 4000 in
theorem by_string_of (w0 : World) (A : Option Addr) (n c : Nat) (xs : List UInt8) (h : RB w0 A n xs) : ∀ w, Below w0.heap.size w0 w → (convert 29 9 (.slice A n c)).run Tryd.prog w = .ok (.string (strB xs)) w := fun w hb => by_string w A n c xs (h.below hb)
end Go.Proofs.YtcppmihambcihaaDoor
