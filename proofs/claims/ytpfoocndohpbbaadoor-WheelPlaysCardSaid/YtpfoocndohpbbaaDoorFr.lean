/- Frames by footprints (Fr), and rows of elements of any number of cells: what reads as a list (RE), what the call owns (OwnE). No program in sight. -/
import Derived.WalkKit
import Derived.Laws.AppendOwnNone
import Derived.Laws.CopyOwn
import Derived.Deep.MidRow
import Derived.Lib.AppendZerosOnto
import Derived.Deep.QuietTactic
import Derived.BigQuiet
import Derived.Deep.RegionWith
import Derived.Deep.RegionHeld3
import Derived.StillTailTactics
import Derived.WalkSpells
import Derived.Lib.Hide
import Derived.LoopTactic
namespace Go.Proofs.YtpfoocndohpbbaaDoor
open Go.RowKit
set_option linter.unusedVariables false
set_option linter.unusedSimpArgs false

/-- From w to w' nothing turned but the blocks of F, and what was made since. -/
structure Fr (F : Nat → Prop) (w w' : World) : Prop where
  os : w'.os = w.os
  tape : w'.tape = w.tape
  output : w'.output = w.output
  size : w.heap.size ≤ w'.heap.size
  block : ∀ k, k < w.heap.size → ¬ F k → w'.heap[k]? = w.heap[k]?
theorem Fr.refl (F : Nat → Prop) (w : World) : Fr F w w := ⟨rfl, rfl, rfl, Nat.le_refl _, fun _ _ _ => rfl⟩
theorem Fr.trans {F F1 : Nat → Prop} {w w1 w2 : World} (h : Fr F w w1) (k : Fr F1 w1 w2) (hF : ∀ i, F1 i → F i ∨ w.heap.size ≤ i) : Fr F w w2 :=
  ⟨k.os.trans h.os, k.tape.trans h.tape, k.output.trans h.output, Nat.le_trans h.size k.size, fun i hi hn => (k.block i (Nat.lt_of_lt_of_le hi h.size) (fun q => by rcases hF i q with q | q; exact hn q; omega)).trans (h.block i hi hn)⟩
theorem Fr.mono {F G : Nat → Prop} {w w' : World} (h : Fr F w w') (hFG : ∀ i, i < w.heap.size → F i → G i) : Fr G w w' := ⟨h.os, h.tape, h.output, h.size, fun i hi hn => h.block i hi (fun q => hn (hFG i hi q))⟩
theorem Fr.below {F : Nat → Prop} {w w' : World} (h : Fr F w w') (B : Nat) (hB : B ≤ w.heap.size) (hF : ∀ i, F i → B ≤ i) : Below B w w' := ⟨h.os, h.tape, h.output, h.size, fun i hi => h.block i (by omega) (fun q => by have := hF i q; omega)⟩
theorem Fr.ofBelow {w w' : World} (h : Below w.heap.size w w') (F : Nat → Prop) : Fr F w w' := ⟨h.os, h.tape, h.output, h.size, fun i hi _ => h.block i hi⟩
theorem Fr.ofGrown {w w' : World} {row : Option Nat} (h : w.grownBy w' row) : Fr (fun i => some i = row) w w' := ⟨h.os, h.tape, h.output, h.size, fun i hi hn => h.block i hi hn⟩
theorem Fr.toGrown {w w' : World} {g : Nat} (h : Fr (fun i => i = g) w w') : w.grownBy w' (some g) := ⟨h.os, h.tape, h.output, h.size, fun i hi hn => h.block i hi (fun e => hn (by rw [e]))⟩
theorem Fr.cell {F : Nat → Prop} {w w' : World} (h : Fr F w w') {p : Addr} (hp : p.block < w.heap.size) (hn : ¬ F p.block) : w'.cell? p = w.cell? p := World.cell?_of_block (h.block _ hp hn)
theorem Fr.frozen {F : Nat → Prop} {w w' : World} (h : Fr F w w') {p : Addr} (hp : p.block < w.heap.size) (hn : ¬ F p.block) : w'.frozen? p = w.frozen? p := World.frozen?_of_block (h.block _ hp hn)
theorem fr_drew (F : Nat → Prop) (w : World) : Fr F w w.drew := ⟨rfl, rfl, rfl, Nat.le_refl _, fun _ _ _ => rfl⟩
theorem fr_drewN (F : Nat → Prop) (w : World) (m : Nat) : Fr F w (w.drewN m) := ⟨rfl, rfl, rfl, Nat.le_refl _, fun _ _ _ => rfl⟩
theorem fr_alloc (F : Nat → Prop) (w : World) (o : Obj) : Fr F w (w.alloc o) := Fr.ofBelow ((Below.refl _ _).alloc (Nat.le_refl _) o) F
theorem fr_setCell {F : Nat → Prop} {w : World} (p : Addr) (v : Value) (hF : F p.block) : Fr F w (w.setCell p v) :=
  ⟨rfl, rfl, rfl, by simp [World.setCell], fun k _ hn => by simp [World.setCell, Array.getElem?_modify]; intro e; exact absurd (by rw [e] at hF; exact hF) hn⟩
theorem fr_setCells {F : Nat → Prop} (b : Nat) (hF : F b) : ∀ (vs : List Value) (o : Nat) (w : World), Fr F w (w.setCells b o vs)
  | [], _, w => Fr.refl _ _
  | v :: r, o, w => (fr_setCell ⟨b, o, none⟩ v hF).trans (fr_setCells b hF r (o + 1) _) (fun _ h => .inl h)

/-! ### Elements of k cells -/
section
variable {α : Type} {f : α → List Value} {k : Nat}
theorem flat_len (hk : ∀ x, (f x).length = k) (xs : List α) : (xs.flatMap f).length = xs.length * k := by
  induction xs with
  | nil => simp
  | cons x xs ih => simp [ih, hk, Nat.add_mul]; omega
theorem flat_take (hk : ∀ x, (f x).length = k) (xs : List α) (i : Nat) : (xs.flatMap f).take (i * k) = (xs.take i).flatMap f := by
  induction xs generalizing i with
  | nil => simp
  | cons x xs ih =>
    cases i with
    | zero => simp
    | succ i =>
      simp only [List.flatMap_cons, List.take_succ_cons]
      rw [List.take_append, hk, List.take_of_length_le (by rw [hk, Nat.add_mul]; omega), show (i + 1) * k - k = i * k by rw [Nat.add_mul]; omega, ih]
theorem flat_drop (hk : ∀ x, (f x).length = k) (xs : List α) (i : Nat) : (xs.flatMap f).drop (i * k) = (xs.drop i).flatMap f := by
  induction xs generalizing i with
  | nil => simp
  | cons x xs ih =>
    cases i with
    | zero => simp
    | succ i =>
      simp only [List.flatMap_cons, List.drop_succ_cons]
      rw [List.drop_append, hk, List.drop_of_length_le (by rw [hk, Nat.add_mul]; omega), show (i + 1) * k - k = i * k by rw [Nat.add_mul]; omega, ih, List.nil_append]
theorem flat_get (hk : ∀ x, (f x).length = k) (xs : List α) (i : Nat) (hi : i < xs.length) (j : Nat) (hj : j < k) : (xs.flatMap f)[i * k + j]? = (f xs[i])[j]? := by
  have h1 := flat_drop hk xs i
  rw [← List.getElem?_drop, h1, List.drop_eq_getElem_cons hi, List.flatMap_cons, List.getElem?_append_left (by rw [hk]; exact hj)]
theorem flat_set (hk : ∀ x, (f x).length = k) (xs : List α) (i : Nat) (hi : i < xs.length) (x : α) : splice (xs.flatMap f) (i * k) (f x) = (xs.set i x).flatMap f := by
  unfold splice
  rw [hk, show i * k + k = (i + 1) * k by rw [Nat.add_mul]; omega, flat_take hk, flat_drop hk, List.set_eq_take_append_cons_drop, if_pos hi]
  simp [List.append_assoc]
theorem flat_one (h1 : ∀ x, ∀ v ∈ f x, v.oneCell' = true) (xs : List α) : ∀ v ∈ xs.flatMap f, v.oneCell' = true := by
  intro v hv
  obtain ⟨x, _, hx⟩ := List.mem_flatMap.1 hv
  exact h1 x v hx

/-- A slice that reads as xs. -/
structure RE (f : α → List Value) (w : World) (A : Option Addr) (n c : Nat) (xs : List α) : Prop where
  len : xs.length = n
  nil : A = none → c = 0
  cap : n ≤ c
  max : n ≤ 140737488355328
  cells : 0 < n → ∃ b off, A = some ⟨b, off, none⟩ ∧ b < w.heap.size ∧ w.rangeAt b off (xs.flatMap f)
theorem RE.no (w : World) : RE f w none 0 0 [] := ⟨rfl, fun _ => rfl, Nat.le_refl _, by omega, fun h => absurd h (by omega)⟩
theorem RE.fr {F : Nat → Prop} {w w' : World} {A : Option Addr} {n c : Nat} {xs : List α} (h : RE f w A n c xs) (hf : Fr F w w') (hA : 0 < n → ∀ b off, A = some ⟨b, off, none⟩ → ¬ F b) : RE f w' A n c xs :=
  ⟨h.len, h.nil, h.cap, h.max, fun h0 => by
    obtain ⟨b, off, e, hb, hr⟩ := h.cells h0
    exact ⟨b, off, e, Nat.lt_of_lt_of_le hb hf.size, fun j v hv => (hf.cell (p := ⟨b, off + j, none⟩) hb (hA h0 b off e)).trans (hr j v hv)⟩⟩
theorem RE.below {w w1 : World} {A : Option Addr} {n c : Nat} {xs : List α} (h : RE f w A n c xs) (hb : Below w.heap.size w w1) : RE f w1 A n c xs := h.fr (Fr.ofBelow hb (fun _ => False)) (fun _ _ _ _ h => h)
theorem RE.elem (hk : ∀ x, (f x).length = k) {w : World} {b off n c : Nat} {xs : List α} (h : RE f w (some ⟨b, off, none⟩) n c xs) (i : Nat) (hi : i < xs.length) : w.rangeAt b (off + i * k) (f xs[i]) := by
  intro j v hv
  have hj : j < k := by rw [← hk xs[i]]; exact (List.getElem?_eq_some_iff.1 hv).1
  obtain ⟨b', off', e, _, hr⟩ := h.cells (by have := h.len; omega)
  cases e
  rw [Nat.add_assoc]
  exact hr _ v ((flat_get hk xs i hi j hj).trans hv)
theorem RE.take (hk : ∀ x, (f x).length = k) {w : World} {A : Option Addr} {n c : Nat} {xs : List α} (h : RE f w A n c xs) (i : Nat) (hi : i ≤ n) : RE f w A i c (xs.take i) :=
  ⟨by rw [List.length_take, h.len]; omega, h.nil, by have := h.cap; omega, by have := h.max; omega, fun h0 => by
    obtain ⟨b, off, e, hb, hr⟩ := h.cells (by omega)
    refine ⟨b, off, e, hb, fun j v hv => hr j v ?_⟩
    rw [← flat_take hk, List.getElem?_take] at hv
    split at hv
    · exact hv
    · cases hv⟩
/-- s[i:]: where it begins. -/
def subE (k : Nat) (A : Option Addr) (c i : Nat) : Option Addr := if c = i then A else A.map (·.add (i * k))
theorem RE.sub (hk : ∀ x, (f x).length = k) {w : World} {A : Option Addr} {n c : Nat} {xs : List α} (h : RE f w A n c xs) (i : Nat) (hi : i ≤ n) : RE f w (subE k A c i) (n - i) (c - i) (xs.drop i) := by
  refine ⟨by rw [List.length_drop, h.len], fun e => ?_, by have := h.cap; omega, by have := h.max; omega, fun h0 => ?_⟩
  · unfold subE at e
    split at e
    · omega
    · cases A with
      | none => have := h.nil rfl; omega
      | some a => cases e
  · obtain ⟨b, off, rfl, hb, hr⟩ := h.cells (by omega)
    have := h.cap
    unfold subE
    rw [if_neg (by omega)]
    refine ⟨b, off + i * k, by simp [Addr.add_mid], hb, fun j v hv => ?_⟩
    rw [Nat.add_assoc]
    refine hr _ v ?_
    rw [← flat_drop hk, List.getElem?_drop] at hv
    exact hv
theorem RE.news {w : World} {a : Addr} {n c : Nat} {xs : List α} (h : RE f w (some a) n c xs) : ∀ j u, (xs.flatMap f)[j]? = some u → w.cell? (a.add j) = some u := by
  intro j u hu
  have h0 : 0 < n := by
    rcases Nat.eq_zero_or_pos n with h0 | h0
    · have : xs = [] := List.eq_nil_of_length_eq_zero (by rw [h.len, h0])
      subst this; cases hu
    · exact h0
  obtain ⟨b, off, e, _, hr⟩ := h.cells h0
  cases e
  rw [Addr.add_mid]
  exact hr j u hu

/-- What the call owns: a slice whose block no one else has. -/
def OwnE (f : α → List Value) (k : Nat) (e : TypeId) (w : World) (v : Value) (xs : List α) : Prop := w.ownsRow 0 e k v xs.length (xs.flatMap f)
theorem OwnE.nil (e : TypeId) (w : World) : OwnE f k e w (.slice none 0 0) [] := World.ownsRow_nil w 0 _ k
theorem OwnE.fr {e : TypeId} {F : Nat → Prop} {w w' : World} {v : Value} {xs : List α} (h : OwnE f k e w v xs) (hf : Fr F w w') (hv : ∀ g, v.ownBlock = some g → ¬ F g) : OwnE f k e w' v xs := by
  refine ⟨h.1, ?_⟩
  rcases h.2 with h2 | ⟨g, cap, cur, rfl, hb, hh, r⟩
  · exact .inl h2
  · exact .inr ⟨g, cap, cur, rfl, hb, (hf.block g (Array.getElem?_eq_some_iff.1 hh).1 (hv g rfl)).trans hh, r⟩
theorem OwnE.lt {e : TypeId} {w : World} {v : Value} {xs : List α} (h : OwnE f k e w v xs) (g : Nat) (hg : v.ownBlock = some g) : g < w.heap.size := (World.ownsRow.lt h g hg).2
theorem OwnE.re {e : TypeId} {w : World} {v : Value} {xs : List α} (h : OwnE f k e w v xs) (hm : xs.length ≤ 140737488355328) : ∃ A c, v = .slice A xs.length c ∧ RE f w A xs.length c xs ∧ v.ownBlock = A.map (·.block) ∧ (∀ a, A = some a → a.off = 0 ∧ a.spot = none) := by
  rcases h.2 with ⟨rfl, h0⟩ | ⟨g, cap, cur, rfl, hb, hh, h1, h2, h3, h4⟩
  · have hx : xs = [] := List.eq_nil_of_length_eq_zero h0
    subst hx
    exact ⟨none, 0, rfl, RE.no _, rfl, fun a e => by cases e⟩
  · refine ⟨_, cap, rfl, ⟨rfl, (fun e => by cases e), h1, hm, fun h0 => ⟨g, 0, rfl, (Array.getElem?_eq_some_iff.1 hh).1, fun j v hv => ?_⟩⟩, rfl, fun a e => by cases e; exact ⟨rfl, rfl⟩⟩
    have := World.ownsRow.cells h (g := g) rfl j v hv
    rwa [Addr.add_mid] at this
/-- Cells that are laid one behind the other into a block. -/
theorem splice_cons {β : Type} (L : List β) (o : Nat) (v : β) (r : List β) (h : o < L.length) : splice L o (v :: r) = splice (L.set o v) (o + 1) r := by
  have hto : (L.take o).length = o := by rw [List.length_take]; omega
  unfold splice
  rw [List.set_eq_take_append_cons_drop, if_pos h, List.take_append, hto, List.drop_append, hto, List.take_of_length_le (l := L.take o) (by omega), List.drop_of_length_le (l := L.take o) (by omega), show o + 1 - o = 1 by omega, show o + 1 + r.length - o = r.length + 1 by omega]
  simp only [List.take_succ_cons, List.take_zero, List.drop_succ_cons, List.drop_drop, List.nil_append, List.length_cons, List.append_assoc, List.cons_append]
  rw [show o + 1 + r.length = o + (r.length + 1) by omega]
theorem setCells_heap (b : Nat) (t : TypeId) : ∀ (vs : List Value) (o : Nat) (w : World) (cur : List Value), w.heap[b]? = some (.cells cur.toArray t (0, 0)) → o + vs.length ≤ cur.length → (w.setCells b o vs).heap[b]? = some (.cells (splice cur o vs).toArray t (0, 0))
  | [], o, w, cur, h, _ => by simpa [World.setCells, splice] using h
  | v :: r, o, w, cur, h, hl => by
    simp only [List.length_cons] at hl
    have h1 := heap_setCell_same w b o cur.toArray t v h
    rw [List.setIfInBounds_toArray] at h1
    have := setCells_heap b t r (o + 1) _ _ h1 (by rw [List.length_set]; omega)
    rw [splice_cons _ _ _ _ (by omega)]
    exact this
/-- An element may be written. -/
theorem OwnE.there {e : TypeId} {w : World} {g c n : Nat} {xs : List α} (hk : ∀ x, (f x).length = k) (h : OwnE f k e w (.slice (some ⟨g, 0, none⟩) n c) xs) (i : Nat) (hi : i < xs.length) : w.there g (i * k) k := by
  have hn : xs.length = n := by
    rcases h.2 with ⟨e', _⟩ | ⟨_, _, _, e', _⟩ <;> cases e'
    rfl
  subst hn
  intro j hj
  have hlt : i * k + j < xs.length * k := by
    have : (i + 1) * k ≤ xs.length * k := Nat.mul_le_mul_right _ hi
    rw [Nat.add_mul] at this; omega
  refine ⟨?_, World.ownsRow.frozenAt h _⟩
  rw [World.ownsRow.cellAt h _ hlt, flat_get hk xs i hi j hj, List.getElem?_eq_getElem (by rw [hk]; exact hj)]
  rfl
theorem OwnE.set {e : TypeId} {w : World} {g c n : Nat} {xs : List α} (hk : ∀ x, (f x).length = k) (h : OwnE f k e w (.slice (some ⟨g, 0, none⟩) n c) xs) (i : Nat) (hi : i < xs.length) (x : α) : OwnE f k e (w.setCells g (i * k) (f x)) (.slice (some ⟨g, 0, none⟩) n c) (xs.set i x) := by
  rcases h.2 with ⟨e', _⟩ | ⟨g', cap, cur, e', hb, hh, h1, h2, h3, h4⟩
  · cases e'
  · cases e'
    have hcl : cur.toList.length = cur.size := Array.length_toList
    have hik : i * k + k ≤ xs.length * k := by
      have : (i + 1) * k ≤ xs.length * k := Nat.mul_le_mul_right _ hi
      rw [Nat.add_mul] at this; omega
    have hxc : xs.length * k ≤ c * k := Nat.mul_le_mul_right _ h1
    have hs := setCells_heap g e (f x) (i * k) w cur.toList (by simpa using hh) (by rw [hk, hcl]; omega)
    refine ⟨by rw [flat_len hk], .inr ⟨g, c, _, by rw [List.length_set], hb, hs, by rw [List.length_set]; exact h1, h2, ?_, ?_⟩⟩
    · simp only [List.size_toArray]
      rw [length_splice _ _ _ (by rw [hk, hcl]; omega), hcl, h3]
    · rw [List.length_set]
      show (splice cur.toList (i * k) (f x)).take (xs.length * k) = _
      have e5 : (splice cur.toList (i * k) (f x)).take (xs.length * k) = splice (cur.toList.take (xs.length * k)) (i * k) (f x) := by
        unfold splice
        have e1 : min (i * k) cur.toList.length = i * k := by omega
        have e2 : min (i * k) (xs.length * k) = i * k := by omega
        rw [List.take_append, List.take_append, List.take_take, List.drop_take, List.length_take, e1, Nat.min_comm, e2, List.take_take, e2, List.take_of_length_le (l := f x) (by rw [hk]; omega), Nat.sub_sub]
      rw [e5, h4, flat_set hk xs i hi]

/-- What the program's table says of the slice's type st, its element's type e (k cells, so many bytes, zero value z). -/
structure ElT (P : Program) (st e : TypeId) (k bytes : Nat) (z : Value) : Prop where
  und : P.underlying st = some (.slice e)
  info : (P.info? e).map (fun i => (i.zero, i.size, i.bytes)) = some (some z, k, bytes)
  zs : z.cells.size = k
  pos : 0 < k
theorem ElT.size {P : Program} {st e : TypeId} {bytes : Nat} {z : Value} (T : ElT P st e k bytes z) : (P.info? e).map (·.size) = some k := by
  obtain ⟨i0, hi, hz0, hz1, hz2⟩ := info_parts T.info
  rw [hi]; simp [hz1]
/-- append(v, x...): where the row lies behind it. -/
theorem run_append_fr {P : Program} {st e : TypeId} {bytes : Nat} {z : Value} (T : ElT P st e k bytes z) (hk : ∀ x, (f x).length = k) (h1 : ∀ x, ∀ v ∈ f x, v.oneCell' = true) (w : World) (ty : TypeId) (v : Value) (xs : List α) (hown : OwnE f k e w v xs)
    (A : Option Addr) (m c : Nat) (news : List α) (hr : RE f w A m c news) (hbytes : (xs.length + m) * bytes ≤ 140737488355328) (h63 : xs.length + m ≤ 140737488355328) :
    ∃ v' w', (Builtin.append_ #[st, st] ty #[v, .slice A m c]).run P w = .ok v' w' ∧ OwnE f k e w' v' (xs ++ news) ∧ w.grownBy w' v.ownBlock ∧ (∀ g, v'.ownBlock = some g → v.ownBlock = some g ∨ w.heap.size ≤ g) ∧ (v' = .slice none 0 0 ↔ v = .slice none 0 0 ∧ m = 0) := by
  obtain ⟨i0, hi, hz0, hz1, hz2⟩ := info_parts T.info
  cases A with
  | none =>
    obtain rfl : c = 0 := hr.nil rfl
    obtain rfl : m = 0 := by have := hr.cap; omega
    have hn : news = [] := List.eq_nil_of_length_eq_zero hr.len
    subst hn
    refine ⟨v, w, run_append_owned_none (w := w) 0 st ty e i0 k T.und hi v _ _ hown, by rw [List.append_nil]; exact hown, ⟨rfl, rfl, rfl, Nat.le_refl _, fun _ _ _ => rfl⟩, fun g hg => .inl hg, by simp⟩
  | some ad =>
    have hnl : (news.flatMap f).length = m * k := by rw [flat_len hk, hr.len]
    obtain ⟨v', w', hrun, ho, hg, hn⟩ := run_append_own w 0 st ty e i0 z k bytes T.und hi hz0 hz1 hz2 T.zs T.pos v _ _ hown ad m c (news.flatMap f) hnl hr.news (flat_one h1 news) (by simp only [maxLen]; omega) hbytes (Nat.zero_le _)
    refine ⟨v', w', hrun, ?_, hg, fun g hgv => ?_, hn⟩
    · unfold OwnE
      rw [List.length_append, List.flatMap_append, hr.len]
      exact ho
    · subst hz1 hz2
      rcases hown.2 with ⟨rfl, h0⟩ | ⟨g0, cap, cur, rfl, hbg, hh, hnc, hcm, hcs, htake⟩
      · have hx : xs = [] := List.eq_nil_of_length_eq_zero h0
        subst hx
        by_cases hm : m = 0
        · rw [hn.2 ⟨rfl, hm⟩] at hgv; cases hgv
        · have hr2 := run_append_nil (P := P) w st ty e i0 z T.und hi hz0 ad m c (news.flatMap f) hnl hr.news (by omega) (by omega) (by simp only [List.length_nil, Nat.zero_add] at hbytes; omega)
          rw [hr2] at hrun
          cases hrun
          cases hgv
          exact .inr (Nat.le_refl _)
      · by_cases hroom : xs.length + m ≤ cap
        · obtain ⟨w2, hr2, _, _⟩ := run_append_fits (P := P) w 0 st ty e i0 i0.size T.und hi rfl g0 xs.length cap (xs.flatMap f) hown ad m c (news.flatMap f) hnl hr.news (flat_one h1 news) hroom
          rw [hr2] at hrun
          cases hrun
          exact .inl hgv
        · have holds := World.ownsRow.cells hown (g := g0) rfl
          have hr2 := run_append_grow (P := P) w st ty e i0 z T.und hi hz0 ⟨g0, 0, none⟩ xs.length cap (xs.flatMap f) (flat_len hk xs) holds ad m c (news.flatMap f) hnl hr.news (by omega) (by omega) (growslice_fits (by omega) hbytes)
          rw [hr2] at hrun
          cases hrun
          cases hgv
          exact .inr (Nat.le_refl _)
theorem wp_append_fr {P : Program} {st e : TypeId} {bytes : Nat} {z : Value} (T : ElT P st e k bytes z) (hk : ∀ x, (f x).length = k) (h1 : ∀ x, ∀ v ∈ f x, v.oneCell' = true) {w : World} {o : Oper} {a : Act} {K : Act → World → Prop} {Q : Exit → Act → World → Prop} (s x : Operand)
    (ho : o.op = .call { callee := .builtin .append, args := #[s, x], argTypes := #[st, st] }) (v : Value) (xs : List α) (hs : a.eval s = v) (hown : OwnE f k e w v xs)
    (A : Option Addr) (m c : Nat) (news : List α) (hx : a.eval x = .slice A m c) (hr : RE f w A m c news) (hbytes : (xs.length + m) * bytes ≤ 140737488355328) (h63 : xs.length + m ≤ 140737488355328)
    (h : ∀ v' w', OwnE f k e w' v' (xs ++ news) → w.grownBy w' v.ownBlock → (∀ g, v'.ownBlock = some g → v.ownBlock = some g ∨ w.heap.size ≤ g) → K (a.put o.dst v') w') : o.wp P a w K Q := by
  obtain ⟨v', w', hrun, h2, h3, h4, _⟩ := run_append_fr T hk h1 w o.type v xs hown A m c news hr hbytes h63
  unfold Oper.wp execOp
  simp only [ho, resolve, invoke, builtin, Sem.run_bind, Sem.run_pure, Result.andThen_ok, List.map_toArray, List.map_cons, List.map_nil, hs, hx, hrun]
  exact h v' w' h2 h3 h4
theorem wpList_append_fr {P : Program} {st e : TypeId} {bytes : Nat} {z : Value} (T : ElT P st e k bytes z) (hk : ∀ x, (f x).length = k) (h1 : ∀ x, ∀ v ∈ f x, v.oneCell' = true) {w : World} {ops : Array Oper} {rest : List Oper} {o : Oper} {a : Act} {Q : Exit → Act → World → Prop} (hgd : o.guard = none) (s x : Operand)
    (ho : o.op = .call { callee := .builtin .append, args := #[s, x], argTypes := #[st, st] }) (v : Value) (xs : List α) (hs : a.eval s = v) (hown : OwnE f k e w v xs)
    (A : Option Addr) (m c : Nat) (news : List α) (hx : a.eval x = .slice A m c) (hr : RE f w A m c news) (hbytes : (xs.length + m) * bytes ≤ 140737488355328) (h63 : xs.length + m ≤ 140737488355328)
    (h : ∀ v' w', OwnE f k e w' v' (xs ++ news) → w.grownBy w' v.ownBlock → (∀ g, v'.ownBlock = some g → v.ownBlock = some g ∨ w.heap.size ≤ g) → wpList P ops Q rest (a.put o.dst v') w') : wpList P ops Q (o :: rest) a w :=
  wpList_plain hgd fun _ hK => wp_append_fr T hk h1 s x ho v xs hs hown A m c news hx hr hbytes h63 fun v' w' h2 h3 h4 => hK _ _ (h v' w' h2 h3 h4)

/-- s[i:], s[:i]. -/
theorem run_slice_lo {P : Program} {st e : TypeId} {bytes : Nat} {z : Value} (T : ElT P st e k bytes z) (w : World) (A : Option Addr) (n c i : Nat) (hi : i ≤ n) (y : Int) (hy : y = (i : Int)) : (Instr.slice st (.slice A n c) (some (.int .i64 y)) none none).run P w = .ok (.slice (subE k A c i) (n - i) (c - i)) w := by
  subst hy
  obtain ⟨i0, hi0, hz0, hz1, hz2⟩ := info_parts T.info
  have hs : (sizeOf e).run P w = .ok k w := by simp [sizeOf, typeInfo, hi0, hz1]
  simp [Instr.slice, run_underlying T.und, Instr.sliceBounds, run_sliceBound, hi, hs, subE]
theorem run_slice_hi {P : Program} {st e : TypeId} {bytes : Nat} {z : Value} (T : ElT P st e k bytes z) (w : World) (A : Option Addr) (n c i : Nat) (hi : i ≤ c) (y : Int) (hy : y = (i : Int)) : (Instr.slice st (.slice A n c) none (some (.int .i64 y)) none).run P w = .ok (.slice A i c) w := by
  subst hy
  obtain ⟨i0, hi0, hz0, hz1, hz2⟩ := info_parts T.info
  have hs : (sizeOf e).run P w = .ok k w := by simp [sizeOf, typeInfo, hi0, hz1]
  simp [Instr.slice, run_underlying T.und, Instr.sliceBounds, run_sliceBound, hi, hs]
  intro _
  cases A with
  | none => rfl
  | some a => obtain ⟨b, o, s⟩ := a; simp [Addr.add]
/-- A slice literal's block. -/
theorem own_lit {e : TypeId} (hk : ∀ x, (f x).length = k) (w : World) (xs : List α) (hl : xs.length ≤ 140737488355328) : OwnE f k e (w.alloc (.cells (xs.flatMap f).toArray e)) (.slice (some ⟨w.heap.size, 0, none⟩) xs.length xs.length) xs := by
  have := World.ownsRow_lit (base := 0) (e := e) (size := k) w (xs.flatMap f).toArray xs.length (Nat.zero_le _) (by simp only [maxLen]; omega) (by simp [flat_len hk])
  exact this
theorem re_lit {e : TypeId} (hk : ∀ x, (f x).length = k) (w : World) (xs : List α) (hl : xs.length ≤ 140737488355328) : RE f (w.alloc (.cells (xs.flatMap f).toArray e)) (some ⟨w.heap.size, 0, none⟩) xs.length xs.length xs := by
  obtain ⟨A, c, e1, h, _⟩ := (own_lit (e := e) hk w xs hl).re hl
  cases e1
  exact h
end
end Go.Proofs.YtpfoocndohpbbaaDoor
