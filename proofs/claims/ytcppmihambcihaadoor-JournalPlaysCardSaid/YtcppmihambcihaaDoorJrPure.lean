/- A journal over bytes, purely: what an Append does, and what one that opens the bytes finds. -/
import Derived.Test.YtcppmihambcihaaDoorJrOpen
import Derived.Test.YtcppmihambcihaaDoorBkLaw
namespace Go.Proofs.YtcppmihambcihaaDoor
open Go.RowKit
set_option linter.unusedVariables false
set_option linter.unusedSimpArgs false
/-- A store's own part: its bytes, how many may be written till it dies, whether it is dead. -/
structure Sto where
  xs : List UInt8
  lim : Option Nat
  dead : Bool
def Sto.wr (t : Sto) (a : Nat) (ys : List UInt8) : Nat × Sto :=
  if t.dead = true then (7, t)
  else if t.xs.length < a + ys.length then (6, t)
  else match t.lim with
    | none => (0, ⟨splice t.xs a ys, none, false⟩)
    | some k => if k < ys.length then (7, ⟨splice t.xs a (ys.take k), some 0, true⟩) else (0, ⟨splice t.xs a ys, some (k - ys.length), false⟩)
theorem splice_zero {α : Type} (L : List α) (a : Nat) : splice L a [] = L := by simp [splice]
theorem Sto.wr_in {t : Sto} {a : Nat} {ys : List UInt8} (h : a + ys.length ≤ t.xs.length) :
    ((t.wr a ys).1 = 0 ∧ (t.wr a ys).2.xs = splice t.xs a ys) ∨ ((t.wr a ys).1 = 7 ∧ ∃ k, (k = 0 ∨ k < ys.length) ∧ (t.wr a ys).2.xs = splice t.xs a (ys.take k)) := by
  unfold Sto.wr
  split
  · exact .inr ⟨rfl, 0, .inl rfl, by rw [List.take_zero, splice_zero]⟩
  · rw [if_neg (by omega)]
    cases hl : t.lim with
    | none => exact .inl ⟨rfl, rfl⟩
    | some k =>
      by_cases hk : k < ys.length
      · simp only [hk, if_true]
        exact .inr ⟨by first | rfl | trivial, k, .inr hk, by first | rfl | trivial⟩
      · simp only [hk, if_false]
        exact .inl ⟨by first | rfl | trivial, by first | rfl | trivial⟩
theorem Sto.wr_live {t : Sto} {a : Nat} {ys : List UInt8} (h : a + ys.length ≤ t.xs.length) (hl : t.lim = none) (hd : t.dead = false) : t.wr a ys = (0, ⟨splice t.xs a ys, none, false⟩) := by
  unfold Sto.wr
  rw [if_neg (by simp [hd]), if_neg (by omega), hl]
theorem splice_get (xs ys : List UInt8) (a i : Nat) (h : a + ys.length ≤ xs.length) : (splice xs a ys)[i]? = if i < a then xs[i]? else if i < a + ys.length then ys[i - a]? else xs[i]? := by
  unfold splice
  by_cases h1 : i < a
  · rw [if_pos h1, List.getElem?_append_left (by rw [List.length_take]; omega), List.getElem?_take, if_pos h1]
  · rw [if_neg h1]
    by_cases h2 : i < a + ys.length
    · rw [if_pos h2, List.getElem?_append_right (by rw [List.length_take]; omega), List.length_take, show min a xs.length = a by omega, List.getElem?_append_left (by omega)]
    · rw [if_neg h2, List.getElem?_append_right (by rw [List.length_take]; omega), List.length_take, show min a xs.length = a by omega, List.getElem?_append_right (by omega), List.getElem?_drop]
      congr 1
      omega
theorem half_get (xs : List UInt8) (k i : Nat) : (half xs k)[i]? = if i < xs.length / 2 then xs[k * (xs.length / 2) + i]? else none := by
  unfold half
  rw [List.getElem?_take, List.getElem?_drop]
theorem half_in (xs ys : List UInt8) (b a : Nat) (hb : b ≤ 1) (h : a + ys.length ≤ xs.length / 2) : half (splice xs (b * (xs.length / 2) + a) ys) b = splice (half xs b) a ys := by
  have hm : b * (xs.length / 2) ≤ xs.length / 2 := by
    rcases Nat.eq_zero_or_pos b with h | h
    · subst h; omega
    · obtain rfl : b = 1 := by omega
      omega
  apply List.ext_getElem?
  intro i
  have hl : (splice xs (b * (xs.length / 2) + a) ys).length = xs.length := length_splice _ _ _ (by omega)
  rw [splice_get _ _ _ _ (by rw [half_len xs b hb]; omega), half_get, hl, splice_get _ _ _ _ (by omega)]
  simp only [half_get]
  generalize b * (xs.length / 2) = q at *
  by_cases h1 : i < xs.length / 2
  · rw [if_pos h1, if_pos h1]
    by_cases h2 : i < a
    · rw [if_pos h2, if_pos (by omega)]
    · rw [if_neg h2, if_neg (by omega)]
      by_cases h3 : i < a + ys.length
      · rw [if_pos h3, if_pos (by omega)]
        congr 1
        omega
      · rw [if_neg h3, if_neg (by omega)]
  · rw [if_neg h1, if_neg h1, if_neg (by omega), if_neg (by omega)]
theorem half_out (xs ys : List UInt8) (b c a : Nat) (hb : b ≤ 1) (hc : c = 1 - b) (h : a + ys.length ≤ xs.length / 2) : half (splice xs (b * (xs.length / 2) + a) ys) c = half xs c := by
  have hl : (splice xs (b * (xs.length / 2) + a) ys).length = xs.length := length_splice _ _ _ (by
    rcases Nat.eq_zero_or_pos b with h | h
    · subst h; omega
    · obtain rfl : b = 1 := by omega
      omega)
  apply List.ext_getElem?
  intro i
  rw [half_get, half_get, hl]
  by_cases h1 : i < xs.length / 2
  · rw [if_pos h1, if_pos h1]
    subst hc
    rcases Nat.eq_zero_or_pos b with hb0 | hb0
    · subst hb0
      rw [splice_get _ _ _ _ (by omega), if_neg (by omega), if_neg (by omega)]
    · obtain rfl : b = 1 := by omega
      rw [splice_get _ _ _ _ (by omega), if_pos (by omega)]
  · rw [if_neg h1, if_neg h1]
theorem bkAll_upto (n : Nat) (p : Option Nat) (a : Nat) (xs : List UInt8) (hn : xs.length ≤ n) : ∀ x, (bkAll p a xs).getLast? = some x → a ≤ x.fin ∧ ∀ r, bkAll p a (xs.take (x.fin - a) ++ r) = bkAll p a xs ++ bkAll (some x.seq) x.fin r := by
  refine bkAll_ind (Q := fun p a xs l => ∀ x, l.getLast? = some x → a ≤ x.fin ∧ ∀ r, bkAll p a (xs.take (x.fin - a) ++ r) = l ++ bkAll (some x.seq) x.fin r) ?_ ?_ n p a xs hn
  · intro p a xs x h
    cases h
  · intro p a s d r l hd hs hp ih x hx
    cases l with
    | nil =>
      obtain rfl : ⟨s, d, a + (8 + d.length)⟩ = x := Option.some.inj hx
      refine ⟨by show a ≤ a + (8 + d.length); omega, fun r2 => ?_⟩
      show bkAll p a ((bkPrint s d ++ r).take (a + (8 + d.length) - a) ++ r2) = _
      rw [show a + (8 + d.length) - a = 8 + d.length by omega, List.take_append_of_le_length (by rw [bkPrint_len]; exact Nat.le_refl _), List.take_of_length_le (by rw [bkPrint_len]; exact Nat.le_refl _), bkAll_print r2 hd hs hp]
      rfl
    | cons y l =>
      obtain ⟨h1, h2⟩ := ih x (by rw [List.getLast?_cons_cons] at hx; exact hx)
      refine ⟨by omega, fun r2 => ?_⟩
      have hl := bkPrint_len s d
      rw [List.take_append, List.take_of_length_le (by omega), hl, show x.fin - a - (8 + d.length) = x.fin - (a + (8 + d.length)) by omega, List.append_assoc, bkAll_print _ hd hs hp, h2]
      rfl
theorem bkLast_more {h : List UInt8} {x : Nt} (hx : (bkNotes h).getLast? = some x) (r : List UInt8) : bkNotes (h.take x.fin ++ r) = bkNotes h ++ bkAll (some x.seq) x.fin r :=
  (bkAll_upto h.length none 0 h (Nat.le_refl _) x hx).2 r
theorem blank_split {h : List UInt8} {f : Nat} (hb : bkBlank h f = true) : h.drop f = List.replicate (h.length - f) 255 := by
  rw [List.eq_replicate_iff]
  refine ⟨List.length_drop, fun b hb2 => ?_⟩
  unfold bkBlank at hb
  rw [List.all_eq_true] at hb
  exact eq_of_beq (hb b hb2)
theorem splice_tail {h ys : List UInt8} {f : Nat} (hb : bkBlank h f = true) : splice h f ys = h.take f ++ (ys ++ List.replicate (h.length - f - ys.length) 255) := by
  unfold splice
  rw [← List.drop_drop, blank_split hb, List.drop_replicate]
theorem bank_new {h d : List UInt8} {x : Nt} (hx : (bkNotes h).getLast? = some x) (hb : bkBlank h x.fin = true) (hd : bkOk d = true) (hs : x.seq + 1 < 4294967296) :
    (bkNotes (splice h x.fin (bkPrint (x.seq + 1) d))).getLast? = some ⟨x.seq + 1, d, x.fin + (8 + d.length)⟩ := by
  rw [splice_tail hb, bkLast_more hx, bkAll_print _ hd hs (by simp [bkNext]), bkAll_blank, List.getLast?_append]
  rfl
theorem bank_torn {h d : List UInt8} {x : Nt} {k : Nat} (hx : (bkNotes h).getLast? = some x) (hb : bkBlank h x.fin = true) (hd : bkOk d = true) (hf : x.fin + (8 + d.length) ≤ h.length) (hk : k < 8 + d.length) :
    (bkNotes (splice h x.fin ((bkPrint (x.seq + 1) d).take k))).getLast? = some x := by
  have hl := bkPrint_len (x.seq + 1) d
  rw [splice_tail hb, bkLast_more hx, bkAll_none (bkFirst_torn hd k _ hk (by rw [List.length_take]; omega)), List.append_nil, hx]
theorem bank_new0 {h d : List UInt8} {s : Nat} (hb : bkBlank h 0 = true) (hd : bkOk d = true) (hs : s < 4294967296) : (bkNotes (splice h 0 (bkPrint s d))).getLast? = some ⟨s, d, 8 + d.length⟩ := by
  rw [splice_tail hb, List.take_zero, List.nil_append, bkNotes, bkAll_print _ hd hs rfl, bkAll_blank]
  simp
theorem bank_torn0 {h d : List UInt8} {s k : Nat} (hb : bkBlank h 0 = true) (hd : bkOk d = true) (hf : 8 + d.length ≤ h.length) (hk : k < 8 + d.length) : (bkNotes (splice h 0 ((bkPrint s d).take k))).getLast? = none := by
  have hl := bkPrint_len s d
  rw [splice_tail hb, List.take_zero, List.nil_append, bkNotes, bkAll_none (bkFirst_torn hd k _ hk (by rw [List.length_take]; omega))]
  rfl
theorem bank_wiped {h : List UInt8} {m k : Nat} (hk : 0 < k) (hm : h.length = m) (hkm : k < m) : (bkNotes (splice h 0 ((List.replicate m 255).take k))).getLast? = none := by
  have : bkFirst (splice h 0 ((List.replicate m 255).take k)) = none := by
    obtain ⟨k, rfl⟩ : ∃ j, k = j + 1 := ⟨k - 1, by omega⟩
    rw [List.take_replicate, show min (k + 1) m = k + 1 by omega]
    unfold bkFirst splice
    rw [if_pos]
    right; right; left
    simp [bkHd, List.replicate_succ]
  rw [bkNotes, bkAll_none this]
  rfl
/-- The one of two last records that counts. -/
def jPick (a b : Option Nt) : Jn := jStep (jStep jNone 0 a) 1 b
theorem jOpen_pick (xs : List UInt8) : jOpen xs = jPick (jLast xs 0) (jLast xs 1) := rfl
def jOf (b : Nat) (x y : Option Nt) : Jn := if b = 0 then jPick x y else jPick y x
theorem jOpen_of (xs : List UInt8) (b : Nat) (hb : b ≤ 1) : jOpen xs = jOf b (jLast xs b) (jLast xs (1 - b)) := by
  rcases Nat.eq_zero_or_pos b with h | h
  · subst h; rfl
  · obtain rfl : b = 1 := by omega
    rfl
theorem jPick_cases (a b : Option Nt) : (a = none ∧ b = none ∧ jPick a b = jNone) ∨ (∃ x, a = some x ∧ jPick a b = ⟨0, x, true⟩ ∧ ∀ y, b = some y → y.seq ≤ x.seq) ∨ (∃ y, b = some y ∧ jPick a b = ⟨1, y, true⟩ ∧ ∀ x, a = some x → x.seq < y.seq) := by
  cases a with
  | none =>
    cases b with
    | none => exact .inl ⟨rfl, rfl, rfl⟩
    | some y => exact .inr (.inr ⟨y, rfl, by simp [jPick, jStep, jNone], fun x h => by cases h⟩)
  | some x =>
    cases b with
    | none => exact .inr (.inl ⟨x, rfl, by simp [jPick, jStep, jNone], fun y h => by cases h⟩)
    | some y =>
      by_cases h : x.seq < y.seq
      · exact .inr (.inr ⟨y, rfl, by simp [jPick, jStep, jNone, h], fun x' h' => by cases h'; exact h⟩)
      · exact .inr (.inl ⟨x, rfl, by simp [jPick, jStep, jNone, h], fun x' h' => by cases h'; omega⟩)
/-- The last record of a journal's own bank is the journal's; that of the other is none, or no later one. -/
structure JAt (s : Jn) (x y : Option Nt) : Prop where
  bank : s.bank ≤ 1
  own : s.has = true → x = some s.nt
  no : s.has = false → s = jNone ∧ x = none ∧ y = none
  other : ∀ z, y = some z → z.seq ≤ s.nt.seq ∧ (s.bank = 1 → z.seq < s.nt.seq)
  self : jOf s.bank x y = s
theorem jOpen_at (xs : List UInt8) : JAt (jOpen xs) (jLast xs (jOpen xs).bank) (jLast xs (1 - (jOpen xs).bank)) := by
  have hs := jOpen_of xs (jOpen xs).bank
  rw [jOpen_pick] at *
  rcases jPick_cases (jLast xs 0) (jLast xs 1) with ⟨h1, h2, h3⟩ | ⟨x, h1, h3, h4⟩ | ⟨y, h1, h3, h4⟩
  · rw [h3] at hs ⊢
    exact ⟨Nat.zero_le _, (fun h => by cases h), fun _ => ⟨rfl, h1, h2⟩, (fun z hz => by rw [show jLast xs (1 - jNone.bank) = jLast xs 1 from rfl, h2] at hz; cases hz), (hs (Nat.zero_le _)).symm⟩
  · rw [h3] at hs ⊢
    exact ⟨Nat.zero_le _, fun _ => h1, (fun h => by cases h), (fun z hz => ⟨h4 z hz, fun h => absurd (show (0 : Nat) = 1 from h) (by decide)⟩), (hs (Nat.zero_le _)).symm⟩
  · rw [h3] at hs ⊢
    exact ⟨Nat.le_refl 1, fun _ => h1, (fun h => by cases h), (fun z hz => ⟨Nat.le_of_lt (h4 z hz), fun _ => h4 z hz⟩), (hs (Nat.le_refl 1)).symm⟩
theorem jOf_own (b : Nat) (hb : b ≤ 1) (x : Nt) (y : Option Nt) (h : ∀ z, y = some z → z.seq < x.seq) : jOf b (some x) y = ⟨b, x, true⟩ := by
  unfold jOf
  rcases Nat.eq_zero_or_pos b with h0 | h0
  · subst h0
    rw [if_pos rfl]
    rcases jPick_cases (some x) y with ⟨h1, _⟩ | ⟨x', h1, h3, h4⟩ | ⟨z, h1, h3, h4⟩
    · cases h1
    · cases h1; exact h3
    · have := h z h1
      have := h4 x rfl
      omega
  · obtain rfl : b = 1 := by omega
    rw [if_neg (by decide)]
    rcases jPick_cases y (some x) with ⟨_, h1, _⟩ | ⟨x', h1, h3, h4⟩ | ⟨z, h1, h3, h4⟩
    · cases h1
    · have := h x' h1
      have := h4 x rfl
      omega
    · cases h1; exact h3
theorem jOf_swap (b : Nat) (hb : b ≤ 1) (x y : Option Nt) : jOf (1 - b) y x = jOf b x y := by
  unfold jOf
  rcases Nat.eq_zero_or_pos b with h0 | h0
  · subst h0; rfl
  · obtain rfl : b = 1 := by omega
    rfl
/-- What is left when the other bank's record is gone. -/
theorem JAt.alone {s : Jn} {x y : Option Nt} (h : JAt s x y) : jOf s.bank x none = s := by
  cases hh : s.has with
  | false =>
    obtain ⟨h1, h2, h3⟩ := h.no hh
    have := h.self
    rwa [h3] at this
  | true =>
    rw [h.own hh, jOf_own s.bank h.bank s.nt none (fun z hz => by cases hz), ← hh]
/-- What an Append does: the error's number, the journal, the store. -/
def jPut (s : Jn) (d : List UInt8) (tb at_ m : Nat) (r : Nat × Sto) : Nat × Jn × Sto :=
  if r.1 = 0 then
    if (r.2.wr (tb * m + at_) (bkPrint (s.nt.seq + 1) d)).1 = 0 then (0, ⟨tb, ⟨s.nt.seq + 1, d, at_ + (8 + d.length)⟩, true⟩, (r.2.wr (tb * m + at_) (bkPrint (s.nt.seq + 1) d)).2)
    else ((r.2.wr (tb * m + at_) (bkPrint (s.nt.seq + 1) d)).1, s, (r.2.wr (tb * m + at_) (bkPrint (s.nt.seq + 1) d)).2)
  else (r.1, s, r.2)
def jWipe (t : Sto) (b m : Nat) : Nat × Sto := t.wr (b * m) (List.replicate m 255)
def jAppend (s : Jn) (t : Sto) (d : List UInt8) : Nat × Jn × Sto :=
  if bkOk d = false then (1, s, t)
  else if t.xs.length / 2 < 8 + d.length ∨ s.nt.seq = 4294967295 then (5, s, t)
  else if jRoom t.xs s.bank s.nt.fin (8 + d.length) = true then jPut s d s.bank s.nt.fin (t.xs.length / 2) (0, t)
  else jPut s d (1 - s.bank) 0 (t.xs.length / 2) (jWipe t (1 - s.bank) (t.xs.length / 2))
theorem bank_le (b m n : Nat) (hb : b ≤ 1) (h : m = n / 2) : b * m + m ≤ n := by
  rcases Nat.eq_zero_or_pos b with h0 | h0
  · subst h0; omega
  · obtain rfl : b = 1 := by omega
    omega
/-- What every Append keeps: the journal is what one that opens the store finds. -/
structure JLaw (s : Jn) (t : Sto) (d : List UInt8) (r : Nat × Jn × Sto) : Prop where
  yes : r.1 = 0 → ∃ b f, r.2.1 = ⟨b, ⟨s.nt.seq + 1, d, f⟩, true⟩
  no : r.1 ≠ 0 → r.2.1 = s
  opens : r.2.1 = jOpen r.2.2.xs
  len : r.2.2.xs.length = t.xs.length
theorem jPut_law (s : Jn) (t : Sto) (d : List UInt8) (c f : Nat) (t1 : Sto) (hc : c ≤ 1) (hd : bkOk d = true) (hq : s.nt.seq + 1 < 4294967296) (hf : f + (8 + d.length) ≤ t.xs.length / 2) (hl : t1.xs.length = t.xs.length)
    (hnew : (bkNotes (splice (half t1.xs c) f (bkPrint (s.nt.seq + 1) d))).getLast? = some ⟨s.nt.seq + 1, d, f + (8 + d.length)⟩)
    (htorn : ∀ k, k = 0 ∨ k < 8 + d.length → jOf c (bkNotes (splice (half t1.xs c) f ((bkPrint (s.nt.seq + 1) d).take k))).getLast? (jLast t1.xs (1 - c)) = s)
    (hoth : ∀ z, jLast t1.xs (1 - c) = some z → z.seq < s.nt.seq + 1) : JLaw s t d (jPut s d c f (t.xs.length / 2) (0, t1)) := by
  have hpl := bkPrint_len (s.nt.seq + 1) d
  have hle := bank_le c (t.xs.length / 2) t.xs.length hc rfl
  have hw := Sto.wr_in (t := t1) (a := c * (t.xs.length / 2) + f) (ys := bkPrint (s.nt.seq + 1) d) (by omega)
  unfold jPut
  rw [if_pos rfl]
  rcases hw with ⟨h1, h2⟩ | ⟨h1, k, hk, h2⟩
  · rw [if_pos h1]
    refine ⟨fun _ => ⟨c, f + (8 + d.length), rfl⟩, fun h => absurd rfl h, ?_, ?_⟩
    · show (⟨c, _, true⟩ : Jn) = jOpen _
      rw [jOpen_of _ c hc]
      show _ = jOf c (jLast (Sto.wr t1 _ _).2.xs c) (jLast (Sto.wr t1 _ _).2.xs (1 - c))
      rw [h2]
      unfold jLast
      rw [← hl, half_in _ _ c f hc (by omega), half_out _ _ c (1 - c) f hc rfl (by omega), hnew]
      exact (jOf_own c hc _ _ hoth).symm
    · show (Sto.wr t1 _ _).2.xs.length = _
      rw [h2, length_splice _ _ _ (by omega), hl]
  · rw [if_neg (by rw [h1]; decide)]
    have htl : ((bkPrint (s.nt.seq + 1) d).take k).length ≤ 8 + d.length := by rw [List.length_take]; omega
    refine ⟨fun h => ?_, fun _ => rfl, ?_, ?_⟩
    · rw [h1] at h; cases h
    · show s = jOpen _
      rw [jOpen_of _ c hc]
      show _ = jOf c (jLast (Sto.wr t1 _ _).2.xs c) (jLast (Sto.wr t1 _ _).2.xs (1 - c))
      rw [h2]
      have ht := htorn k (by rw [hpl] at hk; exact hk)
      unfold jLast at ht ⊢
      rw [← hl, half_in _ _ c f hc (by omega), half_out _ _ c (1 - c) f hc rfl (by omega)]
      exact ht.symm
    · show (Sto.wr t1 _ _).2.xs.length = _
      rw [h2, length_splice _ _ _ (by omega), hl]
theorem jAppend_law (s : Jn) (t : Sto) (d : List UInt8) (hs : s = jOpen t.xs) : JLaw s t d (jAppend s t d) := by
  have hat := jOpen_at t.xs
  rw [← hs] at hat
  unfold jAppend
  cases hd : bkOk d with
  | false =>
    rw [if_pos rfl]
    exact ⟨fun h => absurd (show (1 : Nat) = 0 from h) (by decide), fun _ => rfl, hs, rfl⟩
  | true =>
    rw [if_neg (by decide)]
    by_cases h5 : t.xs.length / 2 < 8 + d.length ∨ s.nt.seq = 4294967295
    · rw [if_pos h5]
      exact ⟨fun h => absurd (show (5 : Nat) = 0 from h) (by decide), fun _ => rfl, hs, rfl⟩
    rw [if_neg h5]
    have hlen : 8 + d.length ≤ t.xs.length / 2 := by omega
    have hu : s.nt.seq < 4294967296 := by
      cases hh : s.has with
      | false => rw [(hat.no hh).1]; decide
      | true => exact (jLast_at (hat.own hh)).2.1
    have hq : s.nt.seq + 1 < 4294967296 := by omega
    have hoth : ∀ z, jLast t.xs (1 - s.bank) = some z → z.seq < s.nt.seq + 1 := fun z hz => by have := (hat.other z hz).1; omega
    by_cases hr : jRoom t.xs s.bank s.nt.fin (8 + d.length) = true
    · rw [if_pos hr]
      unfold jRoom at hr
      rw [Bool.and_eq_true, decide_eq_true_iff] at hr
      obtain ⟨hr1, hr2⟩ := hr
      have hhl := half_len t.xs s.bank hat.bank
      cases hh : s.has with
      | true =>
        refine jPut_law s t d s.bank s.nt.fin t hat.bank hd hq (by omega) rfl (bank_new (hat.own hh) hr2 hd hq) (fun k hk => ?_) hoth
        rw [bank_torn (hat.own hh) hr2 hd (by omega) (by omega)]
        rw [← hat.own hh]
        exact hat.self
      | false =>
        obtain ⟨h1, h2, h3⟩ := hat.no hh
        have hz : s.nt.fin = 0 := by rw [h1]; rfl
        rw [hz] at hr2 ⊢
        refine jPut_law s t d s.bank 0 t hat.bank hd hq (by omega) rfl (by rw [Nat.zero_add]; exact bank_new0 hr2 hd hq) (fun k hk => ?_) hoth
        rw [bank_torn0 hr2 hd (by omega) (by omega), h3]
        have := hat.self
        rwa [h2, h3] at this
    · rw [if_neg hr]
      have hbk := hat.bank
      generalize hc : 1 - s.bank = c at *
      have hc1 : c ≤ 1 := by omega
      have hcs : 1 - c = s.bank := by omega
      have hle := bank_le c (t.xs.length / 2) t.xs.length hc1 rfl
      have hrl : (List.replicate (t.xs.length / 2) (255 : UInt8)).length = t.xs.length / 2 := List.length_replicate
      have hw := Sto.wr_in (t := t) (a := c * (t.xs.length / 2)) (ys := List.replicate (t.xs.length / 2) 255) (by omega)
      have hfe : jOf c none (jLast t.xs s.bank) = s := by
        have := jOf_swap s.bank hat.bank (jLast t.xs s.bank) none
        rw [hc] at this
        rw [this]
        exact hat.alone
      rcases hw with ⟨h1, h2⟩ | ⟨h1, k, hk, h2⟩
      · have hin : half (jWipe t c (t.xs.length / 2)).2.xs c = List.replicate (t.xs.length / 2) 255 := by
          unfold jWipe
          rw [h2]
          have := half_in t.xs (List.replicate (t.xs.length / 2) 255) c 0 hc1 (by omega)
          rw [Nat.add_zero] at this
          rw [this, splice_whole _ _ (by rw [hrl, half_len t.xs c hc1])]
        have hout : half (jWipe t c (t.xs.length / 2)).2.xs (1 - c) = half t.xs (1 - c) := by
          unfold jWipe
          rw [h2]
          have := half_out t.xs (List.replicate (t.xs.length / 2) 255) c (1 - c) 0 hc1 rfl (by omega)
          rwa [Nat.add_zero] at this
        have hjo : jLast (jWipe t c (t.xs.length / 2)).2.xs (1 - c) = jLast t.xs s.bank := by
          unfold jLast
          rw [hout, hcs]
        have hbl : bkBlank (half (jWipe t c (t.xs.length / 2)).2.xs c) 0 = true := by
          rw [hin]
          exact bkBlank_rows [] _
        have hhl : (half (jWipe t c (t.xs.length / 2)).2.xs c).length = t.xs.length / 2 := by rw [hin, hrl]
        have hl2 : (jWipe t c (t.xs.length / 2)).2.xs.length = t.xs.length := by
          unfold jWipe
          rw [h2, length_splice _ _ _ (by omega)]
        have he : jWipe t c (t.xs.length / 2) = (0, (jWipe t c (t.xs.length / 2)).2) := by
          conv => lhs; rw [← Prod.eta (jWipe t c (t.xs.length / 2))]
          exact congrArg (·, _) h1
        rw [he]
        refine jPut_law s t d c 0 _ hc1 hd hq (by omega) hl2 (by rw [Nat.zero_add]; exact bank_new0 hbl hd hq) (fun k hk => ?_) (fun z hz => ?_)
        · rw [bank_torn0 hbl hd (by omega) (by omega), hjo]
          exact hfe
        · rw [hjo] at hz
          cases hh : s.has with
          | false => rw [(hat.no hh).2.1] at hz; cases hz
          | true => rw [hat.own hh] at hz; cases hz; omega
      · have hne : (jWipe t c (t.xs.length / 2)).1 ≠ 0 := by
          unfold jWipe
          rw [h1]; decide
        unfold jPut
        rw [if_neg hne]
        have htl : ((List.replicate (t.xs.length / 2) (255 : UInt8)).take k).length ≤ t.xs.length / 2 := by rw [List.length_take]; omega
        refine ⟨fun h => absurd h hne, fun _ => rfl, ?_, ?_⟩
        · show s = jOpen (jWipe t c (t.xs.length / 2)).2.xs
          unfold jWipe
          rw [h2]
          rcases Nat.eq_zero_or_pos k with h0 | h0
          · rw [h0, List.take_zero, splice_zero]
            exact hs
          · rw [jOpen_of _ c hc1]
            have h7 := half_in t.xs ((List.replicate (t.xs.length / 2) 255).take k) c 0 hc1 (by omega)
            have h8 := half_out t.xs ((List.replicate (t.xs.length / 2) 255).take k) c (1 - c) 0 hc1 rfl (by omega)
            rw [Nat.add_zero] at h7 h8
            unfold jLast
            rw [h7, h8, bank_wiped h0 (half_len t.xs c hc1) (by omega), hcs]
            exact hfe.symm
        · show (jWipe t c (t.xs.length / 2)).2.xs.length = _
          unfold jWipe
          rw [h2, length_splice _ _ _ (by omega)]
theorem jPut_live (s : Jn) (d : List UInt8) (c f m : Nat) (t : Sto) (hl : t.lim = none) (hd : t.dead = false) (h : c * m + f + (8 + d.length) ≤ t.xs.length) : (jPut s d c f m (0, t)).1 = 0 ∧ (jPut s d c f m (0, t)).2.2.lim = none ∧ (jPut s d c f m (0, t)).2.2.dead = false := by
  unfold jPut
  rw [if_pos rfl, Sto.wr_live (by rw [bkPrint_len]; exact h) hl hd, if_pos rfl]
  exact ⟨rfl, rfl, rfl⟩
/-- The number of an Append over a store that lives on. -/
def jCode (m s : Nat) (d : List UInt8) : Nat := if bkOk d = false then 1 else if m < 8 + d.length ∨ s = 4294967295 then 5 else 0
theorem jAppend_live (s : Jn) (t : Sto) (d : List UInt8) (hs : s = jOpen t.xs) (hl : t.lim = none) (hd : t.dead = false) :
    (jAppend s t d).1 = jCode (t.xs.length / 2) s.nt.seq d ∧ (jAppend s t d).2.2.lim = none ∧ (jAppend s t d).2.2.dead = false ∧ (jCode (t.xs.length / 2) s.nt.seq d ≠ 0 → (jAppend s t d).2.2 = t) := by
  have hat := jOpen_at t.xs
  rw [← hs] at hat
  have hbk := hat.bank
  have hle := bank_le s.bank (t.xs.length / 2) t.xs.length hbk rfl
  have hle2 := bank_le (1 - s.bank) (t.xs.length / 2) t.xs.length (by omega) rfl
  unfold jAppend jCode
  split
  · exact ⟨rfl, hl, hd, fun _ => rfl⟩
  split
  · exact ⟨rfl, hl, hd, fun _ => rfl⟩
  split
  · rename_i h1 h2 h3
    unfold jRoom at h3
    rw [Bool.and_eq_true, decide_eq_true_iff] at h3
    have := jPut_live s d s.bank s.nt.fin (t.xs.length / 2) t hl hd (by omega)
    exact ⟨this.1, this.2.1, this.2.2, fun h => absurd rfl h⟩
  · rename_i h1 h2 h3
    unfold jWipe
    rw [Sto.wr_live (by rw [List.length_replicate]; exact hle2) hl hd]
    have := jPut_live s d (1 - s.bank) 0 (t.xs.length / 2) ⟨splice t.xs ((1 - s.bank) * (t.xs.length / 2)) (List.replicate (t.xs.length / 2) 255), none, false⟩ rfl rfl (by
      show _ ≤ (splice t.xs _ _).length
      rw [length_splice _ _ _ (by rw [List.length_replicate]; exact hle2)]
      omega)
    exact ⟨this.1, this.2.1, this.2.2, fun h => absurd rfl h⟩
end Go.Proofs.YtcppmihambcihaaDoor
