/- Records, one behind the other: the plain laws of the statements. -/
import Derived.Test.YtcppmihambcihaaDoorBkPure
namespace Go.Proofs.YtcppmihambcihaaDoor
open Go.RowKit
set_option linter.unusedVariables false
set_option linter.unusedSimpArgs false
theorem bkAll_print {p : Option Nat} {a s : Nat} {d : List UInt8} (r : List UInt8) (h : bkOk d = true) (hs : s < 4294967296) (hp : bkNext p s = true) : bkAll p a (bkPrint s d ++ r) = ⟨s, d, a + (8 + d.length)⟩ :: bkAll (some s) (a + (8 + d.length)) r := by
  rw [bkAll_yes (bkFirst_print r h hs) hp, List.drop_append_of_le_length (by rw [bkPrint_len]; exact Nat.le_refl _), List.drop_of_length_le (by rw [bkPrint_len]; exact Nat.le_refl _), List.nil_append]
theorem bkFirst_blank (m : Nat) : bkFirst (List.replicate m 255) = none := by
  unfold bkFirst
  cases m with
  | zero => rfl
  | succ m => rw [if_pos]; right; right; left; simp [bkHd, List.replicate_succ]
theorem bkFirst_torn {s : Nat} {d : List UInt8} (h : bkOk d = true) (cut m : Nat) (hc : cut < 8 + d.length) (hm : 8 + d.length ≤ cut + m) : bkFirst ((bkPrint s d).take cut ++ List.replicate m 255) = none := by
  rw [bkOk_iff] at h
  have hl := bkPrint_len s d
  cases hcut : cut with
  | zero => rw [List.take_zero, List.nil_append]; exact bkFirst_blank m
  | succ c =>
    rw [← hcut]
    have hhd : bkHd ((bkPrint s d).take cut ++ List.replicate m 255) = d.length := by
      rw [hcut]
      simp [bkHd, bkPrint, crcSeal, bkBody]
      try omega
    unfold bkFirst
    rw [hhd]
    split
    · rfl
    · split
      · rfl
      · have h7 : ((bkPrint s d).take cut ++ List.replicate m 255)[7 + d.length]? = some 255 := by
          rw [List.getElem?_append_right (by rw [List.length_take]; omega), List.length_take, List.getElem?_replicate, if_pos (by omega)]
        rw [h7]
        exact if_neg (by decide)
theorem bkAll_blank (p : Option Nat) (a m : Nat) : bkAll p a (List.replicate m 255) = [] := bkAll_none (bkFirst_blank m)
/-- What stands where: one record behind the other. -/
theorem bkAll_ind {Q : Option Nat → Nat → List UInt8 → List Nt → Prop} (h0 : ∀ p a xs, Q p a xs []) (h1 : ∀ p a s d r l, bkOk d = true → s < 4294967296 → bkNext p s = true → Q (some s) (a + (8 + d.length)) r l → Q p a (bkPrint s d ++ r) (⟨s, d, a + (8 + d.length)⟩ :: l)) :
    ∀ (n : Nat) (p : Option Nat) (a : Nat) (xs : List UInt8), xs.length ≤ n → Q p a xs (bkAll p a xs) := by
  intro n
  induction n with
  | zero =>
    intro p a xs hn
    have : xs = [] := List.eq_nil_of_length_eq_zero (by omega)
    subst this
    have : bkAll p a [] = [] := bkAll_none rfl
    rw [this]
    exact h0 _ _ _
  | succ n ih =>
    intro p a xs hn
    cases hf : bkFirst xs with
    | none => rw [bkAll_none hf]; exact h0 _ _ _
    | some r =>
      obtain ⟨s, d⟩ := r
      cases hp : bkNext p s with
      | false => rw [bkAll_no hf hp]; exact h0 _ _ _
      | true =>
        obtain ⟨hd, hs, r, rfl⟩ := bkFirst_some hf
        rw [bkAll_print r hd hs hp]
        refine h1 p a s d r _ hd hs hp (ih _ _ _ ?_)
        rw [List.length_append, bkPrint_len] at hn
        omega
/-- A record as it stands in bytes, behind one of number p that ends at a. -/
structure BkAt (xs : List UInt8) (p : Option Nat) (a : Nat) (x : Nt) : Prop where
  ok : bkOk x.dat = true
  u32 : x.seq < 4294967296
  fin : x.fin = a + (8 + x.dat.length)
  le : x.fin ≤ xs.length
  cut : (xs.drop a).take (8 + x.dat.length) = bkPrint x.seq x.dat
  next : bkNext p x.seq = true
theorem bkAll_at (n : Nat) (p : Option Nat) (a : Nat) (xs : List UInt8) (hn : xs.length ≤ n) : ∀ (pre : List UInt8), pre.length = a → ∀ (i : Nat) (hi : i < (bkAll p a xs).length), BkAt (pre ++ xs) (if i = 0 then p else some ((bkAll p a xs)[i - 1]?.getD ⟨0, [], 0⟩).seq) (if i = 0 then a else ((bkAll p a xs)[i - 1]?.getD ⟨0, [], 0⟩).fin) ((bkAll p a xs)[i]) := by
  refine bkAll_ind (Q := fun p a xs l => ∀ (pre : List UInt8), pre.length = a → ∀ (i : Nat) (hi : i < l.length), BkAt (pre ++ xs) (if i = 0 then p else some (l[i - 1]?.getD ⟨0, [], 0⟩).seq) (if i = 0 then a else (l[i - 1]?.getD ⟨0, [], 0⟩).fin) l[i]) ?_ ?_ n p a xs hn
  · intro p a xs pre _ i hi
    exact absurd hi (by simp)
  · intro p a s d r l hd hs hp ih pre hpre i hi
    cases i with
    | zero =>
      refine ⟨hd, hs, rfl, ?_, ?_, hp⟩
      · simp [bkPrint_len, hpre]
      · rw [if_pos rfl, ← hpre, List.drop_left]
        show (bkPrint s d ++ r).take (8 + d.length) = bkPrint s d
        rw [List.take_append_of_le_length (by rw [bkPrint_len]; exact Nat.le_refl _), List.take_of_length_le (by rw [bkPrint_len]; exact Nat.le_refl _)]
    | succ i =>
      have h := ih (pre ++ bkPrint s d) (by rw [List.length_append, bkPrint_len, hpre]) i (by simpa using hi)
      rw [List.append_assoc] at h
      cases i with
      | zero => simpa using h
      | succ i => simpa using h
theorem bkNotes_at (xs : List UInt8) (i : Nat) (hi : i < (bkNotes xs).length) : BkAt xs (if i = 0 then none else some ((bkNotes xs)[i - 1]?.getD ⟨0, [], 0⟩).seq) (if i = 0 then 0 else ((bkNotes xs)[i - 1]?.getD ⟨0, [], 0⟩).fin) ((bkNotes xs)[i]) := by
  have h := bkAll_at xs.length none 0 xs (Nat.le_refl _) [] rfl i hi
  rwa [List.nil_append] at h
theorem bkAll_few (n : Nat) (p : Option Nat) (a : Nat) (xs : List UInt8) (hn : xs.length ≤ n) : (bkAll p a xs).length ≤ xs.length := by
  refine bkAll_ind (Q := fun _ _ xs l => l.length ≤ xs.length) ?_ ?_ n p a xs hn
  · intro p a xs; simp
  · intro p a s d r l hd hs hp h; simp [bkPrint_len]; omega
/-- Rows that are printed one behind the other, numbered from s on. -/
def bkRows : Nat → List (List UInt8) → List UInt8
  | _, [] => []
  | s, d :: ds => bkPrint s d ++ bkRows (s + 1) ds
def bkWant : Nat → Nat → List (List UInt8) → List Nt
  | _, _, [] => []
  | s, a, d :: ds => ⟨s, d, a + (8 + d.length)⟩ :: bkWant (s + 1) (a + (8 + d.length)) ds
theorem bkRows_snoc (s : Nat) (ds : List (List UInt8)) (d : List UInt8) : bkRows s (ds ++ [d]) = bkRows s ds ++ bkPrint (s + ds.length) d := by
  induction ds generalizing s with
  | nil => simp [bkRows]
  | cons e ds ih => simp only [List.cons_append, bkRows, ih, List.append_assoc, List.length_cons]; congr 2; rw [Nat.add_assoc, Nat.add_comm 1]
theorem bkAll_rows (p : Option Nat) (s a : Nat) (ds : List (List UInt8)) (m : Nat) (hok : ∀ d ∈ ds, bkOk d = true) (hs : s + ds.length ≤ 4294967296) (hp : ds ≠ [] → bkNext p s = true) : bkAll p a (bkRows s ds ++ List.replicate m 255) = bkWant s a ds := by
  induction ds generalizing p s a with
  | nil => exact bkAll_blank p a m
  | cons d ds ih =>
    rw [List.length_cons] at hs
    show bkAll p a (bkPrint s d ++ bkRows (s + 1) ds ++ List.replicate m 255) = _
    rw [List.append_assoc, bkAll_print _ (hok d (by simp)) (by omega) (hp (by simp)), ih (some s) (s + 1) _ (fun e he => hok e (by simp [he])) (by omega) (fun _ => by simp [bkNext])]
    rfl
theorem bkNotes_rows (s : Nat) (ds : List (List UInt8)) (m : Nat) (hok : ∀ d ∈ ds, bkOk d = true) (hs : s + ds.length ≤ 4294967296) : bkNotes (bkRows s ds ++ List.replicate m 255) = bkWant s 0 ds := bkAll_rows none s 0 ds m hok hs (fun _ => rfl)
theorem bkWant_len (s a : Nat) (ds : List (List UInt8)) : (bkWant s a ds).length = ds.length := by
  induction ds generalizing s a with
  | nil => rfl
  | cons d ds ih => simp [bkWant, ih]
theorem bkRows_len_snoc (s : Nat) (ds : List (List UInt8)) (d : List UInt8) : (bkRows s (ds ++ [d])).length = (bkRows s ds).length + (8 + d.length) := by
  rw [bkRows_snoc, List.length_append, bkPrint_len]
theorem bkWant_get (s a : Nat) (ds : List (List UInt8)) (i : Nat) (hi : i < ds.length) : (bkWant s a ds)[i]? = some ⟨s + i, ds[i], a + (bkRows s (ds.take (i + 1))).length⟩ := by
  induction ds generalizing s a i with
  | nil => exact absurd hi (by simp)
  | cons d ds ih =>
    cases i with
    | zero => simp [bkWant, bkRows, bkPrint_len]
    | succ i =>
      have h := ih (s + 1) (a + (8 + d.length)) i (by simpa using hi)
      simp only [bkWant, List.getElem?_cons_succ, h, List.take_succ_cons, List.getElem_cons_succ, bkRows, List.length_append, bkPrint_len]
      congr 2
      · omega
      · omega
theorem bkBlank_rows (xs : List UInt8) (m : Nat) : bkBlank (xs ++ List.replicate m 255) xs.length = true := by
  simp [bkBlank]
/-- Behind a record another one, of which only some first bytes are there. -/
theorem bkNotes_torn {s : Nat} {d e : List UInt8} (hd : bkOk d = true) (he : bkOk e = true) (hs : s + 1 < 4294967296) (cut m : Nat) (hc : cut ≤ 8 + e.length) (hm : 8 + e.length ≤ cut + m) :
    bkNotes (bkPrint s d ++ ((bkPrint (s + 1) e).take cut ++ List.replicate m 255)) = if cut < 8 + e.length then [⟨s, d, 8 + d.length⟩] else [⟨s, d, 8 + d.length⟩, ⟨s + 1, e, 8 + d.length + (8 + e.length)⟩] := by
  rw [bkNotes, bkAll_print _ hd (by omega) rfl, Nat.zero_add]
  split
  · rename_i h
    rw [bkAll_none (bkFirst_torn he cut m h hm)]
  · rw [List.take_of_length_le (by rw [bkPrint_len]; omega), bkAll_print _ he hs (by simp [bkNext]), bkAll_blank]
end Go.Proofs.YtcppmihambcihaaDoor
