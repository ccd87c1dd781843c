/- Records, one behind the other: the plain laws. -/
import Derived.Test.YtcppmihambcihaaDoorCrcOpn
import Derived.Test.YtcppmihambcihaaDoorRdr2
namespace Go.Proofs.YtcppmihambcihaaDoor
open Go.RowKit
set_option linter.unusedVariables false
set_option linter.unusedSimpArgs false

theorem be4_val (n : Nat) (h : n < 4294967296) : beVal (beN 4 n) = n := by
  simp [beVal, beN, List.range_succ]
  omega
theorem be4_back (l : List UInt8) (h : l.length = 4) : beN 4 (beVal l) = l := by
  match l, h with
  | [a, b, c, d], _ =>
    have ha := a.toNat_lt
    have hb := b.toNat_lt
    have hc := c.toNat_lt
    have hd := d.toNat_lt
    have e : beN 4 (beVal [a, b, c, d]) = [UInt8.ofNat ((256 * (256 * (256 * a.toNat + b.toNat) + c.toNat) + d.toNat) / 16777216), UInt8.ofNat ((256 * (256 * (256 * a.toNat + b.toNat) + c.toNat) + d.toNat) / 65536), UInt8.ofNat ((256 * (256 * (256 * a.toNat + b.toNat) + c.toNat) + d.toNat) / 256), UInt8.ofNat (256 * (256 * (256 * a.toNat + b.toNat) + c.toNat) + d.toNat)] := by simp [beN, beVal, List.range_succ]
    rw [e]
    have q1 : UInt8.ofNat ((256 * (256 * (256 * a.toNat + b.toNat) + c.toNat) + d.toNat) / 16777216) = a := by apply UInt8.toNat_inj.1; rw [UInt8.toNat_ofNat']; omega
    have q2 : UInt8.ofNat ((256 * (256 * (256 * a.toNat + b.toNat) + c.toNat) + d.toNat) / 65536) = b := by apply UInt8.toNat_inj.1; rw [UInt8.toNat_ofNat']; omega
    have q3 : UInt8.ofNat ((256 * (256 * (256 * a.toNat + b.toNat) + c.toNat) + d.toNat) / 256) = c := by apply UInt8.toNat_inj.1; rw [UInt8.toNat_ofNat']; omega
    have q4 : UInt8.ofNat (256 * (256 * (256 * a.toNat + b.toNat) + c.toNat) + d.toNat) = d := by apply UInt8.toNat_inj.1; rw [UInt8.toNat_ofNat']; omega
    rw [q1, q2, q3, q4]

/-- A record that was found: its number, its data, where it ends. -/
structure Nt where
  seq : Nat
  dat : List UInt8
  fin : Nat
  deriving DecidableEq
def bkOk (d : List UInt8) : Bool := decide (1 ≤ d.length) && decide (d.length ≤ 40)
theorem bkOk_iff {d : List UInt8} : bkOk d = true ↔ 1 ≤ d.length ∧ d.length ≤ 40 := by simp [bkOk]
def bkBody (s : Nat) (d : List UInt8) : List UInt8 := UInt8.ofNat d.length :: (beN 4 s ++ d)
def bkPrint (s : Nat) (d : List UInt8) : List UInt8 := crcSeal (bkBody s d) ++ [0]
theorem bkBody_len (s : Nat) (d : List UInt8) : (bkBody s d).length = 5 + d.length := by simp [bkBody, beN_len]; omega
theorem bkPrint_len (s : Nat) (d : List UInt8) : (bkPrint s d).length = 8 + d.length := by simp [bkPrint, crcSum_seal_len, bkBody_len]; omega
def bkHd (xs : List UInt8) : Nat := (xs.headD 0).toNat
theorem bkHd_lt (xs : List UInt8) : bkHd xs < 256 := UInt8.toNat_lt _
/-- The record with which bytes begin. -/
def bkFirst (xs : List UInt8) : Option (Nat × List UInt8) :=
  if xs.length = 0 ∨ bkHd xs = 0 ∨ 40 < bkHd xs ∨ xs.length < 8 + bkHd xs then none
  else match crcOpen (xs.take (7 + bkHd xs)) with
    | none => none
    | some ys => if xs[7 + bkHd xs]?.getD 0 = 0 then some (beVal ((ys.drop 1).take 4), ys.drop 5) else none
theorem bkFirst_print {s : Nat} {d : List UInt8} (r : List UInt8) (h : bkOk d = true) (hs : s < 4294967296) : bkFirst (bkPrint s d ++ r) = some (s, d) := by
  rw [bkOk_iff] at h
  have hh : bkHd (bkPrint s d ++ r) = d.length := by
    simp [bkHd, bkPrint, crcSeal, bkBody]
    try omega
  have hl : (bkPrint s d ++ r).length = 8 + d.length + r.length := by rw [List.length_append, bkPrint_len]
  unfold bkFirst
  rw [hh, if_neg (by rw [hl]; omega)]
  have hc : (crcSeal (bkBody s d)).length = 7 + d.length := by rw [crcSum_seal_len, bkBody_len]; omega
  have ht : (bkPrint s d ++ r).take (7 + d.length) = crcSeal (bkBody s d) := by
    unfold bkPrint
    rw [List.append_assoc, List.take_append_of_le_length (by omega), List.take_of_length_le (by omega)]
  rw [ht, opn_seal]
  have hz : (bkPrint s d ++ r)[7 + d.length]? = some 0 := by
    unfold bkPrint
    rw [List.append_assoc, List.getElem?_append_right (by omega), hc, Nat.sub_self]
    rfl
  simp only [hz, Option.getD_some, if_true]
  congr 2
  · unfold bkBody
    rw [List.drop_succ_cons, List.drop_zero, List.take_append_of_le_length (by rw [beN_len]; omega), List.take_of_length_le (by rw [beN_len]; omega), be4_val s hs]
theorem bkFirst_some {xs : List UInt8} {s : Nat} {d : List UInt8} (h : bkFirst xs = some (s, d)) : bkOk d = true ∧ s < 4294967296 ∧ ∃ r, xs = bkPrint s d ++ r := by
  unfold bkFirst at h
  split at h
  · cases h
  · rename_i hn
    have hn' : xs.length ≠ 0 ∧ bkHd xs ≠ 0 ∧ bkHd xs ≤ 40 ∧ 8 + bkHd xs ≤ xs.length := by omega
    obtain ⟨h0, h1, h2, h3⟩ := hn'
    split at h
    · cases h
    · rename_i ys hy
      split at h
      · rename_i hz
        cases h
        have hl : ys.length = 5 + bkHd xs := by
          have := opn_len hy
          rw [List.length_take] at this
          omega
        have hb := opn_back hy
        have h4 : ((ys.drop 1).take 4).length = 4 := by rw [List.length_take, List.length_drop]; omega
        have hd : (ys.drop 5).length = bkHd xs := by rw [List.length_drop]; omega
        have hv := beVal_lt ((ys.drop 1).take 4)
        rw [h4] at hv
        refine ⟨by rw [bkOk_iff, hd]; omega, by omega, xs.drop (8 + bkHd xs), ?_⟩
        have hbody : bkBody (beVal ((ys.drop 1).take 4)) (ys.drop 5) = ys := by
          unfold bkBody
          rw [be4_back _ h4, hd]
          have e1 : ys.drop 5 = (ys.drop 1).drop 4 := by rw [List.drop_drop]
          rw [e1, List.take_append_drop]
          cases ys with
          | nil => rw [List.length_nil] at hl; omega
          | cons y ys =>
            rw [List.drop_succ_cons, List.drop_zero]
            congr 1
            have hx : xs.headD 0 = y := by
              cases xs with
              | nil => simp at h0
              | cons x xs =>
                rw [show 7 + bkHd (x :: xs) = (6 + bkHd (x :: xs)) + 1 by omega, List.take_succ_cons] at hb
                unfold crcSeal at hb
                rw [List.cons_append] at hb
                exact (List.cons.inj hb).1.symm
            rw [bkHd, hx]
            exact UInt8.ofNat_toNat
        unfold bkPrint
        rw [hbody, hb, List.append_assoc]
        have hz2 : xs.drop (7 + bkHd xs) = [0] ++ xs.drop (8 + bkHd xs) := by
          have hlt : 7 + bkHd xs < xs.length := by omega
          rw [List.drop_eq_getElem_cons hlt]
          rw [List.getElem?_eq_getElem hlt] at hz
          rw [show xs[7 + bkHd xs] = 0 from hz, show 7 + bkHd xs + 1 = 8 + bkHd xs by omega]
          rfl
        rw [← hz2, List.take_append_drop]
      · cases h
theorem bkFirst_len {xs : List UInt8} {s : Nat} {d : List UInt8} (h : bkFirst xs = some (s, d)) : 8 + d.length ≤ xs.length ∧ 1 ≤ d.length ∧ d.length ≤ 40 ∧ s < 4294967296 := by
  obtain ⟨h1, h2, r, rfl⟩ := bkFirst_some h
  rw [bkOk_iff] at h1
  refine ⟨?_, h1.1, h1.2, h2⟩
  rw [List.length_append, bkPrint_len]
  omega
theorem bkPrint_inj {s t : Nat} {d e : List UInt8} (hd : bkOk d = true) (he : bkOk e = true) (hs : s < 4294967296) (ht : t < 4294967296) (h : bkPrint s d = bkPrint t e) : s = t ∧ d = e := by
  have h1 := bkFirst_print [] hd hs
  have h2 := bkFirst_print [] he ht
  rw [h, h2] at h1
  simpa [eq_comm] using h1

def bkNext (p : Option Nat) (s : Nat) : Bool := match p with
  | none => true
  | some q => s == q + 1
def bkGo : Nat → Option Nat → Nat → List UInt8 → List Nt
  | 0, _, _, _ => []
  | f + 1, p, a, xs => match bkFirst xs with
    | none => []
    | some (s, d) => if bkNext p s = true then ⟨s, d, a + (8 + d.length)⟩ :: bkGo f (some s) (a + (8 + d.length)) (xs.drop (8 + d.length)) else []
theorem bkGo_fuel : ∀ (f g : Nat) (p : Option Nat) (a : Nat) (xs : List UInt8), xs.length < f → xs.length < g → bkGo f p a xs = bkGo g p a xs := by
  intro f
  induction f with
  | zero => intro g p a xs h; omega
  | succ f ih =>
    intro g p a xs hf hg
    cases g with
    | zero => omega
    | succ g =>
      unfold bkGo
      split
      · rfl
      · rename_i s d hx
        have hl := bkFirst_len hx
        split
        · rw [ih g _ _ _ (by rw [List.length_drop]; omega) (by rw [List.length_drop]; omega)]
        · rfl
/-- What stands from a place on, behind a record of number p. -/
def bkAll (p : Option Nat) (a : Nat) (xs : List UInt8) : List Nt := bkGo (xs.length + 1) p a xs
theorem bkAll_none {p : Option Nat} {a : Nat} {xs : List UInt8} (h : bkFirst xs = none) : bkAll p a xs = [] := by simp [bkAll, bkGo, h]
theorem bkAll_no {p : Option Nat} {a s : Nat} {d xs : List UInt8} (h : bkFirst xs = some (s, d)) (hp : bkNext p s = false) : bkAll p a xs = [] := by simp [bkAll, bkGo, h, hp]
theorem bkAll_yes {p : Option Nat} {a s : Nat} {d xs : List UInt8} (h : bkFirst xs = some (s, d)) (hp : bkNext p s = true) : bkAll p a xs = ⟨s, d, a + (8 + d.length)⟩ :: bkAll (some s) (a + (8 + d.length)) (xs.drop (8 + d.length)) := by
  have hl := bkFirst_len h
  have h1 : bkAll p a xs = ⟨s, d, a + (8 + d.length)⟩ :: bkGo xs.length (some s) (a + (8 + d.length)) (xs.drop (8 + d.length)) := by
    unfold bkAll
    conv => lhs; unfold bkGo
    simp only [h, hp, if_true]
  rw [h1]
  congr 1
  exact bkGo_fuel _ _ _ _ _ (by rw [List.length_drop]; omega) (by omega)
def bkNotes (xs : List UInt8) : List Nt := bkAll none 0 xs
def bkBlank (xs : List UInt8) (k : Nat) : Bool := (xs.drop k).all (· == 255)
end Go.Proofs.YtcppmihambcihaaDoor
