/- Sums of sixteen bits, as plain functions: no Go and no memory. 'crcT' turns a sum by one bit; it is linear, and only nothing is turned to nothing. -/
namespace Go.Proofs.YtcppmihambcihaaDoor

def crcT (s : BitVec 16) : BitVec 16 := if s.msb then (s <<< 1) ^^^ 0x1021#16 else s <<< 1
def crcN : Nat → BitVec 16 → BitVec 16
  | 0, s => s
  | n + 1, s => crcN n (crcT s)
/-- A byte, at the top of sixteen bits. -/
def top8 (c : UInt8) : BitVec 16 := (c.toBitVec.setWidth 16) <<< 8
def crcAdd (s : BitVec 16) (l : List UInt8) : BitVec 16 := l.foldl (fun s c => crcN 8 (s ^^^ top8 c)) s
def crcSum (l : List UInt8) : BitVec 16 := crcAdd 0xffff#16 l
def hi8 (s : BitVec 16) : UInt8 := ⟨(s >>> 8).setWidth 8⟩
def lo8 (s : BitVec 16) : UInt8 := ⟨s.setWidth 8⟩
def crcSeal (l : List UInt8) : List UInt8 := l ++ [hi8 (crcSum l), lo8 (crcSum l)]

theorem crcN_succ (n : Nat) (s : BitVec 16) : crcN (n + 1) s = crcT (crcN n s) := by
  induction n generalizing s with
  | zero => rfl
  | succ n ih => exact ih (crcT s)
theorem crcN_add (m n : Nat) (s : BitVec 16) : crcN (m + n) s = crcN m (crcN n s) := by
  induction n generalizing s with
  | zero => rfl
  | succ n ih => exact ih (crcT s)

theorem crcT_xor (a b : BitVec 16) : crcT (a ^^^ b) = crcT a ^^^ crcT b := by
  unfold crcT
  rw [BitVec.msb_xor, BitVec.shiftLeft_xor_distrib]
  cases a.msb <;> cases b.msb <;> simp only [Bool.xor_false, Bool.xor_true, Bool.not_false, Bool.not_true, if_true, if_false, Bool.false_eq_true]
  · rw [BitVec.xor_assoc]
  · rw [BitVec.xor_assoc, BitVec.xor_comm (b <<< 1), ← BitVec.xor_assoc]
  · have : (a <<< 1 ^^^ 4129#16) ^^^ (b <<< 1 ^^^ 4129#16) = (a <<< 1 ^^^ b <<< 1) ^^^ (4129#16 ^^^ 4129#16) := by ac_rfl
    rw [this, BitVec.xor_self, BitVec.xor_zero]
theorem crcN_xor (n : Nat) (a b : BitVec 16) : crcN n (a ^^^ b) = crcN n a ^^^ crcN n b := by
  induction n generalizing a b with
  | zero => rfl
  | succ n ih => show crcN n (crcT _) = _; rw [crcT_xor, ih]; rfl
theorem crcT_zero : crcT 0#16 = 0#16 := by decide
theorem crcN_zero (n : Nat) : crcN n 0#16 = 0#16 := by
  induction n with
  | zero => rfl
  | succ n ih => show crcN n (crcT _) = _; rw [crcT_zero, ih]
theorem crcT_inj {s : BitVec 16} (h : crcT s = 0#16) : s = 0#16 := by
  unfold crcT at h
  split at h
  · have := congrArg (fun x : BitVec 16 => x.getLsbD 0) h
    simp at this
  · rename_i hm
    apply BitVec.eq_of_getLsbD_eq
    intro i hi
    by_cases h15 : i = 15
    · subst h15
      have : s.msb = false := by simpa using hm
      rw [BitVec.msb_eq_getLsbD_last] at this
      simpa using this
    · have := congrArg (fun x : BitVec 16 => x.getLsbD (i + 1)) h
      simp at this
      have := this (by omega)
      simpa using this
theorem crcN_inj {n : Nat} {s : BitVec 16} (h : crcN n s = 0#16) : s = 0#16 := by
  induction n generalizing s with
  | zero => exact h
  | succ n ih => exact crcT_inj (ih h)

theorem xor_eq_zero {a b : BitVec 16} (h : a ^^^ b = 0#16) : a = b := by
  have : (a ^^^ b) ^^^ b = 0#16 ^^^ b := by rw [h]
  rwa [BitVec.xor_assoc, BitVec.xor_self, BitVec.xor_zero, BitVec.zero_xor] at this
theorem crcN_inj2 {n : Nat} {a b : BitVec 16} (h : crcN n a = crcN n b) : a = b := by
  apply xor_eq_zero
  apply crcN_inj (n := n)
  rw [crcN_xor, h, BitVec.xor_self]

theorem crcAdd_nil (s : BitVec 16) : crcAdd s [] = s := rfl
theorem crcAdd_cons (s : BitVec 16) (c : UInt8) (l : List UInt8) : crcAdd s (c :: l) = crcAdd (crcN 8 (s ^^^ top8 c)) l := rfl
theorem crcAdd_append (s : BitVec 16) (l m : List UInt8) : crcAdd s (l ++ m) = crcAdd (crcAdd s l) m := by
  unfold crcAdd; rw [List.foldl_append]
theorem crcAdd_snoc (s : BitVec 16) (l : List UInt8) (c : UInt8) : crcAdd s (l ++ [c]) = crcN 8 (crcAdd s l ^^^ top8 c) := by
  rw [crcAdd_append]; rfl

/-- A low byte, turned by eight, stands at the top. -/
theorem crcN8_low (c : UInt8) : crcN 8 (c.toBitVec.setWidth 16) = top8 c := by
  have h : ∀ c : Fin 256, crcN 8 (BitVec.ofFin (w := 16) ⟨c.1, by omega⟩) = (BitVec.ofFin (w := 16) ⟨c.1, by omega⟩) <<< 8 := by decide +kernel
  have hc : c.toNat < 256 := c.toNat_lt
  have := h ⟨c.toNat, hc⟩
  have e : c.toBitVec.setWidth 16 = BitVec.ofFin (w := 16) ⟨c.toNat, by omega⟩ := by
    apply BitVec.eq_of_toNat_eq
    simp
  unfold top8
  rw [e]
  exact this

theorem top8_eq_low {c d : UInt8} (h : top8 c = d.toBitVec.setWidth 16) : c = 0 ∧ d = 0 := by
  have hc := congrArg BitVec.toNat h
  unfold top8 at hc
  simp [Nat.shiftLeft_eq] at hc
  have h1 := c.toNat_lt_size
  have h2 := d.toNat_lt_size
  simp [UInt8.size] at h1 h2
  have hc0 : c.toNat = 0 := by omega
  have hd0 : d.toNat = 0 := by omega
  exact ⟨UInt8.toNat.inj hc0, UInt8.toNat.inj hd0⟩

theorem split8 (s : BitVec 16) : s = top8 (hi8 s) ^^^ (lo8 s).toBitVec.setWidth 16 := by
  apply BitVec.eq_of_getLsbD_eq
  intro i hi
  unfold top8 hi8 lo8
  simp
  by_cases h : i < 8
  · simp [h]; omega
  · have h8 : i - 8 < 8 := by omega
    have e : 8 + (i - 8) = i := by omega
    simp [h, h8, e, hi]; omega

theorem top8_xor (a b : UInt8) : top8 (a ^^^ b) = top8 a ^^^ top8 b := by
  unfold top8
  rw [UInt8.toBitVec_xor, BitVec.setWidth_xor, BitVec.shiftLeft_xor_distrib]

/-- What is sealed sums to nothing; and only with its sum behind it does it. -/
theorem crcAdd_two (s : BitVec 16) (x y : UInt8) : crcAdd s [x, y] = 0#16 ↔ x = hi8 s ∧ y = lo8 s := by
  show crcN 8 (crcN 8 (s ^^^ top8 x) ^^^ top8 y) = 0#16 ↔ _
  have e : s ^^^ top8 x = top8 (hi8 s ^^^ x) ^^^ (lo8 s).toBitVec.setWidth 16 := by
    conv => lhs; rw [split8 s]
    rw [top8_xor, BitVec.xor_assoc, BitVec.xor_assoc, BitVec.xor_comm (top8 x)]
  have e2 : crcN 8 (s ^^^ top8 x) = crcN 8 (top8 (hi8 s ^^^ x)) ^^^ top8 (lo8 s) := by rw [e, crcN_xor, crcN8_low]
  constructor
  · intro h
    have h1 := xor_eq_zero (crcN_inj h)
    rw [e2] at h1
    have h2 : crcN 8 (top8 (hi8 s ^^^ x)) = crcN 8 ((y ^^^ lo8 s).toBitVec.setWidth 16) := by
      rw [crcN8_low, top8_xor y, ← h1, BitVec.xor_assoc, BitVec.xor_self, BitVec.xor_zero]
    have h3 := top8_eq_low (crcN_inj2 h2)
    have hx : hi8 s = x := by
      have := congrArg (· ^^^ x) h3.1
      simpa [UInt8.xor_assoc] using this
    have hy : y = lo8 s := by
      have := congrArg (· ^^^ lo8 s) h3.2
      simpa [UInt8.xor_assoc] using this
    exact ⟨hx.symm, hy⟩
  · rintro ⟨rfl, rfl⟩
    rw [e2, UInt8.xor_self]
    have : top8 0 = 0#16 := by decide
    rw [this, crcN_zero, BitVec.zero_xor, BitVec.xor_self, crcN_zero]

theorem crcSum_seal (l : List UInt8) : crcSum (crcSeal l) = 0#16 := by
  unfold crcSeal
  show crcAdd _ (l ++ _) = _
  rw [crcAdd_append]
  exact (crcAdd_two _ _ _).2 ⟨rfl, rfl⟩

theorem crcSum_zero_iff (l : List UInt8) (h : 2 ≤ l.length) : crcSum l = 0#16 ↔ l = crcSeal (l.take (l.length - 2)) := by
  obtain ⟨x, y, hxy⟩ : ∃ x y, l.drop (l.length - 2) = [x, y] := by
    have hl : (l.drop (l.length - 2)).length = 2 := by rw [List.length_drop]; omega
    match h' : l.drop (l.length - 2), hl with
    | [x, y], _ => exact ⟨x, y, rfl⟩
  have hs : l = l.take (l.length - 2) ++ [x, y] := by rw [← hxy, List.take_append_drop]
  generalize l.take (l.length - 2) = m at hs ⊢
  subst hs
  unfold crcSeal
  rw [show crcSum (m ++ [x, y]) = crcAdd (crcSum m) [x, y] from crcAdd_append _ _ _, crcAdd_two]
  simp

/-- Sums of as many bytes are xored as the bytes are. -/
theorem crcAdd_xor (l m : List UInt8) (h : l.length = m.length) (s t : BitVec 16) : crcAdd (s ^^^ t) (List.zipWith (· ^^^ ·) l m) = crcAdd s l ^^^ crcAdd t m := by
  induction l generalizing m s t with
  | nil => cases m <;> simp_all [crcAdd]
  | cons a l ih =>
    cases m with
    | nil => simp at h
    | cons b m =>
      show crcAdd (crcN 8 (s ^^^ t ^^^ top8 (a ^^^ b))) (List.zipWith _ l m) = _
      have e : s ^^^ t ^^^ top8 (a ^^^ b) = (s ^^^ top8 a) ^^^ (t ^^^ top8 b) := by rw [top8_xor]; ac_rfl
      rw [e, crcN_xor, ih m (by simpa using h)]
      rfl
theorem crcSum_xor (l m : List UInt8) (h : l.length = m.length) : crcAdd 0#16 (List.zipWith (· ^^^ ·) l m) = crcSum l ^^^ crcSum m := by
  unfold crcSum
  rw [← crcAdd_xor l m h, BitVec.xor_self]
theorem crcSum_seal_len (l : List UInt8) : (crcSeal l).length = l.length + 2 := by simp [crcSeal]
end Go.Proofs.YtcppmihambcihaaDoor
