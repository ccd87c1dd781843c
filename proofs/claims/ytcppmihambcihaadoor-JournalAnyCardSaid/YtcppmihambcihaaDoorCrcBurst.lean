/- Bursts: if some bits are turned, all within sixteen that stand one behind the other, the sum is another one. Plain functions: no Go and no memory. -/
import Derived.Test.YtcppmihambcihaaDoorCrcPure
namespace Go.Proofs.YtcppmihambcihaaDoor
set_option linter.unusedVariables false
set_option linter.unusedSimpArgs false

def bit16 (b : Bool) : BitVec 16 := if b then 0x8000#16 else 0#16
def crcF (s : BitVec 16) (b : Bool) : BitVec 16 := crcT (s ^^^ bit16 b)
def bits8 (c : UInt8) : List Bool := [c.toBitVec.getMsbD 0, c.toBitVec.getMsbD 1, c.toBitVec.getMsbD 2, c.toBitVec.getMsbD 3, c.toBitVec.getMsbD 4, c.toBitVec.getMsbD 5, c.toBitVec.getMsbD 6, c.toBitVec.getMsbD 7]
def bitsL (l : List UInt8) : List Bool := l.flatMap bits8

theorem crcF_lin (bs : List Bool) (s : BitVec 16) : bs.foldl crcF s = crcN bs.length s ^^^ bs.foldl crcF 0#16 := by
  induction bs generalizing s with
  | nil => simp [crcN]
  | cons b bs ih =>
    rw [List.foldl_cons, List.foldl_cons, ih (crcF s b), ih (crcF 0#16 b)]
    unfold crcF
    rw [crcT_xor, crcT_xor 0#16, crcN_xor, crcT_zero, BitVec.zero_xor, List.length_cons]
    show _ = crcN bs.length (crcT s) ^^^ _
    rw [BitVec.xor_assoc]

theorem byte_bits (c : UInt8) : (bits8 c).foldl crcF 0#16 = crcN 8 (top8 c) := by
  have h : ∀ c : Fin 256, (bits8 ⟨⟨c⟩⟩).foldl crcF 0#16 = crcN 8 (top8 ⟨⟨c⟩⟩) := by decide +kernel
  exact h c.toBitVec.toFin

theorem crcAdd_bits (l : List UInt8) (s : BitVec 16) : crcAdd s l = (bitsL l).foldl crcF s := by
  induction l generalizing s with
  | nil => rfl
  | cons c l ih =>
    rw [crcAdd_cons, ih]
    show _ = (bits8 c ++ bitsL l).foldl crcF s
    rw [List.foldl_append, crcF_lin (bits8 c) s, byte_bits, show (bits8 c).length = 8 from rfl, ← crcN_xor]

/-- Bits as a word, the first one the highest. -/
def wordOf : List Bool → BitVec 16
  | [] => 0#16
  | b :: bs => bit16 b ^^^ (wordOf bs >>> 1)
theorem bit16_at (b : Bool) (i : Nat) (hi : i < 16) : (bit16 b).getMsbD i = (decide (i = 0) && b) := by
  have h : ∀ (b : Bool) (i : Fin 16), (bit16 b).getMsbD i = (decide (i.1 = 0) && b) := by decide
  exact h b ⟨i, hi⟩
theorem wordOf_at (bs : List Bool) (i : Nat) (hi : i < 16) : (wordOf bs).getMsbD i = bs.getD i false := by
  induction bs generalizing i with
  | nil => simp [wordOf]
  | cons b bs ih =>
    unfold wordOf
    rw [BitVec.getMsbD_xor, bit16_at b i hi]
    cases i with
    | zero => simp [BitVec.getMsbD_ushiftRight]
    | succ i =>
      rw [BitVec.getMsbD_ushiftRight]
      have := ih i (by omega)
      simp [this, hi]
theorem crcT_back (w : BitVec 16) (h : w.getMsbD 15 = false) : crcT (w >>> 1) = w := by
  unfold crcT
  have hm : (w >>> 1).msb = false := by rw [BitVec.msb_ushiftRight]; simp
  rw [hm]
  simp only [Bool.false_eq_true, if_false]
  apply BitVec.eq_of_getLsbD_eq
  intro i hi
  rw [BitVec.getMsbD_eq_getLsbD] at h
  simp at h
  cases i with
  | zero => simp [h]
  | succ i =>
    have e : 1 + i = i + 1 := by omega
    simp [hi, e]
theorem crcF_word (bs : List Bool) (h : bs.length ≤ 16) : bs.foldl crcF 0#16 = crcN bs.length (wordOf bs) := by
  induction bs with
  | nil => rfl
  | cons b bs ih =>
    have hl : bs.length ≤ 15 := by simpa using h
    rw [List.foldl_cons, crcF_lin, ih (by omega), List.length_cons]
    unfold crcF
    rw [BitVec.zero_xor]
    show crcN bs.length (crcT (bit16 b)) ^^^ _ = crcN bs.length (crcT (wordOf (b :: bs)))
    rw [wordOf, crcT_xor, crcN_xor, crcT_back]
    rw [wordOf_at bs 15 (by omega)]
    simp [List.getD_eq_getElem?_getD, List.getElem?_eq_none (by omega : bs.length ≤ 15)]
theorem crcF_false (n : Nat) (s : BitVec 16) : (List.replicate n false).foldl crcF s = crcN n s := by
  induction n generalizing s with
  | zero => rfl
  | succ n ih =>
    rw [List.replicate_succ, List.foldl_cons, ih]
    have : crcF s false = crcT s := by unfold crcF bit16; simp
    rw [this]
    rfl
/-- The sum of a burst is something. -/
theorem burst_ne (a z : Nat) (bs : List Bool) (h : bs.length ≤ 16) (ht : true ∈ bs) : (List.replicate a false ++ bs ++ List.replicate z false).foldl crcF 0#16 ≠ 0#16 := by
  rw [List.foldl_append, List.foldl_append, crcF_false a, crcN_zero, crcF_word bs h, crcF_false]
  intro h0
  have h1 := crcN_inj (crcN_inj h0)
  obtain ⟨i, hi, hb⟩ := List.getElem_of_mem ht
  have := wordOf_at bs i (by omega)
  rw [h1] at this
  simp [List.getD_eq_getElem?_getD, List.getElem?_eq_getElem hi, hb] at this

/-! ### The bits that are turned -/
def turn1 (s : List UInt8) (k : Nat) : List UInt8 := s.set (k / 8) (s.getD (k / 8) 0 ^^^ (128 >>> (UInt8.ofNat (k % 8))))
def burst (s : List UInt8) (at_ : Nat) (mask : Nat) : Nat → List UInt8
  | 0 => s
  | i + 1 => if mask / 2 ^ i % 2 = 1 ∧ at_ + i < 8 * s.length then turn1 (burst s at_ mask i) (at_ + i) else burst s at_ mask i
theorem burst_len (s : List UInt8) (at_ mask i : Nat) : (burst s at_ mask i).length = s.length := by
  induction i with
  | zero => rfl
  | succ i ih => unfold burst; split <;> simp [turn1, ih]
theorem turn1_xor (s d : List UInt8) (h : s.length = d.length) (k : Nat) : turn1 (List.zipWith (· ^^^ ·) s d) k = List.zipWith (· ^^^ ·) s (turn1 d k) := by
  unfold turn1
  apply List.ext_getElem
  · simp
  · intro i h1 h2
    simp at h1
    have hd : i < d.length := by omega
    simp only [List.getElem_set, List.getElem_zipWith]
    by_cases e : k / 8 = i
    · subst e
      simp [List.getD_eq_getElem?_getD, h1, hd, UInt8.xor_assoc]
    · simp [e]
theorem zip_zero (s : List UInt8) : List.zipWith (· ^^^ ·) s (List.replicate s.length (0 : UInt8)) = s := by
  induction s with
  | nil => rfl
  | cons a s ih => rw [List.length_cons, List.replicate_succ, List.zipWith_cons_cons, ih, UInt8.xor_zero]
theorem burst_xor (s : List UInt8) (at_ mask i : Nat) : burst s at_ mask i = List.zipWith (· ^^^ ·) s (burst (List.replicate s.length 0) at_ mask i) := by
  induction i with
  | zero => exact (zip_zero s).symm
  | succ i ih =>
    unfold burst
    rw [List.length_replicate]
    split
    · rw [ih, turn1_xor _ _ (by rw [burst_len, List.length_replicate])]
    · exact ih
theorem bitsL_cons (c : UInt8) (l : List UInt8) : bitsL (c :: l) = bits8 c ++ bitsL l := rfl
theorem bitsL_len (l : List UInt8) : (bitsL l).length = 8 * l.length := by
  induction l with
  | nil => rfl
  | cons c l ih => rw [bitsL_cons, List.length_append, ih, List.length_cons]; show 8 + _ = _; omega
theorem bits8_at (c : UInt8) (k : Nat) (hk : k < 8) : (bits8 c)[k]? = some (c.toBitVec.getMsbD k) := by
  unfold bits8
  match k, hk with
  | 0, _ | 1, _ | 2, _ | 3, _ | 4, _ | 5, _ | 6, _ | 7, _ => rfl
theorem bitsL_at (l : List UInt8) (k : Nat) (hk : k < 8 * l.length) : (bitsL l)[k]? = some ((l.getD (k / 8) 0).toBitVec.getMsbD (k % 8)) := by
  induction l generalizing k with
  | nil => simp at hk
  | cons c l ih =>
    rw [bitsL_cons]
    have h8 : (bits8 c).length = 8 := rfl
    by_cases h : k < 8
    · rw [List.getElem?_append_left (by omega), bits8_at c k h]
      have e1 : k / 8 = 0 := by omega
      have e2 : k % 8 = k := by omega
      simp [e1, e2]
    · rw [List.getElem?_append_right (by omega), h8, ih (k - 8) (by simp at hk; omega)]
      have e1 : k / 8 = (k - 8) / 8 + 1 := by omega
      have e2 : (k - 8) % 8 = k % 8 := by omega
      simp [e1, e2]
theorem turn_bit (c : UInt8) (j k : Nat) (hj : j < 8) (hk : k < 8) : (c ^^^ (128 >>> (UInt8.ofNat j))).toBitVec.getMsbD k = (c.toBitVec.getMsbD k ^^ decide (k = j)) := by
  have h : ∀ (j k : Fin 8), ((128 : UInt8) >>> (UInt8.ofNat j.1)).toBitVec.getMsbD k.1 = decide (k.1 = j.1) := by decide
  rw [UInt8.toBitVec_xor, BitVec.getMsbD_xor, h ⟨j, hj⟩ ⟨k, hk⟩]
theorem turn1_bits (s : List UInt8) (k p : Nat) (hk : k < 8 * s.length) (hp : p < 8 * s.length) : (bitsL (turn1 s k))[p]? = ((bitsL s)[p]?).map (fun b => b ^^ decide (p = k)) := by
  have hl : (turn1 s k).length = s.length := by simp [turn1]
  rw [bitsL_at _ _ (by omega), bitsL_at _ _ hp, Option.map_some]
  congr 1
  have hi : p / 8 < s.length := by omega
  by_cases e : k / 8 = p / 8
  · have : (turn1 s k).getD (p / 8) 0 = s.getD (p / 8) 0 ^^^ (128 >>> (UInt8.ofNat (k % 8))) := by
      unfold turn1
      rw [e]
      simp [List.getD_eq_getElem?_getD, hi]
    rw [this, turn_bit _ _ _ (by omega) (by omega)]
    congr 1
    exact decide_eq_decide.2 ⟨fun h => by omega, fun h => by omega⟩
  · have : (turn1 s k).getD (p / 8) 0 = s.getD (p / 8) 0 := by
      unfold turn1
      simp [List.getD_eq_getElem?_getD, e]
    have hne : p ≠ k := by intro h; exact e (by rw [h])
    rw [this]
    simp [hne]
theorem zeros_bits (n p : Nat) (hp : p < 8 * n) : (bitsL (List.replicate n (0 : UInt8)))[p]? = some false := by
  rw [bitsL_at _ _ (by simpa using hp)]
  have : (List.replicate n (0 : UInt8)).getD (p / 8) 0 = 0 := by
    simp [List.getD_eq_getElem?_getD, List.getElem?_replicate]
    split <;> rfl
  rw [this]
  simp [BitVec.getMsbD]
theorem burst_bits (n at_ mask i p : Nat) (hi : at_ + i ≤ 8 * n) (hp : p < 8 * n) : (bitsL (burst (List.replicate n 0) at_ mask i))[p]? = some (decide (at_ ≤ p ∧ p < at_ + i ∧ mask / 2 ^ (p - at_) % 2 = 1)) := by
  induction i with
  | zero =>
    show (bitsL (List.replicate n 0))[p]? = _
    rw [zeros_bits n p hp]
    congr 1
    exact (decide_eq_false (by omega)).symm
  | succ i ih =>
    have ih := ih (by omega)
    unfold burst
    rw [List.length_replicate]
    split
    · rename_i h
      rw [turn1_bits _ _ _ (by rw [burst_len, List.length_replicate]; omega) (by rw [burst_len, List.length_replicate]; omega), ih, Option.map_some]
      congr 1
      by_cases e : p = at_ + i
      · subst e
        have e2 : at_ + i - at_ = i := by omega
        rw [e2]
        simp [h.1]
      · have : (at_ ≤ p ∧ p < at_ + i ∧ mask / 2 ^ (p - at_) % 2 = 1) ↔ (at_ ≤ p ∧ p < at_ + (i + 1) ∧ mask / 2 ^ (p - at_) % 2 = 1) :=
          ⟨fun h => ⟨h.1, by omega, h.2.2⟩, fun h => ⟨h.1, by omega, h.2.2⟩⟩
        simp only [e, decide_false, Bool.xor_false]
        exact decide_eq_decide.2 this
    · rename_i h
      rw [ih]
      congr 1
      refine decide_eq_decide.2 ⟨fun h => ⟨h.1, by omega, h.2.2⟩, fun h' => ⟨h'.1, ?_, h'.2.2⟩⟩
      by_cases e : p = at_ + i
      · subst e
        have e2 : at_ + i - at_ = i := by omega
        rw [e2] at h'
        exact absurd ⟨h'.2.2, by omega⟩ h
      · omega
def maskBits (mask : Nat) : List Bool := (List.range 16).map fun i => decide (mask / 2 ^ i % 2 = 1)
theorem burst_zeros (n at_ mask : Nat) (h : at_ + 16 ≤ 8 * n) : bitsL (burst (List.replicate n 0) at_ mask 16) = List.replicate at_ false ++ maskBits mask ++ List.replicate (8 * n - (at_ + 16)) false := by
  apply List.ext_getElem?
  intro p
  by_cases hp : p < 8 * n
  · rw [burst_bits n at_ mask 16 p h hp]
    by_cases h1 : p < at_
    · rw [List.append_assoc, List.getElem?_append_left (by simpa using h1), List.getElem?_replicate, if_pos h1]
      congr 1
      exact decide_eq_false (by omega)
    · by_cases h2 : p < at_ + 16
      · rw [List.getElem?_append_left (by simp [maskBits]; omega), List.getElem?_append_right (by simp; omega), List.length_replicate]
        unfold maskBits
        rw [List.getElem?_map, List.getElem?_range (by omega), Option.map_some]
        congr 1
        exact decide_eq_decide.2 ⟨fun h => h.2.2, fun h => ⟨by omega, h2, h⟩⟩
      · rw [List.getElem?_append_right (by simp [maskBits]; omega), List.getElem?_replicate, if_pos (by simp [maskBits]; omega)]
        congr 1
        exact decide_eq_false (by omega)
  · rw [List.getElem?_eq_none (by rw [bitsL_len, burst_len, List.length_replicate]; omega), List.getElem?_eq_none (by simp [maskBits]; omega)]
theorem mask_true (mask : Nat) (h0 : mask ≠ 0) (h : mask < 65536) : true ∈ maskBits mask := by
  have hb : ∃ i, i < 16 ∧ mask / 2 ^ i % 2 = 1 := by
    have : ∃ i, mask.testBit i = true := Nat.exists_testBit_of_ne_zero h0
    obtain ⟨i, hi⟩ := this
    have hlt : i < 16 := by
      rcases Nat.lt_or_ge i 16 with h' | h'
      · exact h'
      · have := Nat.testBit_lt_two_pow (x := mask) (i := i) (Nat.lt_of_lt_of_le h (show 65536 ≤ 2 ^ i from Nat.pow_le_pow_right (n := 2) (by omega) h'))
        rw [this] at hi
        cases hi
    refine ⟨i, hlt, ?_⟩
    rw [Nat.testBit_eq_decide_div_mod_eq] at hi
    simpa using hi
  obtain ⟨i, hi, hm⟩ := hb
  unfold maskBits
  exact List.mem_map.2 ⟨i, List.mem_range.2 hi, by simp [hm]⟩
theorem burst_sum (s : List UInt8) (at_ mask : Nat) (h : at_ + 16 ≤ 8 * s.length) (h0 : mask ≠ 0) (hm : mask < 65536) : crcSum (burst s at_ mask 16) ≠ crcSum s := by
  intro he
  rw [burst_xor] at he
  have hx := crcAdd_xor s (burst (List.replicate s.length 0) at_ mask 16) (by rw [burst_len, List.length_replicate]) 0xffff#16 0#16
  rw [BitVec.xor_zero] at hx
  unfold crcSum at he
  rw [hx] at he
  have h1 : crcAdd 0#16 (burst (List.replicate s.length 0) at_ mask 16) = 0#16 := by
    have := congrArg (fun x => crcAdd 0xffff#16 s ^^^ x) he
    simpa [← BitVec.xor_assoc, BitVec.xor_self] using this
  rw [crcAdd_bits, burst_zeros _ _ _ h] at h1
  exact burst_ne _ _ _ (by simp [maskBits]) (mask_true mask h0 hm) h1
theorem burst_take (s : List UInt8) (n at_ mask i : Nat) (hn : n ≤ s.length) (h : at_ + i ≤ 8 * n) : (burst s at_ mask i).take n = burst (s.take n) at_ mask i := by
  induction i with
  | zero => rfl
  | succ i ih =>
    have ih := ih (by omega)
    unfold burst
    rw [List.length_take, Nat.min_eq_left hn]
    by_cases hc : mask / 2 ^ i % 2 = 1
    · rw [if_pos ⟨hc, by omega⟩, if_pos ⟨hc, by omega⟩, ← ih]
      unfold turn1
      have hk : (at_ + i) / 8 < n := by omega
      rw [List.take_set]
      congr 2
      simp [List.getD_eq_getElem?_getD, hk]
    · rw [if_neg (fun h => hc h.1), if_neg (fun h => hc h.1), ih]
end Go.Proofs.YtcppmihambcihaaDoor
