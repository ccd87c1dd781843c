/- The sums' functions (crc.Add, Sum, Seal, Open, and the document's), each by a contract. -/
import Derived.Test.YtcppmihambcihaaDoorByClone
import Derived.Test.YtcppmihambcihaaDoorCrcBurst
namespace Go.Proofs.YtcppmihambcihaaDoor
open Go.RowKit
set_option linter.unusedVariables false
set_option linter.unusedSimpArgs false

/-- A sum's number, kept from the walk's simp. -/
def n16 (s : BitVec 16) : Int := (s.toNat : Int)
theorem n16_bd (s : BitVec 16) : 0 ≤ n16 s ∧ n16 s ≤ 65535 := by unfold n16; have := s.isLt; omega
theorem n16_inj {s t : BitVec 16} (h : n16 s = n16 t) : s = t := BitVec.eq_of_toNat_eq (by unfold n16 at h; omega)

theorem ofInt16 (s : BitVec 16) : BitVec.ofInt 16 (n16 s) = s := by
  unfold n16; rw [BitVec.ofInt_natCast]; simp
theorem wrap16 (n : Int) : IntKind.u16.wrap n = n % 65536 := by simp [IntKind.wrap, IntKind.bits, IntKind.signed]
theorem wrap16_nat (s : BitVec 16) : IntKind.u16.wrap (s.toNat : Int) = n16 s := by rw [wrap16]; unfold n16; have := s.isLt; omega
theorem xor16 (a b : BitVec 16) : bits .xor .u16 (n16 a) (n16 b) = n16 (a ^^^ b) := by
  show IntKind.u16.wrap ((BitVec.ofInt 16 (n16 a) ^^^ BitVec.ofInt 16 (n16 b)).toNat : Int) = _
  rw [ofInt16, ofInt16, wrap16_nat]
theorem and16 (a b : BitVec 16) : bits .and .u16 (n16 a) (n16 b) = n16 (a &&& b) := by
  show IntKind.u16.wrap ((BitVec.ofInt 16 (n16 a) &&& BitVec.ofInt 16 (n16 b)).toNat : Int) = _
  rw [ofInt16, ofInt16, wrap16_nat]
theorem xor_poly (a : BitVec 16) : bits .xor .u16 (n16 a) 4129 = n16 (a ^^^ 0x1021#16) := xor16 a 0x1021#16
theorem and_high (a : BitVec 16) : bits .and .u16 (n16 a) 32768 = n16 (a &&& 0x8000#16) := and16 a 0x8000#16
theorem shl1 (a : BitVec 16) : IntKind.u16.wrap (n16 a * 2) = n16 (a <<< 1) := by
  rw [wrap16]; unfold n16; simp [Nat.shiftLeft_eq]
theorem high_msb (a : BitVec 16) : n16 (a &&& 0x8000#16) = if a.msb then 32768 else 0 := by
  have e : a &&& 0x8000#16 = if a.msb then 0x8000#16 else 0#16 := by
    apply BitVec.eq_of_getLsbD_eq
    intro i hi
    have h8 : ∀ i : Fin 16, (0x8000#16).getLsbD i.1 = decide (i.1 = 15) := by decide
    rw [BitVec.getLsbD_and, h8 ⟨i, hi⟩, BitVec.msb_eq_getLsbD_last]
    by_cases h : i = 15
    · subst h
      cases hm : a.getLsbD 15 <;> simp
    · simp [h]
      split
      · have := h8 ⟨i, hi⟩
        simp [h] at this
        simpa using this
      · simp
  rw [e]; split <;> rfl


theorem step_low (k : Nat) (s : BitVec 16) (hm : (crcN k s).msb = false) : IntKind.u16.wrap (n16 (crcN k s) * 2) = n16 (crcN (k + 1) s) := by
  rw [shl1, crcN_succ]; unfold crcT; rw [hm]; rfl
theorem step_high (k : Nat) (s : BitVec 16) (hm : (crcN k s).msb = true) : bits .xor .u16 (IntKind.u16.wrap (n16 (crcN k s) * 2)) 4129 = n16 (crcN (k + 1) s) := by
  rw [shl1, xor_poly, crcN_succ]; unfold crcT; rw [hm]; rfl
theorem ge_high (a : BitVec 16) : decide (n16 a ≥ 32768) = a.msb := by
  rw [BitVec.msb_eq_decide]
  unfold n16
  exact decide_eq_decide.2 ⟨fun h => by omega, fun h => by omega⟩

set_option maxHeartbeats 1000000 in
theorem crc_turned (s : BitVec 16) (w : World) : Calls Tryd.prog 84 #[.int .u16 (n16 s)] w fun e w' => e = .returned (.int .u16 (n16 (crcN 8 s))) ∧ w = w' := by
  go_enter Tryd.func84, Tryd.ntmps84
  go_wp2
  go_loop [0, 3] (fun x i => ∃ k : Nat, k ≤ 8 ∧ i = .int .i64 k ∧ x = .int .u16 (n16 (crcN k s))) (fun _ i => 8 - (intOf i).toNat)
  case atStart => exact ⟨0, by omega, rfl, rfl⟩
  case round =>
    obtain ⟨k, hk, rfl, rfl⟩ := hrel
    by_cases hlt : k < 8
    · have e1 := and_high (crcN k s)
      have e2 := high_msb (crcN k s)
      cases hm : (crcN k s).msb
      · rw [hm] at e2
        simp only [Bool.false_eq_true, if_false] at e2
        rw [e2] at e1
        clear e2
        have e3 := Lib.hid (step_low k s hm)
        clear hm
        go_wp2
        exact ⟨⟨k + 1, by omega, by go_num, by rw [e3.out]⟩, by simp [intOf]; omega⟩
      · rw [hm] at e2
        simp only [if_true] at e2
        rw [e2] at e1
        clear e2
        have e3 := Lib.hid (step_high k s hm)
        clear hm
        go_wp2
        exact ⟨⟨k + 1, by omega, by go_num, by rw [e3.out]⟩, by simp [intOf]; omega⟩
    · obtain rfl : k = 8 := by omega
      go_wp2
      go_ret
      exact ⟨rfl, rfl⟩

theorem byte_top (s : BitVec 16) (c : UInt8) : bits .xor .u16 (n16 s) (IntKind.u16.wrap (IntKind.u16.wrap (nb c) * 256)) = n16 (s ^^^ top8 c) := by
  have e : IntKind.u16.wrap (IntKind.u16.wrap (nb c) * 256) = n16 (top8 c) := by
    rw [wrap16, wrap16]
    unfold n16 nb top8
    have := c.toNat_lt
    simp [Nat.shiftLeft_eq]
    omega
  rw [e, xor16]
theorem crcAdd_take (s : BitVec 16) (xs : List UInt8) (k : Nat) (hk : k < xs.length) : crcAdd s (xs.take (k + 1)) = crcN 8 (crcAdd s (xs.take k) ^^^ top8 (xs[k]?.getD 0)) := by
  have e : xs.take (k + 1) = xs.take k ++ [xs[k]?.getD 0] := by
    rw [List.take_succ_eq_append_getElem hk]
    simp [List.getElem?_eq_getElem hk]
  rw [e, crcAdd_snoc]

set_option maxHeartbeats 1000000 in
theorem crc_add (s : BitVec 16) (A : Option Addr) (n c : Nat) (xs : List UInt8) (w : World) (hr : RB w A n xs) : Calls Tryd.prog 76 #[.int .u16 (n16 s), .slice A n c] w fun e w' => e = .returned (.int .u16 (n16 (crcAdd s xs))) ∧ w = w' := by
  have hl := Lib.hid hr.len
  have hmx := hr.2.1
  go_enter Tryd.func76, Tryd.ntmps76
  go_wp2
  go_loop [0, 9] (fun x i => ∃ k : Nat, k ≤ n ∧ i = .int .i64 k ∧ x = .int .u16 (n16 (crcAdd s (xs.take k)))) (fun _ i => n - (intOf i).toNat)
  case atStart => exact ⟨0, by omega, rfl, rfl⟩
  case round =>
    obtain ⟨k, hk, rfl, rfl⟩ := hrel
    by_cases hlt : k < n
    · obtain ⟨b, off, rfl, _, hc⟩ := hr.cells (by omega)
      have hck := hc k hlt
      have e1 := byte_top (crcAdd s (xs.take k)) (xs[k]?.getD 0)
      have e2 := Lib.hid (crcAdd_take s xs k (by rw [hl.out]; exact hlt))
      unfold bv at hck
      clear hc hr
      go_wp2_with (go_at_call 84; refine (crc_turned _ _).mono ?_; rintro e w' ⟨rfl, rfl⟩)
      exact ⟨⟨k + 1, by omega, by go_num, by rw [e2.out]⟩, by simp [intOf]; omega⟩
    · go_wp2
      go_ret
      exact ⟨by rw [List.take_of_length_le (by rw [hl.out]; omega)]; rfl, rfl⟩

theorem crc_add_first (A : Option Addr) (n c : Nat) (xs : List UInt8) (w : World) (hr : RB w A n xs) : Calls Tryd.prog 76 #[.int .u16 65535, .slice A n c] w fun e w' => e = .returned (.int .u16 (n16 (crcSum xs))) ∧ w = w' := crc_add 0xffff#16 A n c xs w hr
theorem crc_add_zero (A : Option Addr) (n c : Nat) (xs : List UInt8) (w : World) (hr : RB w A n xs) : Calls Tryd.prog 76 #[.int .u16 0, .slice A n c] w fun e w' => e = .returned (.int .u16 (n16 (crcAdd 0#16 xs))) ∧ w = w' := crc_add 0#16 A n c xs w hr
theorem crc_sum (A : Option Addr) (n c : Nat) (xs : List UInt8) (w : World) (hr : RB w A n xs) : Calls Tryd.prog 63 #[.slice A n c] w fun e w' => e = .returned (.int .u16 (n16 (crcSum xs))) ∧ w = w' := by
  have h := crc_add 0xffff#16 A n c xs w hr
  rw [show n16 0xffff#16 = 65535 from rfl] at h
  go_enter Tryd.func63, Tryd.ntmps63
  go_wp2_with (go_at_call 76; refine h.mono ?_; rintro e w' ⟨rfl, rfl⟩)
  go_ret
  exact ⟨rfl, rfl⟩

theorem hi8_of (s : BitVec 16) : IntKind.u8.wrap (n16 s / 256) = nb (hi8 s) := by
  rw [IntKind.wrap_u8]; unfold n16 nb hi8; have := s.isLt; simp [Nat.shiftRight_eq_div_pow]
theorem lo8_of (s : BitVec 16) : IntKind.u8.wrap (n16 s) = nb (lo8 s) := by
  rw [IntKind.wrap_u8]; unfold n16 nb lo8; simp

set_option maxHeartbeats 1000000 in
theorem crc_seal (A : Option Addr) (n c : Nat) (xs : List UInt8) (w : World) (rs : RS w A n c xs) (hn : n ≤ 140737488350000) :
    Calls Tryd.prog 46 #[.slice A n c] w fun e w' => ∃ v, e = .returned v ∧ OwnB w' w.heap.size v (crcSeal xs) ∧ Below w.heap.size w w' := by
  have hr := rs.rb
  have hA := rs.nil
  have hc := rs.cap
  clear rs
  have hl := Lib.hid hr.len
  have hmk := fun w => by_make w (n + 2) (by omega) ((n : Int) + 2) (by omega)
  have hown := by_make_own w w.heap.size (n + 2) (by omega) (Nat.le_refl _)
  have hb0 : Below w.heap.size w (w.alloc (.cells (madeCells #[.int .u8 0] (n + 2)) 5)) := (Below.refl _ _).alloc (Nat.le_refl _) _
  have hr1 := hr.below hb0
  have e1 := hi8_of (crcSum xs)
  have e2 := lo8_of (crcSum xs)
  go_enter Tryd.func46, Tryd.ntmps46
  have hlA : ([] : List UInt8).length + n ≤ 140737488355328 := by simp; omega
  have hlB : Hid (xs.length + 2 ≤ 140737488355328) := by rw [hl.out]; show _ ≤ _; omega
  clear hn
  go_wp2_with (first | (go_at_call 63; refine (crc_sum _ _ _ xs _ hr).mono ?_; rintro e w' ⟨rfl, rfl⟩) | (at_builtin; refine wpList_append_by rfl _ _ rfl w hb0 _ [] rfl hown _ _ _ xs rfl hA hr1 hlA ?_; intro v1 w1 hown1 hb1 _) | (at_builtin; go_must (refine wpList_append_by rfl _ _ rfl w (Below.new hb1 _) _ xs rfl (OwnB.alloc hown1 _) _ _ _ [hi8 (crcSum xs), lo8 (crcSum xs)] rfl (fun e => by cases e) (rb_two _ _ _ _) hlB.out ?_; intro v2 w2 hown2 hb2 _)))
  go_ret
  exact ⟨v2, rfl, hown2, hb2⟩

def crcOpen (xs : List UInt8) : Option (List UInt8) := if 2 ≤ xs.length ∧ crcSum xs = 0#16 then some (xs.take (xs.length - 2)) else none

set_option maxHeartbeats 1000000 in
theorem crc_open (A : Option Addr) (n c : Nat) (xs : List UInt8) (w : World) (rs : RS w A n c xs) (hn : n ≤ 140737488350000) :
    Calls Tryd.prog 71 #[.slice A n c] w fun e w' => ∃ v, e = .returned (.tuple #[v, .bool (crcOpen xs).isSome]) ∧ OwnB w' w.heap.size v ((crcOpen xs).getD []) ∧ Below w.heap.size w w' := by
  have hr := rs.rb
  have hA := rs.nil
  have hc := rs.cap
  clear rs
  have hl := Lib.hid hr.len
  by_cases h2 : n < 2
  · have ho : crcOpen xs = none := by unfold crcOpen; rw [if_neg (by rw [hl.out]; omega)]
    rw [ho]
    have h2' : (n : Int) < 2 := by omega
    clear ho
    go_enter Tryd.func71, Tryd.ntmps71
    go_wp2
    go_ret2
    exact ⟨_, rfl, OwnB.nil _ _, Below.refl _ _⟩
  · have h2' : ¬ (n : Int) < 2 := by omega
    by_cases hs : crcSum xs = 0#16
    · have ho : crcOpen xs = some (xs.take (n - 2)) := by unfold crcOpen; rw [if_pos ⟨by rw [hl.out]; omega, hs⟩, hl.out]
      rw [ho]
      have e0 : n16 (crcSum xs) = 0 := by rw [hs]; rfl
      clear ho hs
      have hcl := by_clone A (n - 2) c (xs.take (n - 2)) w ⟨hr.take (n - 2) (by omega), hA, by omega⟩ (by omega)
      have hi : ((n : Int) - 2).toNat = n - 2 := by omega
      have hb1 : (2 : Int) ≤ n := by omega
      have hb2 : (n : Int) - 2 ≤ c := by omega
      clear h2 hc
      go_enter Tryd.func71, Tryd.ntmps71
      go_wp2_with (first | (go_at_call 63; refine (crc_sum _ _ _ xs _ hr).mono ?_; rintro e w' ⟨rfl, rfl⟩) | (go_at_call 34; go_must (refine hcl.mono ?_); rintro e w' ⟨v, rfl, hown, hb⟩))
      go_ret2
      exact ⟨v, rfl, hown, hb⟩
    · have ho : crcOpen xs = none := by unfold crcOpen; rw [if_neg (fun h => hs h.2)]
      rw [ho]
      have e0 : (n16 (crcSum xs) == 0) = false := by
        have : n16 (crcSum xs) ≠ 0 := fun h => hs (n16_inj (by rw [h]; rfl))
        simpa using this
      clear ho hs
      go_enter Tryd.func71, Tryd.ntmps71
      go_wp2_with (go_at_call 63; refine (crc_sum _ _ _ xs _ hr).mono ?_; rintro e w' ⟨rfl, rfl⟩)
      go_ret2
      exact ⟨_, rfl, OwnB.nil _ _, Below.refl _ _⟩
end Go.Proofs.YtcppmihambcihaaDoor
