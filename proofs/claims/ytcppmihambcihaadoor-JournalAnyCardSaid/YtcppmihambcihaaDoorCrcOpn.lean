/- What is sealed, and what is opened: plain laws; one byte turned. -/
import Derived.Test.YtcppmihambcihaaDoorCrc
namespace Go.Proofs.YtcppmihambcihaaDoor
open Go.RowKit
set_option linter.unusedVariables false
set_option linter.unusedSimpArgs false
theorem opn_seal (l : List UInt8) : crcOpen (crcSeal l) = some l := by
  unfold crcOpen
  rw [if_pos ⟨by rw [crcSum_seal_len]; omega, crcSum_seal l⟩, crcSum_seal_len]
  unfold crcSeal
  simp
theorem opn_back {xs ys : List UInt8} (h : crcOpen xs = some ys) : crcSeal ys = xs := by
  unfold crcOpen at h
  split at h
  · rename_i hc
    cases h
    exact ((crcSum_zero_iff xs hc.1).1 hc.2).symm
  · cases h
theorem opn_len {xs ys : List UInt8} (h : crcOpen xs = some ys) : ys.length + 2 = xs.length := by
  rw [← opn_back h, crcSum_seal_len]
theorem seal_inj {xs ys : List UInt8} (h : crcSeal xs = crcSeal ys) : xs = ys := by
  have := congrArg crcOpen h
  rw [opn_seal, opn_seal] at this
  exact Option.some.inj this
/-- A sum that begins otherwise. -/
theorem crcAdd_diff (l : List UInt8) : ∀ (s d : BitVec 16), crcAdd (s ^^^ d) l = crcAdd s l ^^^ crcN (8 * l.length) d := by
  induction l with
  | nil => intro s d; rfl
  | cons c l ih =>
    intro s d
    rw [crcAdd_cons, crcAdd_cons, show s ^^^ d ^^^ top8 c = (s ^^^ top8 c) ^^^ d by rw [BitVec.xor_assoc, BitVec.xor_comm d, ← BitVec.xor_assoc], crcN_xor, ih, List.length_cons, show 8 * (l.length + 1) = 8 * l.length + 8 by omega, crcN_add]
theorem crcAdd_turn (l : List UInt8) : ∀ (s : BitVec 16) (k : Nat) (hk : k < l.length) (b : UInt8), ∃ m, crcAdd s (l.set k (l[k] ^^^ b)) = crcAdd s l ^^^ crcN m (top8 b) := by
  induction l with
  | nil => intro s k hk; simp at hk
  | cons c l ih =>
    intro s k hk b
    cases k with
    | zero =>
      refine ⟨8 * l.length + 8, ?_⟩
      rw [List.set_cons_zero, crcAdd_cons, crcAdd_cons, List.getElem_cons_zero, top8_xor, show s ^^^ (top8 c ^^^ top8 b) = (s ^^^ top8 c) ^^^ top8 b by rw [BitVec.xor_assoc], crcN_xor, crcAdd_diff, crcN_add]
    | succ k =>
      rw [List.set_cons_succ, crcAdd_cons, crcAdd_cons, List.getElem_cons_succ]
      exact ih _ k (by simpa using hk) b
theorem top8_zero {b : UInt8} (h : top8 b = 0#16) : b = 0 := by
  have h2 := top8_eq_low (c := b) (d := 0) (by rw [h]; rfl)
  exact h2.1
/-- One byte turned: the sum is another one. -/
theorem crcOpen_turn (l : List UInt8) (k : Nat) (hk : k < l.length) (b : UInt8) (hb : b ≠ 0) (h : (crcOpen l).isSome = true) : crcOpen (l.set k (l[k] ^^^ b)) = none := by
  unfold crcOpen at *
  split at h
  · rename_i hc
    rw [if_neg]
    rintro ⟨_, h2⟩
    obtain ⟨m, hm⟩ := crcAdd_turn l 0xffff#16 k hk b
    have h1 : crcAdd 0xffff#16 l = 0#16 := hc.2
    have h3 : crcAdd 0xffff#16 (l.set k (l[k] ^^^ b)) = 0#16 := h2
    rw [hm, h1, BitVec.zero_xor] at h3
    exact hb (top8_zero (crcN_inj h3))
  · cases h
end Go.Proofs.YtcppmihambcihaaDoor
