/- octet.Reader: many, U16, U32, Rest, Err, End. -/
import Derived.Test.YtcppmihambcihaaDoorRdr
namespace Go.Proofs.YtcppmihambcihaaDoor
open Go.RowKit
set_option linter.unusedVariables false
set_option linter.unusedSimpArgs false

/-- The number of bytes, the highest first. -/
def beVal (l : List UInt8) : Nat := l.foldl (fun s b => 256 * s + b.toNat) 0
theorem beVal_snoc (l : List UInt8) (b : UInt8) : beVal (l ++ [b]) = 256 * beVal l + b.toNat := by simp [beVal]
theorem beVal_go (l : List UInt8) : ∀ s : Nat, l.foldl (fun s b => 256 * s + b.toNat) s < (s + 1) * 256 ^ l.length := by
  induction l with
  | nil => intro s; simp
  | cons b l ih =>
    intro s
    rw [List.foldl_cons, List.length_cons, Nat.pow_succ]
    refine Nat.lt_of_lt_of_le (ih _) ?_
    have hb := b.toNat_lt
    have h1 : (256 * s + b.toNat + 1) * 256 ^ l.length ≤ ((s + 1) * 256) * 256 ^ l.length := Nat.mul_le_mul_right _ (by omega)
    rw [Nat.mul_assoc] at h1
    rw [Nat.mul_comm (256 ^ l.length) 256]
    exact h1
theorem beVal_lt (l : List UInt8) : beVal l < 256 ^ l.length := by
  have := beVal_go l 0
  simpa [beVal] using this
theorem or32 (s : Nat) (b : UInt8) (hs : s < 16777216) : bits .or .u32 ((s : Int) * 256) (nb b) = ((256 * s + b.toNat : Nat) : Int) := by
  have hb := b.toNat_lt
  show IntKind.u32.wrap ((BitVec.ofInt 32 ((s : Int) * 256) ||| BitVec.ofInt 32 (nb b)).toNat : Int) = _
  have e1 : BitVec.ofInt 32 ((s : Int) * 256) = BitVec.ofNat 32 (s * 256) := by
    rw [show (s : Int) * 256 = ((s * 256 : Nat) : Int) by simp, BitVec.ofInt_natCast]
  have e2 : BitVec.ofInt 32 (nb b) = BitVec.ofNat 32 b.toNat := by unfold nb; rw [BitVec.ofInt_natCast]
  rw [e1, e2, BitVec.toNat_or, BitVec.toNat_ofNat, BitVec.toNat_ofNat, Nat.mod_eq_of_lt (by omega), Nat.mod_eq_of_lt (by omega), show s * 256 = s * 2 ^ 8 from rfl, ← Nat.shiftLeft_eq, ← Nat.shiftLeft_add_eq_or_of_lt hb, Nat.shiftLeft_eq]
  simp only [IntKind.wrap, IntKind.bits, IntKind.signed]
  simp
  omega
/-- What many reads. -/
def rdVal (k : Nat) (xs : List UInt8) : Nat := if xs.length < k then 0 else beVal (xs.take k)
def rdLeft (k : Nat) (xs : List UInt8) : List UInt8 := if xs.length < k then [] else xs.drop k
def rdBad (k : Nat) (xs : List UInt8) (bad : Bool) : Bool := if xs.length < k then true else bad
theorem rdVal_lt (k : Nat) (xs : List UInt8) : rdVal k xs < 256 ^ k := by
  unfold rdVal
  split
  · exact Nat.pow_pos (by omega)
  · have := beVal_lt (xs.take k)
    rwa [List.length_take, Nat.min_eq_left (by omega)] at this
theorem take_head (xs : List UInt8) (j : Nat) (hj : j < xs.length) : xs.take (j + 1) = xs.take j ++ [(xs.drop j).headD 0] := by
  rw [List.take_succ_eq_append_getElem hj, List.drop_eq_getElem_cons hj]; rfl

set_option maxHeartbeats 2000000 in
set_option maxRecDepth 100000 in
theorem rd_many (k : Nat) (hk0 : 0 < k) (hk : k ≤ 4) (g bl : Nat) (xs : List UInt8) (bad : Bool) (w : World) (h : RdIs w g bl xs bad) :
    Calls Tryd.prog 83 #[.pointer (some ⟨g, 0, none⟩), .int .i64 k] w fun e w' => e = .returned (.int .u32 (rdVal k xs)) ∧ RdIs w' g bl (rdLeft k xs) (rdBad k xs bad) ∧ Fr (fun k => k = g) w w' := by
  have hlen := h.len
  by_cases hs : xs.length < k
  · unfold rdVal rdLeft rdBad
    rw [if_pos hs, if_pos hs, if_pos hs]
    obtain ⟨A, n, c, ev, h⟩ := h
    obtain ⟨c0, c1, f0, f1⟩ := h.cell
    have hnk : (n : Int) < k := by have := h.rs.len; omega
    have hres := Lib.hid (show RdIs _ g bl [] bad from ⟨_, _, _, _, h.setLeft (RS.none w) (Nat.zero_le _) (fun h0 => absurd h0 (by omega))⟩)
    have hfr := Lib.hid (fr_setCell (F := fun k => k = g) (w := w) ⟨g, 0, none⟩ (.slice none 0 0) rfl)
    clear h c1 f1 hs hlen
    go_enter Tryd.func83, Tryd.ntmps83
    go_wp2_with fail
    generalize w.setCell ⟨g, 0, none⟩ (.slice none 0 0) = w1 at hres hfr ⊢
    go_loopw [4, 19] (fun s4 s19 wr => ∃ j : Nat, j ≤ k ∧ s4 = .int .u32 0 ∧ s19 = .int .i64 j ∧ RdIs wr g bl [] (bad || decide (0 < j)) ∧ Fr (fun k => k = g) w wr) (fun _ i _ => k - (intOf i).toNat)
    case atStart => exact ⟨0, by omega, rfl, rfl, by simpa using hres.out, hfr.out⟩
    case round =>
      obtain ⟨j, hj, rfl, rfl, hr, hf⟩ := hrel
      clear hres hfr c0 f0 hnk
      by_cases hlt : j < k
      · have hlt' : (j : Int) < k := by omega
        go_wp2_with fail
        refine (rd_u8 g bl [] _ _ hr).mono ?_
        rintro e wa ⟨rfl, hra, hfa⟩
        have H1 := Lib.hid hra
        have H2 := Lib.hid (fr_same hf hfa)
        have e0 : nb (([] : List UInt8).headD 0) = 0 := rfl
        clear hra hfa hf hr
        go_wp2_with fail
        exact ⟨⟨j + 1, by omega, rfl, by go_num, by simpa using H1.out, H2.out⟩, by simp [intOf]; omega⟩
      · obtain rfl : j = k := by omega
        have hk1 : decide (0 < j) = true := by simpa using hk0
        rw [hk1, Bool.or_true] at hr
        go_wp2_with fail
        go_ret
        exact ⟨rfl, hr, hf⟩
  · unfold rdVal rdLeft rdBad
    rw [if_neg hs, if_neg hs, if_neg hs]
    have hx := Lib.hid h
    obtain ⟨A, n, c, ev, h⟩ := h
    obtain ⟨c0, c1, f0, f1⟩ := h.cell
    have hnk : ¬ (n : Int) < k := by have := h.rs.len; omega
    clear h c1 f1 f0
    go_enter Tryd.func83, Tryd.ntmps83
    go_wp2_with fail
    go_loopw [4, 19] (fun s4 s19 wr => ∃ j : Nat, j ≤ k ∧ s4 = .int .u32 ((beVal (xs.take j) : Nat) : Int) ∧ s19 = .int .i64 j ∧ RdIs wr g bl (xs.drop j) bad ∧ Fr (fun k => k = g) w wr) (fun _ i _ => k - (intOf i).toNat)
    case atStart => exact ⟨0, by omega, rfl, rfl, by simpa using hx.out, Fr.refl _ _⟩
    case round =>
      obtain ⟨j, hj, rfl, rfl, hr, hf⟩ := hrel
      clear c0 hnk hx
      by_cases hlt : j < k
      · have hlt' : (j : Int) < k := by omega
        have hv : beVal (xs.take j) < 16777216 := by
          have := beVal_lt (xs.take j)
          rw [List.length_take, Nat.min_eq_left (by omega)] at this
          have h3 : 256 ^ j ≤ 256 ^ 3 := Nat.pow_le_pow_right (by omega) (by omega)
          omega
        have hcons : (xs.drop j).isEmpty = false := by
          cases hh : xs.drop j with
          | nil => have := congrArg List.length hh; simp at this; omega
          | cons _ _ => rfl
        have htl : (xs.drop j).tail = xs.drop (j + 1) := by rw [List.tail_drop]
        have hth := Lib.hid (take_head xs j (by omega))
        go_wp2_with fail
        refine (rd_u8 g bl _ _ _ hr).mono ?_
        rintro e wa ⟨rfl, hra, hfa⟩
        rw [hcons, htl, Bool.or_false] at hra
        have H1 := Lib.hid hra
        have H2 := Lib.hid (fr_same hf hfa)
        clear hra hfa hf hr htl hcons
        have ho := or32 (beVal (xs.take j)) ((xs.drop j).headD 0) hv
        have hvs := Lib.hid (beVal_snoc (xs.take j) ((xs.drop j).headD 0))
        have hbd := nb_bd ((xs.drop j).headD 0)
        generalize (xs.drop j).headD 0 = b at hth ho hvs hbd ⊢
        generalize beVal (xs.take j) = s at ho hvs hv ⊢
        have hv' : (s : Int) < 16777216 := by omega
        go_wp2_with fail
        exact ⟨⟨j + 1, by omega, by rw [hth.out, hvs.out]; simp, by go_num, H1.out, H2.out⟩, by simp [intOf]; omega⟩
      · obtain rfl : j = k := by omega
        go_wp2_with fail
        go_ret
        exact ⟨rfl, hr, hf⟩

set_option maxHeartbeats 1000000 in
theorem rd_u32 (g bl : Nat) (xs : List UInt8) (bad : Bool) (w : World) (h : RdIs w g bl xs bad) :
    Calls Tryd.prog 74 #[.pointer (some ⟨g, 0, none⟩)] w fun e w' => e = .returned (.int .u32 (rdVal 4 xs)) ∧ RdIs w' g bl (rdLeft 4 xs) (rdBad 4 xs bad) ∧ Fr (fun k => k = g) w w' := by
  go_enter Tryd.func74, Tryd.ntmps74
  go_wp2_with fail
  refine (rd_many 4 (by omega) (by omega) g bl _ _ _ h).mono ?_
  rintro e wa ⟨rfl, hra, hfa⟩
  clear h
  go_wp2_with fail
  go_ret
  exact ⟨rfl, hra, hfa⟩

/-- Rest: the row, which is the caller's from then on. -/
theorem rd_rest (g bl : Nat) (xs : List UInt8) (bad : Bool) (w : World) (h : RdIs w g bl xs bad) :
    Calls Tryd.prog 75 #[.pointer (some ⟨g, 0, none⟩)] w fun e w' => ∃ A c, e = .returned (.slice A xs.length c) ∧ RS w' A xs.length c xs ∧ (0 < xs.length → (∃ off, A = some ⟨bl, off, none⟩) ∧ bl ≠ g ∧ ∀ i, w'.frozen? ⟨bl, i, none⟩ = false) ∧ RdIs w' g bl [] bad ∧ Fr (fun k => k = g) w w' := by
  obtain ⟨A, n, c, ev, h⟩ := h
  obtain ⟨c0, c1, f0, f1⟩ := h.cell
  have hl := h.rs.len
  subst hl
  have hf := fr_setCell (F := fun k => k = g) (w := w) ⟨g, 0, none⟩ (.slice none 0 0) rfl
  have hrs := h.rs.fr hf (fun h0 b off e e2 => by
    obtain ⟨o, e3⟩ := h.blk h0
    rw [e3] at e; cases e
    exact h.apart h0 e2)
  have h3 : 0 < xs.length → (∃ off, A = some ⟨bl, off, none⟩) ∧ bl ≠ g ∧ ∀ i, (w.setCell ⟨g, 0, none⟩ (.slice none 0 0)).frozen? ⟨bl, i, none⟩ = false := fun h0 => by
    obtain ⟨o, e3⟩ := h.blk h0
    obtain ⟨b', o', e, hlt, _⟩ := h.rs.rb.cells h0
    rw [e3] at e; cases e
    exact ⟨⟨o, e3⟩, h.apart h0, fun i => (hf.frozen (p := ⟨bl, i, none⟩) hlt (h.apart h0)).trans (h.free h0 i)⟩
  have hres := Lib.hid (h.setLeft (RS.none w) (Nat.zero_le _) (fun h0 => absurd h0 (by omega)))
  have H1 := Lib.hid hf
  have H2 := Lib.hid hrs
  have H3 := Lib.hid h3
  clear h hf hrs h3 c1 f1
  generalize hn : xs.length = n at *
  go_enter Tryd.func75, Tryd.ntmps75
  go_wp2_with fail
  go_ret
  exact ⟨A, c, rfl, H2.out, H3.out, ⟨_, _, _, _, hres.out⟩, H1.out⟩
end Go.Proofs.YtcppmihambcihaaDoor
