/- Sums, products, ways: delay.Add, Mul, Way, and the document's. -/
import Derived.Test.YtflicahchahcnaaDoorErrIs
import Derived.LoopTactic
import Derived.Shelf.Bits.Mul64
import Derived.Shelf.Lay
namespace Go.Proofs
shelf_lay Lays.n264 Nm 264 at Tryd as Tryd.lays264
end Go.Proofs
namespace Go.Proofs.YtflicahchahcnaaDoor
open Go.RowKit
set_option linter.unusedVariables false
set_option linter.unusedSimpArgs false

/-- What Add and Mul say. -/
def numOf (n : Int) : Int := if inI n then n else 0
def errOf (n : Int) : Int := if inI n then 0 else 6

theorem d_far (w : World) : Calls Tryd.prog 25 #[] w (IsNe 0 6 w) := by
  go_enter Tryd.func25, Tryd.ntmps25
  go_wp2_with fail
  refine (fault_new 6 _ _ (by decide)).mono ?_
  rintro r w' ⟨v, rfl, hv, hb⟩
  go_wp2_with fail
  go_ret2
  exact ⟨v, rfl, .inr ⟨by decide, 1, hv⟩, hb⟩

theorem add_in (a b : Int) (hs : inI (a + b)) : IntKind.i64.wrap (a + b) = a + b := by unfold inI at hs; rw [IntKind.wrap_i64]; omega
theorem add_up (a b : Int) (ha : inI a) (hb : inI b) (hs : ¬ inI (a + b)) (h : 0 ≤ b) : IntKind.i64.wrap (a + b) = a + b - 18446744073709551616 := by unfold inI at ha hb hs; rw [IntKind.wrap_i64]; omega
theorem add_dn (a b : Int) (ha : inI a) (hb : inI b) (hs : ¬ inI (a + b)) (h : b < 0) : IntKind.i64.wrap (a + b) = a + b + 18446744073709551616 := by unfold inI at ha hb hs; rw [IntKind.wrap_i64]; omega
set_option maxHeartbeats 1000000 in
theorem d_add (a b : Int) (ha : inI a) (hb : inI b) (w : World) : Calls Tryd.prog 10 #[.int .i64 a, .int .i64 b] w (IsNe (numOf (a + b)) (errOf (a + b)) w) := by
  unfold numOf errOf
  by_cases hs : inI (a + b)
  · rw [if_pos hs, if_pos hs]
    have e := add_in a b hs
    by_cases hn : b < 0
    · have h1 : a + b < a := by omega
      clear ha hb hs
      go_enter Tryd.func10, Tryd.ntmps10
      go_wp2_with fail
      go_ret2
      exact ⟨_, rfl, .none _, Below.refl _ _⟩
    · have h1 : ¬ a + b < a := by omega
      clear ha hb hs
      go_enter Tryd.func10, Tryd.ntmps10
      go_wp2_with fail
      go_ret2
      exact ⟨_, rfl, .none _, Below.refl _ _⟩
  · rw [if_neg hs, if_neg hs]
    by_cases hn : b < 0
    · have e := add_dn a b ha hb hs hn
      have h1 : ¬ a + b + 18446744073709551616 < a := by unfold inI at *; omega
      clear ha hb hs
      go_enter Tryd.func10, Tryd.ntmps10
      go_wp2_with fail
      refine (d_far _).mono ?_
      rintro r w' ⟨v, rfl, hv, hb⟩
      have HV := Lib.hid hv
      have HB := Lib.hid hb
      clear hv hb
      go_wp2_with fail
      go_ret2
      exact ⟨v, rfl, HV.out, HB.out⟩
    · have e := add_up a b ha hb hs (by omega)
      have h1 : a + b - 18446744073709551616 < a := by unfold inI at *; omega
      clear ha hb hs
      go_enter Tryd.func10, Tryd.ntmps10
      go_wp2_with fail
      refine (d_far _).mono ?_
      rintro r w' ⟨v, rfl, hv, hb⟩
      have HV := Lib.hid hv
      have HB := Lib.hid hb
      clear hv hb
      go_wp2_with fail
      go_ret2
      exact ⟨v, rfl, HV.out, HB.out⟩

theorem d_size (n : Int) (hn : inI n) (w : World) : Calls Tryd.prog 27 #[.int .i64 n] w fun e w' => e = .returned (.int .u64 (n.natAbs : Int)) ∧ w = w' := by
  by_cases h : n < 0
  · have e : IntKind.u64.wrap (-(IntKind.u64.wrap n)) = (n.natAbs : Int) := by unfold inI at hn; rw [IntKind.wrap_u64, IntKind.wrap_u64]; omega
    clear hn
    go_enter Tryd.func27, Tryd.ntmps27
    go_wp2_with fail
    go_ret
    exact ⟨rfl, rfl⟩
  · have e : IntKind.u64.wrap n = (n.natAbs : Int) := by unfold inI at hn; rw [IntKind.wrap_u64]; omega
    clear hn
    go_enter Tryd.func27, Tryd.ntmps27
    go_wp2_with fail
    go_ret
    exact ⟨rfl, rfl⟩

theorem mul_64 (x y : Nat) (hx : x < 18446744073709551616) (hy : y < 18446744073709551616) (w : World) :
    Calls Tryd.prog 26 #[.int .u64 x, .int .u64 y] w fun e w' => e = .returned (.tuple #[.int .u64 ((x * y / 18446744073709551616 : Nat) : Int), .int .u64 ((x * y % 18446744073709551616 : Nat) : Int)]) ∧ w' = w := Any.bits_Mul64 Tryd.lays264 x y hx hy w


set_option maxHeartbeats 1000000 in
theorem d_way (f s : Int) (w : World) (hf : inI f) (hs : inI s) : Calls Tryd.prog 14 #[.int .i64 f, .int .i64 s] w (IsNe (if f < 0 ∨ s < 1 then 0 else f / s) (if f < 0 ∨ s < 1 then 1 else 0) w) := by
  by_cases h0 : f < 0
  · rw [if_pos (.inl h0), if_pos (.inl h0)]
    clear hf hs
    go_enter Tryd.func14, Tryd.ntmps14
    go_wp2_with fail
    refine (fault_new 1 _ _ (by decide)).mono ?_
    rintro r w' ⟨v, rfl, hv, hb⟩
    have HV := Lib.hid hv
    have HB := Lib.hid hb
    clear hv hb
    go_wp2_with fail
    go_ret2
    exact ⟨v, rfl, .inr ⟨by decide, 1, HV.out⟩, HB.out⟩
  by_cases h1 : s < 1
  · rw [if_pos (.inr h1), if_pos (.inr h1)]
    clear hf hs
    go_enter Tryd.func14, Tryd.ntmps14
    go_wp2_with fail
    refine (fault_new 1 _ _ (by decide)).mono ?_
    rintro r w' ⟨v, rfl, hv, hb⟩
    have HV := Lib.hid hv
    have HB := Lib.hid hb
    clear hv hb
    go_wp2_with fail
    go_ret2
    exact ⟨v, rfl, .inr ⟨by decide, 1, HV.out⟩, HB.out⟩
  · rw [if_neg (by omega), if_neg (by omega)]
    have hn0 : ¬ s = 0 := by omega
    have hq : f.tdiv s = f / s := Int.tdiv_eq_ediv_of_nonneg (by omega)
    have hw : IntKind.i64.wrap (f / s) = f / s := by
      have := Int.ediv_nonneg (a := f) (b := s) (by omega) (by omega)
      have := Int.ediv_le_self s (a := f) (by omega)
      unfold inI at hf
      rw [IntKind.wrap_i64]; omega
    clear hf hs
    go_enter Tryd.func14, Tryd.ntmps14
    go_wp2_with fail
    go_ret2
    exact ⟨_, rfl, .none _, Below.refl _ _⟩

theorem mul_fit (a b : Int) : inI (a * b) ↔ (a.natAbs * b.natAbs : Nat) ≤ (if (decide (a < 0) != decide (b < 0)) = true then 9223372036854775808 else 9223372036854775807) := by
  have h := Int.natAbs_mul a b
  rw [← h]
  unfold inI
  by_cases ha : a < 0 <;> by_cases hb : b < 0
  · have : 0 < a * b := Int.mul_pos_of_neg_of_neg ha hb
    simp [ha, hb]; omega
  · have : a * b ≤ 0 := Int.mul_nonpos_of_nonpos_of_nonneg (by omega) (by omega)
    simp [ha, hb]; omega
  · have : a * b ≤ 0 := Int.mul_nonpos_of_nonneg_of_nonpos (by omega) (by omega)
    simp [ha, hb]; omega
  · have : 0 ≤ a * b := Int.mul_nonneg (by omega) (by omega)
    simp [ha, hb]; omega
theorem mul_wrap (a b : Int) (h : inI (a * b)) : IntKind.i64.wrap (a * b) = a * b := by unfold inI at h; rw [IntKind.wrap_i64]; omega
theorem inI_abs {a : Int} (h : inI a) : a.natAbs < 18446744073709551616 := by unfold inI at h; omega
theorem parts_64 (P : Nat) : ∃ hi lo : Int, ((P / 18446744073709551616 : Nat) : Int) = hi ∧ ((P % 18446744073709551616 : Nat) : Int) = lo ∧ (P : Int) = hi * 18446744073709551616 + lo ∧ 0 ≤ hi ∧ 0 ≤ lo := ⟨_, _, rfl, rfl, by omega, by omega, by omega⟩
set_option maxHeartbeats 4000000 in
theorem d_mul (a b : Int) (ha : inI a) (hb : inI b) (w : World) : Calls Tryd.prog 12 #[.int .i64 a, .int .i64 b] w (IsNe (numOf (a * b)) (errOf (a * b)) w) := by
  unfold numOf errOf
  have HA := Lib.hid (d_size a ha)
  have HB := Lib.hid (d_size b hb)
  have hm := mul_64 _ _ (inI_abs ha) (inI_abs hb)
  obtain ⟨hi, lo, e1, e2, hx, h0, h1⟩ := parts_64 (a.natAbs * b.natAbs)
  rw [e1, e2] at hm
  have HM := Lib.hid hm
  clear hm e1 e2 ha hb
  by_cases hs : inI (a * b)
  · rw [if_pos hs, if_pos hs]
    have hf := (mul_fit a b).mp hs
    have hw := mul_wrap a b hs
    clear hs
    generalize a.natAbs * b.natAbs = P at *
    by_cases sa : a < 0 <;> by_cases sb : b < 0
    · simp only [sa, sb, decide_true, decide_false, bne_self_eq_false, Bool.true_bne, Bool.false_bne, Bool.not_false, Bool.not_true, if_true, if_false, Bool.false_eq_true] at hf
      have ea : decide (a < 0) = true := decide_eq_true sa
      have eb : decide (b < 0) = true := decide_eq_true sb
      clear sa sb
      have hh : ¬ 0 < hi := by omega
      have hl : ¬ 9223372036854775807 < lo := by omega
      clear hf hx h0 h1
      go_enter Tryd.func12, Tryd.ntmps12
      go_wp2_with fail
      refine (HA.out _).mono ?_
      rintro r w' ⟨rfl, rfl⟩
      go_wp2_with fail
      refine (HB.out _).mono ?_
      rintro r w' ⟨rfl, rfl⟩
      go_wp2_with fail
      refine (HM.out _).mono ?_
      rintro r w' ⟨rfl, rfl⟩
      go_wp2_with fail
      go_ret2
      exact ⟨_, rfl, .none _, Below.refl _ _⟩
    · simp only [sa, sb, decide_true, decide_false, bne_self_eq_false, Bool.true_bne, Bool.false_bne, Bool.not_false, Bool.not_true, if_true, if_false, Bool.false_eq_true] at hf
      have ea : decide (a < 0) = true := decide_eq_true sa
      have eb : decide (b < 0) = false := decide_eq_false sb
      clear sa sb
      have hh : ¬ 0 < hi := by omega
      have hl : ¬ 9223372036854775808 < lo := by omega
      clear hf hx h0 h1
      go_enter Tryd.func12, Tryd.ntmps12
      go_wp2_with fail
      refine (HA.out _).mono ?_
      rintro r w' ⟨rfl, rfl⟩
      go_wp2_with fail
      refine (HB.out _).mono ?_
      rintro r w' ⟨rfl, rfl⟩
      go_wp2_with fail
      refine (HM.out _).mono ?_
      rintro r w' ⟨rfl, rfl⟩
      go_wp2_with fail
      go_ret2
      exact ⟨_, rfl, .none _, Below.refl _ _⟩
    · simp only [sa, sb, decide_true, decide_false, bne_self_eq_false, Bool.true_bne, Bool.false_bne, Bool.not_false, Bool.not_true, if_true, if_false, Bool.false_eq_true] at hf
      have ea : decide (a < 0) = false := decide_eq_false sa
      have eb : decide (b < 0) = true := decide_eq_true sb
      clear sa sb
      have hh : ¬ 0 < hi := by omega
      have hl : ¬ 9223372036854775808 < lo := by omega
      clear hf hx h0 h1
      go_enter Tryd.func12, Tryd.ntmps12
      go_wp2_with fail
      refine (HA.out _).mono ?_
      rintro r w' ⟨rfl, rfl⟩
      go_wp2_with fail
      refine (HB.out _).mono ?_
      rintro r w' ⟨rfl, rfl⟩
      go_wp2_with fail
      refine (HM.out _).mono ?_
      rintro r w' ⟨rfl, rfl⟩
      go_wp2_with fail
      go_ret2
      exact ⟨_, rfl, .none _, Below.refl _ _⟩
    · simp only [sa, sb, decide_true, decide_false, bne_self_eq_false, Bool.true_bne, Bool.false_bne, Bool.not_false, Bool.not_true, if_true, if_false, Bool.false_eq_true] at hf
      have ea : decide (a < 0) = false := decide_eq_false sa
      have eb : decide (b < 0) = false := decide_eq_false sb
      clear sa sb
      have hh : ¬ 0 < hi := by omega
      have hl : ¬ 9223372036854775807 < lo := by omega
      clear hf hx h0 h1
      go_enter Tryd.func12, Tryd.ntmps12
      go_wp2_with fail
      refine (HA.out _).mono ?_
      rintro r w' ⟨rfl, rfl⟩
      go_wp2_with fail
      refine (HB.out _).mono ?_
      rintro r w' ⟨rfl, rfl⟩
      go_wp2_with fail
      refine (HM.out _).mono ?_
      rintro r w' ⟨rfl, rfl⟩
      go_wp2_with fail
      go_ret2
      exact ⟨_, rfl, .none _, Below.refl _ _⟩
  · rw [if_neg hs, if_neg hs]
    have hf : ¬ _ := fun h => hs ((mul_fit a b).mpr h)
    clear hs
    generalize a.natAbs * b.natAbs = P at *
    by_cases sa : a < 0 <;> by_cases sb : b < 0
    · simp only [sa, sb, decide_true, decide_false, bne_self_eq_false, Bool.true_bne, Bool.false_bne, Bool.not_false, Bool.not_true, if_true, if_false, Bool.false_eq_true] at hf
      have ea : decide (a < 0) = true := decide_eq_true sa
      have eb : decide (b < 0) = true := decide_eq_true sb
      clear sa sb
      by_cases hh : 0 < hi
      · clear hf hx h0 h1
        go_enter Tryd.func12, Tryd.ntmps12
        go_wp2_with fail
        refine (HA.out _).mono ?_
        rintro r w' ⟨rfl, rfl⟩
        go_wp2_with fail
        refine (HB.out _).mono ?_
        rintro r w' ⟨rfl, rfl⟩
        go_wp2_with fail
        refine (HM.out _).mono ?_
        rintro r w' ⟨rfl, rfl⟩
        go_wp2_with fail
        refine (d_far _).mono ?_
        rintro r w' ⟨v, rfl, hv, hb⟩
        have HV := Lib.hid hv
        have HW := Lib.hid hb
        clear hv hb
        go_wp2_with fail
        go_ret2
        exact ⟨v, rfl, HV.out, HW.out⟩
      · have hl : 9223372036854775807 < lo := by omega
        clear hf hx h0 h1
        go_enter Tryd.func12, Tryd.ntmps12
        go_wp2_with fail
        refine (HA.out _).mono ?_
        rintro r w' ⟨rfl, rfl⟩
        go_wp2_with fail
        refine (HB.out _).mono ?_
        rintro r w' ⟨rfl, rfl⟩
        go_wp2_with fail
        refine (HM.out _).mono ?_
        rintro r w' ⟨rfl, rfl⟩
        go_wp2_with fail
        refine (d_far _).mono ?_
        rintro r w' ⟨v, rfl, hv, hb⟩
        have HV := Lib.hid hv
        have HW := Lib.hid hb
        clear hv hb
        go_wp2_with fail
        go_ret2
        exact ⟨v, rfl, HV.out, HW.out⟩
    · simp only [sa, sb, decide_true, decide_false, bne_self_eq_false, Bool.true_bne, Bool.false_bne, Bool.not_false, Bool.not_true, if_true, if_false, Bool.false_eq_true] at hf
      have ea : decide (a < 0) = true := decide_eq_true sa
      have eb : decide (b < 0) = false := decide_eq_false sb
      clear sa sb
      by_cases hh : 0 < hi
      · clear hf hx h0 h1
        go_enter Tryd.func12, Tryd.ntmps12
        go_wp2_with fail
        refine (HA.out _).mono ?_
        rintro r w' ⟨rfl, rfl⟩
        go_wp2_with fail
        refine (HB.out _).mono ?_
        rintro r w' ⟨rfl, rfl⟩
        go_wp2_with fail
        refine (HM.out _).mono ?_
        rintro r w' ⟨rfl, rfl⟩
        go_wp2_with fail
        refine (d_far _).mono ?_
        rintro r w' ⟨v, rfl, hv, hb⟩
        have HV := Lib.hid hv
        have HW := Lib.hid hb
        clear hv hb
        go_wp2_with fail
        go_ret2
        exact ⟨v, rfl, HV.out, HW.out⟩
      · have hl : 9223372036854775808 < lo := by omega
        clear hf hx h0 h1
        go_enter Tryd.func12, Tryd.ntmps12
        go_wp2_with fail
        refine (HA.out _).mono ?_
        rintro r w' ⟨rfl, rfl⟩
        go_wp2_with fail
        refine (HB.out _).mono ?_
        rintro r w' ⟨rfl, rfl⟩
        go_wp2_with fail
        refine (HM.out _).mono ?_
        rintro r w' ⟨rfl, rfl⟩
        go_wp2_with fail
        refine (d_far _).mono ?_
        rintro r w' ⟨v, rfl, hv, hb⟩
        have HV := Lib.hid hv
        have HW := Lib.hid hb
        clear hv hb
        go_wp2_with fail
        go_ret2
        exact ⟨v, rfl, HV.out, HW.out⟩
    · simp only [sa, sb, decide_true, decide_false, bne_self_eq_false, Bool.true_bne, Bool.false_bne, Bool.not_false, Bool.not_true, if_true, if_false, Bool.false_eq_true] at hf
      have ea : decide (a < 0) = false := decide_eq_false sa
      have eb : decide (b < 0) = true := decide_eq_true sb
      clear sa sb
      by_cases hh : 0 < hi
      · clear hf hx h0 h1
        go_enter Tryd.func12, Tryd.ntmps12
        go_wp2_with fail
        refine (HA.out _).mono ?_
        rintro r w' ⟨rfl, rfl⟩
        go_wp2_with fail
        refine (HB.out _).mono ?_
        rintro r w' ⟨rfl, rfl⟩
        go_wp2_with fail
        refine (HM.out _).mono ?_
        rintro r w' ⟨rfl, rfl⟩
        go_wp2_with fail
        refine (d_far _).mono ?_
        rintro r w' ⟨v, rfl, hv, hb⟩
        have HV := Lib.hid hv
        have HW := Lib.hid hb
        clear hv hb
        go_wp2_with fail
        go_ret2
        exact ⟨v, rfl, HV.out, HW.out⟩
      · have hl : 9223372036854775808 < lo := by omega
        clear hf hx h0 h1
        go_enter Tryd.func12, Tryd.ntmps12
        go_wp2_with fail
        refine (HA.out _).mono ?_
        rintro r w' ⟨rfl, rfl⟩
        go_wp2_with fail
        refine (HB.out _).mono ?_
        rintro r w' ⟨rfl, rfl⟩
        go_wp2_with fail
        refine (HM.out _).mono ?_
        rintro r w' ⟨rfl, rfl⟩
        go_wp2_with fail
        refine (d_far _).mono ?_
        rintro r w' ⟨v, rfl, hv, hb⟩
        have HV := Lib.hid hv
        have HW := Lib.hid hb
        clear hv hb
        go_wp2_with fail
        go_ret2
        exact ⟨v, rfl, HV.out, HW.out⟩
    · simp only [sa, sb, decide_true, decide_false, bne_self_eq_false, Bool.true_bne, Bool.false_bne, Bool.not_false, Bool.not_true, if_true, if_false, Bool.false_eq_true] at hf
      have ea : decide (a < 0) = false := decide_eq_false sa
      have eb : decide (b < 0) = false := decide_eq_false sb
      clear sa sb
      by_cases hh : 0 < hi
      · clear hf hx h0 h1
        go_enter Tryd.func12, Tryd.ntmps12
        go_wp2_with fail
        refine (HA.out _).mono ?_
        rintro r w' ⟨rfl, rfl⟩
        go_wp2_with fail
        refine (HB.out _).mono ?_
        rintro r w' ⟨rfl, rfl⟩
        go_wp2_with fail
        refine (HM.out _).mono ?_
        rintro r w' ⟨rfl, rfl⟩
        go_wp2_with fail
        refine (d_far _).mono ?_
        rintro r w' ⟨v, rfl, hv, hb⟩
        have HV := Lib.hid hv
        have HW := Lib.hid hb
        clear hv hb
        go_wp2_with fail
        go_ret2
        exact ⟨v, rfl, HV.out, HW.out⟩
      · have hl : 9223372036854775807 < lo := by omega
        clear hf hx h0 h1
        go_enter Tryd.func12, Tryd.ntmps12
        go_wp2_with fail
        refine (HA.out _).mono ?_
        rintro r w' ⟨rfl, rfl⟩
        go_wp2_with fail
        refine (HB.out _).mono ?_
        rintro r w' ⟨rfl, rfl⟩
        go_wp2_with fail
        refine (HM.out _).mono ?_
        rintro r w' ⟨rfl, rfl⟩
        go_wp2_with fail
        refine (d_far _).mono ?_
        rintro r w' ⟨v, rfl, hv, hb⟩
        have HV := Lib.hid hv
        have HW := Lib.hid hb
        clear hv hb
        go_wp2_with fail
        go_ret2
        exact ⟨v, rfl, HV.out, HW.out⟩
end Go.Proofs.YtflicahchahcnaaDoor
