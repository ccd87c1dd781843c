/- The document's sums, products, ways, delays. -/
import Derived.Test.YtflicahchahcnaaDoorDelayOf
namespace Go.Proofs.YtflicahchahcnaaDoor
open Go.RowKit
set_option linter.unusedVariables false
set_option linter.unusedSimpArgs false

theorem r_add (a b : Int) (ha : inI a) (hb : inI b) (w : World) : Calls Tryd.prog 11 #[.int .i64 a, .int .i64 b] w fun e w' => e = .returned (.tuple #[.int .i64 (numOf (a + b)), .int .i64 (errOf (a + b))]) ∧ w = w' := by
  unfold numOf errOf
  by_cases hs : inI (a + b)
  · rw [if_pos hs, if_pos hs]
    have e := add_in a b hs
    by_cases h0 : 0 < b
    · have h0' : ¬ b < 0 := by omega
      have e1 : IntKind.i64.wrap (9223372036854775807 - b) = 9223372036854775807 - b := by unfold inI at *; rw [IntKind.wrap_i64]; omega
      have h1 : ¬ 9223372036854775807 - b < a := by unfold inI at *; omega
      clear ha hb hs
      go_enter Tryd.func11, Tryd.ntmps11
      go_wp2_with fail
      go_ret2
      exact ⟨rfl, rfl⟩
    by_cases h2 : b < 0
    · have e1 : IntKind.i64.wrap (-9223372036854775808 - b) = -9223372036854775808 - b := by unfold inI at *; rw [IntKind.wrap_i64]; omega
      have h1 : ¬ a < -9223372036854775808 - b := by unfold inI at *; omega
      clear ha hb hs
      go_enter Tryd.func11, Tryd.ntmps11
      go_wp2_with fail
      go_ret2
      exact ⟨rfl, rfl⟩
    · clear ha hb hs
      go_enter Tryd.func11, Tryd.ntmps11
      go_wp2_with fail
      go_ret2
      exact ⟨rfl, rfl⟩
  · rw [if_neg hs, if_neg hs]
    by_cases h0 : 0 < b
    · have e1 : IntKind.i64.wrap (9223372036854775807 - b) = 9223372036854775807 - b := by unfold inI at *; rw [IntKind.wrap_i64]; omega
      have h1 : 9223372036854775807 - b < a := by unfold inI at *; omega
      clear ha hb hs
      go_enter Tryd.func11, Tryd.ntmps11
      go_wp2_with fail
      go_ret2
      exact ⟨rfl, rfl⟩
    · have h2 : b < 0 := by unfold inI at *; omega
      have e1 : IntKind.i64.wrap (-9223372036854775808 - b) = -9223372036854775808 - b := by unfold inI at *; rw [IntKind.wrap_i64]; omega
      have h1 : a < -9223372036854775808 - b := by unfold inI at *; omega
      clear ha hb hs
      go_enter Tryd.func11, Tryd.ntmps11
      go_wp2_with fail
      go_ret2
      exact ⟨rfl, rfl⟩

theorem r_way (f s : Int) (w : World) (hf : inI f) (hs : inI s) : Calls Tryd.prog 15 #[.int .i64 f, .int .i64 s] w fun e w' => e = .returned (.tuple #[.int .i64 (if f < 0 ∨ s < 1 then 0 else f / s), .int .i64 (if f < 0 ∨ s < 1 then 1 else 0)]) ∧ w = w' := by
  by_cases h0 : f < 0
  · rw [if_pos (.inl h0), if_pos (.inl h0)]
    clear hf hs
    go_enter Tryd.func15, Tryd.ntmps15
    go_wp2_with fail
    go_ret2
    exact ⟨rfl, rfl⟩
  by_cases h1 : s < 1
  · rw [if_pos (.inr h1), if_pos (.inr h1)]
    clear hf hs
    go_enter Tryd.func15, Tryd.ntmps15
    go_wp2_with fail
    go_ret2
    exact ⟨rfl, rfl⟩
  · rw [if_neg (by omega), if_neg (by omega)]
    have hn0 : ¬ s = 0 := by omega
    have hq : f.tdiv s = f / s := Int.tdiv_eq_ediv_of_nonneg (by omega)
    have hw : IntKind.i64.wrap (f / s) = f / s := by
      have := Int.ediv_nonneg (a := f) (b := s) (by omega) (by omega)
      have := Int.ediv_le_self s (a := f) (by omega)
      unfold inI at hf
      rw [IntKind.wrap_i64]; omega
    clear hf hs
    go_enter Tryd.func15, Tryd.ntmps15
    go_wp2_with fail
    go_ret2
    exact ⟨rfl, rfl⟩

theorem wrap_in (n : Int) : inI (IntKind.i64.wrap n) := by unfold inI; rw [IntKind.wrap_i64]; omega
theorem wrap_off (n : Int) : ∃ m : Int, IntKind.i64.wrap n = n + 18446744073709551616 * m := by
  rw [IntKind.wrap_i64]
  exact ⟨-((n + 9223372036854775808) / 18446744073709551616), by omega⟩
/-- The document's test. -/
theorem mul_told (a b : Int) (ha : inI a) (hb : inI b) (ha0 : a ≠ 0) (hb0 : b ≠ 0) (h1 : ¬ (a = -1 ∧ b = -9223372036854775808)) (h2 : ¬ (b = -1 ∧ a = -9223372036854775808)) :
    IntKind.i64.wrap ((IntKind.i64.wrap (a * b)).tdiv b) = a ↔ inI (a * b) := by
  constructor
  · intro h
    obtain ⟨m, hm⟩ := wrap_off (a * b)
    have hw := wrap_in (a * b)
    generalize hn : IntKind.i64.wrap (a * b) = n at *
    have hdm := Int.mul_tdiv_add_tmod n b
    have hr := Int.natAbs_tmod n b
    have hr2 := Nat.mod_lt n.natAbs (show 0 < b.natAbs by omega)
    have hq : (n.tdiv b).natAbs = n.natAbs / b.natAbs := Int.natAbs_tdiv n b
    have hq2 := Nat.div_le_self n.natAbs b.natAbs
    generalize hqq : n.tdiv b = q at *
    generalize n.tmod b = r at *
    by_cases hq63 : q = 9223372036854775808
    · exfalso
      apply h2
      subst hq63
      have ea : a = -9223372036854775808 := by rw [← h]; decide
      refine ⟨?_, ea⟩
      have hn63 : n.natAbs = 9223372036854775808 := by unfold inI at hw; omega
      have hb1 : b.natAbs = 1 := by
        rw [hn63] at hq
        by_cases hb2 : 2 ≤ b.natAbs
        · have := Nat.div_le_div_left (a := 9223372036854775808) hb2 (by omega)
          omega
        · omega
      rcases (by omega : b = 1 ∨ b = -1) with rfl | rfl
      · rw [Int.tdiv_one] at hqq
        unfold inI at hw; omega
      · rfl
    · have hqa : q = a := by rw [← h]; unfold inI at hw; rw [IntKind.wrap_i64]; omega
      subst hqa
      rw [Int.mul_comm q b] at *
      generalize b * q = p at *
      have : m = 0 := by unfold inI at hb; omega
      subst this
      have : n = p := by omega
      rw [← this]; exact hw
  · intro h
    rw [mul_wrap a b h, Int.mul_tdiv_cancel _ hb0]
    unfold inI at ha; rw [IntKind.wrap_i64]; omega

set_option maxHeartbeats 2000000 in
theorem r_mul (a b : Int) (ha : inI a) (hb : inI b) (w : World) : Calls Tryd.prog 13 #[.int .i64 a, .int .i64 b] w fun e w' => e = .returned (.tuple #[.int .i64 (numOf (a * b)), .int .i64 (errOf (a * b))]) ∧ w = w' := by
  by_cases a0 : a = 0
  · have e : numOf (a * b) = 0 ∧ errOf (a * b) = 0 := by subst a0; simp [numOf, errOf, inI]
    rw [e.1, e.2]
    clear ha hb e
    go_enter Tryd.func13, Tryd.ntmps13
    go_wp2_with fail
    go_ret2
    exact ⟨rfl, rfl⟩
  by_cases b0 : b = 0
  · have e : numOf (a * b) = 0 ∧ errOf (a * b) = 0 := by subst b0; simp [numOf, errOf, inI]
    rw [e.1, e.2]
    clear ha hb e
    go_enter Tryd.func13, Tryd.ntmps13
    go_wp2_with fail
    go_ret2
    exact ⟨rfl, rfl⟩
  by_cases h1 : a = -1 ∧ b = -9223372036854775808
  · obtain ⟨rfl, rfl⟩ := h1
    clear ha hb a0 b0
    have e : numOf (-1 * -9223372036854775808) = 0 ∧ errOf (-1 * -9223372036854775808) = 6 := by simp [numOf, errOf, inI]
    rw [e.1, e.2]
    clear e
    go_enter Tryd.func13, Tryd.ntmps13
    go_wp2_with fail
    go_ret2
    exact ⟨rfl, rfl⟩
  by_cases h2 : b = -1 ∧ a = -9223372036854775808
  · obtain ⟨rfl, rfl⟩ := h2
    clear ha hb a0 b0 h1
    have e : numOf (-9223372036854775808 * -1) = 0 ∧ errOf (-9223372036854775808 * -1) = 6 := by simp [numOf, errOf, inI]
    rw [e.1, e.2]
    clear e
    go_enter Tryd.func13, Tryd.ntmps13
    go_wp2_with fail
    go_ret2
    exact ⟨rfl, rfl⟩
  have ht := mul_told a b ha hb a0 b0 h1 h2
  unfold numOf errOf
  have fwa : IntKind.i64.wrap a = a := by unfold inI at ha; rw [IntKind.wrap_i64]; omega
  clear ha hb
  have fa0 : (a == 0) = false := by simpa using a0
  have fb0 : (b == 0) = false := by simpa using b0
  have h1' : ∀ (_ : (a == -1) = true), (b == -9223372036854775808) = false := fun h => by simp at h ⊢; exact fun k => h1 ⟨h, k⟩
  have h2' : ∀ (_ : (b == -1) = true), (a == -9223372036854775808) = false := fun h => by simp at h ⊢; exact fun k => h2 ⟨h, k⟩
  have b0' : ¬ b = 0 := b0
  by_cases hs : inI (a * b)
  · rw [if_pos hs, if_pos hs]
    have e := mul_wrap a b hs
    clear hs ht
    cases p1 : (a == -1) with
    | true =>
      have p2 := h1' p1
      cases p3 : (b == -1) with
      | true =>
        have p4 := h2' p3
        clear h1 h2 h1' h2' a0 b0
        go_enter Tryd.func13, Tryd.ntmps13
        go_wp2_with fail
        go_ret2
        exact ⟨rfl, rfl⟩
      | false =>
        clear h1 h2 h1' h2' a0 b0
        go_enter Tryd.func13, Tryd.ntmps13
        go_wp2_with fail
        go_ret2
        exact ⟨rfl, rfl⟩
    | false =>
      cases p3 : (b == -1) with
      | true =>
        have p4 := h2' p3
        clear h1 h2 h1' h2' a0 b0
        go_enter Tryd.func13, Tryd.ntmps13
        go_wp2_with fail
        go_ret2
        exact ⟨rfl, rfl⟩
      | false =>
        clear h1 h2 h1' h2' a0 b0
        go_enter Tryd.func13, Tryd.ntmps13
        go_wp2_with fail
        go_ret2
        exact ⟨rfl, rfl⟩
  · rw [if_neg hs, if_neg hs]
    obtain ⟨n, hn⟩ : ∃ n, IntKind.i64.wrap (a * b) = n := ⟨_, rfl⟩
    obtain ⟨q, hm⟩ : ∃ q, IntKind.i64.wrap (n.tdiv b) = q := ⟨_, rfl⟩
    have hq : ¬ IntKind.i64.wrap ((IntKind.i64.wrap (a * b)).tdiv b) = a := fun h => hs (ht.mp h)
    rw [hn, hm] at hq
    have fq : (q != a) = true := by simpa using hq
    clear hs ht hq fwa
    cases p1 : (a == -1) with
    | true =>
      have p2 := h1' p1
      cases p3 : (b == -1) with
      | true =>
        have p4 := h2' p3
        clear h1 h2 h1' h2' a0 b0
        go_enter Tryd.func13, Tryd.ntmps13
        go_wp2_with fail
        go_ret2
        exact ⟨rfl, rfl⟩
      | false =>
        clear h1 h2 h1' h2' a0 b0
        go_enter Tryd.func13, Tryd.ntmps13
        go_wp2_with fail
        go_ret2
        exact ⟨rfl, rfl⟩
    | false =>
      cases p3 : (b == -1) with
      | true =>
        have p4 := h2' p3
        clear h1 h2 h1' h2' a0 b0
        go_enter Tryd.func13, Tryd.ntmps13
        go_wp2_with fail
        go_ret2
        exact ⟨rfl, rfl⟩
      | false =>
        clear h1 h2 h1' h2' a0 b0
        go_enter Tryd.func13, Tryd.ntmps13
        go_wp2_with fail
        go_ret2
        exact ⟨rfl, rfl⟩
end Go.Proofs.YtflicahchahcnaaDoor
