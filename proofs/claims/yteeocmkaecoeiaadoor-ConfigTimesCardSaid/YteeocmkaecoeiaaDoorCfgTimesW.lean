/- The walk of ConfigTimes. -/
import Derived.Test.YteeocmkaecoeiaaDoorCfgSmall
import Derived.Test.YteeocmkaecoeiaaDoorArgs
namespace Go.Proofs.YteeocmkaecoeiaaDoor
open Go.RowKit
set_option linter.unusedVariables false
set_option linter.unusedSimpArgs false
theorem std_ok (n : Nat) : (List.replicate n stdLn).all lnOk = true := by
  rw [List.all_eq_true]
  intro x hx
  rw [(List.mem_replicate.1 hx).2]
  decide
theorem times_ok (n : Nat) (t : Int) (h1 : 1 ≤ n) (h2 : n ≤ 8) (h3 : 1 ≤ t) (h4 : t ≤ 6000) : cfErr (List.replicate n stdLn) (tmAll t) = 0 := by
  refine cf_yes _ _ ?_ (std_ok n) (by rw [List.length_replicate]; exact ⟨h1, h2⟩)
  unfold tmTo btw
  rw [List.all_eq_true]
  intro k hk
  have hk' : k < 10 := by simpa using hk
  rcases (by omega : k = 0 ∨ k = 1 ∨ k = 2 ∨ k = 3 ∨ k = 4 ∨ k = 5 ∨ k = 6 ∨ k = 7 ∨ k = 8 ∨ k = 9) with rfl | rfl | rfl | rfl | rfl | rfl | rfl | rfl | rfl | rfl <;> simp [Tm.get, tmAll, h3, h4]
theorem times_no (n : Nat) (t : Int) (h : ¬ (1 ≤ t ∧ t ≤ 6000)) : cfErr (List.replicate n stdLn) (tmAll t) = 6 := by
  refine cf_no_tm _ _ (tm_no (tmAll t) 0 (by omega) ?_)
  simp only [Tm.get, tmAll, btw, Bool.and_eq_false_iff, decide_eq_false_iff_not]
  omega
theorem times_len (n : Nat) (t : Int) (h : ¬ (1 ≤ n ∧ n ≤ 8)) : cfErr (List.replicate n stdLn) (tmAll t) = 6 := cf_no_len _ _ (by rw [List.length_replicate]; exact h)
set_option maxRecDepth 100000 in
set_option maxHeartbeats 8000000 in
theorem configTimes_walk (a0 : Int) (a1 : Int) (w : World) (w0 : (Lit.int .i64 a0).wf = true) (w1 : (Lit.int .i64 a1).wf = true) (hg : HasTy w) :
    Calls Tryd.prog 7 #[.int .i64 a0, .int .i64 a1] w fun e w' => e = .returned (.bool true) ∧ Below w.heap.size w w' := by
  have HG := Lib.hid hg
  clear w0 w1 hg
  by_cases h0 : a0 < 0
  · go_enter Tryd.func7, Tryd.ntmps7
    go_wp2_with fail
    refine (l_small08 _ HG.out).mono ?_
    rintro e x1 ⟨rfl, hb⟩
    have B1 := Lib.hid hb
    clear hb
    go_wp2_with fail
    go_ret
    exact ⟨rfl, B1.out⟩
  by_cases h20 : 20 < a0
  · go_enter Tryd.func7, Tryd.ntmps7
    go_wp2_with fail
    refine (l_small08 _ HG.out).mono ?_
    rintro e x1 ⟨rfl, hb⟩
    have B1 := Lib.hid hb
    clear hb
    go_wp2_with fail
    go_ret
    exact ⟨rfl, B1.out⟩
  obtain ⟨n, rfl⟩ := Int.eq_ofNat_of_zero_le (show 0 ≤ a0 by omega)
  by_cases h1 : 1 ≤ (n : Int)
  rotate_left
  · have E := Lib.hid (times_len n a1 (by omega))
    go_enter Tryd.func7, Tryd.ntmps7
    go_wp2_with fail
    refine (l_small08 _ HG.out).mono ?_
    rintro e x1 ⟨rfl, hb⟩
    have B1 := Lib.hid hb
    clear hb
    go_wp2_with fail
    refine (l_crossing n a1 _ (by omega)).mono ?_
    rintro e x2 ⟨A2, c2, rfl, hr, hb⟩
    have B2 := Lib.hid (below_go B1.out hb)
    have R2 := Lib.hid hr
    clear hb hr
    go_wp2_with fail
    refine (cf_check A2 n c2 _ _ _ R2.out).mono ?_
    rintro e x3 ⟨v3, rfl, he, hb⟩
    have B3 := Lib.hid (below_go B2.out hb)
    rw [E.out] at he
    obtain ⟨ta, ua, rfl⟩ := he.isErr (by decide)
    clear he hb
    go_wp2_with fail
    go_ret
    exact ⟨by first | rfl | (simp; omega), B3.out⟩
  by_cases h8 : (n : Int) ≤ 8
  rotate_left
  · have E := Lib.hid (times_len n a1 (by omega))
    go_enter Tryd.func7, Tryd.ntmps7
    go_wp2_with fail
    refine (l_small08 _ HG.out).mono ?_
    rintro e x1 ⟨rfl, hb⟩
    have B1 := Lib.hid hb
    clear hb
    go_wp2_with fail
    refine (l_crossing n a1 _ (by omega)).mono ?_
    rintro e x2 ⟨A2, c2, rfl, hr, hb⟩
    have B2 := Lib.hid (below_go B1.out hb)
    have R2 := Lib.hid hr
    clear hb hr
    go_wp2_with fail
    refine (cf_check A2 n c2 _ _ _ R2.out).mono ?_
    rintro e x3 ⟨v3, rfl, he, hb⟩
    have B3 := Lib.hid (below_go B2.out hb)
    rw [E.out] at he
    obtain ⟨ta, ua, rfl⟩ := he.isErr (by decide)
    clear he hb
    go_wp2_with fail
    go_ret
    exact ⟨by first | rfl | (simp; omega), B3.out⟩
  by_cases h3 : 1 ≤ a1
  rotate_left
  · have E := Lib.hid (times_no n a1 (by omega))
    go_enter Tryd.func7, Tryd.ntmps7
    go_wp2_with fail
    refine (l_small08 _ HG.out).mono ?_
    rintro e x1 ⟨rfl, hb⟩
    have B1 := Lib.hid hb
    clear hb
    go_wp2_with fail
    refine (l_crossing n a1 _ (by omega)).mono ?_
    rintro e x2 ⟨A2, c2, rfl, hr, hb⟩
    have B2 := Lib.hid (below_go B1.out hb)
    have R2 := Lib.hid hr
    clear hb hr
    go_wp2_with fail
    refine (cf_check A2 n c2 _ _ _ R2.out).mono ?_
    rintro e x3 ⟨v3, rfl, he, hb⟩
    have B3 := Lib.hid (below_go B2.out hb)
    rw [E.out] at he
    obtain ⟨ta, ua, rfl⟩ := he.isErr (by decide)
    clear he hb
    go_wp2_with fail
    go_ret
    exact ⟨by first | rfl | (simp; omega), B3.out⟩
  by_cases h4 : a1 ≤ 6000
  rotate_left
  · have E := Lib.hid (times_no n a1 (by omega))
    go_enter Tryd.func7, Tryd.ntmps7
    go_wp2_with fail
    refine (l_small08 _ HG.out).mono ?_
    rintro e x1 ⟨rfl, hb⟩
    have B1 := Lib.hid hb
    clear hb
    go_wp2_with fail
    refine (l_crossing n a1 _ (by omega)).mono ?_
    rintro e x2 ⟨A2, c2, rfl, hr, hb⟩
    have B2 := Lib.hid (below_go B1.out hb)
    have R2 := Lib.hid hr
    clear hb hr
    go_wp2_with fail
    refine (cf_check A2 n c2 _ _ _ R2.out).mono ?_
    rintro e x3 ⟨v3, rfl, he, hb⟩
    have B3 := Lib.hid (below_go B2.out hb)
    rw [E.out] at he
    obtain ⟨ta, ua, rfl⟩ := he.isErr (by decide)
    clear he hb
    go_wp2_with fail
    go_ret
    exact ⟨by first | rfl | (simp; omega), B3.out⟩
  have E := Lib.hid (times_ok n a1 (by omega) (by omega) h3 h4)
  go_enter Tryd.func7, Tryd.ntmps7
  go_wp2_with fail
  refine (l_small08 _ HG.out).mono ?_
  rintro e x1 ⟨rfl, hb⟩
  have B1 := Lib.hid hb
  clear hb
  go_wp2_with fail
  refine (l_crossing n a1 _ (by omega)).mono ?_
  rintro e x2 ⟨A2, c2, rfl, hr, hb⟩
  have B2 := Lib.hid (below_go B1.out hb)
  have R2 := Lib.hid hr
  clear hb hr
  go_wp2_with fail
  refine (cf_check A2 n c2 _ _ _ R2.out).mono ?_
  rintro e x3 ⟨v3, rfl, he, hb⟩
  have B3 := Lib.hid (below_go B2.out hb)
  rw [E.out] at he
  obtain rfl := he.isNil
  clear he hb
  go_wp2_with fail
  go_ret
  exact ⟨rfl, B3.out⟩
end Go.Proofs.YteeocmkaecoeiaaDoor
