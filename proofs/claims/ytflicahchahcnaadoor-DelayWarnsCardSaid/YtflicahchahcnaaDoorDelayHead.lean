/- The head of layer 9's statements: small. -/
import Derived.Test.YtflicahchahcnaaDoorDelaySm
namespace Go.Proofs.YtflicahchahcnaaDoor
open Go.RowKit
set_option linter.unusedVariables false
set_option linter.unusedSimpArgs false

theorem IsNe.nil {n : Int} {w w' : World} {e : Ending} (h : IsNe n 0 w e w') : e = .returned (.tuple #[.int .i64 n, .nilIface]) ∧ Below w.heap.size w w' := by
  obtain ⟨v, rfl, hv, hb⟩ := h
  rcases hv with ⟨_, rfl⟩ | ⟨h, _⟩
  · exact ⟨rfl, hb⟩
  · exact absurd h (by decide)
theorem IsNe.err {n c : Int} {w w' : World} {e : Ending} (h : IsNe n c w e w') (hc : (c == 0) = false) : ∃ t u, e = .returned (.tuple #[.int .i64 n, .iface t u]) ∧ ErrIs w' (.iface t u) c ∧ Below w.heap.size w w' := by
  obtain ⟨v, rfl, hv, hb⟩ := h
  rcases hv with ⟨rfl, _⟩ | ⟨h, d, hd⟩
  · exact absurd hc (by decide)
  · obtain ⟨t, u, rfl⟩ := hd.iface
    exact ⟨t, u, rfl, .inr ⟨h, d, hd⟩, hb⟩
theorem h_add : numOf (9223372036854775807 + 1) = 0 ∧ errOf (9223372036854775807 + 1) = 6 := by constructor <;> rfl
theorem h_mul : numOf (1099511627776 * 8388608) = 0 ∧ errOf (1099511627776 * 8388608) = 6 := by constructor <;> rfl
theorem h_mul2 : numOf (-1099511627776 * 8388608) = -9223372036854775808 ∧ errOf (-1099511627776 * 8388608) = 0 := by constructor <;> rfl
theorem h_tab : (tabOf (List.replicate 2 stdLn) (tmAll 30)).length = 2 ∧ cfErr (List.replicate 2 stdLn) (tmAll 30) = 0 := by constructor <;> decide
theorem h_bnd : bndOf (List.replicate 1 stdLn) (tmAll 5) = 28 ∧ cfErr (List.replicate 1 stdLn) (tmAll 5) = 0 := by constructor <;> decide
theorem std_in : inLn stdLn := by unfold inLn inI; decide
theorem h_of : ofD 30 stdLn = ⟨70, 20, 0⟩ := by rfl
theorem c_add (w : World) : Calls Tryd.prog 10 #[.int .i64 9223372036854775807, .int .i64 1] w (IsNe 0 6 w) := by
  have := d_add 9223372036854775807 1 (by unfold inI; omega) (by unfold inI; omega) w
  rwa [h_add.1, h_add.2] at this
theorem c_mul (w : World) : Calls Tryd.prog 12 #[.int .i64 1099511627776, .int .i64 8388608] w (IsNe 0 6 w) := by
  have := d_mul 1099511627776 8388608 (by unfold inI; omega) (by unfold inI; omega) w
  rwa [h_mul.1, h_mul.2] at this
theorem c_mul2 (w : World) : Calls Tryd.prog 12 #[.int .i64 (-1099511627776), .int .i64 8388608] w (IsNe (-9223372036854775808) 0 w) := by
  have := d_mul (-1099511627776) 8388608 (by unfold inI; omega) (by unfold inI; omega) w
  rwa [h_mul2.1, h_mul2.2] at this
theorem c_way (w : World) : Calls Tryd.prog 14 #[.int .i64 1001, .int .i64 10] w (IsNe 100 0 w) := d_way 1001 10 w (by unfold inI; omega) (by unfold inI; omega)
theorem c_way2 (w : World) : Calls Tryd.prog 14 #[.int .i64 1, .int .i64 0] w (IsNe 0 1 w) := d_way 1 0 w (by unfold inI; omega) (by unfold inI; omega)
set_option maxHeartbeats 4000000 in
set_option maxRecDepth 100000 in
theorem l_small (w : World) (hg : HasTy w) : Calls Tryd.prog 9 #[] w fun e w' => e = .returned (.bool true) ∧ Below w.heap.size w w' := by
  have HG := Lib.hid hg
  have hb0 := below_st w (.cells #[.int .i64 1000, .int .i64 500, .int .i64 10, .int .i64 20, .int .i64 40] 34)
  have H0 := Lib.hid hb0
  have x0 : ∀ w', Below (w.alloc (.cells #[.int .i64 1000, .int .i64 500, .int .i64 10, .int .i64 20, .int .i64 40] 34)).heap.size (w.alloc (.cells #[.int .i64 1000, .int .i64 500, .int .i64 10, .int .i64 20, .int .i64 40] 34)) w' → w'.cell? ⟨w.heap.size, 0, none⟩ = some (.int .i64 1000) ∧ w'.cell? ⟨w.heap.size, 1, none⟩ = some (.int .i64 500) ∧ w'.cell? ⟨w.heap.size, 2, none⟩ = some (.int .i64 10) ∧ w'.cell? ⟨w.heap.size, 3, none⟩ = some (.int .i64 20) ∧ w'.cell? ⟨w.heap.size, 4, none⟩ = some (.int .i64 40) := fun w' h => by
    refine ⟨?_, ?_, ?_, ?_, ?_⟩ <;> rw [h.cell (by simp)] <;> simp
  have HX := Lib.hid x0
  clear hg hb0 x0
  go_enter Tryd.func9, Tryd.ntmps9
  go_wp2_with fail
  generalize w.alloc _ = w0 at *
  have B0 := Lib.hid (Below.refl w0.heap.size w0)
  refine (c_add _).mono ?_
  intro e w1 h
  obtain ⟨ta, ua, rfl, hv, hb⟩ := h.err (by decide)
  have EA := Lib.hid hv
  clear hv h
  have B1 := Lib.hid (below_go B0.out hb)
  have SB1 := Lib.hid hb
  clear hb
  go_wp2_with fail
  refine (c_mul _).mono ?_
  intro e w2 h
  obtain ⟨tb, ub, rfl, hv, hb⟩ := h.err (by decide)
  have EB := Lib.hid hv
  clear hv h
  have B2 := Lib.hid (below_go B1.out hb)
  have SB2 := Lib.hid hb
  clear hb
  go_wp2_with fail
  refine (c_mul2 _).mono ?_
  intro e w3 h
  obtain ⟨rfl, hb⟩ := h.nil
  have B3 := Lib.hid (below_go B2.out hb)
  have SB3 := Lib.hid hb
  clear hb
  go_wp2_with fail
  refine (c_way _).mono ?_
  intro e w4 h
  obtain ⟨rfl, hb⟩ := h.nil
  have B4 := Lib.hid (below_go B3.out hb)
  have SB4 := Lib.hid hb
  clear hb
  go_wp2_with fail
  refine (c_way2 _).mono ?_
  intro e w5 h
  obtain ⟨tc, uc, rfl, hv, hb⟩ := h.err (by decide)
  have EC := Lib.hid hv
  clear hv h
  have B5 := Lib.hid (below_go B4.out hb)
  have SB5 := Lib.hid hb
  clear hb
  go_wp2_with fail
  refine (l_crossing 2 30 _ (by omega)).mono ?_
  rintro e w6 ⟨A6, c6, rfl, hr6, hb⟩
  have R6 := Lib.hid hr6
  clear hr6
  have B6 := Lib.hid (below_go B5.out hb)
  have SB6 := Lib.hid hb
  clear hb
  go_wp2_with fail
  refine (d_table A6 2 c6 _ _ _ R6.out).mono ?_
  rintro e w7 ⟨v7, u7, rfl, hown, hfr, hv, hb⟩
  rw [h_tab.2] at hv
  rcases hv with ⟨_, rfl⟩ | ⟨h, _⟩
  rotate_left
  · exact absurd h (by decide)
  obtain ⟨A7, c7, rfl, _, _⟩ := hown.re (by rw [h_tab.1]; omega)
  rw [h_tab.1]
  clear hown hfr
  have B7 := Lib.hid (below_go B6.out hb)
  have SB7 := Lib.hid hb
  clear hb
  go_wp2_with fail
  refine (l_crossing 1 5 _ (by omega)).mono ?_
  rintro e w8 ⟨A8, c8, rfl, hr8, hb⟩
  have R8 := Lib.hid hr8
  clear hr8
  have B8 := Lib.hid (below_go B7.out hb)
  have SB8 := Lib.hid hb
  clear hb
  go_wp2_with fail
  refine (d_bound A8 1 c8 _ _ _ R8.out).mono ?_
  intro e w9 h
  rw [h_bnd.1, h_bnd.2] at h
  obtain ⟨rfl, hb⟩ := h.nil
  clear h
  have hx := HX.out w9 (below_go B8.out hb)
  obtain ⟨x0, x1, x2, x3, x4⟩ := hx
  have B9 := Lib.hid (below_go B8.out hb)
  have SB9 := Lib.hid hb
  clear hb
  go_wp2_with fail
  refine (d_of stdLn 30 _ std_in (by unfold inI; omega)).mono ?_
  rintro e w10 ⟨rfl, hb⟩
  rw [show ofv stdLn 30 = .agg #[.int .i64 70, .int .i64 20, .int .i64 0] from rfl]
  have hq := dl_eql ⟨70, 20, 0⟩ ⟨70, 20, 0⟩
  clear x0 x1 x2 x3 x4
  have B10 := Lib.hid (below_go B9.out hb)
  have SB10 := Lib.hid hb
  clear hb
  go_wp2_with fail
  have E1 := Lib.hid (EA.out.below (below_go (below_go (below_go (below_go (below_go (below_go (below_go (below_go SB2.out SB3.out) SB4.out) SB5.out) SB6.out) SB7.out) SB8.out) SB9.out) SB10.out))
  have E2 := Lib.hid (EB.out.below (below_go (below_go (below_go (below_go (below_go (below_go (below_go SB3.out SB4.out) SB5.out) SB6.out) SB7.out) SB8.out) SB9.out) SB10.out))
  have E3 := Lib.hid (EC.out.below (below_go (below_go (below_go (below_go SB6.out SB7.out) SB8.out) SB9.out) SB10.out))
  refine (code_is _ _ _ (HG.out.below (below_go H0.out B10.out)) E1.out).mono ?_
  rintro e w11 ⟨rfl, hb⟩
  have B11 := Lib.hid (below_go B10.out hb)
  have SB11 := Lib.hid hb
  clear hb
  go_wp2_with fail
  refine (code_is _ _ _ (HG.out.below (below_go H0.out B11.out)) (E2.out.below SB11.out)).mono ?_
  rintro e w12 ⟨rfl, hb⟩
  have B12 := Lib.hid (below_go B11.out hb)
  have SB12 := Lib.hid hb
  clear hb
  go_wp2_with fail
  refine (code_is _ _ _ (HG.out.below (below_go H0.out B12.out)) (E3.out.below (below_go SB11.out SB12.out))).mono ?_
  rintro e w13 ⟨rfl, hb⟩
  have B13 := Lib.hid (below_go B12.out hb)
  have SB13 := Lib.hid hb
  clear hb
  go_wp2_with fail
  go_ret
  exact ⟨rfl, below_go H0.out B13.out⟩
end Go.Proofs.YtflicahchahcnaaDoor
