/- The walk of ConfigBack. -/
import Derived.Test.YteeocmkaecoeiaaDoorCfgApartW
namespace Go.Proofs.YteeocmkaecoeiaaDoor
open Go.RowKit
set_option linter.unusedVariables false
set_option linter.unusedSimpArgs false
set_option maxRecDepth 100000 in
set_option maxHeartbeats 16000000 in
theorem configBack_walk (a0 : Option Addr) (len0 cap0 : Nat) (t0 : Tm) (a1 : Option Addr) (len1 cap1 : Nat) (z1 : List Int) (w : World) (w0 : IsLns w a0 len0 cap0) (w1 : IsRow .u8 w a1 len1 cap1 z1) (hg : HasTy w) :
    Calls Tryd.prog 4 #[cfv a0 len0 cap0 t0, .slice a1 len1 cap1] w fun e w' => e = .returned (.bool true) ∧ Below w.heap.size w w' := by
  have m0 := w0.bd
  obtain ⟨bs, hbs⟩ := w1.bytes
  have mb := hbs.rb.2.1
  have HBS := Lib.hid hbs
  have HG := Lib.hid hg
  have HW0 := Lib.hid w0
  have HC := Lib.hid (show CfBox _ w.heap.size a0 len0 cap0 t0 from heap_alloc_new w (.cells (cfa a0 len0 cap0 t0) 26))
  have HX := Lib.hid (below_st w (.cells (cfa a0 len0 cap0 t0) 26))
  clear w0 w1 hg hbs
  go_enter Tryd.func4, Tryd.ntmps4
  go_wp2_with fail
  generalize w.alloc _ = W at *
  refine (l_small08 _ (HG.out.below HX.out)).mono ?_
  rintro e x1 ⟨rfl, hb⟩
  have B1 := Lib.hid (below_go HX.out hb)
  have HC1 := Lib.hid (CfBox.below HC.out hb)
  obtain ⟨q0, q1, q2, q3, q4, q5, q6, q7, q8, q9, qa, _⟩ := cf_cell_all HC1.out
  clear hb
  by_cases c1 : (20 : Int) < len0
  · go_wp2_with fail
    go_ret
    exact ⟨rfl, B1.out⟩
  by_cases c2 : (500 : Int) < len1
  · go_wp2_with fail
    go_ret
    exact ⟨rfl, B1.out⟩
  obtain ⟨xs, rx⟩ := HW0.out.re (by omega)
  have RX := Lib.hid rx
  clear rx
  go_wp2_with fail
  refine (cf_encode a0 len0 cap0 xs t0 _ (RX.out.below B1.out)).mono ?_
  rintro e x2 ⟨v2, u2, rfl, hown, he, hb⟩
  obtain ⟨A2, k2, rfl, r2⟩ := hown.reads
  have B2 := Lib.hid (below_go B1.out hb)
  have HC2 := Lib.hid (CfBox.below HC1.out hb)
  have R2 := Lib.hid r2
  clear q0 q1 q2 q3 q4 q5 q6 q7 q8 q9 qa
  clear hb r2 hown
  by_cases k0 : cfOk xs t0 = true
  · rw [cfErr_ok k0] at he
    obtain rfl := he.isNil
    have K0 := Lib.hid k0
    have HMX := Lib.hid (show (cfEnc xs t0).length ≤ 1000000 by rw [cfEnc_ok k0, crcSum_seal_len, encBody_len]; have := cfOk_len xs t0 k0; omega)
    clear k0 he
    go_upto_region 5 with fail
    obtain ⟨q0, q1, q2, q3, q4, q5, q6, q7, q8, q9, qa⟩ := cf_fun HC2.out
    have hS0 : Below x2.heap.size x2 x2.drew := ⟨rfl, rfl, rfl, Nat.le_refl _, fun _ _ => rfl⟩
    refine wp_region_held (S := fun w' => Below x2.heap.size x2 w') (by kernel_rfl) ?_
    change wpAnyH _ _ _ _ _ _ _ _ x2.drew
    change wpAnyH _ _ _ _ _ 6 (Array.replicate 6 false) _ _
    refine wpAnyH_take (i := 0) (oi := ?_) (v := ?_) ?_ (by kernel_rfl) (by kernel_rfl) (by kernel_rfl) ?_ ?_ (by assumption) ?_
    rotate_left 2; (simp only [List.getElem?_toArray, List.getElem?_cons_succ, List.getElem?_cons_zero]; rfl)
    rotate_left; (first | (refine .inl ⟨by rfl, ?_⟩; intro w9 hS9; go_simp; try with_reducible rfl) | (refine .inr ⟨by rfl, ?_⟩; with_reducible rfl))
    rotate_left; (intro _ _ _ h9; exact h9)
    try simp only [Act.put, List.setIfInBounds_toArray, List.set_cons_zero, List.set_cons_succ]
    refine wpAnyH_take (i := 1) (oi := ?_) (v := ?_) ?_ (by kernel_rfl) (by kernel_rfl) (by kernel_rfl) ?_ ?_ (by assumption) ?_
    rotate_left 2; (simp only [List.getElem?_toArray, List.getElem?_cons_succ, List.getElem?_cons_zero]; rfl)
    rotate_left; (first | (refine .inl ⟨by rfl, ?_⟩; intro w9 hS9; go_simp; try with_reducible rfl) | (refine .inr ⟨by rfl, ?_⟩; with_reducible rfl))
    rotate_left; (intro _ _ _ h9; exact h9)
    try simp only [Act.put, List.setIfInBounds_toArray, List.set_cons_zero, List.set_cons_succ]
    refine wpAnyH_take (i := 2) (oi := ?_) (v := ?_) ?_ (by kernel_rfl) (by kernel_rfl) (by kernel_rfl) ?_ ?_ (by assumption) ?_
    rotate_left 2; (simp only [List.getElem?_toArray, List.getElem?_cons_succ, List.getElem?_cons_zero]; rfl)
    rotate_left; (first | (refine .inl ⟨by rfl, ?_⟩; intro w9 hS9; go_simp; try with_reducible rfl) | (refine .inr ⟨by rfl, ?_⟩; with_reducible rfl))
    rotate_left; (intro _ _ _ h9; exact h9)
    try simp only [Act.put, List.setIfInBounds_toArray, List.set_cons_zero, List.set_cons_succ]
    refine wpAnyH_ready (rs := [3]) (by kernel_rfl) (by simp) (AllReadyH.cons rfl (fun K9 hK9 => ?_) AllReadyH.nil)
    go_simp
    refine (cf_check a0 len0 cap0 xs t0 _ (RX.out.below (below_go B2.out hS0))).mono ?_
    rintro e x3 ⟨v3, rfl, he3, hb⟩
    have hS1 := below_go hS0 hb
    have B3 := Lib.hid (below_go B2.out hS1)
    have HC3 := Lib.hid (CfBox.below HC2.out hS1)
    refine hK9.out _ _ hS1 (fun _ => ?_)
    clear hS0 hb
    rw [cfErr_ok K0.out] at he3
    obtain rfl := he3.isNil
    have R2 := Lib.hid (R2.out.below hS1)
    have HDE := Lib.hid (dec_enc xs t0 K0.out)
    clear hS1 he3
    generalize cfEnc xs t0 = ys at *
    refine wpAnyH_take (i := 4) (oi := ?_) (v := ?_) ?_ (by kernel_rfl) (by kernel_rfl) (by kernel_rfl) ?_ ?_ (by assumption) ?_
    rotate_left 2; (simp only [List.getElem?_toArray, List.getElem?_cons_succ, List.getElem?_cons_zero]; rfl)
    rotate_left; (first | (refine .inl ⟨by rfl, ?_⟩; intro w9 hS9; go_simp; try with_reducible rfl) | (refine .inr ⟨by rfl, ?_⟩; with_reducible rfl))
    rotate_left; (intro _ _ _ h9; exact h9)
    try simp only [Act.put, List.setIfInBounds_toArray, List.set_cons_zero, List.set_cons_succ]
    refine wpAnyH_take (i := 5) (oi := ?_) (v := ?_) ?_ (by kernel_rfl) (by kernel_rfl) (by kernel_rfl) ?_ ?_ (by assumption) ?_
    rotate_left 2; (simp only [List.getElem?_toArray, List.getElem?_cons_succ, List.getElem?_cons_zero]; rfl)
    rotate_left; (first | (refine .inl ⟨by rfl, ?_⟩; intro w9 hS9; go_simp; try with_reducible rfl) | (refine .inr ⟨by rfl, ?_⟩; with_reducible rfl))
    rotate_left; (intro _ _ _ h9; exact h9)
    try simp only [Act.put, List.setIfInBounds_toArray, List.set_cons_zero, List.set_cons_succ]
    refine wpAnyH_done (by kernel_rfl) ?_ _
    clear q0 q1 q2 q3 q4 q5 q6 q7 q8 q9 qa
    go_wp2_with fail
    refine (cf_decode A2 ys.length k2 ys _ R2.out HMX.out).mono ?_
    rintro e x4 ⟨A4, k4, u4, rfl, hr4, he4, hb⟩
    obtain ⟨d1, d2, d3⟩ := HDE.out
    rw [d1] at he4
    rw [d2] at hr4
    rw [d2, d3]
    obtain rfl := he4.isNil
    have hbn := below_st x4 (.cells (cfa A4 xs.length k4 t0) 26)
    have HD4 := Lib.hid (show CfBox _ x4.heap.size A4 xs.length k4 t0 from heap_alloc_new x4 (.cells (cfa A4 xs.length k4 t0) 26))
    have B4 := Lib.hid (below_go B3.out (below_go hb hbn))
    have HC4 := Lib.hid (CfBox.below HC3.out (below_go hb hbn))
    have R4 := Lib.hid (hr4.below hbn)
    clear hb hbn d1 d2 d3 he4 hr4
    go_upto_region 9 with fail
    change Code.wp _ _ _ _ (x4.alloc (.cells (cfa A4 xs.length k4 t0) 26))
    generalize x4.alloc _ = x5 at *
    generalize x4.heap.size = g4 at *
    obtain ⟨q0, q1, q2, q3, q4, q5, q6, q7, q8, q9, qa, _⟩ := cf_cell_all HC4.out
    obtain ⟨p0, p1, p2, p3, p4, p5, p6, p7, p8, p9, pa, _⟩ := cf_cell_all HD4.out
    go_wp2_with fail
    refine (rf_same A4 a0 xs.length len0 k4 cap0 xs xs t0 t0 _ R4.out (RX.out.below B4.out)).mono ?_
    rintro e x6 ⟨rfl, hb⟩
    rw [cfSame_refl]
    have B6 := Lib.hid (below_go B4.out hb)
    clear q0 q1 q2 q3 q4 q5 q6 q7 q8 q9 qa
    clear p0 p1 p2 p3 p4 p5 p6 p7 p8 p9 pa
    clear hb
    go_wp2_with fail
    refine (cf_decode a1 len1 cap1 bs _ (HBS.out.below B6.out) (by omega)).mono ?_
    rintro e xP ⟨AP, kP, uP, rfl, hr, he, hb⟩
    have hbn := below_st xP (.cells (cfa AP (decLs bs).length kP (decT bs)) 26)
    have HDP := Lib.hid (show CfBox _ xP.heap.size AP (decLs bs).length kP (decT bs) from heap_alloc_new xP (.cells (cfa AP (decLs bs).length kP (decT bs)) 26))
    have BP := Lib.hid (below_go B6.out (below_go hb hbn))
    have ep := he.below hbn
    have RP := Lib.hid (hr.below hbn)
    clear hb he hr hbn
    go_upto_region 12 with fail
    change Code.wp _ _ _ _ (xP.alloc (.cells (cfa AP (decLs bs).length kP (decT bs)) 26))
    generalize xP.alloc _ = xQ at *
    generalize xP.heap.size = gP at *
    rcases decErr_01 bs with h0 | h0
    · rw [h0] at ep
      obtain rfl := ep.isNil
      obtain ⟨hok, henc⟩ := enc_dec bs h0
      have HOK := Lib.hid hok
      have HEN := Lib.hid henc
      clear h0 ep hok henc
      obtain ⟨y0, y1, y2, y3, y4, y5, y6, y7, y8, y9, ya, _⟩ := cf_cell_all HDP.out
      go_wp2_with fail
      refine (cf_encode AP _ kP (decLs bs) (decT bs) _ RP.out).mono ?_
      rintro e xR ⟨vR, uR, rfl, hown, he, hb⟩
      rw [cfErr_ok HOK.out] at he
      obtain rfl := he.isNil
      rw [HEN.out] at hown
      obtain ⟨AR, kR, rfl, rR⟩ := hown.reads
      have RR := Lib.hid rR
      have BR := Lib.hid (below_go BP.out hb)
      have RP2 := Lib.hid (RP.out.below hb)
      clear y0 y1 y2 y3 y4 y5 y6 y7 y8 y9 ya
      obtain ⟨y0, y1, y2, y3, y4, y5, y6, y7, y8, y9, ya, _⟩ := cf_cell_all (CfBox.below HDP.out hb)
      clear hb he hown rR
      go_wp2_with fail
      refine (cf_check AP _ kP (decLs bs) (decT bs) _ RP2.out).mono ?_
      rintro e xS ⟨vS, rfl, he, hb⟩
      rw [cfErr_ok HOK.out] at he
      obtain rfl := he.isNil
      have BS := Lib.hid (below_go BR.out hb)
      have z2 := by_string xS AR bs.length kR bs (RR.out.below hb).rb
      have z3 := by_string xS a1 len1 cap1 bs (HBS.out.below BS.out).rb
      clear y0 y1 y2 y3 y4 y5 y6 y7 y8 y9 ya
      clear hb he
      go_wp2_with fail
      go_ret
      exact ⟨rfl, BS.out⟩
    · obtain ⟨tp, up, rfl⟩ := ep.isErr h0
      obtain ⟨e1, e2⟩ := dec_bad bs (fun e => by rw [e] at h0; cases h0)
      have HSM := Lib.hid (show cfSame (decLs bs) [] (decT bs) tm0 = true by rw [e1, e2]; exact cfSame_refl _ _)
      obtain ⟨y0, y1, y2, y3, y4, y5, y6, y7, y8, y9, ya, _⟩ := cf_cell_all HDP.out
      clear h0 ep e1 e2
      go_wp2_with fail
      refine (rf_same AP none _ 0 kP 0 (decLs bs) [] (decT bs) tm0 _ RP.out (RE.no _)).mono ?_
      rintro e xR ⟨rfl, hb⟩
      rw [HSM.out]
      have BR := Lib.hid (below_go BP.out hb)
      clear y0 y1 y2 y3 y4 y5 y6 y7 y8 y9 ya
      clear hb
      go_wp2_with fail
      go_ret
      exact ⟨rfl, BR.out⟩
  · rw [cfErr_no k0] at he
    obtain ⟨ta, ua, rfl⟩ := he.isErr (by decide)
    have K0 := Lib.hid k0
    clear k0 he
    go_upto_region 5 with fail
    obtain ⟨q0, q1, q2, q3, q4, q5, q6, q7, q8, q9, qa⟩ := cf_fun HC2.out
    have hS0 : Below x2.heap.size x2 x2.drew := ⟨rfl, rfl, rfl, Nat.le_refl _, fun _ _ => rfl⟩
    refine wp_region_held (S := fun w' => Below x2.heap.size x2 w') (by kernel_rfl) ?_
    change wpAnyH _ _ _ _ _ _ _ _ x2.drew
    change wpAnyH _ _ _ _ _ 6 (Array.replicate 6 false) _ _
    refine wpAnyH_take (i := 0) (oi := ?_) (v := ?_) ?_ (by kernel_rfl) (by kernel_rfl) (by kernel_rfl) ?_ ?_ (by assumption) ?_
    rotate_left 2; (simp only [List.getElem?_toArray, List.getElem?_cons_succ, List.getElem?_cons_zero]; rfl)
    rotate_left; (first | (refine .inl ⟨by rfl, ?_⟩; intro w9 hS9; go_simp; try with_reducible rfl) | (refine .inr ⟨by rfl, ?_⟩; with_reducible rfl))
    rotate_left; (intro _ _ _ h9; exact h9)
    try simp only [Act.put, List.setIfInBounds_toArray, List.set_cons_zero, List.set_cons_succ]
    refine wpAnyH_take (i := 1) (oi := ?_) (v := ?_) ?_ (by kernel_rfl) (by kernel_rfl) (by kernel_rfl) ?_ ?_ (by assumption) ?_
    rotate_left 2; (simp only [List.getElem?_toArray, List.getElem?_cons_succ, List.getElem?_cons_zero]; rfl)
    rotate_left; (first | (refine .inl ⟨by rfl, ?_⟩; intro w9 hS9; go_simp; try with_reducible rfl) | (refine .inr ⟨by rfl, ?_⟩; with_reducible rfl))
    rotate_left; (intro _ _ _ h9; exact h9)
    try simp only [Act.put, List.setIfInBounds_toArray, List.set_cons_zero, List.set_cons_succ]
    refine wpAnyH_take (i := 2) (oi := ?_) (v := ?_) ?_ (by kernel_rfl) (by kernel_rfl) (by kernel_rfl) ?_ ?_ (by assumption) ?_
    rotate_left 2; (simp only [List.getElem?_toArray, List.getElem?_cons_succ, List.getElem?_cons_zero]; rfl)
    rotate_left; (first | (refine .inl ⟨by rfl, ?_⟩; intro w9 hS9; go_simp; try with_reducible rfl) | (refine .inr ⟨by rfl, ?_⟩; with_reducible rfl))
    rotate_left; (intro _ _ _ h9; exact h9)
    try simp only [Act.put, List.setIfInBounds_toArray, List.set_cons_zero, List.set_cons_succ]
    refine wpAnyH_ready (rs := [3]) (by kernel_rfl) (by simp) (AllReadyH.cons rfl (fun K9 hK9 => ?_) AllReadyH.nil)
    go_simp
    refine (cf_check a0 len0 cap0 xs t0 _ (RX.out.below (below_go B2.out hS0))).mono ?_
    rintro e x3 ⟨v3, rfl, he3, hb⟩
    have hS1 := below_go hS0 hb
    have B3 := Lib.hid (below_go B2.out hS1)
    have HC3 := Lib.hid (CfBox.below HC2.out hS1)
    refine hK9.out _ _ hS1 (fun _ => ?_)
    clear hS0 hb
    rw [cfErr_no K0.out] at he3
    obtain ⟨tb, ub, rfl⟩ := he3.isErr (by decide)
    clear hS1 he3
    refine wpAnyH_take (i := 4) (oi := ?_) (v := ?_) ?_ (by kernel_rfl) (by kernel_rfl) (by kernel_rfl) ?_ ?_ (by assumption) ?_
    rotate_left 2; (simp only [List.getElem?_toArray, List.getElem?_cons_succ, List.getElem?_cons_zero]; rfl)
    rotate_left; (first | (refine .inl ⟨by rfl, ?_⟩; intro w9 hS9; go_simp; try with_reducible rfl) | (refine .inr ⟨by rfl, ?_⟩; with_reducible rfl))
    rotate_left; (intro _ _ _ h9; exact h9)
    try simp only [Act.put, List.setIfInBounds_toArray, List.set_cons_zero, List.set_cons_succ]
    refine wpAnyH_take (i := 5) (oi := ?_) (v := ?_) ?_ (by kernel_rfl) (by kernel_rfl) (by kernel_rfl) ?_ ?_ (by assumption) ?_
    rotate_left 2; (simp only [List.getElem?_toArray, List.getElem?_cons_succ, List.getElem?_cons_zero]; rfl)
    rotate_left; (first | (refine .inl ⟨by rfl, ?_⟩; intro w9 hS9; go_simp; try with_reducible rfl) | (refine .inr ⟨by rfl, ?_⟩; with_reducible rfl))
    rotate_left; (intro _ _ _ h9; exact h9)
    try simp only [Act.put, List.setIfInBounds_toArray, List.set_cons_zero, List.set_cons_succ]
    refine wpAnyH_done (by kernel_rfl) ?_ _
    clear q0 q1 q2 q3 q4 q5 q6 q7 q8 q9 qa
    go_wp2_with fail
    refine (cf_decode a1 len1 cap1 bs _ (HBS.out.below B3.out) (by omega)).mono ?_
    rintro e xP ⟨AP, kP, uP, rfl, hr, he, hb⟩
    have hbn := below_st xP (.cells (cfa AP (decLs bs).length kP (decT bs)) 26)
    have HDP := Lib.hid (show CfBox _ xP.heap.size AP (decLs bs).length kP (decT bs) from heap_alloc_new xP (.cells (cfa AP (decLs bs).length kP (decT bs)) 26))
    have BP := Lib.hid (below_go B3.out (below_go hb hbn))
    have ep := he.below hbn
    have RP := Lib.hid (hr.below hbn)
    clear hb he hr hbn
    go_upto_region 12 with fail
    change Code.wp _ _ _ _ (xP.alloc (.cells (cfa AP (decLs bs).length kP (decT bs)) 26))
    generalize xP.alloc _ = xQ at *
    generalize xP.heap.size = gP at *
    rcases decErr_01 bs with h0 | h0
    · rw [h0] at ep
      obtain rfl := ep.isNil
      obtain ⟨hok, henc⟩ := enc_dec bs h0
      have HOK := Lib.hid hok
      have HEN := Lib.hid henc
      clear h0 ep hok henc
      obtain ⟨y0, y1, y2, y3, y4, y5, y6, y7, y8, y9, ya, _⟩ := cf_cell_all HDP.out
      go_wp2_with fail
      refine (cf_encode AP _ kP (decLs bs) (decT bs) _ RP.out).mono ?_
      rintro e xR ⟨vR, uR, rfl, hown, he, hb⟩
      rw [cfErr_ok HOK.out] at he
      obtain rfl := he.isNil
      rw [HEN.out] at hown
      obtain ⟨AR, kR, rfl, rR⟩ := hown.reads
      have RR := Lib.hid rR
      have BR := Lib.hid (below_go BP.out hb)
      have RP2 := Lib.hid (RP.out.below hb)
      clear y0 y1 y2 y3 y4 y5 y6 y7 y8 y9 ya
      obtain ⟨y0, y1, y2, y3, y4, y5, y6, y7, y8, y9, ya, _⟩ := cf_cell_all (CfBox.below HDP.out hb)
      clear hb he hown rR
      go_wp2_with fail
      refine (cf_check AP _ kP (decLs bs) (decT bs) _ RP2.out).mono ?_
      rintro e xS ⟨vS, rfl, he, hb⟩
      rw [cfErr_ok HOK.out] at he
      obtain rfl := he.isNil
      have BS := Lib.hid (below_go BR.out hb)
      have z2 := by_string xS AR bs.length kR bs (RR.out.below hb).rb
      have z3 := by_string xS a1 len1 cap1 bs (HBS.out.below BS.out).rb
      clear y0 y1 y2 y3 y4 y5 y6 y7 y8 y9 ya
      clear hb he
      go_wp2_with fail
      go_ret
      exact ⟨rfl, BS.out⟩
    · obtain ⟨tp, up, rfl⟩ := ep.isErr h0
      obtain ⟨e1, e2⟩ := dec_bad bs (fun e => by rw [e] at h0; cases h0)
      have HSM := Lib.hid (show cfSame (decLs bs) [] (decT bs) tm0 = true by rw [e1, e2]; exact cfSame_refl _ _)
      obtain ⟨y0, y1, y2, y3, y4, y5, y6, y7, y8, y9, ya, _⟩ := cf_cell_all HDP.out
      clear h0 ep e1 e2
      go_wp2_with fail
      refine (rf_same AP none _ 0 kP 0 (decLs bs) [] (decT bs) tm0 _ RP.out (RE.no _)).mono ?_
      rintro e xR ⟨rfl, hb⟩
      rw [HSM.out]
      have BR := Lib.hid (below_go BP.out hb)
      clear y0 y1 y2 y3 y4 y5 y6 y7 y8 y9 ya
      clear hb
      go_wp2_with fail
      go_ret
      exact ⟨rfl, BR.out⟩
end Go.Proofs.YteeocmkaecoeiaaDoor
