/- The head of layer 8's statements: small. -/
import Derived.Test.YteeocmkaecoeiaaDoorCfgLaw
import Derived.Test.YteeocmkaecoeiaaDoorCfgEnc
import Derived.Test.YteeocmkaecoeiaaDoorCfgDec
import Derived.Test.YteeocmkaecoeiaaDoorCfgSame
import Derived.Test.YteeocmkaecoeiaaDoorReg
namespace Go.Proofs.YteeocmkaecoeiaaDoor
open Go.RowKit
set_option linter.unusedVariables false
set_option linter.unusedSimpArgs false

theorem s_ok : cfOk (List.replicate 2 stdLn) (tmAll 5) = true := by decide
theorem s_len : (cfEnc (List.replicate 2 stdLn) (tmAll 5)).length = 54 := by rw [cfEnc_ok s_ok, crcSum_seal_len, encBody_len]; rfl
theorem s_nil : decErr [] = 3 := (dec_none (by decide)).1
theorem s_form : decErr (crcSeal [88, 66, 49, 0]) = 2 := (dec_form (opn_seal _) (by decide)).1
theorem s_bad : cfErr (List.replicate 1 stdLn) (tmAll 0) = 6 := by decide
theorem s_zero : cfErr [] tm0 = 6 := by decide
set_option maxHeartbeats 8000000 in
set_option maxRecDepth 100000 in
theorem l_small08 (w : World) (hg : HasTy w) : Calls Tryd.prog 9 #[] w fun e w' => e = .returned (.bool true) ∧ Below w.heap.size w w' := by
  have HG := Lib.hid hg
  have kc := by_const
  have KC := Lib.hid kc
  clear hg kc
  go_enter Tryd.func9, Tryd.ntmps9
  go_wp2_with fail
  refine (l_crossing 2 5 _ (by omega)).mono ?_
  rintro e w1 ⟨A1, c1, rfl, hr1, hb⟩
  have HC1 := Lib.hid (show CfBox _ w1.heap.size A1 2 c1 (tmAll 5) from heap_alloc_new w1 (.cells (cfa A1 2 c1 (tmAll 5)) 26))
  have HB1 := Lib.hid (below_go hb (below_st w1 (.cells (cfa A1 2 c1 (tmAll 5)) 26)))
  have R1 := Lib.hid (hr1.below (below_st w1 (.cells (cfa A1 2 c1 (tmAll 5)) 26)))
  clear hr1 hb
  go_upto_region 2 with fail
  change Code.wp _ _ _ _ (w1.alloc (.cells (cfa A1 2 c1 (tmAll 5)) 26))
  generalize w1.alloc _ = w2 at *
  generalize w1.heap.size = g1 at *
  obtain ⟨q0, q1, q2, q3, q4, q5, q6, q7, q8, q9, qa, _⟩ := cf_cell_all HC1.out
  go_wp2_with fail
  refine (cf_encode A1 2 c1 _ (tmAll 5) _ R1.out).mono ?_
  rintro e w3 ⟨v3, u3, rfl, hown, he, hb⟩
  rw [cfErr_ok s_ok] at he
  obtain rfl := he.isNil
  obtain ⟨A3, c3, rfl, hr3⟩ := hown.reads
  rw [s_len] at hr3 ⊢
  have HB3 := Lib.hid (below_go HB1.out hb)
  have HC3 := Lib.hid (CfBox.below HC1.out hb)
  have R13 := Lib.hid (R1.out.below hb)
  have R3 := Lib.hid hr3
  clear hown he hb hr3 q0 q1 q2 q3 q4 q5 q6 q7 q8 q9 qa
  go_wp2_with fail
  refine (cf_decode A3 54 c3 _ _ R3.out (by omega)).mono ?_
  rintro e w4 ⟨A4, c4, u4, rfl, hr4, he, hb⟩
  obtain ⟨d1, d2, d3⟩ := dec_enc _ _ s_ok
  rw [d1] at he
  rw [d2] at hr4
  rw [d2, d3]
  obtain rfl := he.isNil
  have hr4 : RLn w4 A4 2 c4 (List.replicate 2 stdLn) := hr4
  have HC4 := Lib.hid (show CfBox _ w4.heap.size A4 2 c4 (tmAll 5) from heap_alloc_new w4 (.cells (cfa A4 2 c4 (tmAll 5)) 26))
  have hb5 := below_st w4 (.cells (cfa A4 2 c4 (tmAll 5)) 26)
  have HB4 := Lib.hid (below_go HB3.out (below_go hb hb5))
  have HC3 := Lib.hid (CfBox.below HC3.out (below_go hb hb5))
  have R13 := Lib.hid (R13.out.below (below_go hb hb5))
  have R4 := Lib.hid (hr4.below hb5)
  clear he hb hb5 hr4 d1 d2 d3
  simp only [List.length_replicate]
  go_upto_region 4 with fail
  change Code.wp _ _ _ _ (w4.alloc (.cells (cfa A4 2 c4 (tmAll 5)) 26))
  generalize w4.alloc _ = w5 at *
  generalize w4.heap.size = g4 at *
  go_wp2_with fail
  refine (cf_decode none 0 0 [] _ (RS.none _) (by omega)).mono ?_
  rintro e w6 ⟨A6, c6, u6, rfl, _, he, hb⟩
  rw [s_nil] at he
  obtain ⟨tg, ug, rfl⟩ := he.isErr (by decide)
  have hb7 := below_st w6 (.cells (cfa A6 (decLs []).length c6 (decT [])) 26)
  have HE6 := Lib.hid (he.below hb7)
  have HB7 := Lib.hid (below_go HB4.out (below_go hb hb7))
  have HC7 := Lib.hid (CfBox.below HC4.out (below_go hb hb7))
  have HC3 := Lib.hid (CfBox.below HC3.out (below_go hb hb7))
  have R13 := Lib.hid (R13.out.below (below_go hb hb7))
  have R4 := Lib.hid (R4.out.below (below_go hb hb7))
  clear he hb hb7
  go_upto_region 5 with fail
  change Code.wp _ _ _ _ (w6.alloc (.cells (cfa A6 (decLs []).length c6 (decT [])) 26))
  generalize w6.alloc _ = w7 at *
  have kc := KC.out
  go_wp2_with fail
  have hr8 : RS (w7.alloc (.cells #[.int .u8 88, .int .u8 66, .int .u8 49, .int .u8 0] 5 (4, 5))) (some ⟨w7.heap.size, 0, none⟩) 4 4 [88, 66, 49, 0] := rs_mark w7 [88, 66, 49, 0] _ (4, 5) (by simp)
  have hb8 := below_new w7 (.cells #[.int .u8 88, .int .u8 66, .int .u8 49, .int .u8 0] 5 (4, 5))
  refine (ref_crcSeal _ _ _ _ _ hr8 (by omega)).mono ?_
  rintro e w9 ⟨v9, rfl, hown, hb⟩
  obtain ⟨A9, c9, rfl, hr9⟩ := hown.reads
  rw [show (crcSeal [88, 66, 49, 0]).length = 6 from rfl] at hr9 ⊢
  have R9 := Lib.hid hr9
  have hb9 := below_go hb8 hb
  have HE6 := Lib.hid (HE6.out.below hb9)
  have HB9 := Lib.hid (below_go HB7.out hb9)
  have HC7 := Lib.hid (CfBox.below HC7.out hb9)
  have HC3 := Lib.hid (CfBox.below HC3.out hb9)
  have R13 := Lib.hid (R13.out.below hb9)
  have R4 := Lib.hid (R4.out.below hb9)
  clear hr8 hb8 hown hb hr9 hb9 kc
  go_wp2_with fail
  refine (cf_decode A9 6 c9 _ _ R9.out (by omega)).mono ?_
  rintro e wA ⟨AA, cA, uA, rfl, _, he, hb⟩
  rw [s_form] at he
  obtain ⟨th, uh, rfl⟩ := he.isErr (by decide)
  have hbA := below_st wA (.cells (cfa AA (decLs (crcSeal [88, 66, 49, 0])).length cA (decT (crcSeal [88, 66, 49, 0]))) 26)
  have HEA := Lib.hid (he.below hbA)
  have HE6 := Lib.hid (HE6.out.below (below_go hb hbA))
  have HBA := Lib.hid (below_go HB9.out (below_go hb hbA))
  have HC7 := Lib.hid (CfBox.below HC7.out (below_go hb hbA))
  have HC3 := Lib.hid (CfBox.below HC3.out (below_go hb hbA))
  have R13 := Lib.hid (R13.out.below (below_go hb hbA))
  have R4 := Lib.hid (R4.out.below (below_go hb hbA))
  clear he hb hbA
  go_upto_region 6 with fail
  change Code.wp _ _ _ _ (wA.alloc (.cells (cfa AA (decLs (crcSeal [88, 66, 49, 0])).length cA (decT (crcSeal [88, 66, 49, 0]))) 26))
  generalize wA.alloc _ = wB at *
  go_wp2_with fail
  refine (l_crossing 1 0 _ (by omega)).mono ?_
  rintro e wC ⟨AC, cC, rfl, hrC, hb⟩
  have hbC := below_st wC (.cells (cfa AC 1 cC (tmAll 0)) 26)
  have HCC := Lib.hid (show CfBox _ wC.heap.size AC 1 cC (tmAll 0) from heap_alloc_new wC (.cells (cfa AC 1 cC (tmAll 0)) 26))
  have RC := Lib.hid (hrC.below hbC)
  have HEA := Lib.hid (HEA.out.below (below_go hb hbC))
  have HE6 := Lib.hid (HE6.out.below (below_go hb hbC))
  have HBC := Lib.hid (below_go HBA.out (below_go hb hbC))
  have HC7 := Lib.hid (CfBox.below HC7.out (below_go hb hbC))
  have HC3 := Lib.hid (CfBox.below HC3.out (below_go hb hbC))
  have R13 := Lib.hid (R13.out.below (below_go hb hbC))
  have R4 := Lib.hid (R4.out.below (below_go hb hbC))
  clear hb hbC hrC
  go_upto_region 7 with fail
  change Code.wp _ _ _ _ (wC.alloc (.cells (cfa AC 1 cC (tmAll 0)) 26))
  generalize wC.alloc _ = wD at *
  generalize wC.heap.size = gC at *
  obtain ⟨q0, q1, q2, q3, q4, q5, q6, q7, q8, q9, qa, _⟩ := cf_cell_all HC3.out
  obtain ⟨p0, p1, p2, p3, p4, p5, p6, p7, p8, p9, pa, _⟩ := cf_cell_all HC7.out
  go_wp2_with fail
  refine (rf_same A4 A1 2 2 c4 c1 _ _ (tmAll 5) (tmAll 5) _ R4.out R13.out).mono ?_
  rintro e wE ⟨rfl, hb⟩
  rw [cfSame_refl]
  have HEA := Lib.hid (HEA.out.below hb)
  have HE6 := Lib.hid (HE6.out.below hb)
  have HBE := Lib.hid (below_go HBC.out hb)
  have HC3 := Lib.hid (CfBox.below HC3.out hb)
  have HCC := Lib.hid (CfBox.below HCC.out hb)
  have R13 := Lib.hid (R13.out.below hb)
  have RC := Lib.hid (RC.out.below hb)
  clear hb q0 q1 q2 q3 q4 q5 q6 q7 q8 q9 qa p0 p1 p2 p3 p4 p5 p6 p7 p8 p9 pa
  go_wp2_with fail
  refine (code_is _ _ _ (HG.out.below HBE.out) HE6.out).mono ?_
  rintro e wF ⟨rfl, hb⟩
  have HEA := Lib.hid (HEA.out.below hb)
  have HBF := Lib.hid (below_go HBE.out hb)
  have HC3 := Lib.hid (CfBox.below HC3.out hb)
  have HCC := Lib.hid (CfBox.below HCC.out hb)
  have R13 := Lib.hid (R13.out.below hb)
  have RC := Lib.hid (RC.out.below hb)
  clear hb
  go_wp2_with fail
  refine (code_is _ _ _ (HG.out.below HBF.out) HEA.out).mono ?_
  rintro e wG ⟨rfl, hb⟩
  have HBG := Lib.hid (below_go HBF.out hb)
  have HC3 := Lib.hid (CfBox.below HC3.out hb)
  have HCC := Lib.hid (CfBox.below HCC.out hb)
  have R13 := Lib.hid (R13.out.below hb)
  have RC := Lib.hid (RC.out.below hb)
  clear hb
  obtain ⟨q0, q1, q2, q3, q4, q5, q6, q7, q8, q9, qa, _⟩ := cf_cell_all HCC.out
  go_wp2_with fail
  refine (cf_check AC 1 cC _ (tmAll 0) _ RC.out).mono ?_
  rintro e wH ⟨vH, rfl, he, hb⟩
  rw [s_bad] at he
  have HEH := Lib.hid he
  have HBH := Lib.hid (below_go HBG.out hb)
  have HC3 := Lib.hid (CfBox.below HC3.out hb)
  have R13 := Lib.hid (R13.out.below hb)
  clear hb he q0 q1 q2 q3 q4 q5 q6 q7 q8 q9 qa
  go_wp2_with fail
  refine (code_is _ _ _ (HG.out.below HBH.out) HEH.out).mono ?_
  rintro e wI ⟨rfl, hb⟩
  have HBI := Lib.hid (below_go HBH.out hb)
  have HC3 := Lib.hid (CfBox.below HC3.out hb)
  have R13 := Lib.hid (R13.out.below hb)
  clear hb
  obtain ⟨q0, q1, q2, q3, q4, q5, q6, q7, q8, q9, qa, _⟩ := cf_cell_all HC3.out
  go_wp2_with fail
  refine (cf_check A1 2 c1 _ (tmAll 5) _ R13.out).mono ?_
  rintro e wJ ⟨vJ, rfl, he, hb⟩
  rw [cfErr_ok s_ok] at he
  obtain rfl := he.isNil
  have HBJ := Lib.hid (below_go HBI.out hb)
  clear hb he q0 q1 q2 q3 q4 q5 q6 q7 q8 q9 qa
  go_wp2_with fail
  refine (cf_check none 0 0 [] tm0 _ (RE.no _)).mono ?_
  rintro e wK ⟨vK, rfl, he, hb⟩
  rw [s_zero] at he
  obtain ⟨tk, uk, rfl⟩ := he.isErr (by decide)
  have HBK := Lib.hid (below_go HBJ.out hb)
  clear hb he
  go_wp2_with fail
  go_ret
  exact ⟨rfl, HBK.out⟩
end Go.Proofs.YteeocmkaecoeiaaDoor
