/- crossbucklaw05.small. -/
import Derived.Test.YtpfoocndohpbbaaDoorWhSmall
namespace Go.Proofs.YtpfoocndohpbbaaDoor
open Go Go.RowKit
set_option linter.unusedVariables false
set_option linter.unusedSimpArgs false
def sm1 : Ab := ⟨1, [⟨0, 7, 2, 1⟩], 0, 1⟩
def sm2 : Ab := ⟨1, [⟨0, 7, 2, 1⟩], 1, 1⟩
def sm3 : Ab := ⟨1, [], 2, 1⟩
def sm4 : Ab := ⟨1, [⟨0, 9, 7, 2⟩], 2, 2⟩
def sm5 : Ab := ⟨1, [], 2, 2⟩
theorem fst_one (a : Ab) (hP : a.P = 1) : ∀ j, abFst a j → j = 0 := fun j h => by have := h.1; omega
theorem below_ty {w w' : World} (hb : Below w.heap.size w w') (hg : HasTy w) : HasTy w' := hg.below hb
set_option maxHeartbeats 8000000 in
set_option maxRecDepth 100000 in
theorem l_small05 (w : World) (hg : HasTy w) : Calls Tryd.prog 9 #[] w fun e w' => e = .returned (.bool true) ∧ Below w.heap.size w w' := by
  have HG := Lib.hid hg
  clear hg
  go_enter Tryd.func9, Tryd.ntmps9
  go_wp2_with fail
  refine (l5_new 1 1 (by decide) w w (Below.refl _ _)).mono ?_
  rintro e w1 ⟨g, rfl, h1⟩
  have H1 := Lib.hid h1
  clear h1
  go_wp2_with fail
  refine (l5_armed H1.out (by decide) (by decide) 2 7 (by decide) (by decide) (by decide) 0 (fst_one _ rfl)).mono ?_
  rintro e w2 ⟨rfl, h2, _⟩
  have H2 := Lib.hid (show WL5 w g sm1 _ w2 from h2)
  clear h2 H1
  go_wp2_with fail
  refine (l5_no H2.out (by decide) (by decide) 1 8 5 (by decide)).mono ?_
  rintro e w3 ⟨v5, rfl, he5, h3, _⟩
  have H3 := Lib.hid h3
  have HE5 := Lib.hid he5
  clear h3 H2 he5
  go_wp2_with fail
  refine (l5_no H3.out (by decide) (by decide) 0 8 6 (by decide)).mono ?_
  rintro e w4 ⟨v6, rfl, he6, h4, hk⟩
  have H4 := Lib.hid h4
  have HE6 := Lib.hid he6
  replace HE5 := Lib.hid (hk.ek _ _ HE5.out)
  clear h4 H3 he6 hk
  go_wp2_with fail
  refine (l5_left H4.out (by decide) 0).mono ?_
  rintro e w5 ⟨rfl, h5, hb⟩
  have H5 := Lib.hid h5
  replace HE5 := Lib.hid (HE5.out.below hb)
  replace HE6 := Lib.hid (HE6.out.below hb)
  have hl2 : abLeft sm1 0 = 2 := by decide
  rw [hl2]
  clear h5 H4 hb hl2
  go_wp2_with fail
  refine (l5_tick H5.out (by decide) (by decide)).mono ?_
  rintro e w6 ⟨⟨v1, rfl, hown, h6, _⟩, hk⟩
  obtain ⟨A1, c1, hv1, _⟩ := hown.re (by decide)
  subst hv1
  have H6 := Lib.hid (show WL5 w g sm2 _ w6 from h6)
  replace HE5 := Lib.hid (hk.ek _ _ HE5.out)
  replace HE6 := Lib.hid (hk.ek _ _ HE6.out)
  clear h6 H5 hk hown
  have hd1 : ((abDue sm1).map (·.tag)).length = 0 := by decide
  rw [hd1]
  go_wp2_with fail
  refine (l5_tick H6.out (by decide) (by decide)).mono ?_
  rintro e w7 ⟨⟨v2, rfl, hown, h7, hn7⟩, hk⟩
  obtain ⟨A2, c2, hv2, _⟩ := hown.re (by decide)
  subst hv2
  have hd2 : (abDue sm2).map (·.tag) = [7] := by decide
  rw [hd2] at hown h7
  have H7 := Lib.hid (show WL5 w g sm3 _ w7 from h7)
  have HOW := Lib.hid hown
  replace HE5 := Lib.hid (hk.ek _ _ HE5.out)
  replace HE6 := Lib.hid (hk.ek _ _ HE6.out)
  clear h7 H6 hk hown
  rw [hd2]
  go_wp2_with fail
  refine (l5_cancel H7.out (by decide) 0).mono ?_
  rintro e w8 ⟨rfl, h8, hk⟩
  have hh8 : abHas sm3 0 = false := by decide
  rw [hh8]
  have H8 := Lib.hid (show WL5 w g sm3 _ w8 from h8)
  replace HOW := Lib.hid (HOW.out.fr hk.fr (fun b hb h => h (.inr hb)))
  replace HE5 := Lib.hid (hk.ek _ _ HE5.out)
  replace HE6 := Lib.hid (hk.ek _ _ HE6.out)
  clear h8 H7 hk hh8
  go_wp2_with fail
  refine (l5_armed H8.out (by decide) (by decide) 5 9 (by decide) (by decide) (by decide) 0 (fst_one _ rfl)).mono ?_
  rintro e w9 ⟨rfl, h9, hk⟩
  have H9 := Lib.hid (show WL5 w g sm4 _ w9 from h9)
  replace HOW := Lib.hid (HOW.out.fr hk.fr (fun b hb h => h (.inr hb)))
  replace HE5 := Lib.hid (hk.ek _ _ HE5.out)
  replace HE6 := Lib.hid (hk.ek _ _ HE6.out)
  clear h9 H8 hk
  go_wp2_with fail
  refine (l5_cancel H9.out (by decide) 0).mono ?_
  rintro e wa ⟨rfl, ha, hk⟩
  have hha : abHas sm4 0 = true := by decide
  rw [hha]
  have HA := Lib.hid (show WL5 w g sm5 _ wa from ha)
  replace HOW := Lib.hid (HOW.out.fr hk.fr (fun b hb h => h (.inr hb)))
  replace HE5 := Lib.hid (hk.ek _ _ HE5.out)
  replace HE6 := Lib.hid (hk.ek _ _ HE6.out)
  clear ha H9 hk hha
  go_wp2_with fail
  refine (code_is _ _ _ (below_ty HA.out.bel HG.out) HE5.out).mono ?_
  rintro e wb ⟨rfl, hb⟩
  replace HA := Lib.hid (HA.out.below hb)
  replace HOW := Lib.hid (HOW.out.fr (Fr.ofBelow hb (fun _ => False)) (fun _ _ h => h))
  replace HE6 := Lib.hid (HE6.out.below hb)
  clear hb HE5
  go_wp2_with fail
  refine (code_is _ _ _ (below_ty HA.out.bel HG.out) HE6.out).mono ?_
  rintro e wc ⟨rfl, hb⟩
  replace HA := Lib.hid (HA.out.below hb)
  replace HOW := Lib.hid (HOW.out.fr (Fr.ofBelow hb (fun _ => False)) (fun _ _ h => h))
  clear hb HE6
  obtain ⟨A9, c9, e9, hre, _⟩ := HOW.out.re (by decide)
  cases e9
  have hbn := below_new wc (.cells #[.int .i64 7] 3)
  have HRE := Lib.hid (hre.below hbn)
  have HLT := Lib.hid (show RE ki (wc.alloc (.cells #[.int .i64 7] 3)) (some ⟨wc.heap.size, 0, none⟩) 1 1 [7] from re_lit (f := ki) (e := 3) ki_len wc [7] (by decide))
  replace HA := Lib.hid (HA.out.below hbn)
  clear hre hbn
  go_wp2_with fail
  refine (w_same _ _ _ _ _ [7] _ HRE.out HLT.out).mono ?_
  rintro e wd ⟨rfl, hb⟩
  replace HA := Lib.hid (HA.out.below hb)
  clear hb HRE HLT
  go_wp2_with fail
  refine (l5_free HA.out).mono ?_
  rintro e we ⟨rfl, hf, hb⟩
  have hf9 : ((sm5.P - sm5.L.length : Nat) : Int) = 1 := by decide
  rw [hf9]
  have HF := Lib.hid hf.bel
  clear hb hf HA
  go_wp2_with fail
  go_ret
  exact ⟨rfl, HF.out⟩
end Go.Proofs.YtpfoocndohpbbaaDoor
