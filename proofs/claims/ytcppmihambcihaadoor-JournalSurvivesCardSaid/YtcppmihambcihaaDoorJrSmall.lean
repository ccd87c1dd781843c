/- crossbucklaw17.small. -/
import Derived.Test.YtcppmihambcihaaDoorJrLaw
namespace Go.Proofs.YtcppmihambcihaaDoor
open Go Go.RowKit Go.Shelf
set_option linter.unusedVariables false
set_option linter.unusedSimpArgs false
set_option maxHeartbeats 8000000 in
set_option maxRecDepth 100000 in
theorem l_small17 (w : World) (hg : HasTy w) : Calls Tryd.prog 8 #[] w fun e w' => e = .returned (.bool true) ∧ Below w.heap.size w w' := by
  have hg0 := Lib.hid hg
  have kc := by_const
  have km := fun w => by_make2 w 30 30 (Nat.le_refl _) (by decide) 30 30 rfl rfl
  clear hg
  go_enter Tryd.func8, Tryd.ntmps8
  go_wp2_with fail
  refine (st_new 40 _).mono ?_
  rintro e w1 ⟨g, gb, rfl, hst, hwg, hwb, hb⟩
  rw [show stSize 40 = 40 by decide] at hst
  have HB := Lib.hid hb
  have HST := Lib.hid hst
  clear hb hst
  go_wp2_with fail
  refine (op_open g gb ⟨List.replicate 40 255, none, false⟩ _ HST.out).mono ?_
  rintro e w2 ⟨j, rfl, hji, hb2, hjl⟩
  rw [show jOpen (Sto.mk (List.replicate 40 255) none false).xs = jNone from jOpen_blank 40] at hji
  have HLE := Lib.hid (show w.heap.size ≤ j ∧ w.heap.size ≤ g ∧ w.heap.size ≤ gb by have := HB.out.size; omega)
  replace HB := Lib.hid (below_step HB.out hb2)
  have HJI := Lib.hid hji
  have HLV := Lib.hid (show Lv (Sto.mk (List.replicate 40 255) none false) 40 from ⟨rfl, rfl, List.length_replicate⟩)
  have HSQ := Lib.hid (show jNone.nt.seq = 0 from rfl)
  have HDT := Lib.hid (show jNone.nt.dat = [] from rfl)
  have HHS := Lib.hid (show jNone.has = false from rfl)
  clear hb2 hji HST hjl hwg hwb
  generalize (Sto.mk (List.replicate 40 255) none false) = t0 at *
  generalize jNone = s0 at *
  go_wp2_with fail
  refine (ji_last j g gb s0 t0 _ HJI.out).mono ?_
  rintro e w3 ⟨A3, c3, rfl, hr3, ho3, hb3⟩
  rw [HHS.out]
  replace HB := Lib.hid (below_step HB.out hb3)
  replace HJI := Lib.hid (HJI.out.below hb3)
  clear hr3 ho3 hb3
  generalize s0.nt.dat.length = n3 at *
  go_wp2_with fail
  have HLO := Lib.hid (show ∀ wz : World, wz = w3 → j < wz.heap.size ∧ g < wz.heap.size ∧ gb < wz.heap.size from fun wz e => by subst e; exact HJI.out.lt)
  have hbn := (Below.refl w3.heap.size w3).alloc (Nat.le_refl _) (.cells ([97].map bv).toArray 5 (1, 2))
  have hl := rs_mark w3 [97] 5 (1, 2) (by decide)
  replace HB := Lib.hid (below_step HB.out hbn)
  replace HJI := Lib.hid (HJI.out.below hbn)
  have HFAR := Lib.hid (show 0 < 1 → ∀ b o, some (⟨w3.heap.size, 0, none⟩ : Addr) = some ⟨b, o, none⟩ → b ≠ j ∧ b ≠ g ∧ b ≠ gb from fun _ b o e => by cases e; have := HLO.out w3 rfl; omega)
  clear hbn
  refine (ap_live j g gb 40 _ _ _ 1 1 [97] 0 _ HJI.out HLV.out hl HFAR.out (by rw [HSQ.out]; decide)).mono ?_
  rintro e w4 ⟨⟨v, rfl, he⟩, ⟨s2, t2, hji2, hlv2, h1, _⟩, hf⟩
  obtain rfl := he.zero
  replace HSQ := Lib.hid (show s2.nt.seq = 1 by rw [(h1 rfl).1, HSQ.out])
  replace HDT := Lib.hid (show s2.nt.dat = [97] from (h1 rfl).2.1)
  replace HHS := Lib.hid (show s2.has = true from (h1 rfl).2.2)
  replace HB := Lib.hid (below_three HB.out hf HLE.out.1 HLE.out.2.1 HLE.out.2.2)
  replace HJI := Lib.hid hji2
  replace HLV := Lib.hid hlv2
  have HF := Lib.hid hf
  clear he h1 hf hl hji2 hlv2 HFAR
  clear HF HLO
  go_wp2_with fail
  have HLO := Lib.hid (show ∀ wz : World, wz = w4 → j < wz.heap.size ∧ g < wz.heap.size ∧ gb < wz.heap.size from fun wz e => by subst e; exact HJI.out.lt)
  have hbn := (Below.refl w4.heap.size w4).alloc (Nat.le_refl _) (.cells ([98].map bv).toArray 5 (1, 2))
  have hl := rs_mark w4 [98] 5 (1, 2) (by decide)
  replace HB := Lib.hid (below_step HB.out hbn)
  replace HJI := Lib.hid (HJI.out.below hbn)
  have HFAR := Lib.hid (show 0 < 1 → ∀ b o, some (⟨w4.heap.size, 0, none⟩ : Addr) = some ⟨b, o, none⟩ → b ≠ j ∧ b ≠ g ∧ b ≠ gb from fun _ b o e => by cases e; have := HLO.out w4 rfl; omega)
  clear hbn
  refine (ap_live j g gb 40 _ _ _ 1 1 [98] 0 _ HJI.out HLV.out hl HFAR.out (by rw [HSQ.out]; decide)).mono ?_
  rintro e w5 ⟨⟨v, rfl, he⟩, ⟨s2, t2, hji2, hlv2, h1, _⟩, hf⟩
  obtain rfl := he.zero
  replace HSQ := Lib.hid (show s2.nt.seq = 2 by rw [(h1 rfl).1, HSQ.out])
  replace HDT := Lib.hid (show s2.nt.dat = [98] from (h1 rfl).2.1)
  replace HHS := Lib.hid (show s2.has = true from (h1 rfl).2.2)
  replace HB := Lib.hid (below_three HB.out hf HLE.out.1 HLE.out.2.1 HLE.out.2.2)
  replace HJI := Lib.hid hji2
  replace HLV := Lib.hid hlv2
  have HF := Lib.hid hf
  clear he h1 hf hl hji2 hlv2 HFAR
  clear HF HLO
  go_wp2_with fail
  refine (ji_last j g gb _ _ _ HJI.out).mono ?_
  rintro e w6 ⟨A6, c6, rfl, hr6, ho6, hb6⟩
  rw [HHS.out, HDT.out] at *
  rw [show ([98] : List UInt8).length = 1 from rfl] at *
  have HX := Lib.hid hr6
  have HXF := Lib.hid (own_far ho6)
  have HXL := Lib.hid (show j < w5.heap.size ∧ g < w5.heap.size ∧ gb < w5.heap.size from HJI.out.lt)
  replace HB := Lib.hid (below_step HB.out hb6)
  replace HJI := Lib.hid (HJI.out.below hb6)
  clear hr6 ho6 hb6
  go_wp2_with fail
  have HLO := Lib.hid (show ∀ wz : World, wz = w6 → j < wz.heap.size ∧ g < wz.heap.size ∧ gb < wz.heap.size from fun wz e => by subst e; exact HJI.out.lt)
  have hbx := (Below.refl w6.heap.size w6).alloc (Nat.le_refl _) (.cells ([99].map bv).toArray 5 (1, 2))
  replace HX := Lib.hid (HX.out.below hbx)
  clear hbx
  have hbn := (Below.refl w6.heap.size w6).alloc (Nat.le_refl _) (.cells ([99].map bv).toArray 5 (1, 2))
  have hl := rs_mark w6 [99] 5 (1, 2) (by decide)
  replace HB := Lib.hid (below_step HB.out hbn)
  replace HJI := Lib.hid (HJI.out.below hbn)
  have HFAR := Lib.hid (show 0 < 1 → ∀ b o, some (⟨w6.heap.size, 0, none⟩ : Addr) = some ⟨b, o, none⟩ → b ≠ j ∧ b ≠ g ∧ b ≠ gb from fun _ b o e => by cases e; have := HLO.out w6 rfl; omega)
  clear hbn
  refine (ap_live j g gb 40 _ _ _ 1 1 [99] 0 _ HJI.out HLV.out hl HFAR.out (by rw [HSQ.out]; decide)).mono ?_
  rintro e w7 ⟨⟨v, rfl, he⟩, ⟨s2, t2, hji2, hlv2, h1, _⟩, hf⟩
  obtain rfl := he.zero
  replace HSQ := Lib.hid (show s2.nt.seq = 3 by rw [(h1 rfl).1, HSQ.out])
  replace HDT := Lib.hid (show s2.nt.dat = [99] from (h1 rfl).2.1)
  replace HHS := Lib.hid (show s2.has = true from (h1 rfl).2.2)
  replace HB := Lib.hid (below_three HB.out hf HLE.out.1 HLE.out.2.1 HLE.out.2.2)
  replace HJI := Lib.hid hji2
  replace HLV := Lib.hid hlv2
  have HF := Lib.hid hf
  clear he h1 hf hl hji2 hlv2 HFAR
  have HXA := Lib.hid (show 0 < 1 → ∀ b o, A6 = some ⟨b, o, none⟩ → b ≠ j ∧ b ≠ g ∧ b ≠ gb from fun _ b o e => by have := HXF.out b o e; have := HXL.out; omega)
  replace HX := Lib.hid (HX.out.three HF.out HXA.out)
  clear HF HLO HXF HXL
  go_wp2_with fail
  refine (ap_live j g gb 40 _ _ none 0 0 [] 1 _ HJI.out HLV.out (RS.none _) (fun h => absurd h (by decide)) (by rw [HSQ.out]; decide)).mono ?_
  rintro e w8 ⟨⟨vd, rfl, hed⟩, ⟨s2, t2, hji2, hlv2, _, h1⟩, hf⟩
  obtain ⟨rfl, rfl⟩ := h1 (by decide)
  replace HX := Lib.hid (HX.out.three hf HXA.out)
  replace HB := Lib.hid (below_three HB.out hf HLE.out.1 HLE.out.2.1 HLE.out.2.2)
  replace HJI := Lib.hid hji2
  have HED := Lib.hid hed
  obtain ⟨td, ud, rfl⟩ := hed.some (by decide)
  clear hf h1 hlv2 hji2 hed
  go_wp2_with fail
  have hbn := below_new w8 (.cells (madeCells #[.int .u8 0] 30) 5)
  have hl := (by_make2_own w8 w8.heap.size 30 30 (Nat.le_refl _) (by decide) (Nat.le_refl _)).rs
  have HFAR := Lib.hid (show 0 < 30 → ∀ b o, some (⟨w8.heap.size, 0, none⟩ : Addr) = some ⟨b, o, none⟩ → b ≠ j ∧ b ≠ g ∧ b ≠ gb from fun _ b o e => by cases e; have := HJI.out.lt; omega)
  replace HX := Lib.hid (HX.out.below hbn)
  replace HED := Lib.hid (HED.out.below hbn)
  replace HB := Lib.hid (below_step HB.out hbn)
  replace HJI := Lib.hid (HJI.out.below hbn)
  clear hbn km
  refine (ap_live j g gb 40 _ _ _ 30 30 (List.replicate 30 0) 5 _ HJI.out HLV.out hl HFAR.out (by rw [HSQ.out]; decide)).mono ?_
  rintro e w9 ⟨⟨ve, rfl, hee⟩, ⟨s2, t2, hji2, hlv2, _, h1⟩, hf⟩
  obtain ⟨rfl, rfl⟩ := h1 (by decide)
  replace HX := Lib.hid (HX.out.three hf HXA.out)
  replace HB := Lib.hid (below_three HB.out hf HLE.out.1 HLE.out.2.1 HLE.out.2.2)
  replace HED := Lib.hid (HED.out.fr hf HJI.out.noStep)
  replace HJI := Lib.hid hji2
  have HEE := Lib.hid hee
  obtain ⟨te, ue, rfl⟩ := hee.some (by decide)
  clear hf h1 hlv2 hji2 hee hl HFAR HXA
  go_wp2_with fail
  refine (op_open g gb _ _ HJI.out.st).mono ?_
  rintro e wa ⟨k, rfl, hki, hb2, hkl⟩
  rw [← HJI.out.eq] at hki
  replace HB := Lib.hid (below_step HB.out hb2)
  replace HX := Lib.hid (HX.out.below hb2)
  replace HED := Lib.hid (HED.out.below hb2)
  replace HEE := Lib.hid (HEE.out.below hb2)
  have HKI := Lib.hid hki
  clear hb2 hki HJI hkl
  go_wp2_with fail
  refine (ji_last k g gb _ _ _ HKI.out).mono ?_
  rintro e wb ⟨A7, c7, rfl, hr7, ho7, hb7⟩
  rw [HHS.out, HDT.out] at *
  rw [show ([99] : List UInt8).length = 1 from rfl] at *
  replace HB := Lib.hid (below_step HB.out hb7)
  replace HX := Lib.hid (HX.out.below hb7)
  replace HED := Lib.hid (HED.out.below hb7)
  replace HEE := Lib.hid (HEE.out.below hb7)
  replace HKI := Lib.hid (HKI.out.below hb7)
  have k1 := by_string_of _ _ _ c6 _ HX.out.rb
  have k2 := by_string_of _ _ _ c7 _ hr7.rb
  have t1 := strB_toList [98]
  have t2' := strB_toList [99]
  have hbr := Below.refl wb.heap.size wb
  clear hb7 hr7 ho7
  go_wp2_with fail
  refine (code_is _ 1 _ (hg0.out.below HB.out) HED.out).mono ?_
  rintro e wc ⟨rfl, hb8⟩
  replace HB := Lib.hid (below_step HB.out hb8)
  replace HEE := Lib.hid (HEE.out.below hb8)
  replace HKI := Lib.hid (HKI.out.below hb8)
  have hbr2 := hb8
  clear HED HX
  go_wp2_with fail
  refine (code_is _ 5 _ (hg0.out.below HB.out) HEE.out).mono ?_
  rintro e wd ⟨rfl, hb9⟩
  replace HB := Lib.hid (below_step HB.out hb9)
  replace HKI := Lib.hid (HKI.out.below hb9)
  have hbr3 := below_step hb8 hb9
  clear HEE
  go_wp2_with fail
  refine (ji_seq k g gb _ _ _ HKI.out).mono ?_
  rintro e we ⟨rfl, rfl⟩
  rw [HSQ.out]
  go_wp2_with fail
  go_ret
  exact ⟨rfl, HB.out⟩
end Go.Proofs.YtcppmihambcihaaDoor
