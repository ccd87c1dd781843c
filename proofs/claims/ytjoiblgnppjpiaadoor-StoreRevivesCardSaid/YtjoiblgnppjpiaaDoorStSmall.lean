/- store's small case. -/
import Derived.Test.YtjoiblgnppjpiaaDoorStore2
import Derived.Test.YtjoiblgnppjpiaaDoorHasTy
namespace Go.Proofs.YtjoiblgnppjpiaaDoor
open Go.RowKit
set_option linter.unusedVariables false
set_option linter.unusedSimpArgs false

set_option maxRecDepth 100000 in
set_option maxHeartbeats 8000000 in
theorem st_small (w : World) (hg : HasTy w) : Calls Tryd.prog 7 #[] w fun e w' => e = .returned (.bool true) ∧ Below w.heap.size w w' := by
  have hg0 := Lib.hid hg
  have kc := by_const
  clear hg
  go_enter Tryd.func7, Tryd.ntmps7
  go_wp2_with fail
  refine (st_new 4 _).mono ?_
  rintro e w1 ⟨g, gb, rfl, hst, hwg, hwb, hb⟩
  rw [show stSize 4 = 4 by decide, show List.replicate 4 (255 : UInt8) = [255, 255, 255, 255] from rfl] at hst
  have hb := Lib.hid hb
  go_wp2_with fail
  have hbn := (Below.refl w1.heap.size w1).alloc (Nat.le_refl _) (.cells ([120].map bv).toArray 5 (1, 2))
  have hl := rs_mark w1 [120] 5 (1, 2) (by decide)
  replace hst := hst.below hbn
  replace hb := Lib.hid (below_step hb.out hbn)
  clear hbn
  refine (st_write_fits g gb _ _ 1 _ 1 1 [120] _ hst hl (by decide) (fun k h => by cases h)).mono ?_
  rintro e w2 ⟨rfl, h2, hf⟩
  replace hb := Lib.hid (below_two hb.out hf hwg hwb)
  replace hst : StIs w2 g gb [255, 120, 255, 255] none false := h2
  clear hl hf h2
  go_wp2_with fail
  refine (st_kill g gb _ _ _ 1 _ (by decide) hst).mono ?_
  rintro e w3 ⟨rfl, h2, hf⟩
  replace hb := Lib.hid (below_one hb.out hf hwg)
  replace hst : StIs w3 g gb [255, 120, 255, 255] (some 1) false := h2
  clear hf h2
  go_wp2_with fail
  have hbn := (Below.refl w3.heap.size w3).alloc (Nat.le_refl _) (.cells ([121, 122].map bv).toArray 5 (2, 3))
  have hl := rs_mark w3 [121, 122] 5 (2, 3) (by decide)
  replace hst := hst.below hbn
  replace hb := Lib.hid (below_step hb.out hbn)
  clear hbn
  refine (st_write_torn g gb _ 1 2 _ 2 2 [121, 122] _ hst hl (fun _ _ _ _ => trivial) (by decide) (by decide)).mono ?_
  rintro e w4 ⟨vb, rfl, heb, h2, hf⟩
  replace hb := Lib.hid (below_two hb.out hf hwg hwb)
  replace hst : StIs w4 g gb [255, 120, 121, 255] (some 0) true := h2
  clear hl hf h2
  go_wp2_with fail
  refine (st_write_dead g gb _ _ 0 _ 0 0 _ hst).mono ?_
  rintro e w5 ⟨vc, rfl, hec, hb2⟩
  replace hb := Lib.hid (below_step hb.out hb2)
  replace hst := hst.below hb2
  replace heb := heb.below hb2
  clear hb2
  go_wp2_with fail
  refine (st_dead g gb _ _ _ _ hst).mono ?_
  rintro e w6 ⟨rfl, rfl⟩
  go_wp2_with fail
  refine (st_revive g gb _ _ _ _ hst).mono ?_
  rintro e w7 ⟨rfl, h2, hf⟩
  have hns : NoStep w5 (fun k => k = g) := fun k cs m e => hst.noStep k cs m (.inl e)
  replace heb := heb.fr hf hns
  replace hec := hec.fr hf hns
  replace hb := Lib.hid (below_one hb.out hf hwg)
  replace hst := h2
  clear hf h2 hns
  go_wp2_with fail
  have hbn := (Below.refl w7.heap.size w7).alloc (Nat.le_refl _) (.cells ([119].map bv).toArray 5 (1, 2))
  replace heb := heb.below hbn
  replace hec := hec.below hbn
  clear hbn
  have hbn := (Below.refl w7.heap.size w7).alloc (Nat.le_refl _) (.cells ([119].map bv).toArray 5 (1, 2))
  have hl := rs_mark w7 [119] 5 (1, 2) (by decide)
  replace hst := hst.below hbn
  replace hb := Lib.hid (below_step hb.out hbn)
  clear hbn
  refine (st_write_fits g gb _ _ 0 _ 1 1 [119] _ hst hl (by decide) (fun k h => by cases h)).mono ?_
  rintro e w8 ⟨rfl, h2, hf⟩
  replace heb := heb.fr hf hst.noStep
  replace hec := hec.fr hf hst.noStep
  replace hb := Lib.hid (below_two hb.out hf hwg hwb)
  replace hst : StIs w8 g gb [119, 120, 121, 255] none false := h2
  clear hl hf h2
  go_wp2_with fail
  have hbn := (Below.refl w8.heap.size w8).alloc (Nat.le_refl _) (.cells ([119].map bv).toArray 5 (1, 2))
  replace heb := heb.below hbn
  replace hec := hec.below hbn
  clear hbn
  have hbn := (Below.refl w8.heap.size w8).alloc (Nat.le_refl _) (.cells ([119].map bv).toArray 5 (1, 2))
  have hl := rs_mark w8 [119] 5 (1, 2) (by decide)
  replace hst := hst.below hbn
  replace hb := Lib.hid (below_step hb.out hbn)
  clear hbn
  refine (st_write_range g gb _ _ 4 _ 1 1 _ hst (by decide)).mono ?_
  rintro e w9 ⟨ve, rfl, hee, hb2⟩
  replace hb := Lib.hid (below_step hb.out hb2)
  replace hst := hst.below hb2
  replace heb := heb.below hb2
  replace hec := hec.below hb2
  clear hl hb2 kc
  have Hst := Lib.hid hst
  have Heb := Lib.hid heb
  have Hec := Lib.hid hec
  have Hee := Lib.hid hee
  obtain ⟨tb, ub, rfl⟩ := heb.iface
  obtain ⟨tc, uc, rfl⟩ := hec.iface
  obtain ⟨te, ue, rfl⟩ := hee.iface
  clear hst heb hec hee
  go_wp2_with fail
  refine (fault_code 1 _ 7 _ (hg0.out.below hb.out) Heb.out).mono ?_
  rintro e wa ⟨rfl, hb2⟩
  replace Hec := Lib.hid (Hec.out.below hb2)
  replace Hee := Lib.hid (Hee.out.below hb2)
  replace Hst := Lib.hid (Hst.out.below hb2)
  replace hb := Lib.hid (below_step hb.out hb2)
  clear hb2 Heb
  go_wp2_with fail
  refine (fault_code 1 _ 7 _ (hg0.out.below hb.out) Hec.out).mono ?_
  rintro e wb ⟨rfl, hb2⟩
  replace Hee := Lib.hid (Hee.out.below hb2)
  replace Hst := Lib.hid (Hst.out.below hb2)
  replace hb := Lib.hid (below_step hb.out hb2)
  clear hb2 Hec
  go_wp2_with fail
  refine (st_dead g gb _ _ _ _ Hst.out).mono ?_
  rintro e wc ⟨rfl, rfl⟩
  go_wp2_with fail
  refine (fault_code 1 _ 6 _ (hg0.out.below hb.out) Hee.out).mono ?_
  rintro e wc ⟨rfl, hb2⟩
  replace Hst := Lib.hid (Hst.out.below hb2)
  replace hb := Lib.hid (below_step hb.out hb2)
  clear hb2 Hee
  go_wp2_with fail
  refine (st_read g gb _ _ _ 0 4 _ Hst.out).mono ?_
  rintro e wd ⟨v, rfl, hown, hb2⟩
  replace Hst := Lib.hid (Hst.out.below hb2)
  replace hb := Lib.hid (below_step hb.out hb2)
  rw [show stRead [119, 120, 121, 255] 0 4 = [119, 120, 121, 255] by decide] at hown
  obtain ⟨A1, c1, rfl, hr1⟩ := hown.reads
  have k1 := by_string _ _ _ c1 _ hr1.rb
  have t1 := strB_toList [119, 120, 121, 255]
  rw [show ([119, 120, 121, 255] : List UInt8).length = 4 from rfl] at k1 ⊢
  clear hb2 hown hr1
  go_wp2_with fail
  refine (st_size g gb _ _ _ _ Hst.out).mono ?_
  rintro e we ⟨rfl, rfl⟩
  clear k1 t1
  go_wp2_with fail
  refine (st_read g gb _ _ _ 0 5 _ Hst.out).mono ?_
  rintro e we ⟨v, rfl, hown, hb2⟩
  replace Hst := Lib.hid (Hst.out.below hb2)
  replace hb := Lib.hid (below_step hb.out hb2)
  rw [show stRead [119, 120, 121, 255] 0 5 = [] by decide] at hown
  obtain ⟨A1, c1, rfl, hr1⟩ := hown.reads
  clear hb2 hown hr1
  go_wp2_with fail
  refine (st_read g gb _ _ _ 1 0 _ Hst.out).mono ?_
  rintro e wf ⟨v, rfl, hown, hb2⟩
  replace hb := Lib.hid (below_step hb.out hb2)
  rw [show stRead [119, 120, 121, 255] 1 0 = [] by decide] at hown
  obtain ⟨A1, c1, rfl, hr1⟩ := hown.reads
  clear hb2 hown hr1
  go_wp2_with fail
  go_ret
  exact ⟨rfl, hb.out⟩
end Go.Proofs.YtjoiblgnppjpiaaDoor
