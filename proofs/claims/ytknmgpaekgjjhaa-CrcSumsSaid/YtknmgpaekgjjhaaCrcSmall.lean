/- The sums' small case: it returns true, and nothing that was there has turned. -/
import Derived.Test.YtknmgpaekgjjhaaCrcRef
namespace Go.Proofs.Ytknmgpaekgjjhaa
open Go.RowKit
set_option linter.unusedVariables false
set_option linter.unusedSimpArgs false

theorem crcOpen_seal (l : List UInt8) : crcOpen (crcSeal l) = some l := by
  unfold crcOpen
  rw [if_pos ⟨by rw [crcSum_seal_len]; omega, crcSum_seal l⟩, crcSum_seal_len]
  unfold crcSeal
  simp

set_option maxRecDepth 100000 in
set_option maxHeartbeats 4000000 in
theorem crc_small (w : World) : Calls Try.prog 9 #[] w fun e w' => e = .returned (.bool true) ∧ Below w.heap.size w w' := by
  have kc := by_const
  have s1 : n16 (crcSum [49, 50, 51, 52, 53, 54, 55, 56, 57]) = 10673 := by decide +kernel
  have s2 : n16 (crcSum []) = 65535 := by decide
  have s3 : n16 (crcAdd (crcSum [49, 50, 51, 52]) [53, 54, 55, 56, 57]) = 10673 := by decide +kernel
  have o1 : crcOpen (crcSeal [97, 98]) = some [97, 98] := crcOpen_seal _
  have o2 : crcOpen [1] = none := by decide
  have o3 : crcOpen [0, 0] = none := by decide +kernel
  go_enter Try.func9, Try.ntmps9
  go_wp2_with fail
  refine (crc_seal _ _ _ [97, 98] _ (rs_mark w [97, 98] _ _ (by decide)) (by decide)).mono ?_
  rintro e w1 ⟨v1, rfl, hown1, hb1⟩
  have hb1 := below_step (below_new w _) hb1
  obtain ⟨A1, c1, rfl, hr1⟩ := hown1.reads
  rw [show (crcSeal [97, 98]).length = 4 from rfl] at *
  clear hown1
  go_wp2_with fail
  refine (crc_open _ _ _ _ _ hr1 (by decide)).mono ?_
  rintro e w2 ⟨v2, rfl, hown2, hb2⟩
  rw [o1] at *
  have hb2 := below_step hb1 hb2
  simp only [Option.getD_some] at hown2
  obtain ⟨A2, c2, rfl, hr2⟩ := hown2.reads
  clear hb1 hown2 hr1
  rw [show [(97 : UInt8), 98].length = 2 from rfl] at *
  go_wp2_with fail
  refine (crc_open _ _ _ [1] _ (rs_new w2 [1] _ (by decide)) (by decide)).mono ?_
  rintro e w3 ⟨v3, rfl, _, hb3⟩
  have hr3 := hr2.below (below_step (below_new w2 _) hb3)
  have hb3 := below_step hb2 (below_step (below_new w2 _) hb3)
  clear hb2 hr2
  rw [o2] at *
  simp only [Option.isSome_none]
  go_wp2_with fail
  refine (crc_open _ _ _ [0, 0] _ (rs_new w3 [0, 0] _ (by decide)) (by decide)).mono ?_
  rintro e w4 ⟨v4, rfl, _, hb4⟩
  have hr4 := hr3.below (below_step (below_new w3 _) hb4)
  have hb4 := below_step hb3 (below_step (below_new w3 _) hb4)
  clear hb3 hr3
  rw [o3] at *
  simp only [Option.isSome_none]
  go_wp2_with fail
  refine (crc_sum _ _ _ [49, 50, 51, 52, 53, 54, 55, 56, 57] _ (rb_mark w4 [49, 50, 51, 52, 53, 54, 55, 56, 57] _ _ (by decide))).mono ?_
  rintro e w5 ⟨rfl, hw5⟩
  clear o1 o2 o3
  have hb45 : Below w4.heap.size w4 w5 := hw5 ▸ below_new w4 _
  have hst := by_string _ _ _ c2 _ (hr4.below hb45).rb
  have hb5 := below_step hb4 hb45
  clear hw5 hb45 hb4 hr4
  go_wp2_with fail
  refine (crc_sum _ _ _ [] _ (RB.nil _ _)).mono ?_
  rintro e w6 ⟨rfl, rfl⟩
  have hst2 := strB_toList [97, 98]
  go_wp2_with fail
  refine (crc_sum _ _ _ [49, 50, 51, 52] _ (rb_mark w5 [49, 50, 51, 52] _ _ (by decide))).mono ?_
  rintro e w7 ⟨rfl, hw7⟩
  have hb7 : Below w.heap.size w w7 := below_step hb5 (hw7 ▸ below_new w5 _)
  clear hw7 hst
  go_wp2_with fail
  refine (crc_add _ _ _ _ [53, 54, 55, 56, 57] _ (rb_mark w7 [53, 54, 55, 56, 57] _ _ (by decide))).mono ?_
  rintro e w8 ⟨rfl, hw8⟩
  have hb8 : Below w.heap.size w w8 := below_step hb7 (hw8 ▸ below_new w7 _)
  clear hw8
  go_wp2_with fail
  go_ret
  exact ⟨rfl, hb8⟩
end Go.Proofs.Ytknmgpaekgjjhaa
