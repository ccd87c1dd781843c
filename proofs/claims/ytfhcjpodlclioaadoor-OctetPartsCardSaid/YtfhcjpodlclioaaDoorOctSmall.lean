/- octet's small case: true, and nothing that was there has turned. -/
import Derived.Test.YtfhcjpodlclioaaDoorRdr2
import Derived.Test.YtfhcjpodlclioaaDoorOct2
import Derived.Test.YtfhcjpodlclioaaDoorLaid
namespace Go.Proofs.YtfhcjpodlclioaaDoor
open Go.RowKit
set_option linter.unusedVariables false
set_option linter.unusedSimpArgs false

/-- The cell of errors.errorType, as a later world has it. -/
abbrev HasTy (w : World) : Prop := w.cell? ⟨0, 0, none⟩ = some (.iface 77 (.agg #[.pointer (some ⟨1, 38, none⟩)]))
theorem HasTy.below {w w' : World} (h : HasTy w) (hb : Below w.heap.size w w') : HasTy w' := (hb.cell (World.block_lt_of_cell? w _ h)).trans h
theorem HasTy.lt {w : World} (h : HasTy w) : 0 < w.heap.size := World.block_lt_of_cell? w _ h
theorem RdIs.other {w w' : World} {g bl : Nat} {xs : List UInt8} {bad : Bool} {g' bl' : Nat} {ys : List UInt8} {bad' : Bool} (h : RdIs w g bl xs bad) (k : RdIs w g' bl' ys bad') (hf : Fr (fun i => i = g) w w') (h1 : g' ≠ g) (h2 : ys ≠ [] → bl' ≠ g) : RdIs w' g' bl' ys bad' := k.fr hf h1 h2 h.noStep
theorem below_one {w w1 w2 : World} {g : Nat} (hb : Below w.heap.size w w1) (hf : Fr (fun i => i = g) w1 w2) (hg : w.heap.size ≤ g) : Below w.heap.size w w2 := hb.trans (hf.below w.heap.size hb.size (fun i e => by rw [e]; exact hg))
theorem RS.one {w w' : World} {g : Nat} {b n c : Nat} {xs : List UInt8} (h : RS w (some ⟨b, 0, Option.none⟩) n c xs) (hf : Fr (fun i => i = g) w w') (hb : b ≠ g) : RS w' (some ⟨b, 0, Option.none⟩) n c xs := h.fr hf (fun _ b' off e => by cases e; exact hb)

set_option maxRecDepth 100000 in
set_option maxHeartbeats 4000000 in
theorem oct_small (w : World) (hg : HasTy w) : Calls Tryd.prog 9 #[] w fun e w' => e = .returned (.bool true) ∧ Below w.heap.size w w' := by
  have hg0 := Lib.hid hg
  clear hg
  go_enter Tryd.func9, Tryd.ntmps9
  go_wp2_with fail
  refine (oct_put16 _ _ _ [9] 258 _ (rs_new w [9] _ (by decide)) (by decide) (by decide)).mono ?_
  rintro e w1 ⟨v1, rfl, hown, hb⟩
  replace hb := below_step (below_new w _) hb
  obtain ⟨A1, c1, rfl, hr1⟩ := hown.reads
  rw [show ([9] ++ beN 2 258 : List UInt8).length = 3 from rfl] at hr1 ⊢
  clear hown
  go_wp2_with fail
  refine (oct_put32 _ _ _ _ 16777221 _ hr1 (by decide) (by decide)).mono ?_
  rintro e w2 ⟨v2, rfl, hown, hb2⟩
  replace hb := below_step hb hb2
  have hw2 := hb.size
  rw [show ([9] ++ beN 2 258 ++ beN 4 16777221) = [9, 1, 2, 1, 0, 0, 5] by decide] at hown
  rcases hown.form with ⟨_, h0⟩ | ⟨gb, cb, rfl, hgb, hgl, _, hrs⟩
  · cases h0
  change RS w2 _ 7 cb _ at hrs
  clear hown hb2 hr1
  go_wp2_with fail
  refine (rd_over _ _ _ _ _ hrs (by decide)).mono ?_
  rintro e w3 ⟨gr, br, rfl, hr, hgr, hbr, hbl, hb2⟩
  replace hb := below_step hb hb2
  have hsz2 := hb2.size
  replace hrs := hrs.below hb2
  clear hb2
  go_wp2_with fail
  have hbn := below_new w3 (.cells #[.int .u8 1] 5)
  refine (rd_over _ _ _ [1] _ (rs_new w3 [1] _ (by decide)) (by decide)).mono ?_
  rintro e w4 ⟨gs, bs, rfl, hs, hgs, hbs, hbls, hb2⟩
  replace hb2 := below_step hbn hb2
  replace hb := below_step hb hb2
  have hgrl := hr.lt
  have hgsl := hs.lt
  have hgs3 : w3.heap.size ≤ gs := by simp at hgs; omega
  have hbs3 : w3.heap.size ≤ bs := by simp at hbs; omega
  replace hr := hr.below hb2
  replace hrs := hrs.below hb2
  have hwr : w.heap.size ≤ gr := Nat.le_trans hw2 hgr
  have hgr3 : gr < w3.heap.size := hgrl
  have hgsr : gs ≠ gr := by omega
  have hbsr : bs ≠ gr := by omega
  have hgrs : gr ≠ gs := by omega
  have hbrs : br ≠ gs := by omega
  have hgbr : gb ≠ gr := by omega
  have hgbs : gb ≠ gs := by omega
  have hws : w.heap.size ≤ gs := by omega
  clear hb2 hbn hgr hbr hbl hgs hbs hbls hgrl hgsl hgs3 hbs3 hgr3 hgb hgl hsz2
  have hb := Lib.hid hb
  go_wp2_with fail
  refine (rd_u8 gr br _ _ _ hr).mono ?_
  rintro e w5 ⟨rfl, hr5, hf⟩
  replace hs := hr.other hs hf hgsr (fun _ => hbsr)
  replace hrs := hrs.one hf hgbr
  replace hb := Lib.hid (below_one hb.out hf hwr)
  replace hr : RdIs w5 gr br [1, 2, 1, 0, 0, 5] false := hr5
  clear hf hr5
  rw [show nb (([9, 1, 2, 1, 0, 0, 5] : List UInt8).headD 0) = 9 from rfl]
  go_wp2_with fail
  refine (rd_u16 gr br _ _ _ hr).mono ?_
  rintro e w6 ⟨rfl, hr6, hf⟩
  replace hs := hr.other hs hf hgsr (fun _ => hbsr)
  replace hrs := hrs.one hf hgbr
  replace hb := Lib.hid (below_one hb.out hf hwr)
  replace hr : RdIs w6 gr br [1, 0, 0, 5] false := hr6
  clear hf hr6
  rw [show (rdVal 2 [1, 2, 1, 0, 0, 5] : Int) = 258 by decide]
  go_wp2_with fail
  refine (rd_end gr br _ _ _ hr).mono ?_
  rintro e w7 ⟨vl, rfl, hel, hb2⟩
  replace hs := hs.below hb2
  replace hr := hr.below hb2
  replace hrs := hrs.below hb2
  replace hb := Lib.hid (below_step hb.out hb2)
  replace hel : ErrN w7 1 vl 2 := hel
  clear hb2
  go_wp2_with fail
  refine (rd_u32 gr br _ _ _ hr).mono ?_
  rintro e w8 ⟨rfl, hr8, hf⟩
  replace hs := hr.other hs hf hgsr (fun _ => hbsr)
  replace hrs := hrs.one hf hgbr
  replace hel := hel.fr hf hr.noStep
  replace hb := Lib.hid (below_one hb.out hf hwr)
  replace hr : RdIs w8 gr br [] false := hr8
  clear hf hr8
  rw [show (rdVal 4 [1, 0, 0, 5] : Int) = 16777221 by decide]
  go_wp2_with fail
  refine (rd_u16 gs bs _ _ _ hs).mono ?_
  rintro e w9 ⟨rfl, hs9, hf⟩
  replace hr := hs.other hr hf hgrs (fun _ => hbrs)
  replace hrs := hrs.one hf hgbs
  replace hel := hel.fr hf hs.noStep
  replace hb := Lib.hid (below_one hb.out hf hws)
  replace hs : RdIs w9 gs bs [] true := hs9
  clear hf hs9
  rw [show (rdVal 2 [1] : Int) = 0 by decide]
  have k1 := by_string _ _ _ cb _ hrs.rb
  have t1 := strB_toList [9, 1, 2, 1, 0, 0, 5]
  obtain ⟨tl, ul, rfl⟩ := hel.iface
  go_wp2_with fail
  refine (fault_code 1 _ 2 _ (hg0.out.below hb.out) hel).mono ?_
  rintro e wa ⟨rfl, hb2⟩
  replace hs := hs.below hb2
  replace hr := hr.below hb2
  replace hb := Lib.hid (below_step hb.out hb2)
  clear hb2 hel k1 t1 hrs
  go_wp2_with fail
  refine (rd_end gr br _ _ _ hr).mono ?_
  rintro e wb ⟨vl, rfl, hel, hb2⟩
  obtain rfl : vl = .nilIface := hel
  replace hs := hs.below hb2
  replace hb := Lib.hid (below_step hb.out hb2)
  clear hb2 hr
  go_wp2_with fail
  refine (rd_err gs bs _ _ _ hs).mono ?_
  rintro e wc ⟨vl, rfl, hel, rfl⟩
  replace hel : ErrN wb 1 vl 2 := hel
  obtain ⟨tl, ul, rfl⟩ := hel.iface
  go_wp2_with fail
  refine (fault_code 1 _ 2 _ (hg0.out.below hb.out) hel).mono ?_
  rintro e wd ⟨rfl, hb2⟩
  replace hs := hs.below hb2
  replace hb := Lib.hid (below_step hb.out hb2)
  clear hb2 hel
  go_wp2_with fail
  refine (rd_rest gs bs _ _ _ hs).mono ?_
  rintro e wf ⟨Ax, cx, rfl, _, _, _, hf⟩
  replace hb := Lib.hid (below_one hb.out hf hws)
  clear hf hs
  go_wp2_with fail
  go_ret
  exact ⟨rfl, hb.out⟩
end Go.Proofs.YtfhcjpodlclioaaDoor
