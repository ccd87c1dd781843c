/- The head of layer 16's statements: small. -/
import Derived.Test.YtafpkfnegfjohaaBkLaw
import Derived.Test.YtafpkfnegfjohaaBkLastW
import Derived.Test.YtafpkfnegfjohaaBkBlank
import Derived.Test.YtafpkfnegfjohaaBkPrint
import Derived.Test.YtafpkfnegfjohaaReg
import Derived.Test.YtafpkfnegfjohaaFrBy
import Derived.Test.YtafpkfnegfjohaaByFr
import Derived.Test.YtafpkfnegfjohaaCrcRef
namespace Go.Proofs.Ytafpkfnegfjohaa
open Go Go.RowKit Go.Shelf
set_option linter.unusedVariables false
set_option linter.unusedSimpArgs false
def smA : List UInt8 := bkPrint 5 [97]
def smB : List UInt8 := bkPrint 6 [98, 99]
theorem smA_len : smA.length = 9 := bkPrint_len 5 [97]
theorem smB_len : smB.length = 10 := bkPrint_len 6 [98, 99]
theorem sm_all : bkNotes ([] ++ smA ++ smB ++ [255, 255]) = [⟨5, [97], 9⟩, ⟨6, [98, 99], 19⟩] := by
  have h := bkNotes_rows 5 [[97], [98, 99]] 2 (by decide) (by decide)
  simpa [bkRows, bkWant, List.append_assoc, smA, smB] using h
theorem sm_none : bkNotes (smB.drop 1) = [] := by
  have h : bkFirst (smB.drop 1) = none := by decide +kernel
  exact bkAll_none h
theorem sm_seal : crcSeal [1, 0, 0, 0, 5, 97] ++ [0] = smA := rfl
theorem sm_b19 : bkBlank ([] ++ smA ++ smB ++ [255, 255]) 19 = true := by
  have h := bkBlank_rows (smA ++ smB) 2
  have e : (smA ++ smB).length = 19 := by rw [List.length_append, smA_len, smB_len]
  rw [e] at h
  simpa [List.append_assoc] using h
theorem sm_b18 : bkBlank ([] ++ smA ++ smB ++ [255, 255]) 18 = false := by decide +kernel
theorem sm_bnil : bkBlank [] 3 = true := rfl
theorem strB_bc : strB [98, 99] = { data := #[98, 99] } := rfl
/-- Three operations that write, in any order: what stands behind them is shown once. -/
theorem any_three {P : Program} {md : Region.Mode} {ops : Array Oper} {Q : Exit → Act → World → Prop} {S : World → Prop} {f : Nat} {l : Array Bool} {a : Act} {w : World} (H : World → Value → Nat → Nat → Prop)
    (t : ∀ wt vs L gz, H wt vs L gz → wpAnyH P md ops Q S f (((l.setIfInBounds 2 true).setIfInBounds 3 true).setIfInBounds 4 true) (((a.put (some 57) (.slice (some ⟨L, 0, none⟩) 6 6)).put (some 58) vs).put (some 59) (.slice (some ⟨gz, 0, none⟩) 1 1)) wt)
    (h : (∀ wt vs L gz, H wt vs L gz → wpAnyH P md ops Q S f (((l.setIfInBounds 2 true).setIfInBounds 3 true).setIfInBounds 4 true) (((a.put (some 57) (.slice (some ⟨L, 0, none⟩) 6 6)).put (some 58) vs).put (some 59) (.slice (some ⟨gz, 0, none⟩) 1 1)) wt) → wpAnyH P md ops Q S (f + 3) l a w) : wpAnyH P md ops Q S (f + 3) l a w := h t
theorem any_listed {P : Program} {md : Region.Mode} {ops : Array Oper} {Q : Exit → Act → World → Prop} {S : World → Prop} {f : Nat} {l : Array Bool} (l' : Array Bool) {a : Act} {w : World} (e : l = l') (h : wpAnyH P md ops Q S f l' a w) : wpAnyH P md ops Q S f l a w := by rw [e]; exact h
theorem two_of {ys : List NV} {a b : Nt} (h : ys.map (·.nt) = [a, b]) : ∃ x0 x1, ys = [x0, x1] ∧ x0.nt = a ∧ x1.nt = b := by
  match ys, h with
  | [x0, x1], h => simp at h; exact ⟨x0, x1, rfl, h.1, h.2⟩
set_option maxHeartbeats 8000000 in
set_option maxRecDepth 100000 in
theorem l_small16 (w : World) : Calls Try.prog 9 #[] w fun e w' => e = .returned (.bool true) ∧ Below w.heap.size w w' := by
  have kc := by_const
  have KC := Lib.hid kc
  have LA := Lib.hid smA_len
  have LB := Lib.hid smB_len
  go_enter Try.func9, Try.ntmps9
  go_wp2_with fail
  refine (bk_print 5 _ 1 1 [97] _ (rs_mark w [97] _ (1, 2) (by decide)) (by decide)).mono ?_
  rintro e w1 hq
  rw [IsPr_yes (show bkOk [97] = true from rfl)] at hq
  obtain ⟨v1, rfl, hown1, hb1⟩ := hq
  obtain ⟨A1, c1, rfl, hr1⟩ := hown1.reads
  rw [show (bkPrint 5 [97]).length = 9 from smA_len] at hr1 ⊢
  have RA := Lib.hid (show RS w1 A1 9 c1 smA from hr1)
  have HB1 := Lib.hid (below_step (below_new w _) hb1)
  clear hown1 hr1 hb1
  go_wp2_with fail
  refine (bk_print 6 _ 2 2 [98, 99] _ (rs_mark w1 [98, 99] _ (2, 3) (by decide)) (by decide)).mono ?_
  rintro e w2 hq
  rw [IsPr_yes (show bkOk [98, 99] = true from rfl)] at hq
  obtain ⟨v2, rfl, hown2, hb2⟩ := hq
  obtain ⟨A2, c2, rfl, hr2⟩ := hown2.reads
  rw [show (bkPrint 6 [98, 99]).length = 10 from smB_len] at hr2 ⊢
  have hb12 := below_step (below_new w1 _) hb2
  have RA := Lib.hid (RA.out.below hb12)
  have QB := Lib.hid (show RS w2 A2 10 c2 smB from hr2)
  have HB2 := Lib.hid (below_step HB1.out hb12)
  clear hown2 hr2 hb2 hb12 HB1 kc
  go_wp2_with fail
  refine (bk_print 5 none 0 0 [] _ (RS.none w2) (by decide)).mono ?_
  rintro e w3 hq
  rw [IsPr_no (show bkOk [] = false from rfl)] at hq
  obtain ⟨v3, rfl, hown3, hb3⟩ := hq
  have RA := Lib.hid (RA.out.below hb3)
  have QB := Lib.hid (QB.out.below hb3)
  have HB3 := Lib.hid (below_step HB2.out hb3)
  clear hown3 hb3 HB2
  go_upto_region 4 with fail
  have HOA := Lib.hid (by_lit0 w3 w3.heap.size (Nat.le_refl _))
  have HBA := Lib.hid (below_new w3 (.cells #[] 5))
  go_wp2_with (at_builtin; first
    | (refine wpList_append_by rfl _ _ rfl w3 HBA.out _ _ rfl HOA.out _ _ _ smA rfl RA.out.nil (RA.out.below HBA.out).rb (by decide) ?_; intro vb wb hownb hbb hgb; have HOB := Lib.hid hownb; have HBB := Lib.hid hbb; clear hownb hbb hgb HOA HBA)
    | (refine wpList_append_by rfl _ _ rfl w3 HBB.out _ _ rfl HOB.out _ _ _ smB rfl QB.out.nil (QB.out.below HBB.out).rb (by have := LA.out; simp; omega) ?_; intro vc wc hownc hbc hgc; clear HOB HBB; have HOC := Lib.hid ((show OwnB wc w3.heap.size vc ([] ++ smA ++ smB) from hownc).alloc (.cells #[.int .u8 255, .int .u8 255] 5)); have HBC := Lib.hid (Below.new hbc (.cells #[.int .u8 255, .int .u8 255] 5)); have HFF := Lib.hid (rb_new wc [255, 255] 5 (by decide)); clear hownc hbc hgc)
    | (refine wpList_append_by rfl _ _ rfl w3 HBC.out _ _ rfl HOC.out _ _ _ [255, 255] rfl (fun e => by cases e) HFF.out (by have := LA.out; have := LB.out; simp; omega) ?_; intro vd wd hownd hbd hgd; clear HOC HBC HFF; have HOD := Lib.hid hownd; have HBD := Lib.hid hbd; clear hownd hbd hgd))
  obtain ⟨AD, cD, rfl, hrd⟩ := HOD.out.reads
  rw [show ([] ++ smA ++ smB ++ [255, 255] : List UInt8).length = 21 by simp [LA.out, LB.out]] at hrd ⊢
  have RA := Lib.hid (RA.out.below HBD.out)
  have QB := Lib.hid (QB.out.below HBD.out)
  have RD := Lib.hid hrd
  have HB4 := Lib.hid (below_step HB3.out HBD.out)
  clear hrd HOD HBD HB3
  go_wp2_with fail
  refine (bk_notes AD 21 cD _ wd RD.out (by decide)).mono ?_
  rintro e w5 ⟨v5, ys5, rfl, hys5, hnt5, hb5⟩
  rw [sm_all] at hys5
  obtain ⟨x0, x1, rfl, hx0, hx1⟩ := two_of hys5
  obtain ⟨A5, c5, rfl, hr5, _⟩ := hnt5.own.re (by simp)
  obtain ⟨g5, o5, rfl, hg5, _⟩ := hr5.cells (by simp)
  have HX0 := Lib.hid hx0
  have HX1 := Lib.hid hx1
  have HR5 := Lib.hid hr5
  have HD5 := Lib.hid ((hnt5.dat x1 (by simp)).1)
  have RA := Lib.hid (RA.out.below hb5)
  have QB := Lib.hid (QB.out.below hb5)
  have RD := Lib.hid (RD.out.below hb5)
  have HB5 := Lib.hid (below_step HB4.out hb5)
  clear hnt5 hr5 hx0 hx1 hys5 hb5 HB4
  simp only [List.length_cons, List.length_nil, Nat.reduceAdd]
  go_wp2_with fail
  refine (bk_last AD 21 cD _ w5 RD.out (by decide)).mono ?_
  rintro e w6 hq
  rw [sm_all] at hq
  obtain ⟨A6, c6, rfl, hd6, hb6⟩ := hq
  have hb67 := below_step hb6 (below_new w6 (.cells (nta 6 A6 2 c6 19) 33))
  have RA := Lib.hid (RA.out.below hb67)
  have QB := Lib.hid (QB.out.below hb67)
  have RD := Lib.hid (RD.out.below hb67)
  have HR5 := Lib.hid (HR5.out.below hb67)
  have HD5 := Lib.hid (HD5.out.fr (Fr.ofBelow hb67 (fun _ => False)) (fun _ _ _ h => h))
  have HB6 := Lib.hid (below_step HB5.out hb67)
  have HBX := Lib.hid (heap_alloc_new w6 (.cells (nta 6 A6 2 c6 19) 33))
  have hg6 := Nat.lt_of_lt_of_le hg5 hb67.size
  clear hd6 hb6 hb67 HB5 hg5
  go_upto_region 7 with fail
  change Code.wp _ _ _ _ (w6.alloc (.cells (nta 6 A6 2 c6 19) 33))
  generalize w6.alloc (.cells (nta 6 A6 2 c6 19) 33) = w7 at *
  generalize w6.heap.size = g6 at *
  have hs7 := by_slice_l w7 A2 10 c2 1 (by decide) 1 rfl
  go_wp2_with fail
  refine (bk_last (subA A2 c2 1) 9 (c2 - 1) _ w7 (QB.out.sub 1 (by decide)) (by decide)).mono ?_
  rintro e w8 hq
  rw [sm_none] at hq
  obtain ⟨rfl, hb8⟩ := hq
  have hb89 := below_step hb8 (below_new w8 (.cells (nta 0 none 0 0 0) 33))
  have RA := Lib.hid (RA.out.below hb89)
  have RD := Lib.hid (RD.out.below hb89)
  have HR5 := Lib.hid (HR5.out.below hb89)
  have HD5 := Lib.hid (HD5.out.fr (Fr.ofBelow hb89 (fun _ => False)) (fun _ _ _ h => h))
  have HB8 := Lib.hid (below_step HB6.out hb89)
  have HBX := Lib.hid ((hb89.block _ (Array.getElem?_eq_some_iff.mp HBX.out).1).trans HBX.out)
  have hg8 := Nat.lt_of_lt_of_le hg6 hb89.size
  clear hb8 hb89 HB6 hs7 QB hg6
  go_upto_region 8 with fail
  change Code.wp _ _ _ _ (w8.alloc (.cells (nta 0 none 0 0 0) 33))
  generalize w8.alloc (.cells (nta 0 none 0 0 0) 33) = w9 at *
  generalize w8.heap.size = g8 at *
  have K1 := Lib.hid (by_string_of w9 A1 9 c1 smA RA.out.rb)
  go_upto_region 10 with fail
  have hr5 := HR5.out
  have e0 := hr5.elem ntc_len 0 (by simp)
  have e1 := hr5.elem ntc_len 1 (by simp)
  simp only [List.getElem_cons_zero, List.getElem_cons_succ] at e0 e1
  have kk : ∀ w', Below w9.heap.size w9 w' → (convert 23 9 (.slice A1 9 c1)).run Try.prog w' = .ok (.string (strB smA)) w' := K1.out
  have z00 : ∀ w', Below w9.heap.size w9 w' → w'.cell? ⟨g5, o5, none⟩ = some (.int .u32 5) := fun w' hb => (hb.cell (p := ⟨g5, o5, none⟩) hg8).trans (by have := e0 0 _ rfl; simpa [HX0.out] using this)
  have z02 : ∀ w', Below w9.heap.size w9 w' → w'.cell? ⟨g5, o5 + 2, none⟩ = some (.int .i64 9) := fun w' hb => (hb.cell (p := ⟨g5, o5 + 2, none⟩) hg8).trans (by have := e0 2 _ rfl; simpa [HX0.out] using this)
  have z11 : ∀ w', Below w9.heap.size w9 w' → w'.cell? ⟨g5, o5 + 3 + 1, none⟩ = some (.slice x1.A 2 x1.c) := fun w' hb => (hb.cell (p := ⟨g5, o5 + 3 + 1, none⟩) hg8).trans (by have := e1 1 _ rfl; simpa [HX1.out] using this)
  have hd5 := HD5.out.1
  rw [HX1.out] at hd5
  have kd : ∀ w', Below w9.heap.size w9 w' → (convert 23 9 (.slice x1.A 2 x1.c)).run Try.prog w' = .ok (.string { data := #[98, 99] }) w' := by_string_of w9 _ _ x1.c [98, 99] hd5.rb
  have hbx := HBX.out
  have hbl := (Array.getElem?_eq_some_iff.mp hbx).1
  have y0 : ∀ w', Below w9.heap.size w9 w' → w'.cell? ⟨g6, 0, none⟩ = some (.int .u32 6) := fun w' hb => (hb.cell (p := ⟨g6, 0, none⟩) hbl).trans (by simp [World.cell?, hbx])
  have y2 : ∀ w', Below w9.heap.size w9 w' → w'.cell? ⟨g6, 2, none⟩ = some (.int .i64 19) := fun w' hb => (hb.cell (p := ⟨g6, 2, none⟩) hbl).trans (by simp [World.cell?, hbx])
  have RD' := RD.out
  clear hr5 e0 e1 hd5 hbx
  have hS0 := below_drew1 w9
  refine wp_region_held (S := fun w' => Below w9.heap.size w9 w') (by kernel_rfl) ?_
  change wpAnyH _ _ _ _ _ _ _ _ w9.drew
  change wpAnyH _ _ _ _ _ 70 (Array.replicate 70 false) _ _
  refine wpAnyH_take (i := 0) (oi := ?_) (v := ?_) ?_ (by kernel_rfl) (by kernel_rfl) (by kernel_rfl) ?_ ?_ (by assumption) ?_
  rotate_left 2; (simp only [List.getElem?_toArray, List.getElem?_cons_succ, List.getElem?_cons_zero]; rfl)
  rotate_left; (first | (refine .inl ⟨by rfl, ?_⟩; intro w9 hS9; go_simp; try with_reducible rfl) | (refine .inr ⟨by rfl, ?_⟩; with_reducible rfl))
  rotate_left; (intro _ _ _ h9; exact h9)
  try simp only [Act.put, List.setIfInBounds_toArray, List.set_cons_zero, List.set_cons_succ]
  refine wpAnyH_take (i := 1) (oi := ?_) (v := ?_) ?_ (by kernel_rfl) (by kernel_rfl) (by kernel_rfl) ?_ ?_ (by assumption) ?_
  rotate_left 2; (simp only [List.getElem?_toArray, List.getElem?_cons_succ, List.getElem?_cons_zero]; rfl)
  rotate_left; (first | (refine .inl ⟨by rfl, ?_⟩; intro w9 hS9; go_simp; try with_reducible rfl) | (refine .inr ⟨by rfl, ?_⟩; with_reducible rfl))
  rotate_left; (intro _ _ _ h9; exact h9)
  try simp only [Act.put, List.setIfInBounds_toArray, List.set_cons_zero, List.set_cons_succ]
  refine any_three (f := 65) (H := fun (wt : World) (vs : Value) (L gz : Nat) => Below w9.heap.size w9 wt ∧ OwnB wt w9.heap.size vs (crcSeal [1, 0, 0, 0, 5, 97]) ∧ RS wt (some ⟨gz, 0, none⟩) 1 1 [0]) ?_ (fun hG => ?_)
  rotate_left
  · have HG := Lib.hid hG
    clear hG kk z00 z02 z11 kd y0 y2 K1
    refine wpAnyH_ready (rs := [2, 4]) (by kernel_rfl) (by simp) ?_
    refine AllReadyH.cons rfl (fun K9 hK9 => ?_) ?_
    · go_simp
      have hS1 := Below.new hS0 (.cells #[.int .u8 1, .int .u8 0, .int .u8 0, .int .u8 0, .int .u8 5, .int .u8 97] 5)
      refine hK9.out _ _ hS1 (fun _ => ?_)
      have HL6 := Lib.hid (show RS (w9.drew.alloc (.cells ([1, 0, 0, 0, 5, 97].map bv).toArray 5)) (some ⟨w9.heap.size, 0, none⟩) 6 6 [1, 0, 0, 0, 5, 97] from rs_new w9.drew [1, 0, 0, 0, 5, 97] 5 (by decide))
      change wpAnyH _ _ _ _ _ _ _ _ (w9.drew.alloc (.cells ([1, 0, 0, 0, 5, 97].map bv).toArray 5))
      have hS1 : Below w9.heap.size w9 (w9.drew.alloc (.cells ([1, 0, 0, 0, 5, 97].map bv).toArray 5)) := hS1
      generalize w9.drew.alloc (.cells ([1, 0, 0, 0, 5, 97].map bv).toArray 5) = wa at HL6 hS1 ⊢
      refine wpAnyH_ready (rs := [3, 4]) (by kernel_rfl) (by simp) ?_
      refine AllReadyH.cons rfl (fun K9 hK9 => ?_) ?_
      · go_simp
        refine (ref_crcSeal _ _ _ [1, 0, 0, 0, 5, 97] _ HL6.out (by decide)).mono ?_
        rintro e ws ⟨vs, rfl, howns, hbs⟩
        have hS2 := below_step hS1 hbs
        refine hK9.out _ _ hS2 (fun _ => ?_)
        have HS := Lib.hid ((howns.base (base' := w9.heap.size) hS1.size).alloc (.cells #[.int .u8 0] 5))
        clear howns hbs hS1
        refine wpAnyH_ready (rs := [4]) (by kernel_rfl) (by simp) (AllReadyH.cons rfl (fun K9 hK9 => ?_) AllReadyH.nil)
        go_simp
        have hS3 := Below.new hS2 (.cells #[.int .u8 0] 5)
        refine hK9.out _ _ hS3 (fun _ => ?_)
        have HZ := Lib.hid (rs_new ws [0] 5 (by decide))
        change wpAnyH _ _ _ _ _ _ _ _ (ws.alloc (.cells ([0].map bv).toArray 5))
        have hS3 : Below w9.heap.size w9 (ws.alloc (.cells ([0].map bv).toArray 5)) := hS3
        have HS := Lib.hid (show OwnB (ws.alloc (.cells ([0].map bv).toArray 5)) w9.heap.size vs (crcSeal [1, 0, 0, 0, 5, 97]) from HS.out)
        clear hS2
        generalize ws.alloc (.cells ([0].map bv).toArray 5) = wt at HS HZ hS3 ⊢
        generalize ws.heap.size = gz at HZ ⊢
        have hG := HG.out
        simp only [Act.put, List.setIfInBounds_toArray, List.set_cons_zero, List.set_cons_succ] at hG ⊢
        refine any_listed _ (by kernel_rfl) (hG _ _ _ _ ⟨hS3, HS.out, HZ.out⟩)
      refine AllReadyH.cons rfl (fun K9 hK9 => ?_) ?_
      · go_simp
        have hS2 := Below.new hS1 (.cells #[.int .u8 0] 5)
        refine hK9.out _ _ hS2 (fun _ => ?_)
        have HZ := Lib.hid (rs_new wa [0] 5 (by decide))
        have HL6 := Lib.hid (HL6.out.below (below_new wa (.cells #[.int .u8 0] 5)))
        change wpAnyH _ _ _ _ _ _ _ _ (wa.alloc (.cells ([0].map bv).toArray 5))
        have hS2 : Below w9.heap.size w9 (wa.alloc (.cells ([0].map bv).toArray 5)) := hS2
        have HL6 := Lib.hid (show RS (wa.alloc (.cells ([0].map bv).toArray 5)) _ 6 6 [1, 0, 0, 0, 5, 97] from HL6.out)
        clear hS1
        generalize wa.alloc (.cells ([0].map bv).toArray 5) = wb2 at HZ HL6 hS2 ⊢
        generalize wa.heap.size = gz at HZ ⊢
        refine wpAnyH_ready (rs := [3]) (by kernel_rfl) (by simp) (AllReadyH.cons rfl (fun K9 hK9 => ?_) AllReadyH.nil)
        go_simp
        refine (ref_crcSeal _ _ _ [1, 0, 0, 0, 5, 97] _ HL6.out (by decide)).mono ?_
        rintro e wt ⟨vs, rfl, howns, hbs⟩
        have hS3 := below_step hS2 hbs
        refine hK9.out _ _ hS3 (fun _ => ?_)
        have HS := Lib.hid (howns.base (base' := w9.heap.size) hS2.size)
        have HZ := Lib.hid (HZ.out.below hbs)
        clear howns hbs hS2
        have hG := HG.out
        simp only [Act.put, List.setIfInBounds_toArray, List.set_cons_zero, List.set_cons_succ] at hG ⊢
        refine any_listed _ (by kernel_rfl) (hG _ _ _ _ ⟨hS3, HS.out, HZ.out⟩)
      exact AllReadyH.nil
    refine AllReadyH.cons rfl (fun K9 hK9 => ?_) ?_
    · go_simp
      have hS1 := Below.new hS0 (.cells #[.int .u8 0] 5)
      refine hK9.out _ _ hS1 (fun _ => ?_)
      have HZ := Lib.hid (show RS (w9.drew.alloc (.cells ([0].map bv).toArray 5)) (some ⟨w9.heap.size, 0, none⟩) 1 1 [0] from rs_new w9.drew [0] 5 (by decide))
      change wpAnyH _ _ _ _ _ _ _ _ (w9.drew.alloc (.cells ([0].map bv).toArray 5))
      have hS1 : Below w9.heap.size w9 (w9.drew.alloc (.cells ([0].map bv).toArray 5)) := hS1
      generalize w9.drew.alloc (.cells ([0].map bv).toArray 5) = wa at HZ hS1 ⊢
      refine wpAnyH_ready (rs := [2]) (by kernel_rfl) (by simp) (AllReadyH.cons rfl (fun K9 hK9 => ?_) AllReadyH.nil)
      go_simp
      have hS2 := Below.new hS1 (.cells #[.int .u8 1, .int .u8 0, .int .u8 0, .int .u8 0, .int .u8 5, .int .u8 97] 5)
      refine hK9.out _ _ hS2 (fun _ => ?_)
      have HL6 := Lib.hid (rs_new wa [1, 0, 0, 0, 5, 97] 5 (by decide))
      have HZ := Lib.hid (HZ.out.below (below_new wa (.cells #[.int .u8 1, .int .u8 0, .int .u8 0, .int .u8 0, .int .u8 5, .int .u8 97] 5)))
      change wpAnyH _ _ _ _ _ _ _ _ (wa.alloc (.cells ([1, 0, 0, 0, 5, 97].map bv).toArray 5))
      have hS2 : Below w9.heap.size w9 (wa.alloc (.cells ([1, 0, 0, 0, 5, 97].map bv).toArray 5)) := hS2
      have HZ := Lib.hid (show RS (wa.alloc (.cells ([1, 0, 0, 0, 5, 97].map bv).toArray 5)) _ 1 1 [0] from HZ.out)
      clear hS1
      generalize wa.alloc (.cells ([1, 0, 0, 0, 5, 97].map bv).toArray 5) = wb2 at HZ HL6 hS2 ⊢
      generalize wa.heap.size = L at HL6 ⊢
      refine wpAnyH_ready (rs := [3]) (by kernel_rfl) (by simp) (AllReadyH.cons rfl (fun K9 hK9 => ?_) AllReadyH.nil)
      go_simp
      refine (ref_crcSeal _ _ _ [1, 0, 0, 0, 5, 97] _ HL6.out (by decide)).mono ?_
      rintro e wt ⟨vs, rfl, howns, hbs⟩
      have hS3 := below_step hS2 hbs
      refine hK9.out _ _ hS3 (fun _ => ?_)
      have HS := Lib.hid (howns.base (base' := w9.heap.size) hS2.size)
      have HZ := Lib.hid (HZ.out.below hbs)
      clear howns hbs hS2
      have hG := HG.out
      simp only [Act.put, List.setIfInBounds_toArray, List.set_cons_zero, List.set_cons_succ] at hG ⊢
      refine any_listed _ (by kernel_rfl) (hG _ _ _ _ ⟨hS3, HS.out, HZ.out⟩)
    exact AllReadyH.nil
  · rintro wt vs L gz ⟨hS3, HS0, HZ0⟩
    have HS := Lib.hid HS0
    have HZ := Lib.hid HZ0
    clear HS0 HZ0
    simp only [Act.put, List.setIfInBounds_toArray, List.set_cons_zero, List.set_cons_succ]
    refine wpAnyH_ready (rs := [5]) (by kernel_rfl) (by simp) (AllReadyH.cons (o := ?_) ?_ (fun K9 hK9 => ?_) AllReadyH.nil)
    rotate_left; (simp only [List.getElem?_toArray, List.getElem?_cons_succ, List.getElem?_cons_zero]; rfl)
    rw [if_pos (by rfl)]
    refine wp_append_by _ _ rfl w9.heap.size hS3.size _ _ rfl HS.out _ _ _ [0] rfl HZ.out (by rw [crcSum_seal_len]; decide) ?_
    intro v5 wu hownu hbu _ _
    rw [sm_seal] at hownu
    obtain ⟨AU, cU, rfl, hru⟩ := hownu.reads
    rw [smA_len] at hru ⊢
    have ku := by_string wu _ _ cU _ hru.rb
    have hS4 := hS3.trans hbu
    refine hK9.out _ _ hS4 (fun _ => ?_)
    clear hownu hbu hru hS3 HS HZ
    refine wpAnyH_ready (rs := [6]) (by kernel_rfl) (by simp) (AllReadyH.cons rfl (fun K9 hK9 => ?_) AllReadyH.nil)
    go_simp
    refine hK9.out _ _ hS4 (fun _ => ?_)
    clear ku
    refine wpAnyH_take (i := 7) (oi := ?_) (v := ?_) ?_ (by kernel_rfl) (by kernel_rfl) (by kernel_rfl) ?_ ?_ (by assumption) ?_
    rotate_left 2; (simp only [List.getElem?_toArray, List.getElem?_cons_succ, List.getElem?_cons_zero]; rfl)
    rotate_left; (first | (refine .inl ⟨by rfl, ?_⟩; intro w9 hS9; go_simp; try with_reducible rfl) | (refine .inr ⟨by rfl, ?_⟩; with_reducible rfl))
    rotate_left; (intro _ _ _ h9; exact h9)
    try simp only [Act.put, List.setIfInBounds_toArray, List.set_cons_zero, List.set_cons_succ]
    refine wpAnyH_take (i := 8) (oi := ?_) (v := ?_) ?_ (by kernel_rfl) (by kernel_rfl) (by kernel_rfl) ?_ ?_ (by assumption) ?_
    rotate_left 2; (simp only [List.getElem?_toArray, List.getElem?_cons_succ, List.getElem?_cons_zero]; rfl)
    rotate_left; (first | (refine .inl ⟨by rfl, ?_⟩; intro w9 hS9; go_simp; try with_reducible rfl) | (refine .inr ⟨by rfl, ?_⟩; with_reducible rfl))
    rotate_left; (intro _ _ _ h9; exact h9)
    try simp only [Act.put, List.setIfInBounds_toArray, List.set_cons_zero, List.set_cons_succ]
    refine wpAnyH_take (i := 9) (oi := ?_) (v := ?_) ?_ (by kernel_rfl) (by kernel_rfl) (by kernel_rfl) ?_ ?_ (by assumption) ?_
    rotate_left 2; (simp only [List.getElem?_toArray, List.getElem?_cons_succ, List.getElem?_cons_zero]; rfl)
    rotate_left; (first | (refine .inl ⟨by rfl, ?_⟩; intro w9 hS9; go_simp; try with_reducible rfl) | (refine .inr ⟨by rfl, ?_⟩; with_reducible rfl))
    rotate_left; (intro _ _ _ h9; exact h9)
    try simp only [Act.put, List.setIfInBounds_toArray, List.set_cons_zero, List.set_cons_succ]
    refine wpAnyH_take (i := 10) (oi := ?_) (v := ?_) ?_ (by kernel_rfl) (by kernel_rfl) (by kernel_rfl) ?_ ?_ (by assumption) ?_
    rotate_left 2; (simp only [List.getElem?_toArray, List.getElem?_cons_succ, List.getElem?_cons_zero]; rfl)
    rotate_left; (first | (refine .inl ⟨by rfl, ?_⟩; intro w9 hS9; go_simp; try with_reducible rfl) | (refine .inr ⟨by rfl, ?_⟩; with_reducible rfl))
    rotate_left; (intro _ _ _ h9; exact h9)
    try simp only [Act.put, List.setIfInBounds_toArray, List.set_cons_zero, List.set_cons_succ]
    refine wpAnyH_take (i := 11) (oi := ?_) (v := ?_) ?_ (by kernel_rfl) (by kernel_rfl) (by kernel_rfl) ?_ ?_ (by assumption) ?_
    rotate_left 2; (simp only [List.getElem?_toArray, List.getElem?_cons_succ, List.getElem?_cons_zero]; rfl)
    rotate_left; (first | (refine .inl ⟨by rfl, ?_⟩; intro w9 hS9; go_simp; try with_reducible rfl) | (refine .inr ⟨by rfl, ?_⟩; with_reducible rfl))
    rotate_left; (intro _ _ _ h9; exact h9)
    try simp only [Act.put, List.setIfInBounds_toArray, List.set_cons_zero, List.set_cons_succ]
    refine wpAnyH_take (i := 12) (oi := ?_) (v := ?_) ?_ (by kernel_rfl) (by kernel_rfl) (by kernel_rfl) ?_ ?_ (by assumption) ?_
    rotate_left 2; (simp only [List.getElem?_toArray, List.getElem?_cons_succ, List.getElem?_cons_zero]; rfl)
    rotate_left; (first | (refine .inl ⟨by rfl, ?_⟩; intro w9 hS9; go_simp; try with_reducible rfl) | (refine .inr ⟨by rfl, ?_⟩; with_reducible rfl))
    rotate_left; (intro _ _ _ h9; exact h9)
    try simp only [Act.put, List.setIfInBounds_toArray, List.set_cons_zero, List.set_cons_succ]
    refine wpAnyH_take (i := 13) (oi := ?_) (v := ?_) ?_ (by kernel_rfl) (by kernel_rfl) (by kernel_rfl) ?_ ?_ (by assumption) ?_
    rotate_left 2; (simp only [List.getElem?_toArray, List.getElem?_cons_succ, List.getElem?_cons_zero]; rfl)
    rotate_left; (first | (refine .inl ⟨by rfl, ?_⟩; intro w9 hS9; go_simp; try with_reducible rfl) | (refine .inr ⟨by rfl, ?_⟩; with_reducible rfl))
    rotate_left; (intro _ _ _ h9; exact h9)
    try simp only [Act.put, List.setIfInBounds_toArray, List.set_cons_zero, List.set_cons_succ]
    refine wpAnyH_take (i := 14) (oi := ?_) (v := ?_) ?_ (by kernel_rfl) (by kernel_rfl) (by kernel_rfl) ?_ ?_ (by assumption) ?_
    rotate_left 2; (simp only [List.getElem?_toArray, List.getElem?_cons_succ, List.getElem?_cons_zero]; rfl)
    rotate_left; (first | (refine .inl ⟨by rfl, ?_⟩; intro w9 hS9; go_simp; try with_reducible rfl) | (refine .inr ⟨by rfl, ?_⟩; with_reducible rfl))
    rotate_left; (intro _ _ _ h9; exact h9)
    try simp only [Act.put, List.setIfInBounds_toArray, List.set_cons_zero, List.set_cons_succ]
    refine wpAnyH_take (i := 15) (oi := ?_) (v := ?_) ?_ (by kernel_rfl) (by kernel_rfl) (by kernel_rfl) ?_ ?_ (by assumption) ?_
    rotate_left 2; (simp only [List.getElem?_toArray, List.getElem?_cons_succ, List.getElem?_cons_zero]; rfl)
    rotate_left; (first | (refine .inl ⟨by rfl, ?_⟩; intro w9 hS9; go_simp; try with_reducible rfl) | (refine .inr ⟨by rfl, ?_⟩; with_reducible rfl))
    rotate_left; (intro _ _ _ h9; exact h9)
    try simp only [Act.put, List.setIfInBounds_toArray, List.set_cons_zero, List.set_cons_succ]
    refine wpAnyH_take (i := 16) (oi := ?_) (v := ?_) ?_ (by kernel_rfl) (by kernel_rfl) (by kernel_rfl) ?_ ?_ (by assumption) ?_
    rotate_left 2; (simp only [List.getElem?_toArray, List.getElem?_cons_succ, List.getElem?_cons_zero]; rfl)
    rotate_left; (first | (refine .inl ⟨by rfl, ?_⟩; intro w9 hS9; go_simp; try with_reducible rfl) | (refine .inr ⟨by rfl, ?_⟩; with_reducible rfl))
    rotate_left; (intro _ _ _ h9; exact h9)
    try simp only [Act.put, List.setIfInBounds_toArray, List.set_cons_zero, List.set_cons_succ]
    refine wpAnyH_take (i := 17) (oi := ?_) (v := ?_) ?_ (by kernel_rfl) (by kernel_rfl) (by kernel_rfl) ?_ ?_ (by assumption) ?_
    rotate_left 2; (simp only [List.getElem?_toArray, List.getElem?_cons_succ, List.getElem?_cons_zero]; rfl)
    rotate_left; (first | (refine .inl ⟨by rfl, ?_⟩; intro w9 hS9; go_simp; try with_reducible rfl) | (refine .inr ⟨by rfl, ?_⟩; with_reducible rfl))
    rotate_left; (intro _ _ _ h9; exact h9)
    try simp only [Act.put, List.setIfInBounds_toArray, List.set_cons_zero, List.set_cons_succ]
    refine wpAnyH_take (i := 18) (oi := ?_) (v := ?_) ?_ (by kernel_rfl) (by kernel_rfl) (by kernel_rfl) ?_ ?_ (by assumption) ?_
    rotate_left 2; (simp only [List.getElem?_toArray, List.getElem?_cons_succ, List.getElem?_cons_zero]; rfl)
    rotate_left; (first | (refine .inl ⟨by rfl, ?_⟩; intro w9 hS9; go_simp; try with_reducible rfl) | (refine .inr ⟨by rfl, ?_⟩; with_reducible rfl))
    rotate_left; (intro _ _ _ h9; exact h9)
    try simp only [Act.put, List.setIfInBounds_toArray, List.set_cons_zero, List.set_cons_succ]
    refine wpAnyH_take (i := 19) (oi := ?_) (v := ?_) ?_ (by kernel_rfl) (by kernel_rfl) (by kernel_rfl) ?_ ?_ (by assumption) ?_
    rotate_left 2; (simp only [List.getElem?_toArray, List.getElem?_cons_succ, List.getElem?_cons_zero]; rfl)
    rotate_left; (first | (refine .inl ⟨by rfl, ?_⟩; intro w9 hS9; go_simp; try with_reducible rfl) | (refine .inr ⟨by rfl, ?_⟩; with_reducible rfl))
    rotate_left; (intro _ _ _ h9; exact h9)
    try simp only [Act.put, List.setIfInBounds_toArray, List.set_cons_zero, List.set_cons_succ]
    refine wpAnyH_take (i := 20) (oi := ?_) (v := ?_) ?_ (by kernel_rfl) (by kernel_rfl) (by kernel_rfl) ?_ ?_ (by assumption) ?_
    rotate_left 2; (simp only [List.getElem?_toArray, List.getElem?_cons_succ, List.getElem?_cons_zero]; rfl)
    rotate_left; (first | (refine .inl ⟨by rfl, ?_⟩; intro w9 hS9; go_simp; try with_reducible rfl) | (refine .inr ⟨by rfl, ?_⟩; with_reducible rfl))
    rotate_left; (intro _ _ _ h9; exact h9)
    try simp only [Act.put, List.setIfInBounds_toArray, List.set_cons_zero, List.set_cons_succ]
    refine wpAnyH_take (i := 21) (oi := ?_) (v := ?_) ?_ (by kernel_rfl) (by kernel_rfl) (by kernel_rfl) ?_ ?_ (by assumption) ?_
    rotate_left 2; (simp only [List.getElem?_toArray, List.getElem?_cons_succ, List.getElem?_cons_zero]; rfl)
    rotate_left; (first | (refine .inl ⟨by rfl, ?_⟩; intro w9 hS9; go_simp; try with_reducible rfl) | (refine .inr ⟨by rfl, ?_⟩; with_reducible rfl))
    rotate_left; (intro _ _ _ h9; exact h9)
    try simp only [Act.put, List.setIfInBounds_toArray, List.set_cons_zero, List.set_cons_succ]
    refine wpAnyH_take (i := 22) (oi := ?_) (v := ?_) ?_ (by kernel_rfl) (by kernel_rfl) (by kernel_rfl) ?_ ?_ (by assumption) ?_
    rotate_left 2; (simp only [List.getElem?_toArray, List.getElem?_cons_succ, List.getElem?_cons_zero]; rfl)
    rotate_left; (first | (refine .inl ⟨by rfl, ?_⟩; intro w9 hS9; go_simp; try with_reducible rfl) | (refine .inr ⟨by rfl, ?_⟩; with_reducible rfl))
    rotate_left; (intro _ _ _ h9; exact h9)
    try simp only [Act.put, List.setIfInBounds_toArray, List.set_cons_zero, List.set_cons_succ]
    refine wpAnyH_take (i := 23) (oi := ?_) (v := ?_) ?_ (by kernel_rfl) (by kernel_rfl) (by kernel_rfl) ?_ ?_ (by assumption) ?_
    rotate_left 2; (simp only [List.getElem?_toArray, List.getElem?_cons_succ, List.getElem?_cons_zero]; rfl)
    rotate_left; (first | (refine .inl ⟨by rfl, ?_⟩; intro w9 hS9; go_simp; try with_reducible rfl) | (refine .inr ⟨by rfl, ?_⟩; with_reducible rfl))
    rotate_left; (intro _ _ _ h9; exact h9)
    try simp only [Act.put, List.setIfInBounds_toArray, List.set_cons_zero, List.set_cons_succ]
    refine wpAnyH_take (i := 24) (oi := ?_) (v := ?_) ?_ (by kernel_rfl) (by kernel_rfl) (by kernel_rfl) ?_ ?_ (by assumption) ?_
    rotate_left 2; (simp only [List.getElem?_toArray, List.getElem?_cons_succ, List.getElem?_cons_zero]; rfl)
    rotate_left; (first | (refine .inl ⟨by rfl, ?_⟩; intro w9 hS9; go_simp; try with_reducible rfl) | (refine .inr ⟨by rfl, ?_⟩; with_reducible rfl))
    rotate_left; (intro _ _ _ h9; exact h9)
    try simp only [Act.put, List.setIfInBounds_toArray, List.set_cons_zero, List.set_cons_succ]
    refine wpAnyH_take (i := 25) (oi := ?_) (v := ?_) ?_ (by kernel_rfl) (by kernel_rfl) (by kernel_rfl) ?_ ?_ (by assumption) ?_
    rotate_left 2; (simp only [List.getElem?_toArray, List.getElem?_cons_succ, List.getElem?_cons_zero]; rfl)
    rotate_left; (first | (refine .inl ⟨by rfl, ?_⟩; intro w9 hS9; go_simp; try with_reducible rfl) | (refine .inr ⟨by rfl, ?_⟩; with_reducible rfl))
    rotate_left; (intro _ _ _ h9; exact h9)
    try simp only [Act.put, List.setIfInBounds_toArray, List.set_cons_zero, List.set_cons_succ]
    refine wpAnyH_take (i := 26) (oi := ?_) (v := ?_) ?_ (by kernel_rfl) (by kernel_rfl) (by kernel_rfl) ?_ ?_ (by assumption) ?_
    rotate_left 2; (simp only [List.getElem?_toArray, List.getElem?_cons_succ, List.getElem?_cons_zero]; rfl)
    rotate_left; (first | (refine .inl ⟨by rfl, ?_⟩; intro w9 hS9; go_simp; try with_reducible rfl) | (refine .inr ⟨by rfl, ?_⟩; with_reducible rfl))
    rotate_left; (intro _ _ _ h9; exact h9)
    try simp only [Act.put, List.setIfInBounds_toArray, List.set_cons_zero, List.set_cons_succ]
    refine wpAnyH_take (i := 27) (oi := ?_) (v := ?_) ?_ (by kernel_rfl) (by kernel_rfl) (by kernel_rfl) ?_ ?_ (by assumption) ?_
    rotate_left 2; (simp only [List.getElem?_toArray, List.getElem?_cons_succ, List.getElem?_cons_zero]; rfl)
    rotate_left; (first | (refine .inl ⟨by rfl, ?_⟩; intro w9 hS9; go_simp; try with_reducible rfl) | (refine .inr ⟨by rfl, ?_⟩; with_reducible rfl))
    rotate_left; (intro _ _ _ h9; exact h9)
    try simp only [Act.put, List.setIfInBounds_toArray, List.set_cons_zero, List.set_cons_succ]
    refine wpAnyH_take (i := 28) (oi := ?_) (v := ?_) ?_ (by kernel_rfl) (by kernel_rfl) (by kernel_rfl) ?_ ?_ (by assumption) ?_
    rotate_left 2; (simp only [List.getElem?_toArray, List.getElem?_cons_succ, List.getElem?_cons_zero]; rfl)
    rotate_left; (first | (refine .inl ⟨by rfl, ?_⟩; intro w9 hS9; go_simp; try with_reducible rfl) | (refine .inr ⟨by rfl, ?_⟩; with_reducible rfl))
    rotate_left; (intro _ _ _ h9; exact h9)
    try simp only [Act.put, List.setIfInBounds_toArray, List.set_cons_zero, List.set_cons_succ]
    refine wpAnyH_take (i := 29) (oi := ?_) (v := ?_) ?_ (by kernel_rfl) (by kernel_rfl) (by kernel_rfl) ?_ ?_ (by assumption) ?_
    rotate_left 2; (simp only [List.getElem?_toArray, List.getElem?_cons_succ, List.getElem?_cons_zero]; rfl)
    rotate_left; (first | (refine .inl ⟨by rfl, ?_⟩; intro w9 hS9; go_simp; try with_reducible rfl) | (refine .inr ⟨by rfl, ?_⟩; with_reducible rfl))
    rotate_left; (intro _ _ _ h9; exact h9)
    try simp only [Act.put, List.setIfInBounds_toArray, List.set_cons_zero, List.set_cons_succ]
    refine wpAnyH_take (i := 30) (oi := ?_) (v := ?_) ?_ (by kernel_rfl) (by kernel_rfl) (by kernel_rfl) ?_ ?_ (by assumption) ?_
    rotate_left 2; (simp only [List.getElem?_toArray, List.getElem?_cons_succ, List.getElem?_cons_zero]; rfl)
    rotate_left; (first | (refine .inl ⟨by rfl, ?_⟩; intro w9 hS9; go_simp; try with_reducible rfl) | (refine .inr ⟨by rfl, ?_⟩; with_reducible rfl))
    rotate_left; (intro _ _ _ h9; exact h9)
    try simp only [Act.put, List.setIfInBounds_toArray, List.set_cons_zero, List.set_cons_succ]
    refine wpAnyH_take (i := 31) (oi := ?_) (v := ?_) ?_ (by kernel_rfl) (by kernel_rfl) (by kernel_rfl) ?_ ?_ (by assumption) ?_
    rotate_left 2; (simp only [List.getElem?_toArray, List.getElem?_cons_succ, List.getElem?_cons_zero]; rfl)
    rotate_left; (first | (refine .inl ⟨by rfl, ?_⟩; intro w9 hS9; go_simp; try with_reducible rfl) | (refine .inr ⟨by rfl, ?_⟩; with_reducible rfl))
    rotate_left; (intro _ _ _ h9; exact h9)
    try simp only [Act.put, List.setIfInBounds_toArray, List.set_cons_zero, List.set_cons_succ]
    refine wpAnyH_take (i := 32) (oi := ?_) (v := ?_) ?_ (by kernel_rfl) (by kernel_rfl) (by kernel_rfl) ?_ ?_ (by assumption) ?_
    rotate_left 2; (simp only [List.getElem?_toArray, List.getElem?_cons_succ, List.getElem?_cons_zero]; rfl)
    rotate_left; (first | (refine .inl ⟨by rfl, ?_⟩; intro w9 hS9; go_simp; try with_reducible rfl) | (refine .inr ⟨by rfl, ?_⟩; with_reducible rfl))
    rotate_left; (intro _ _ _ h9; exact h9)
    try simp only [Act.put, List.setIfInBounds_toArray, List.set_cons_zero, List.set_cons_succ]
    refine wpAnyH_take (i := 33) (oi := ?_) (v := ?_) ?_ (by kernel_rfl) (by kernel_rfl) (by kernel_rfl) ?_ ?_ (by assumption) ?_
    rotate_left 2; (simp only [List.getElem?_toArray, List.getElem?_cons_succ, List.getElem?_cons_zero]; rfl)
    rotate_left; (first | (refine .inl ⟨by rfl, ?_⟩; intro w9 hS9; go_simp; try with_reducible rfl) | (refine .inr ⟨by rfl, ?_⟩; with_reducible rfl))
    rotate_left; (intro _ _ _ h9; exact h9)
    try simp only [Act.put, List.setIfInBounds_toArray, List.set_cons_zero, List.set_cons_succ]
    refine wpAnyH_take (i := 34) (oi := ?_) (v := ?_) ?_ (by kernel_rfl) (by kernel_rfl) (by kernel_rfl) ?_ ?_ (by assumption) ?_
    rotate_left 2; (simp only [List.getElem?_toArray, List.getElem?_cons_succ, List.getElem?_cons_zero]; rfl)
    rotate_left; (first | (refine .inl ⟨by rfl, ?_⟩; intro w9 hS9; go_simp; try with_reducible rfl) | (refine .inr ⟨by rfl, ?_⟩; with_reducible rfl))
    rotate_left; (intro _ _ _ h9; exact h9)
    try simp only [Act.put, List.setIfInBounds_toArray, List.set_cons_zero, List.set_cons_succ]
    refine wpAnyH_take (i := 35) (oi := ?_) (v := ?_) ?_ (by kernel_rfl) (by kernel_rfl) (by kernel_rfl) ?_ ?_ (by assumption) ?_
    rotate_left 2; (simp only [List.getElem?_toArray, List.getElem?_cons_succ, List.getElem?_cons_zero]; rfl)
    rotate_left; (first | (refine .inl ⟨by rfl, ?_⟩; intro w9 hS9; go_simp; try with_reducible rfl) | (refine .inr ⟨by rfl, ?_⟩; with_reducible rfl))
    rotate_left; (intro _ _ _ h9; exact h9)
    try simp only [Act.put, List.setIfInBounds_toArray, List.set_cons_zero, List.set_cons_succ]
    refine wpAnyH_take (i := 36) (oi := ?_) (v := ?_) ?_ (by kernel_rfl) (by kernel_rfl) (by kernel_rfl) ?_ ?_ (by assumption) ?_
    rotate_left 2; (simp only [List.getElem?_toArray, List.getElem?_cons_succ, List.getElem?_cons_zero]; rfl)
    rotate_left; (first | (refine .inl ⟨by rfl, ?_⟩; intro w9 hS9; go_simp; try with_reducible rfl) | (refine .inr ⟨by rfl, ?_⟩; with_reducible rfl))
    rotate_left; (intro _ _ _ h9; exact h9)
    try simp only [Act.put, List.setIfInBounds_toArray, List.set_cons_zero, List.set_cons_succ]
    refine wpAnyH_take (i := 37) (oi := ?_) (v := ?_) ?_ (by kernel_rfl) (by kernel_rfl) (by kernel_rfl) ?_ ?_ (by assumption) ?_
    rotate_left 2; (simp only [List.getElem?_toArray, List.getElem?_cons_succ, List.getElem?_cons_zero]; rfl)
    rotate_left; (first | (refine .inl ⟨by rfl, ?_⟩; intro w9 hS9; go_simp; try with_reducible rfl) | (refine .inr ⟨by rfl, ?_⟩; with_reducible rfl))
    rotate_left; (intro _ _ _ h9; exact h9)
    try simp only [Act.put, List.setIfInBounds_toArray, List.set_cons_zero, List.set_cons_succ]
    refine wpAnyH_take (i := 38) (oi := ?_) (v := ?_) ?_ (by kernel_rfl) (by kernel_rfl) (by kernel_rfl) ?_ ?_ (by assumption) ?_
    rotate_left 2; (simp only [List.getElem?_toArray, List.getElem?_cons_succ, List.getElem?_cons_zero]; rfl)
    rotate_left; (first | (refine .inl ⟨by rfl, ?_⟩; intro w9 hS9; go_simp; try with_reducible rfl) | (refine .inr ⟨by rfl, ?_⟩; with_reducible rfl))
    rotate_left; (intro _ _ _ h9; exact h9)
    try simp only [Act.put, List.setIfInBounds_toArray, List.set_cons_zero, List.set_cons_succ]
    refine wpAnyH_take (i := 39) (oi := ?_) (v := ?_) ?_ (by kernel_rfl) (by kernel_rfl) (by kernel_rfl) ?_ ?_ (by assumption) ?_
    rotate_left 2; (simp only [List.getElem?_toArray, List.getElem?_cons_succ, List.getElem?_cons_zero]; rfl)
    rotate_left; (first | (refine .inl ⟨by rfl, ?_⟩; intro w9 hS9; go_simp; try with_reducible rfl) | (refine .inr ⟨by rfl, ?_⟩; with_reducible rfl))
    rotate_left; (intro _ _ _ h9; exact h9)
    try simp only [Act.put, List.setIfInBounds_toArray, List.set_cons_zero, List.set_cons_succ]
    refine wpAnyH_take (i := 40) (oi := ?_) (v := ?_) ?_ (by kernel_rfl) (by kernel_rfl) (by kernel_rfl) ?_ ?_ (by assumption) ?_
    rotate_left 2; (simp only [List.getElem?_toArray, List.getElem?_cons_succ, List.getElem?_cons_zero]; rfl)
    rotate_left; (first | (refine .inl ⟨by rfl, ?_⟩; intro w9 hS9; go_simp; try with_reducible rfl) | (refine .inr ⟨by rfl, ?_⟩; with_reducible rfl))
    rotate_left; (intro _ _ _ h9; exact h9)
    try simp only [Act.put, List.setIfInBounds_toArray, List.set_cons_zero, List.set_cons_succ]
    refine wpAnyH_take (i := 41) (oi := ?_) (v := ?_) ?_ (by kernel_rfl) (by kernel_rfl) (by kernel_rfl) ?_ ?_ (by assumption) ?_
    rotate_left 2; (simp only [List.getElem?_toArray, List.getElem?_cons_succ, List.getElem?_cons_zero]; rfl)
    rotate_left; (first | (refine .inl ⟨by rfl, ?_⟩; intro w9 hS9; go_simp; try with_reducible rfl) | (refine .inr ⟨by rfl, ?_⟩; with_reducible rfl))
    rotate_left; (intro _ _ _ h9; exact h9)
    try simp only [Act.put, List.setIfInBounds_toArray, List.set_cons_zero, List.set_cons_succ]
    refine wpAnyH_take (i := 42) (oi := ?_) (v := ?_) ?_ (by kernel_rfl) (by kernel_rfl) (by kernel_rfl) ?_ ?_ (by assumption) ?_
    rotate_left 2; (simp only [List.getElem?_toArray, List.getElem?_cons_succ, List.getElem?_cons_zero]; rfl)
    rotate_left; (first | (refine .inl ⟨by rfl, ?_⟩; intro w9 hS9; go_simp; try with_reducible rfl) | (refine .inr ⟨by rfl, ?_⟩; with_reducible rfl))
    rotate_left; (intro _ _ _ h9; exact h9)
    try simp only [Act.put, List.setIfInBounds_toArray, List.set_cons_zero, List.set_cons_succ]
    refine wpAnyH_take (i := 43) (oi := ?_) (v := ?_) ?_ (by kernel_rfl) (by kernel_rfl) (by kernel_rfl) ?_ ?_ (by assumption) ?_
    rotate_left 2; (simp only [List.getElem?_toArray, List.getElem?_cons_succ, List.getElem?_cons_zero]; rfl)
    rotate_left; (first | (refine .inl ⟨by rfl, ?_⟩; intro w9 hS9; go_simp; try with_reducible rfl) | (refine .inr ⟨by rfl, ?_⟩; with_reducible rfl))
    rotate_left; (intro _ _ _ h9; exact h9)
    try simp only [Act.put, List.setIfInBounds_toArray, List.set_cons_zero, List.set_cons_succ]
    refine wpAnyH_take (i := 44) (oi := ?_) (v := ?_) ?_ (by kernel_rfl) (by kernel_rfl) (by kernel_rfl) ?_ ?_ (by assumption) ?_
    rotate_left 2; (simp only [List.getElem?_toArray, List.getElem?_cons_succ, List.getElem?_cons_zero]; rfl)
    rotate_left; (first | (refine .inl ⟨by rfl, ?_⟩; intro w9 hS9; go_simp; try with_reducible rfl) | (refine .inr ⟨by rfl, ?_⟩; with_reducible rfl))
    rotate_left; (intro _ _ _ h9; exact h9)
    try simp only [Act.put, List.setIfInBounds_toArray, List.set_cons_zero, List.set_cons_succ]
    refine wpAnyH_take (i := 45) (oi := ?_) (v := ?_) ?_ (by kernel_rfl) (by kernel_rfl) (by kernel_rfl) ?_ ?_ (by assumption) ?_
    rotate_left 2; (simp only [List.getElem?_toArray, List.getElem?_cons_succ, List.getElem?_cons_zero]; rfl)
    rotate_left; (first | (refine .inl ⟨by rfl, ?_⟩; intro w9 hS9; go_simp; try with_reducible rfl) | (refine .inr ⟨by rfl, ?_⟩; with_reducible rfl))
    rotate_left; (intro _ _ _ h9; exact h9)
    try simp only [Act.put, List.setIfInBounds_toArray, List.set_cons_zero, List.set_cons_succ]
    refine wpAnyH_take (i := 46) (oi := ?_) (v := ?_) ?_ (by kernel_rfl) (by kernel_rfl) (by kernel_rfl) ?_ ?_ (by assumption) ?_
    rotate_left 2; (simp only [List.getElem?_toArray, List.getElem?_cons_succ, List.getElem?_cons_zero]; rfl)
    rotate_left; (first | (refine .inl ⟨by rfl, ?_⟩; intro w9 hS9; go_simp; try with_reducible rfl) | (refine .inr ⟨by rfl, ?_⟩; with_reducible rfl))
    rotate_left; (intro _ _ _ h9; exact h9)
    try simp only [Act.put, List.setIfInBounds_toArray, List.set_cons_zero, List.set_cons_succ]
    refine wpAnyH_take (i := 47) (oi := ?_) (v := ?_) ?_ (by kernel_rfl) (by kernel_rfl) (by kernel_rfl) ?_ ?_ (by assumption) ?_
    rotate_left 2; (simp only [List.getElem?_toArray, List.getElem?_cons_succ, List.getElem?_cons_zero]; rfl)
    rotate_left; (first | (refine .inl ⟨by rfl, ?_⟩; intro w9 hS9; go_simp; try with_reducible rfl) | (refine .inr ⟨by rfl, ?_⟩; with_reducible rfl))
    rotate_left; (intro _ _ _ h9; exact h9)
    try simp only [Act.put, List.setIfInBounds_toArray, List.set_cons_zero, List.set_cons_succ]
    refine wpAnyH_take (i := 48) (oi := ?_) (v := ?_) ?_ (by kernel_rfl) (by kernel_rfl) (by kernel_rfl) ?_ ?_ (by assumption) ?_
    rotate_left 2; (simp only [List.getElem?_toArray, List.getElem?_cons_succ, List.getElem?_cons_zero]; rfl)
    rotate_left; (first | (refine .inl ⟨by rfl, ?_⟩; intro w9 hS9; go_simp; try with_reducible rfl) | (refine .inr ⟨by rfl, ?_⟩; with_reducible rfl))
    rotate_left; (intro _ _ _ h9; exact h9)
    try simp only [Act.put, List.setIfInBounds_toArray, List.set_cons_zero, List.set_cons_succ]
    refine wpAnyH_take (i := 49) (oi := ?_) (v := ?_) ?_ (by kernel_rfl) (by kernel_rfl) (by kernel_rfl) ?_ ?_ (by assumption) ?_
    rotate_left 2; (simp only [List.getElem?_toArray, List.getElem?_cons_succ, List.getElem?_cons_zero]; rfl)
    rotate_left; (first | (refine .inl ⟨by rfl, ?_⟩; intro w9 hS9; go_simp; try with_reducible rfl) | (refine .inr ⟨by rfl, ?_⟩; with_reducible rfl))
    rotate_left; (intro _ _ _ h9; exact h9)
    try simp only [Act.put, List.setIfInBounds_toArray, List.set_cons_zero, List.set_cons_succ]
    refine wpAnyH_take (i := 50) (oi := ?_) (v := ?_) ?_ (by kernel_rfl) (by kernel_rfl) (by kernel_rfl) ?_ ?_ (by assumption) ?_
    rotate_left 2; (simp only [List.getElem?_toArray, List.getElem?_cons_succ, List.getElem?_cons_zero]; rfl)
    rotate_left; (first | (refine .inl ⟨by rfl, ?_⟩; intro w9 hS9; go_simp; try with_reducible rfl) | (refine .inr ⟨by rfl, ?_⟩; with_reducible rfl))
    rotate_left; (intro _ _ _ h9; exact h9)
    try simp only [Act.put, List.setIfInBounds_toArray, List.set_cons_zero, List.set_cons_succ]
    refine wpAnyH_take (i := 51) (oi := ?_) (v := ?_) ?_ (by kernel_rfl) (by kernel_rfl) (by kernel_rfl) ?_ ?_ (by assumption) ?_
    rotate_left 2; (simp only [List.getElem?_toArray, List.getElem?_cons_succ, List.getElem?_cons_zero]; rfl)
    rotate_left; (first | (refine .inl ⟨by rfl, ?_⟩; intro w9 hS9; go_simp; try with_reducible rfl) | (refine .inr ⟨by rfl, ?_⟩; with_reducible rfl))
    rotate_left; (intro _ _ _ h9; exact h9)
    try simp only [Act.put, List.setIfInBounds_toArray, List.set_cons_zero, List.set_cons_succ]
    refine wpAnyH_take (i := 52) (oi := ?_) (v := ?_) ?_ (by kernel_rfl) (by kernel_rfl) (by kernel_rfl) ?_ ?_ (by assumption) ?_
    rotate_left 2; (simp only [List.getElem?_toArray, List.getElem?_cons_succ, List.getElem?_cons_zero]; rfl)
    rotate_left; (first | (refine .inl ⟨by rfl, ?_⟩; intro w9 hS9; go_simp; try with_reducible rfl) | (refine .inr ⟨by rfl, ?_⟩; with_reducible rfl))
    rotate_left; (intro _ _ _ h9; exact h9)
    try simp only [Act.put, List.setIfInBounds_toArray, List.set_cons_zero, List.set_cons_succ]
    refine wpAnyH_take (i := 53) (oi := ?_) (v := ?_) ?_ (by kernel_rfl) (by kernel_rfl) (by kernel_rfl) ?_ ?_ (by assumption) ?_
    rotate_left 2; (simp only [List.getElem?_toArray, List.getElem?_cons_succ, List.getElem?_cons_zero]; rfl)
    rotate_left; (first | (refine .inl ⟨by rfl, ?_⟩; intro w9 hS9; go_simp; try with_reducible rfl) | (refine .inr ⟨by rfl, ?_⟩; with_reducible rfl))
    rotate_left; (intro _ _ _ h9; exact h9)
    try simp only [Act.put, List.setIfInBounds_toArray, List.set_cons_zero, List.set_cons_succ]
    refine wpAnyH_take (i := 54) (oi := ?_) (v := ?_) ?_ (by kernel_rfl) (by kernel_rfl) (by kernel_rfl) ?_ ?_ (by assumption) ?_
    rotate_left 2; (simp only [List.getElem?_toArray, List.getElem?_cons_succ, List.getElem?_cons_zero]; rfl)
    rotate_left; (first | (refine .inl ⟨by rfl, ?_⟩; intro w9 hS9; go_simp; try with_reducible rfl) | (refine .inr ⟨by rfl, ?_⟩; with_reducible rfl))
    rotate_left; (intro _ _ _ h9; exact h9)
    try simp only [Act.put, List.setIfInBounds_toArray, List.set_cons_zero, List.set_cons_succ]
    refine wpAnyH_take (i := 55) (oi := ?_) (v := ?_) ?_ (by kernel_rfl) (by kernel_rfl) (by kernel_rfl) ?_ ?_ (by assumption) ?_
    rotate_left 2; (simp only [List.getElem?_toArray, List.getElem?_cons_succ, List.getElem?_cons_zero]; rfl)
    rotate_left; (first | (refine .inl ⟨by rfl, ?_⟩; intro w9 hS9; go_simp; try with_reducible rfl) | (refine .inr ⟨by rfl, ?_⟩; with_reducible rfl))
    rotate_left; (intro _ _ _ h9; exact h9)
    try simp only [Act.put, List.setIfInBounds_toArray, List.set_cons_zero, List.set_cons_succ]
    refine wpAnyH_take (i := 56) (oi := ?_) (v := ?_) ?_ (by kernel_rfl) (by kernel_rfl) (by kernel_rfl) ?_ ?_ (by assumption) ?_
    rotate_left 2; (simp only [List.getElem?_toArray, List.getElem?_cons_succ, List.getElem?_cons_zero]; rfl)
    rotate_left; (first | (refine .inl ⟨by rfl, ?_⟩; intro w9 hS9; go_simp; try with_reducible rfl) | (refine .inr ⟨by rfl, ?_⟩; with_reducible rfl))
    rotate_left; (intro _ _ _ h9; exact h9)
    try simp only [Act.put, List.setIfInBounds_toArray, List.set_cons_zero, List.set_cons_succ]
    refine wpAnyH_take (i := 57) (oi := ?_) (v := ?_) ?_ (by kernel_rfl) (by kernel_rfl) (by kernel_rfl) ?_ ?_ (by assumption) ?_
    rotate_left 2; (simp only [List.getElem?_toArray, List.getElem?_cons_succ, List.getElem?_cons_zero]; rfl)
    rotate_left; (first | (refine .inl ⟨by rfl, ?_⟩; intro w9 hS9; go_simp; try with_reducible rfl) | (refine .inr ⟨by rfl, ?_⟩; with_reducible rfl))
    rotate_left; (intro _ _ _ h9; exact h9)
    try simp only [Act.put, List.setIfInBounds_toArray, List.set_cons_zero, List.set_cons_succ]
    refine wpAnyH_take (i := 58) (oi := ?_) (v := ?_) ?_ (by kernel_rfl) (by kernel_rfl) (by kernel_rfl) ?_ ?_ (by assumption) ?_
    rotate_left 2; (simp only [List.getElem?_toArray, List.getElem?_cons_succ, List.getElem?_cons_zero]; rfl)
    rotate_left; (first | (refine .inl ⟨by rfl, ?_⟩; intro w9 hS9; go_simp; try with_reducible rfl) | (refine .inr ⟨by rfl, ?_⟩; with_reducible rfl))
    rotate_left; (intro _ _ _ h9; exact h9)
    try simp only [Act.put, List.setIfInBounds_toArray, List.set_cons_zero, List.set_cons_succ]
    refine wpAnyH_ready (rs := [59]) (by kernel_rfl) (by simp) (AllReadyH.cons rfl (fun K9 hK9 => ?_) AllReadyH.nil)
    go_simp
    refine (bk_blank AD 21 cD _ 19 _ (RD'.below hS4) (by decide)).mono ?_
    rintro e wx ⟨rfl, hbx⟩
    rw [show (19 : Int).toNat = 19 from rfl, sm_b19]
    have hS5 := below_step hS4 hbx
    refine hK9.out _ _ hS5 (fun _ => ?_)
    clear hbx hS4
    refine wpAnyH_take (i := 60) (oi := ?_) (v := ?_) ?_ (by kernel_rfl) (by kernel_rfl) (by kernel_rfl) ?_ ?_ (by assumption) ?_
    rotate_left 2; (simp only [List.getElem?_toArray, List.getElem?_cons_succ, List.getElem?_cons_zero]; rfl)
    rotate_left; (first | (refine .inl ⟨by rfl, ?_⟩; intro w9 hS9; go_simp; try with_reducible rfl) | (refine .inr ⟨by rfl, ?_⟩; with_reducible rfl))
    rotate_left; (intro _ _ _ h9; exact h9)
    try simp only [Act.put, List.setIfInBounds_toArray, List.set_cons_zero, List.set_cons_succ]
    refine wpAnyH_take (i := 61) (oi := ?_) (v := ?_) ?_ (by kernel_rfl) (by kernel_rfl) (by kernel_rfl) ?_ ?_ (by assumption) ?_
    rotate_left 2; (simp only [List.getElem?_toArray, List.getElem?_cons_succ, List.getElem?_cons_zero]; rfl)
    rotate_left; (first | (refine .inl ⟨by rfl, ?_⟩; intro w9 hS9; go_simp; try with_reducible rfl) | (refine .inr ⟨by rfl, ?_⟩; with_reducible rfl))
    rotate_left; (intro _ _ _ h9; exact h9)
    try simp only [Act.put, List.setIfInBounds_toArray, List.set_cons_zero, List.set_cons_succ]
    refine wpAnyH_take (i := 62) (oi := ?_) (v := ?_) ?_ (by kernel_rfl) (by kernel_rfl) (by kernel_rfl) ?_ ?_ (by assumption) ?_
    rotate_left 2; (simp only [List.getElem?_toArray, List.getElem?_cons_succ, List.getElem?_cons_zero]; rfl)
    rotate_left; (first | (refine .inl ⟨by rfl, ?_⟩; intro w9 hS9; go_simp; try with_reducible rfl) | (refine .inr ⟨by rfl, ?_⟩; with_reducible rfl))
    rotate_left; (intro _ _ _ h9; exact h9)
    try simp only [Act.put, List.setIfInBounds_toArray, List.set_cons_zero, List.set_cons_succ]
    refine wpAnyH_ready (rs := [63]) (by kernel_rfl) (by simp) (AllReadyH.cons rfl (fun K9 hK9 => ?_) AllReadyH.nil)
    go_simp
    refine (bk_blank AD 21 cD _ 18 _ (RD'.below hS5) (by decide)).mono ?_
    rintro e wy ⟨rfl, hby⟩
    rw [show (18 : Int).toNat = 18 from rfl, sm_b18]
    have hS6 := below_step hS5 hby
    refine hK9.out _ _ hS6 (fun _ => ?_)
    clear hby hS5
    refine wpAnyH_take (i := 64) (oi := ?_) (v := ?_) ?_ (by kernel_rfl) (by kernel_rfl) (by kernel_rfl) ?_ ?_ (by assumption) ?_
    rotate_left 2; (simp only [List.getElem?_toArray, List.getElem?_cons_succ, List.getElem?_cons_zero]; rfl)
    rotate_left; (first | (refine .inl ⟨by rfl, ?_⟩; intro w9 hS9; go_simp; try with_reducible rfl) | (refine .inr ⟨by rfl, ?_⟩; with_reducible rfl))
    rotate_left; (intro _ _ _ h9; exact h9)
    try simp only [Act.put, List.setIfInBounds_toArray, List.set_cons_zero, List.set_cons_succ]
    refine wpAnyH_take (i := 65) (oi := ?_) (v := ?_) ?_ (by kernel_rfl) (by kernel_rfl) (by kernel_rfl) ?_ ?_ (by assumption) ?_
    rotate_left 2; (simp only [List.getElem?_toArray, List.getElem?_cons_succ, List.getElem?_cons_zero]; rfl)
    rotate_left; (first | (refine .inl ⟨by rfl, ?_⟩; intro w9 hS9; go_simp; try with_reducible rfl) | (refine .inr ⟨by rfl, ?_⟩; with_reducible rfl))
    rotate_left; (intro _ _ _ h9; exact h9)
    try simp only [Act.put, List.setIfInBounds_toArray, List.set_cons_zero, List.set_cons_succ]
    refine wpAnyH_take (i := 66) (oi := ?_) (v := ?_) ?_ (by kernel_rfl) (by kernel_rfl) (by kernel_rfl) ?_ ?_ (by assumption) ?_
    rotate_left 2; (simp only [List.getElem?_toArray, List.getElem?_cons_succ, List.getElem?_cons_zero]; rfl)
    rotate_left; (first | (refine .inl ⟨by rfl, ?_⟩; intro w9 hS9; go_simp; try with_reducible rfl) | (refine .inr ⟨by rfl, ?_⟩; with_reducible rfl))
    rotate_left; (intro _ _ _ h9; exact h9)
    try simp only [Act.put, List.setIfInBounds_toArray, List.set_cons_zero, List.set_cons_succ]
    refine wpAnyH_ready (rs := [67]) (by kernel_rfl) (by simp) (AllReadyH.cons rfl (fun K9 hK9 => ?_) AllReadyH.nil)
    go_simp
    refine (bk_blank none 0 0 [] 3 _ (RS.none _) (by decide)).mono ?_
    rintro e wz ⟨rfl, hbz⟩
    rw [show (3 : Int).toNat = 3 from rfl, sm_bnil]
    have hS7 := below_step hS6 hbz
    refine hK9.out _ _ hS7 (fun _ => ?_)
    clear hbz hS6
    refine wpAnyH_take (i := 68) (oi := ?_) (v := ?_) ?_ (by kernel_rfl) (by kernel_rfl) (by kernel_rfl) ?_ ?_ (by assumption) ?_
    rotate_left 2; (simp only [List.getElem?_toArray, List.getElem?_cons_succ, List.getElem?_cons_zero]; rfl)
    rotate_left; (first | (refine .inl ⟨by rfl, ?_⟩; intro w9 hS9; go_simp; try with_reducible rfl) | (refine .inr ⟨by rfl, ?_⟩; with_reducible rfl))
    rotate_left; (intro _ _ _ h9; exact h9)
    try simp only [Act.put, List.setIfInBounds_toArray, List.set_cons_zero, List.set_cons_succ]
    refine wpAnyH_take (i := 69) (oi := ?_) (v := ?_) ?_ (by kernel_rfl) (by kernel_rfl) (by kernel_rfl) ?_ ?_ (by assumption) ?_
    rotate_left 2; (simp only [List.getElem?_toArray, List.getElem?_cons_succ, List.getElem?_cons_zero]; rfl)
    rotate_left; (first | (refine .inl ⟨by rfl, ?_⟩; intro w9 hS9; go_simp; try with_reducible rfl) | (refine .inr ⟨by rfl, ?_⟩; with_reducible rfl))
    rotate_left; (intro _ _ _ h9; exact h9)
    try simp only [Act.put, List.setIfInBounds_toArray, List.set_cons_zero, List.set_cons_succ]
    refine wpAnyH_done (by kernel_rfl) ?_ _
    have HBZ := Lib.hid (below_step HB8.out hS7)
    clear hS7 kk z00 z02 z11 kd y0 y2 RD'
    go_wp2_with fail
    go_ret
    exact ⟨rfl, HBZ.out⟩
end Go.Proofs.Ytafpkfnegfjohaa
