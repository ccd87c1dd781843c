/- The walk of ConfigLines. -/
import Derived.Test.YteeocmkaecoeiaaDoorCfgSmall
import Derived.Test.YteeocmkaecoeiaaDoorCfgArgs
import Derived.Test.YteeocmkaecoeiaaDoorArgs
namespace Go.Proofs.YteeocmkaecoeiaaDoor
open Go.RowKit
set_option linter.unusedVariables false
set_option linter.unusedSimpArgs false
/-- One line more. -/
theorem lines_ok (xs : List Ln) (x : Ln) (t : Tm) (h : cfOk xs t = true) : cfOk (xs ++ [x]) t = (cfOk [x] t && decide ((xs.length : Int) < 8)) := by
  unfold cfOk btw at h ⊢
  simp only [Bool.and_eq_true, decide_eq_true_eq] at h
  obtain ⟨⟨h1, h2⟩, h3⟩ := h
  simp only [h2, List.all_append, h3, List.length_append, List.length_cons, List.length_nil, Bool.true_and, Bool.and_true, List.all_cons, List.all_nil]
  by_cases hl : (xs.length : Int) < 8
  · have h5 : ((xs.length + (0 + 1) : Nat) : Int) ≤ 8 := by omega
    have h6 : (1 : Int) ≤ ((xs.length + (0 + 1) : Nat) : Int) := by omega
    rw [decide_eq_true h5, decide_eq_true h6, decide_eq_true hl]
    simp
  · have h5 : ¬ ((xs.length + (0 + 1) : Nat) : Int) ≤ 8 := by omega
    rw [decide_eq_false h5, decide_eq_false hl]
    simp
/-- A line's cells, as later worlds have them, one by one. -/
theorem ln_fun {w : World} {g : Nat} {x : Ln} (h : LnBlk w g x) : (∀ w', Below w.heap.size w w' → w'.cell? ⟨g, 0, none⟩ = some (.int .i64 x.strike)) ∧ (∀ w', Below w.heap.size w w' → w'.cell? ⟨g, 1, none⟩ = some (.int .i64 x.signal)) ∧ (∀ w', Below w.heap.size w w' → w'.cell? ⟨g, 2, none⟩ = some (.int .i64 x.s0)) ∧ (∀ w', Below w.heap.size w w' → w'.cell? ⟨g, 3, none⟩ = some (.int .i64 x.s1)) ∧ (∀ w', Below w.heap.size w w' → w'.cell? ⟨g, 4, none⟩ = some (.int .i64 x.s2)) :=
  ⟨fun w' hb => (h.cells w' hb).1, fun w' hb => (h.cells w' hb).2.1, fun w' hb => (h.cells w' hb).2.2.1, fun w' hb => (h.cells w' hb).2.2.2.1, fun w' hb => (h.cells w' hb).2.2.2.2⟩
theorem cf_set0 {w : World} {g n c n' c' : Nat} {A A' : Option Addr} {t : Tm} (h : w.heap[g]? = some (.cells (cfa A n c t) 26 (0, 0))) : (w.setCell ⟨g, 0, none⟩ (.slice A' n' c')).heap[g]? = some (.cells (cfa A' n' c' t) 26 (0, 0)) := by
  simp [World.setCell, Array.getElem?_modify, h]
theorem blk0 {g n c k : Nat} (h : (Value.slice (some ⟨g, 0, none⟩) n c).ownBlock = some k) : k = g := by cases h; rfl
/-- Behind the empty row: nothing is there yet. -/
theorem ln_own0 (w : World) : OwnLn (w.alloc (.cells #[] 48)) (.slice (some ⟨w.heap.size, 0, none⟩) 0 0) [] := own_lit (f := lnc) lnc_len w [] (by simp)
/-- What stands behind the first append and the row of one line, whatever their order. -/
structure LS (B : Nat) (x w : World) (v : Value) (L : Nat) (xs : List Ln) (l : Ln) : Prop where
  own : OwnLn w v xs
  lit : RLn w (some ⟨L, 0, none⟩) 1 1 [l]
  far : ∀ g, v.ownBlock = some g → B < g
  lfar : B < L
  bel : Below (B + 1) x w
set_option maxRecDepth 100000 in
set_option maxHeartbeats 8000000 in
theorem configLines_walk (a0 : Option Addr) (len0 cap0 : Nat) (t0 : Tm) (x1 : Ln) (w : World) (w0 : IsLns w a0 len0 cap0) (w1 : wfI x1.strike ∧ wfI x1.signal ∧ wfI x1.s0 ∧ wfI x1.s1 ∧ wfI x1.s2) (hg : HasTy w) :
    Calls Tryd.prog 6 #[cfv a0 len0 cap0 t0, lnv x1] w fun e w' => e = .returned (.bool true) ∧ Below w.heap.size w w' := by
  have HG := Lib.hid hg
  have HW0 := Lib.hid w0
  have HA := Lib.hid (show CfBox _ w.heap.size a0 len0 cap0 t0 from heap_alloc2_old w (.cells (cfa a0 len0 cap0 t0) 26) (.cells #[.int .i64 x1.strike, .int .i64 x1.signal, .int .i64 x1.s0, .int .i64 x1.s1, .int .i64 x1.s2] 48))
  have HB := Lib.hid (show LnBlk _ (w.heap.size + 1) x1 from heap_alloc2_new w (.cells (cfa a0 len0 cap0 t0) 26) (.cells #[.int .i64 x1.strike, .int .i64 x1.signal, .int .i64 x1.s0, .int .i64 x1.s1, .int .i64 x1.s2] 48))
  have HX := Lib.hid ((below_st w (.cells (cfa a0 len0 cap0 t0) 26)).alloc (Nat.le_of_lt (by simp)) (.cells #[.int .i64 x1.strike, .int .i64 x1.signal, .int .i64 x1.s0, .int .i64 x1.s1, .int .i64 x1.s2] 48))
  clear hg w0 w1
  go_enter Tryd.func6, Tryd.ntmps6
  go_wp2_with fail
  generalize (w.alloc _).alloc _ = W at *
  refine (l_small08 _ (HG.out.below HX.out)).mono ?_
  rintro e x1w ⟨rfl, hb⟩
  have HA := Lib.hid (CfBox.below HA.out hb)
  have HB := Lib.hid (blk_below HB.out hb)
  have B1 := Lib.hid (below_go HX.out hb)
  clear hb
  obtain ⟨q0, q1, q2, q3, q4, q5, q6, q7, q8, q9, qa, qf⟩ := cf_cell_all HA.out
  by_cases c1 : (20 : Int) < len0
  · go_wp2_with fail
    go_ret
    exact ⟨rfl, B1.out⟩
  obtain ⟨xs, rx⟩ := HW0.out.re (by omega)
  have RX := Lib.hid (RE.below rx B1.out)
  clear rx
  go_wp2_with fail
  refine (cf_check a0 len0 cap0 xs t0 _ RX.out).mono ?_
  rintro e x2 ⟨v2, rfl, he, hb⟩
  have B2 := Lib.hid (below_go B1.out hb)
  have HA := Lib.hid (CfBox.below HA.out hb)
  have HB := Lib.hid (blk_below HB.out hb)
  have RX := Lib.hid (RX.out.below hb)
  clear q0 q1 q2 q3 q4 q5 q6 q7 q8 q9 qa
  clear qf hb
  by_cases k0 : cfOk xs t0 = true
  rotate_left
  · rw [cfErr_no k0] at he
    obtain ⟨ta, ua, rfl⟩ := he.isErr (by decide)
    clear he
    go_wp2_with fail
    go_ret
    exact ⟨rfl, B2.out⟩
  rw [cfErr_ok k0] at he
  obtain rfl := he.isNil
  clear he
  obtain ⟨q0, q1, q2, q3, q4, q5, q6, q7, q8, q9, qa, qf⟩ := cf_cell_all HA.out
  go_upto_region 5 with fail
  have HN := Lib.hid (show CfBox (x2.alloc (.cells (cfa a0 len0 cap0 t0) 26)).drew x2.heap.size a0 len0 cap0 t0 from heap_alloc_new x2 _)
  have hS0 : Below x2.heap.size x2 (x2.alloc (.cells (cfa a0 len0 cap0 t0) 26)).drew := below_go (below_st x2 _) ⟨rfl, rfl, rfl, Nat.le_refl _, fun _ _ => rfl⟩
  have HSZ := Lib.hid (show (x2.alloc (.cells (cfa a0 len0 cap0 t0) 26)).drew.heap.size = x2.heap.size + 1 by simp [World.drew])
  have HA1 := Lib.hid (show x2.heap.size ≤ (x2.alloc (.cells (cfa a0 len0 cap0 t0) 26)).drew.heap.size by rw [HSZ.out]; omega)
  have HA2 := Lib.hid (show x2.heap.size + 1 ≤ (x2.alloc (.cells (cfa a0 len0 cap0 t0) 26)).drew.heap.size by rw [HSZ.out]; exact Nat.le_refl _)
  have HLT := Lib.hid (Array.getElem?_eq_some_iff.mp HB.out).1
  refine wp_region_held (S := fun w' => Below x2.heap.size x2 w') (by kernel_rfl) ?_
  change wpAnyH _ _ _ _ _ _ _ _ (x2.alloc (.cells (cfa a0 len0 cap0 t0) 26)).drew
  generalize (x2.alloc (.cells (cfa a0 len0 cap0 t0) 26)).drew = y at *
  clear q0 q1 q2 q3 q4 q5 q6 q7 q8 q9 qa
  clear qf
  obtain ⟨p0, p1, p2, p3, p4, p5, p6, p7, p8, p9, pa⟩ := cf_fun HA.out
  obtain ⟨l0, l1, l2, l3, l4⟩ := ln_fun HB.out
  have RY := Lib.hid (RX.out.below hS0)
  change wpAnyH _ _ _ _ _ 9 (Array.replicate 9 false) _ _
  refine wpAnyH_take (i := 1) (oi := ?_) (v := ?_) ?_ (by kernel_rfl) (by kernel_rfl) (by kernel_rfl) ?_ ?_ (by assumption) ?_
  rotate_left 2; (simp only [List.getElem?_toArray, List.getElem?_cons_succ, List.getElem?_cons_zero]; rfl)
  rotate_left; (first | (refine .inl ⟨by rfl, ?_⟩; intro w9 hS9; go_simp; try with_reducible rfl) | (refine .inr ⟨by rfl, ?_⟩; with_reducible rfl))
  rotate_left; (intro _ _ _ h9; exact h9)
  try simp only [Act.put, List.setIfInBounds_toArray, List.set_cons_zero, List.set_cons_succ]
  refine wpAnyH_take (i := 2) (oi := ?_) (v := ?_) ?_ (by kernel_rfl) (by kernel_rfl) (by kernel_rfl) ?_ ?_ (by assumption) ?_
  rotate_left 2; (simp only [List.getElem?_toArray, List.getElem?_cons_succ, List.getElem?_cons_zero]; rfl)
  rotate_left; (first | (refine .inl ⟨by rfl, ?_⟩; intro w9 hS9; go_simp; try with_reducible rfl) | (refine .inr ⟨by rfl, ?_⟩; with_reducible rfl))
  rotate_left; (intro _ _ _ h9; exact h9)
  try simp only [Act.put, List.setIfInBounds_toArray, List.set_cons_zero, List.set_cons_succ]
  refine wpAnyH_take (i := 4) (oi := ?_) (v := ?_) ?_ (by kernel_rfl) (by kernel_rfl) (by kernel_rfl) ?_ ?_ (by assumption) ?_
  rotate_left 2; (simp only [List.getElem?_toArray, List.getElem?_cons_succ, List.getElem?_cons_zero]; rfl)
  rotate_left; (first | (refine .inl ⟨by rfl, ?_⟩; intro w9 hS9; go_simp; try with_reducible rfl) | (refine .inr ⟨by rfl, ?_⟩; with_reducible rfl))
  rotate_left; (intro _ _ _ h9; exact h9)
  try simp only [Act.put, List.setIfInBounds_toArray, List.set_cons_zero, List.set_cons_succ]
  refine wpAnyH_ready (rs := [0, 5]) (by kernel_rfl) (by simp) ?_
  refine AllReadyH.cons rfl (fun K9 hK9 => ?_) ?_
  · go_simp
    have hS1 := hS0.alloc HA1.out (.cells #[] 48)
    refine hK9.out _ _ hS1 (fun _ => ?_)
    have HO1 := Lib.hid (ln_own0 y)
    have HB1 := Lib.hid ((Below.refl (x2.heap.size + 1) y).alloc HA2.out (.cells #[] 48))
    have HZ1 := Lib.hid (show (y.alloc (.cells #[] 48)).heap.size = y.heap.size + 1 by simp)
    generalize y.alloc (.cells #[] 48) = y1 at *
    clear hS0
    have RY1 := Lib.hid (RX.out.below hS1)
    refine wpAnyH_ready (rs := [3, 5]) (by kernel_rfl) (by simp) ?_
    refine AllReadyH.cons rfl (fun K9 hK9 => ?_) ?_
    · rw [if_pos (by rfl)]
      refine wp_append_fr lnT lnc_len lnc_one _ _ rfl _ [] rfl HO1.out a0 len0 cap0 xs rfl RY1.out (by have := RX.out.len; simp; omega) (by have := RX.out.len; simp; omega) (fun v3 w3 hown3 hg3 hf3 => ?_)
      simp only [Act.put, List.setIfInBounds_toArray, List.set_cons_zero, List.set_cons_succ, List.nil_append] at hown3 ⊢
      have hS3 : Below x2.heap.size x2 w3 := hS1.grown hg3 (Nat.le_trans (by omega) hS1.size) (fun k e => by have e := blk0 e; have := HSZ.out; omega)
      refine hK9.out _ _ hS3 (fun _ => ?_)
      have HB3 := Lib.hid (HB1.out.grown hg3 (by have := HZ1.out; have := HSZ.out; omega) (fun k e => by have e := blk0 e; have := HSZ.out; omega))
      have HF3 := Lib.hid hf3
      have HOW3 := Lib.hid hown3
      clear hS1 hg3 hf3 hown3
      refine wpAnyH_ready (rs := [5]) (by kernel_rfl) (by simp) (AllReadyH.cons rfl (fun K9 hK9 => ?_) AllReadyH.nil)
      go_simp
      have hS4 := hS3.alloc hS3.size (.cells #[.int .i64 x1.strike, .int .i64 x1.signal, .int .i64 x1.s0, .int .i64 x1.s1, .int .i64 x1.s2] 48)
      refine hK9.out _ _ hS4 (fun _ => ?_)
      clear hS3
      have HLS := Lib.hid (show LS x2.heap.size y (w3.alloc (.cells #[.int .i64 x1.strike, .int .i64 x1.signal, .int .i64 x1.s0, .int .i64 x1.s1, .int .i64 x1.s2] 48)) v3 w3.heap.size xs x1 from
        ⟨HOW3.out.fr (Fr.ofBelow (below_st _ _) (fun _ => False)) (fun _ _ h => h), ln_re_new w3 x1, fun g hg => by
          rcases HF3.out g hg with h | h
          · have h := blk0 h; have := HSZ.out; omega
          · have := HZ1.out; have := HSZ.out; omega, by have := HB3.out.size; have := HSZ.out; omega, HB3.out.alloc (by have := HB3.out.size; have := HSZ.out; omega) _⟩)
      generalize w3.alloc _ = w4 at *
      generalize w3.heap.size = L at *
      have hS3 := hS4
      clear hS4
      refine wpAnyH_ready (rs := [6]) (by kernel_rfl) (by simp) (AllReadyH.cons (o := ?_) ?_ (fun K9 hK9 => ?_) AllReadyH.nil)
      rotate_left; (simp only [List.getElem?_toArray, List.getElem?_cons_succ, List.getElem?_cons_zero]; rfl)
      rw [if_pos (by rfl)]
      refine wp_append_fr lnT lnc_len lnc_one _ _ rfl v3 xs rfl HLS.out.own _ 1 1 [x1] rfl HLS.out.lit (by have := RX.out.len; simp; omega) (by have := RX.out.len; simp; omega) (fun v6 w6 hown6 hg6 hf6 => ?_)
      simp only [Act.put, List.setIfInBounds_toArray, List.set_cons_zero, List.set_cons_succ]
      have hS6 := hS3.grown hg6 (Nat.le_trans (by omega) hS3.size) (fun k e => by have := HLS.out.far k e; omega)
      refine hK9.out _ _ hS6 (fun _ => ?_)
      clear hS3
      have hcf6 : CfBox w6 x2.heap.size a0 len0 cap0 t0 := (hg6.block _ (by have := HLS.out.lfar; have := HLS.out.bel.size; have := HSZ.out; omega) (fun e => by have := HLS.out.far _ e.symm; omega)).trans ((HLS.out.bel.block _ (Nat.lt_succ_self _)).trans HN.out)
      obtain ⟨A6, c6, rfl, hre6, hob6, _⟩ := hown6.re (by have := RX.out.len; simp; omega)
      obtain ⟨n0, _, _, _, _, _, _, _, _, _, _, nf⟩ := cf_cell_all hcf6
      have HC6 := Lib.hid hcf6
      have HR6 := Lib.hid hre6
      have HF6 := Lib.hid (show ∀ b off, A6 = some ⟨b, off, none⟩ → x2.heap.size < b from fun b off e => by
        rcases hf6 b (by rw [hob6, e]; rfl) with h | h
        · exact HLS.out.far _ h
        · have := HLS.out.lfar; have := HLS.out.bel.size; have := HSZ.out; omega)
      clear hown6 hg6 hf6 hcf6 hre6 hob6
      refine wpAnyH_take (i := 7) (oi := ?_) (v := ?_) ?_ (by kernel_rfl) (by kernel_rfl) (by kernel_rfl) ?_ ?_ (by assumption) ?_
      rotate_left 2; (simp only [List.getElem?_toArray, List.getElem?_cons_succ, List.getElem?_cons_zero]; rfl)
      rotate_left; (first | (refine .inl ⟨by rfl, ?_⟩; intro w9 hS9; go_simp; try with_reducible rfl) | (refine .inr ⟨by rfl, ?_⟩; with_reducible rfl))
      rotate_left; (intro _ _ _ h9; exact h9)
      try simp only [Act.put, List.setIfInBounds_toArray, List.set_cons_zero, List.set_cons_succ]
      refine wpAnyH_ready (rs := [8]) (by kernel_rfl) (by simp) (AllReadyH.cons rfl (fun K9 hK9 => ?_) AllReadyH.nil)
      go_simp
      have hS8 := hS6.setCell (p := ⟨x2.heap.size, 0, none⟩) (Nat.le_refl _) (.slice A6 (xs.length + 1) c6)
      refine hK9.out _ _ hS8 (fun _ => ?_)
      clear hS6
      have HS8 := Lib.hid hS8
      have HC8 := Lib.hid (show CfBox (w6.setCell ⟨x2.heap.size, 0, none⟩ (.slice A6 (xs.length + 1) c6)) x2.heap.size A6 (xs.length + 1) c6 t0 from cf_set0 HC6.out)
      have HR8 := Lib.hid (show RLn (w6.setCell ⟨x2.heap.size, 0, none⟩ (.slice A6 (xs.length + 1) c6)) A6 (xs.length + 1) c6 (xs ++ [x1]) from RE.fr (show RLn w6 A6 (xs.length + 1) c6 (xs ++ [x1]) by have h := HR6.out; rwa [List.length_append] at h) (fr_setCell (F := fun i => i = x2.heap.size) _ _ rfl) (fun _ b off e e2 => by have := HF6.out b off e; omega))
      generalize w6.setCell _ _ = w8 at *
      clear hS8 n0 nf l0 l1 l2 l3 l4
      clear p0 p1 p2 p3 p4 p5 p6 p7 p8 p9 pa
      refine wpAnyH_done (by kernel_rfl) ?_ _
      obtain ⟨p0, p1, p2, p3, p4, p5, p6, p7, p8, p9, pa, pf⟩ := cf_cell_all (CfBox.below HA.out HS8.out)
      have HN9 := Lib.hid (show CfBox (w8.alloc (.cells (cfa a0 len0 cap0 t0) 26)) w8.heap.size a0 len0 cap0 t0 from heap_alloc_new w8 _)
      have HB9 := Lib.hid (below_st w8 (.cells (cfa a0 len0 cap0 t0) 26))
      have HZ9 := Lib.hid (show (w8.alloc (.cells (cfa a0 len0 cap0 t0) 26)).heap.size = w8.heap.size + 1 by simp)
      go_upto_region 7 with fail
      change Code.wp _ _ _ _ (w8.alloc (.cells (cfa a0 len0 cap0 t0) 26))
      generalize w8.alloc (.cells (cfa a0 len0 cap0 t0) 26) = w9 at *
      clear p0 p1 p2 p3 p4 p5 p6 p7 p8 p9 pa
      clear pf
      have HLB := Lib.hid (blk_below (blk_below HB.out HS8.out) HB9.out)
      obtain ⟨l0, l1, l2, l3, l4⟩ := LnBlk.cells HLB.out w9 (Below.refl _ _)
      have HNA := Lib.hid (CfBox.below HN9.out (below_st w9 (.cells #[.int .i64 x1.strike, .int .i64 x1.signal, .int .i64 x1.s0, .int .i64 x1.s1, .int .i64 x1.s2] 48)))
      obtain ⟨n0, _, _, _, _, _, _, _, _, _, _, nf⟩ := cf_cell_all HNA.out
      have HBA := Lib.hid (below_go HB9.out (below_st w9 (.cells #[.int .i64 x1.strike, .int .i64 x1.signal, .int .i64 x1.s0, .int .i64 x1.s1, .int .i64 x1.s2] 48)))
      have HLA := Lib.hid (ln_re_new w9 x1)
      go_upto_region 8 with fail
      have HNC := Lib.hid (show CfBox ((w9.alloc (.cells #[.int .i64 x1.strike, .int .i64 x1.signal, .int .i64 x1.s0, .int .i64 x1.s1, .int .i64 x1.s2] 48)).setCell ⟨w8.heap.size, 0, none⟩ (.slice (some ⟨w9.heap.size, 0, none⟩) 1 1)) w8.heap.size (some ⟨w9.heap.size, 0, none⟩) 1 1 t0 from cf_set0 HNA.out)
      have HLC := Lib.hid (RE.fr HLA.out (fr_setCell (F := fun i => i = w8.heap.size) ⟨w8.heap.size, 0, none⟩ (.slice (some ⟨w9.heap.size, 0, none⟩) 1 1) rfl) (fun _ b off e e2 => by cases e; have := HZ9.out; omega))
      have HBC := Lib.hid (HBA.out.setCell (p := ⟨w8.heap.size, 0, none⟩) (Nat.le_refl _) (.slice (some ⟨w9.heap.size, 0, none⟩) 1 1))
      generalize (w9.alloc _).setCell _ _ = wt at *
      clear l0 l1 l2 l3 l4 n0 nf
      have HRC := Lib.hid (HR8.out.below HBC.out)
      have HCC := Lib.hid (CfBox.below HC8.out HBC.out)
      have HAC := Lib.hid (CfBox.below (CfBox.below HA.out HS8.out) HBC.out)
      have HW := Lib.hid (below_go (below_go B2.out HS8.out) HBC.out)
      generalize w9.heap.size = G9 at *
      clear HLA HNA HBA HZ9 HB9 HN9
      have hS0 : Below wt.heap.size wt wt.drew := ⟨rfl, rfl, rfl, Nat.le_refl _, fun _ _ => rfl⟩
      obtain ⟨p0, p1, p2, p3, p4, p5, p6, p7, p8, p9, pa⟩ := cf_fun HCC.out
      obtain ⟨q0, q1, q2, q3, q4, q5, q6, q7, q8, q9, qa⟩ := cf_fun HNC.out
      obtain ⟨r0, _⟩ := cf_fun HAC.out
      have hlen := RX.out.len
      have hlo := lines_ok xs x1 t0 k0
      rw [hlen] at hlo
      by_cases k1 : cfOk [x1] t0 = true
      · by_cases h8 : (len0 : Int) < 8
        · rw [k1, decide_eq_true h8] at hlo
          have E4 := Lib.hid (cfErr_ok hlo)
          have E5 := Lib.hid (cfErr_ok k1)
          clear hlo k1 hlen
          refine wp_region_held (S := fun w' => Below wt.heap.size wt w') (by kernel_rfl) ?_
          change wpAnyH _ _ _ _ _ _ _ _ wt.drew
          change wpAnyH _ _ _ _ _ 17 (Array.replicate 17 false) _ _
          refine wpAnyH_take (i := 0) (oi := ?_) (v := ?_) ?_ (by kernel_rfl) (by kernel_rfl) (by kernel_rfl) ?_ ?_ (by assumption) ?_
          rotate_left 2; (simp only [List.getElem?_toArray, List.getElem?_cons_succ, List.getElem?_cons_zero]; rfl)
          rotate_left; (first | (refine .inl ⟨by rfl, ?_⟩; intro w9 hS9; go_simp; try with_reducible rfl) | (refine .inr ⟨by rfl, ?_⟩; with_reducible rfl))
          rotate_left; (intro _ _ _ h9; exact h9)
          try simp only [Act.put, List.setIfInBounds_toArray, List.set_cons_zero, List.set_cons_succ]
          refine wpAnyH_take (i := 1) (oi := ?_) (v := ?_) ?_ (by kernel_rfl) (by kernel_rfl) (by kernel_rfl) ?_ ?_ (by assumption) ?_
          rotate_left 2; (simp only [List.getElem?_toArray, List.getElem?_cons_succ, List.getElem?_cons_zero]; rfl)
          rotate_left; (first | (refine .inl ⟨by rfl, ?_⟩; intro w9 hS9; go_simp; try with_reducible rfl) | (refine .inr ⟨by rfl, ?_⟩; with_reducible rfl))
          rotate_left; (intro _ _ _ h9; exact h9)
          try simp only [Act.put, List.setIfInBounds_toArray, List.set_cons_zero, List.set_cons_succ]
          refine wpAnyH_take (i := 2) (oi := ?_) (v := ?_) ?_ (by kernel_rfl) (by kernel_rfl) (by kernel_rfl) ?_ ?_ (by assumption) ?_
          rotate_left 2; (simp only [List.getElem?_toArray, List.getElem?_cons_succ, List.getElem?_cons_zero]; rfl)
          rotate_left; (first | (refine .inl ⟨by rfl, ?_⟩; intro w9 hS9; go_simp; try with_reducible rfl) | (refine .inr ⟨by rfl, ?_⟩; with_reducible rfl))
          rotate_left; (intro _ _ _ h9; exact h9)
          try simp only [Act.put, List.setIfInBounds_toArray, List.set_cons_zero, List.set_cons_succ]
          refine wpAnyH_take (i := 5) (oi := ?_) (v := ?_) ?_ (by kernel_rfl) (by kernel_rfl) (by kernel_rfl) ?_ ?_ (by assumption) ?_
          rotate_left 2; (simp only [List.getElem?_toArray, List.getElem?_cons_succ, List.getElem?_cons_zero]; rfl)
          rotate_left; (first | (refine .inl ⟨by rfl, ?_⟩; intro w9 hS9; go_simp; try with_reducible rfl) | (refine .inr ⟨by rfl, ?_⟩; with_reducible rfl))
          rotate_left; (intro _ _ _ h9; exact h9)
          try simp only [Act.put, List.setIfInBounds_toArray, List.set_cons_zero, List.set_cons_succ]
          refine wpAnyH_ready (rs := [3]) (by kernel_rfl) (by simp) (AllReadyH.cons rfl (fun K9 hK9 => ?_) AllReadyH.nil)
          go_simp
          refine (cf_check A6 (xs.length + 1) c6 (xs ++ [x1]) t0 _ (HRC.out.below hS0)).mono ?_
          rintro e x4 ⟨v4, rfl, he4, hb⟩
          rw [E4.out] at he4
          obtain rfl := he4.isNil
          have hS1 := below_go hS0 hb
          have H1 := Lib.hid hS1
          refine hK9.out _ _ hS1 (fun _ => ?_)
          clear hS0 hb he4
          refine wpAnyH_take (i := 4) (oi := ?_) (v := ?_) ?_ (by kernel_rfl) (by kernel_rfl) (by kernel_rfl) ?_ ?_ (by assumption) ?_
          rotate_left 2; (simp only [List.getElem?_toArray, List.getElem?_cons_succ, List.getElem?_cons_zero]; rfl)
          rotate_left; (first | (refine .inl ⟨by rfl, ?_⟩; intro w9 hS9; go_simp; try with_reducible rfl) | (refine .inr ⟨by rfl, ?_⟩; with_reducible rfl))
          rotate_left; (intro _ _ _ h9; exact h9)
          try simp only [Act.put, List.setIfInBounds_toArray, List.set_cons_zero, List.set_cons_succ]
          refine wpAnyH_ready (rs := [6]) (by kernel_rfl) (by simp) (AllReadyH.cons rfl (fun K9 hK9 => ?_) AllReadyH.nil)
          go_simp
          refine (cf_check (some ⟨G9, 0, none⟩) 1 1 [x1] t0 _ (HLC.out.below H1.out)).mono ?_
          rintro e x5 ⟨v5, rfl, he5, hb⟩
          rw [E5.out] at he5
          obtain rfl := he5.isNil
          have hS2 := below_go H1.out hb
          have H2 := Lib.hid hS2
          refine hK9.out _ _ hS2 (fun _ => ?_)
          clear hS1 hb he5
          refine wpAnyH_take (i := 7) (oi := ?_) (v := ?_) ?_ (by kernel_rfl) (by kernel_rfl) (by kernel_rfl) ?_ ?_ (by assumption) ?_
          rotate_left 2; (simp only [List.getElem?_toArray, List.getElem?_cons_succ, List.getElem?_cons_zero]; rfl)
          rotate_left; (first | (refine .inl ⟨by rfl, ?_⟩; intro w9 hS9; go_simp; try with_reducible rfl) | (refine .inr ⟨by rfl, ?_⟩; with_reducible rfl))
          rotate_left; (intro _ _ _ h9; exact h9)
          try simp only [Act.put, List.setIfInBounds_toArray, List.set_cons_zero, List.set_cons_succ]
          refine wpAnyH_take (i := 8) (oi := ?_) (v := ?_) ?_ (by kernel_rfl) (by kernel_rfl) (by kernel_rfl) ?_ ?_ (by assumption) ?_
          rotate_left 2; (simp only [List.getElem?_toArray, List.getElem?_cons_succ, List.getElem?_cons_zero]; rfl)
          rotate_left; (first | (refine .inl ⟨by rfl, ?_⟩; intro w9 hS9; go_simp; try with_reducible rfl) | (refine .inr ⟨by rfl, ?_⟩; with_reducible rfl))
          rotate_left; (intro _ _ _ h9; exact h9)
          try simp only [Act.put, List.setIfInBounds_toArray, List.set_cons_zero, List.set_cons_succ]
          refine wpAnyH_take (i := 9) (oi := ?_) (v := ?_) ?_ (by kernel_rfl) (by kernel_rfl) (by kernel_rfl) ?_ ?_ (by assumption) ?_
          rotate_left 2; (simp only [List.getElem?_toArray, List.getElem?_cons_succ, List.getElem?_cons_zero]; rfl)
          rotate_left; (first | (refine .inl ⟨by rfl, ?_⟩; intro w9 hS9; go_simp; try with_reducible rfl) | (refine .inr ⟨by rfl, ?_⟩; with_reducible rfl))
          rotate_left; (intro _ _ _ h9; exact h9)
          try simp only [Act.put, List.setIfInBounds_toArray, List.set_cons_zero, List.set_cons_succ]
          refine wpAnyH_take (i := 10) (oi := ?_) (v := ?_) ?_ (by kernel_rfl) (by kernel_rfl) (by kernel_rfl) ?_ ?_ (by assumption) ?_
          rotate_left 2; (simp only [List.getElem?_toArray, List.getElem?_cons_succ, List.getElem?_cons_zero]; rfl)
          rotate_left; (first | (refine .inl ⟨by rfl, ?_⟩; intro w9 hS9; go_simp; try with_reducible rfl) | (refine .inr ⟨by rfl, ?_⟩; with_reducible rfl))
          rotate_left; (intro _ _ _ h9; exact h9)
          try simp only [Act.put, List.setIfInBounds_toArray, List.set_cons_zero, List.set_cons_succ]
          refine wpAnyH_take (i := 11) (oi := ?_) (v := ?_) ?_ (by kernel_rfl) (by kernel_rfl) (by kernel_rfl) ?_ ?_ (by assumption) ?_
          rotate_left 2; (simp only [List.getElem?_toArray, List.getElem?_cons_succ, List.getElem?_cons_zero]; rfl)
          rotate_left; (first | (refine .inl ⟨by rfl, ?_⟩; intro w9 hS9; go_simp; try with_reducible rfl) | (refine .inr ⟨by rfl, ?_⟩; with_reducible rfl))
          rotate_left; (intro _ _ _ h9; exact h9)
          try simp only [Act.put, List.setIfInBounds_toArray, List.set_cons_zero, List.set_cons_succ]
          refine wpAnyH_take (i := 12) (oi := ?_) (v := ?_) ?_ (by kernel_rfl) (by kernel_rfl) (by kernel_rfl) ?_ ?_ (by assumption) ?_
          rotate_left 2; (simp only [List.getElem?_toArray, List.getElem?_cons_succ, List.getElem?_cons_zero]; rfl)
          rotate_left; (first | (refine .inl ⟨by rfl, ?_⟩; intro w9 hS9; go_simp; try with_reducible rfl) | (refine .inr ⟨by rfl, ?_⟩; with_reducible rfl))
          rotate_left; (intro _ _ _ h9; exact h9)
          try simp only [Act.put, List.setIfInBounds_toArray, List.set_cons_zero, List.set_cons_succ]
          refine wpAnyH_take (i := 13) (oi := ?_) (v := ?_) ?_ (by kernel_rfl) (by kernel_rfl) (by kernel_rfl) ?_ ?_ (by assumption) ?_
          rotate_left 2; (simp only [List.getElem?_toArray, List.getElem?_cons_succ, List.getElem?_cons_zero]; rfl)
          rotate_left; (first | (refine .inl ⟨by rfl, ?_⟩; intro w9 hS9; go_simp; try with_reducible rfl) | (refine .inr ⟨by rfl, ?_⟩; with_reducible rfl))
          rotate_left; (intro _ _ _ h9; exact h9)
          try simp only [Act.put, List.setIfInBounds_toArray, List.set_cons_zero, List.set_cons_succ]
          refine wpAnyH_take (i := 14) (oi := ?_) (v := ?_) ?_ (by kernel_rfl) (by kernel_rfl) (by kernel_rfl) ?_ ?_ (by assumption) ?_
          rotate_left 2; (simp only [List.getElem?_toArray, List.getElem?_cons_succ, List.getElem?_cons_zero]; rfl)
          rotate_left; (first | (refine .inl ⟨by rfl, ?_⟩; intro w9 hS9; go_simp; try with_reducible rfl) | (refine .inr ⟨by rfl, ?_⟩; with_reducible rfl))
          rotate_left; (intro _ _ _ h9; exact h9)
          try simp only [Act.put, List.setIfInBounds_toArray, List.set_cons_zero, List.set_cons_succ]
          refine wpAnyH_take (i := 15) (oi := ?_) (v := ?_) ?_ (by kernel_rfl) (by kernel_rfl) (by kernel_rfl) ?_ ?_ (by assumption) ?_
          rotate_left 2; (simp only [List.getElem?_toArray, List.getElem?_cons_succ, List.getElem?_cons_zero]; rfl)
          rotate_left; (first | (refine .inl ⟨by rfl, ?_⟩; intro w9 hS9; go_simp; try with_reducible rfl) | (refine .inr ⟨by rfl, ?_⟩; with_reducible rfl))
          rotate_left; (intro _ _ _ h9; exact h9)
          try simp only [Act.put, List.setIfInBounds_toArray, List.set_cons_zero, List.set_cons_succ]
          refine wpAnyH_take (i := 16) (oi := ?_) (v := ?_) ?_ (by kernel_rfl) (by kernel_rfl) (by kernel_rfl) ?_ ?_ (by assumption) ?_
          rotate_left 2; (simp only [List.getElem?_toArray, List.getElem?_cons_succ, List.getElem?_cons_zero]; rfl)
          rotate_left; (first | (refine .inl ⟨by rfl, ?_⟩; intro w9 hS9; go_simp; try with_reducible rfl) | (refine .inr ⟨by rfl, ?_⟩; with_reducible rfl))
          rotate_left; (intro _ _ _ h9; exact h9)
          try simp only [Act.put, List.setIfInBounds_toArray, List.set_cons_zero, List.set_cons_succ]
          refine wpAnyH_done (by kernel_rfl) ?_ _
          clear hS2
          clear p0 p1 p2 p3 p4 p5 p6 p7 p8 p9 pa
          clear q0 q1 q2 q3 q4 q5 q6 q7 q8 q9 qa
          clear r0
          go_wp2_with fail
          go_ret
          exact ⟨by first | rfl | simp, below_go HW.out H2.out⟩
        · rw [k1, decide_eq_false h8] at hlo
          have E4 := Lib.hid (cfErr_no (by rw [hlo]; decide))
          have E5 := Lib.hid (cfErr_ok k1)
          clear hlo k1 hlen
          refine wp_region_held (S := fun w' => Below wt.heap.size wt w') (by kernel_rfl) ?_
          change wpAnyH _ _ _ _ _ _ _ _ wt.drew
          change wpAnyH _ _ _ _ _ 17 (Array.replicate 17 false) _ _
          refine wpAnyH_take (i := 0) (oi := ?_) (v := ?_) ?_ (by kernel_rfl) (by kernel_rfl) (by kernel_rfl) ?_ ?_ (by assumption) ?_
          rotate_left 2; (simp only [List.getElem?_toArray, List.getElem?_cons_succ, List.getElem?_cons_zero]; rfl)
          rotate_left; (first | (refine .inl ⟨by rfl, ?_⟩; intro w9 hS9; go_simp; try with_reducible rfl) | (refine .inr ⟨by rfl, ?_⟩; with_reducible rfl))
          rotate_left; (intro _ _ _ h9; exact h9)
          try simp only [Act.put, List.setIfInBounds_toArray, List.set_cons_zero, List.set_cons_succ]
          refine wpAnyH_take (i := 1) (oi := ?_) (v := ?_) ?_ (by kernel_rfl) (by kernel_rfl) (by kernel_rfl) ?_ ?_ (by assumption) ?_
          rotate_left 2; (simp only [List.getElem?_toArray, List.getElem?_cons_succ, List.getElem?_cons_zero]; rfl)
          rotate_left; (first | (refine .inl ⟨by rfl, ?_⟩; intro w9 hS9; go_simp; try with_reducible rfl) | (refine .inr ⟨by rfl, ?_⟩; with_reducible rfl))
          rotate_left; (intro _ _ _ h9; exact h9)
          try simp only [Act.put, List.setIfInBounds_toArray, List.set_cons_zero, List.set_cons_succ]
          refine wpAnyH_take (i := 2) (oi := ?_) (v := ?_) ?_ (by kernel_rfl) (by kernel_rfl) (by kernel_rfl) ?_ ?_ (by assumption) ?_
          rotate_left 2; (simp only [List.getElem?_toArray, List.getElem?_cons_succ, List.getElem?_cons_zero]; rfl)
          rotate_left; (first | (refine .inl ⟨by rfl, ?_⟩; intro w9 hS9; go_simp; try with_reducible rfl) | (refine .inr ⟨by rfl, ?_⟩; with_reducible rfl))
          rotate_left; (intro _ _ _ h9; exact h9)
          try simp only [Act.put, List.setIfInBounds_toArray, List.set_cons_zero, List.set_cons_succ]
          refine wpAnyH_take (i := 5) (oi := ?_) (v := ?_) ?_ (by kernel_rfl) (by kernel_rfl) (by kernel_rfl) ?_ ?_ (by assumption) ?_
          rotate_left 2; (simp only [List.getElem?_toArray, List.getElem?_cons_succ, List.getElem?_cons_zero]; rfl)
          rotate_left; (first | (refine .inl ⟨by rfl, ?_⟩; intro w9 hS9; go_simp; try with_reducible rfl) | (refine .inr ⟨by rfl, ?_⟩; with_reducible rfl))
          rotate_left; (intro _ _ _ h9; exact h9)
          try simp only [Act.put, List.setIfInBounds_toArray, List.set_cons_zero, List.set_cons_succ]
          refine wpAnyH_ready (rs := [3]) (by kernel_rfl) (by simp) (AllReadyH.cons rfl (fun K9 hK9 => ?_) AllReadyH.nil)
          go_simp
          refine (cf_check A6 (xs.length + 1) c6 (xs ++ [x1]) t0 _ (HRC.out.below hS0)).mono ?_
          rintro e x4 ⟨v4, rfl, he4, hb⟩
          rw [E4.out] at he4
          obtain ⟨ta, ua, rfl⟩ := he4.isErr (by decide)
          have hS1 := below_go hS0 hb
          have H1 := Lib.hid hS1
          refine hK9.out _ _ hS1 (fun _ => ?_)
          clear hS0 hb he4
          refine wpAnyH_take (i := 4) (oi := ?_) (v := ?_) ?_ (by kernel_rfl) (by kernel_rfl) (by kernel_rfl) ?_ ?_ (by assumption) ?_
          rotate_left 2; (simp only [List.getElem?_toArray, List.getElem?_cons_succ, List.getElem?_cons_zero]; rfl)
          rotate_left; (first | (refine .inl ⟨by rfl, ?_⟩; intro w9 hS9; go_simp; try with_reducible rfl) | (refine .inr ⟨by rfl, ?_⟩; with_reducible rfl))
          rotate_left; (intro _ _ _ h9; exact h9)
          try simp only [Act.put, List.setIfInBounds_toArray, List.set_cons_zero, List.set_cons_succ]
          refine wpAnyH_ready (rs := [6]) (by kernel_rfl) (by simp) (AllReadyH.cons rfl (fun K9 hK9 => ?_) AllReadyH.nil)
          go_simp
          refine (cf_check (some ⟨G9, 0, none⟩) 1 1 [x1] t0 _ (HLC.out.below H1.out)).mono ?_
          rintro e x5 ⟨v5, rfl, he5, hb⟩
          rw [E5.out] at he5
          obtain rfl := he5.isNil
          have hS2 := below_go H1.out hb
          have H2 := Lib.hid hS2
          refine hK9.out _ _ hS2 (fun _ => ?_)
          clear hS1 hb he5
          refine wpAnyH_take (i := 7) (oi := ?_) (v := ?_) ?_ (by kernel_rfl) (by kernel_rfl) (by kernel_rfl) ?_ ?_ (by assumption) ?_
          rotate_left 2; (simp only [List.getElem?_toArray, List.getElem?_cons_succ, List.getElem?_cons_zero]; rfl)
          rotate_left; (first | (refine .inl ⟨by rfl, ?_⟩; intro w9 hS9; go_simp; try with_reducible rfl) | (refine .inr ⟨by rfl, ?_⟩; with_reducible rfl))
          rotate_left; (intro _ _ _ h9; exact h9)
          try simp only [Act.put, List.setIfInBounds_toArray, List.set_cons_zero, List.set_cons_succ]
          refine wpAnyH_take (i := 8) (oi := ?_) (v := ?_) ?_ (by kernel_rfl) (by kernel_rfl) (by kernel_rfl) ?_ ?_ (by assumption) ?_
          rotate_left 2; (simp only [List.getElem?_toArray, List.getElem?_cons_succ, List.getElem?_cons_zero]; rfl)
          rotate_left; (first | (refine .inl ⟨by rfl, ?_⟩; intro w9 hS9; go_simp; try with_reducible rfl) | (refine .inr ⟨by rfl, ?_⟩; with_reducible rfl))
          rotate_left; (intro _ _ _ h9; exact h9)
          try simp only [Act.put, List.setIfInBounds_toArray, List.set_cons_zero, List.set_cons_succ]
          refine wpAnyH_take (i := 9) (oi := ?_) (v := ?_) ?_ (by kernel_rfl) (by kernel_rfl) (by kernel_rfl) ?_ ?_ (by assumption) ?_
          rotate_left 2; (simp only [List.getElem?_toArray, List.getElem?_cons_succ, List.getElem?_cons_zero]; rfl)
          rotate_left; (first | (refine .inl ⟨by rfl, ?_⟩; intro w9 hS9; go_simp; try with_reducible rfl) | (refine .inr ⟨by rfl, ?_⟩; with_reducible rfl))
          rotate_left; (intro _ _ _ h9; exact h9)
          try simp only [Act.put, List.setIfInBounds_toArray, List.set_cons_zero, List.set_cons_succ]
          refine wpAnyH_take (i := 10) (oi := ?_) (v := ?_) ?_ (by kernel_rfl) (by kernel_rfl) (by kernel_rfl) ?_ ?_ (by assumption) ?_
          rotate_left 2; (simp only [List.getElem?_toArray, List.getElem?_cons_succ, List.getElem?_cons_zero]; rfl)
          rotate_left; (first | (refine .inl ⟨by rfl, ?_⟩; intro w9 hS9; go_simp; try with_reducible rfl) | (refine .inr ⟨by rfl, ?_⟩; with_reducible rfl))
          rotate_left; (intro _ _ _ h9; exact h9)
          try simp only [Act.put, List.setIfInBounds_toArray, List.set_cons_zero, List.set_cons_succ]
          refine wpAnyH_take (i := 11) (oi := ?_) (v := ?_) ?_ (by kernel_rfl) (by kernel_rfl) (by kernel_rfl) ?_ ?_ (by assumption) ?_
          rotate_left 2; (simp only [List.getElem?_toArray, List.getElem?_cons_succ, List.getElem?_cons_zero]; rfl)
          rotate_left; (first | (refine .inl ⟨by rfl, ?_⟩; intro w9 hS9; go_simp; try with_reducible rfl) | (refine .inr ⟨by rfl, ?_⟩; with_reducible rfl))
          rotate_left; (intro _ _ _ h9; exact h9)
          try simp only [Act.put, List.setIfInBounds_toArray, List.set_cons_zero, List.set_cons_succ]
          refine wpAnyH_take (i := 12) (oi := ?_) (v := ?_) ?_ (by kernel_rfl) (by kernel_rfl) (by kernel_rfl) ?_ ?_ (by assumption) ?_
          rotate_left 2; (simp only [List.getElem?_toArray, List.getElem?_cons_succ, List.getElem?_cons_zero]; rfl)
          rotate_left; (first | (refine .inl ⟨by rfl, ?_⟩; intro w9 hS9; go_simp; try with_reducible rfl) | (refine .inr ⟨by rfl, ?_⟩; with_reducible rfl))
          rotate_left; (intro _ _ _ h9; exact h9)
          try simp only [Act.put, List.setIfInBounds_toArray, List.set_cons_zero, List.set_cons_succ]
          refine wpAnyH_take (i := 13) (oi := ?_) (v := ?_) ?_ (by kernel_rfl) (by kernel_rfl) (by kernel_rfl) ?_ ?_ (by assumption) ?_
          rotate_left 2; (simp only [List.getElem?_toArray, List.getElem?_cons_succ, List.getElem?_cons_zero]; rfl)
          rotate_left; (first | (refine .inl ⟨by rfl, ?_⟩; intro w9 hS9; go_simp; try with_reducible rfl) | (refine .inr ⟨by rfl, ?_⟩; with_reducible rfl))
          rotate_left; (intro _ _ _ h9; exact h9)
          try simp only [Act.put, List.setIfInBounds_toArray, List.set_cons_zero, List.set_cons_succ]
          refine wpAnyH_take (i := 14) (oi := ?_) (v := ?_) ?_ (by kernel_rfl) (by kernel_rfl) (by kernel_rfl) ?_ ?_ (by assumption) ?_
          rotate_left 2; (simp only [List.getElem?_toArray, List.getElem?_cons_succ, List.getElem?_cons_zero]; rfl)
          rotate_left; (first | (refine .inl ⟨by rfl, ?_⟩; intro w9 hS9; go_simp; try with_reducible rfl) | (refine .inr ⟨by rfl, ?_⟩; with_reducible rfl))
          rotate_left; (intro _ _ _ h9; exact h9)
          try simp only [Act.put, List.setIfInBounds_toArray, List.set_cons_zero, List.set_cons_succ]
          refine wpAnyH_take (i := 15) (oi := ?_) (v := ?_) ?_ (by kernel_rfl) (by kernel_rfl) (by kernel_rfl) ?_ ?_ (by assumption) ?_
          rotate_left 2; (simp only [List.getElem?_toArray, List.getElem?_cons_succ, List.getElem?_cons_zero]; rfl)
          rotate_left; (first | (refine .inl ⟨by rfl, ?_⟩; intro w9 hS9; go_simp; try with_reducible rfl) | (refine .inr ⟨by rfl, ?_⟩; with_reducible rfl))
          rotate_left; (intro _ _ _ h9; exact h9)
          try simp only [Act.put, List.setIfInBounds_toArray, List.set_cons_zero, List.set_cons_succ]
          refine wpAnyH_take (i := 16) (oi := ?_) (v := ?_) ?_ (by kernel_rfl) (by kernel_rfl) (by kernel_rfl) ?_ ?_ (by assumption) ?_
          rotate_left 2; (simp only [List.getElem?_toArray, List.getElem?_cons_succ, List.getElem?_cons_zero]; rfl)
          rotate_left; (first | (refine .inl ⟨by rfl, ?_⟩; intro w9 hS9; go_simp; try with_reducible rfl) | (refine .inr ⟨by rfl, ?_⟩; with_reducible rfl))
          rotate_left; (intro _ _ _ h9; exact h9)
          try simp only [Act.put, List.setIfInBounds_toArray, List.set_cons_zero, List.set_cons_succ]
          refine wpAnyH_done (by kernel_rfl) ?_ _
          clear hS2
          clear p0 p1 p2 p3 p4 p5 p6 p7 p8 p9 pa
          clear q0 q1 q2 q3 q4 q5 q6 q7 q8 q9 qa
          clear r0
          go_wp2_with fail
          go_ret
          exact ⟨by first | rfl | simp, below_go HW.out H2.out⟩
      · rw [Bool.not_eq_true] at k1
        rw [k1, Bool.false_and] at hlo
        have E4 := Lib.hid (cfErr_no (by rw [hlo]; decide))
        have E5 := Lib.hid (cfErr_no (by rw [k1]; decide))
        clear hlo k1 hlen
        refine wp_region_held (S := fun w' => Below wt.heap.size wt w') (by kernel_rfl) ?_
        change wpAnyH _ _ _ _ _ _ _ _ wt.drew
        change wpAnyH _ _ _ _ _ 17 (Array.replicate 17 false) _ _
        refine wpAnyH_take (i := 0) (oi := ?_) (v := ?_) ?_ (by kernel_rfl) (by kernel_rfl) (by kernel_rfl) ?_ ?_ (by assumption) ?_
        rotate_left 2; (simp only [List.getElem?_toArray, List.getElem?_cons_succ, List.getElem?_cons_zero]; rfl)
        rotate_left; (first | (refine .inl ⟨by rfl, ?_⟩; intro w9 hS9; go_simp; try with_reducible rfl) | (refine .inr ⟨by rfl, ?_⟩; with_reducible rfl))
        rotate_left; (intro _ _ _ h9; exact h9)
        try simp only [Act.put, List.setIfInBounds_toArray, List.set_cons_zero, List.set_cons_succ]
        refine wpAnyH_take (i := 1) (oi := ?_) (v := ?_) ?_ (by kernel_rfl) (by kernel_rfl) (by kernel_rfl) ?_ ?_ (by assumption) ?_
        rotate_left 2; (simp only [List.getElem?_toArray, List.getElem?_cons_succ, List.getElem?_cons_zero]; rfl)
        rotate_left; (first | (refine .inl ⟨by rfl, ?_⟩; intro w9 hS9; go_simp; try with_reducible rfl) | (refine .inr ⟨by rfl, ?_⟩; with_reducible rfl))
        rotate_left; (intro _ _ _ h9; exact h9)
        try simp only [Act.put, List.setIfInBounds_toArray, List.set_cons_zero, List.set_cons_succ]
        refine wpAnyH_take (i := 2) (oi := ?_) (v := ?_) ?_ (by kernel_rfl) (by kernel_rfl) (by kernel_rfl) ?_ ?_ (by assumption) ?_
        rotate_left 2; (simp only [List.getElem?_toArray, List.getElem?_cons_succ, List.getElem?_cons_zero]; rfl)
        rotate_left; (first | (refine .inl ⟨by rfl, ?_⟩; intro w9 hS9; go_simp; try with_reducible rfl) | (refine .inr ⟨by rfl, ?_⟩; with_reducible rfl))
        rotate_left; (intro _ _ _ h9; exact h9)
        try simp only [Act.put, List.setIfInBounds_toArray, List.set_cons_zero, List.set_cons_succ]
        refine wpAnyH_take (i := 5) (oi := ?_) (v := ?_) ?_ (by kernel_rfl) (by kernel_rfl) (by kernel_rfl) ?_ ?_ (by assumption) ?_
        rotate_left 2; (simp only [List.getElem?_toArray, List.getElem?_cons_succ, List.getElem?_cons_zero]; rfl)
        rotate_left; (first | (refine .inl ⟨by rfl, ?_⟩; intro w9 hS9; go_simp; try with_reducible rfl) | (refine .inr ⟨by rfl, ?_⟩; with_reducible rfl))
        rotate_left; (intro _ _ _ h9; exact h9)
        try simp only [Act.put, List.setIfInBounds_toArray, List.set_cons_zero, List.set_cons_succ]
        refine wpAnyH_ready (rs := [3]) (by kernel_rfl) (by simp) (AllReadyH.cons rfl (fun K9 hK9 => ?_) AllReadyH.nil)
        go_simp
        refine (cf_check A6 (xs.length + 1) c6 (xs ++ [x1]) t0 _ (HRC.out.below hS0)).mono ?_
        rintro e x4 ⟨v4, rfl, he4, hb⟩
        rw [E4.out] at he4
        obtain ⟨ta, ua, rfl⟩ := he4.isErr (by decide)
        have hS1 := below_go hS0 hb
        have H1 := Lib.hid hS1
        refine hK9.out _ _ hS1 (fun _ => ?_)
        clear hS0 hb he4
        refine wpAnyH_take (i := 4) (oi := ?_) (v := ?_) ?_ (by kernel_rfl) (by kernel_rfl) (by kernel_rfl) ?_ ?_ (by assumption) ?_
        rotate_left 2; (simp only [List.getElem?_toArray, List.getElem?_cons_succ, List.getElem?_cons_zero]; rfl)
        rotate_left; (first | (refine .inl ⟨by rfl, ?_⟩; intro w9 hS9; go_simp; try with_reducible rfl) | (refine .inr ⟨by rfl, ?_⟩; with_reducible rfl))
        rotate_left; (intro _ _ _ h9; exact h9)
        try simp only [Act.put, List.setIfInBounds_toArray, List.set_cons_zero, List.set_cons_succ]
        refine wpAnyH_ready (rs := [6]) (by kernel_rfl) (by simp) (AllReadyH.cons rfl (fun K9 hK9 => ?_) AllReadyH.nil)
        go_simp
        refine (cf_check (some ⟨G9, 0, none⟩) 1 1 [x1] t0 _ (HLC.out.below H1.out)).mono ?_
        rintro e x5 ⟨v5, rfl, he5, hb⟩
        rw [E5.out] at he5
        obtain ⟨tb, ub, rfl⟩ := he5.isErr (by decide)
        have hS2 := below_go H1.out hb
        have H2 := Lib.hid hS2
        refine hK9.out _ _ hS2 (fun _ => ?_)
        clear hS1 hb he5
        refine wpAnyH_take (i := 7) (oi := ?_) (v := ?_) ?_ (by kernel_rfl) (by kernel_rfl) (by kernel_rfl) ?_ ?_ (by assumption) ?_
        rotate_left 2; (simp only [List.getElem?_toArray, List.getElem?_cons_succ, List.getElem?_cons_zero]; rfl)
        rotate_left; (first | (refine .inl ⟨by rfl, ?_⟩; intro w9 hS9; go_simp; try with_reducible rfl) | (refine .inr ⟨by rfl, ?_⟩; with_reducible rfl))
        rotate_left; (intro _ _ _ h9; exact h9)
        try simp only [Act.put, List.setIfInBounds_toArray, List.set_cons_zero, List.set_cons_succ]
        refine wpAnyH_take (i := 8) (oi := ?_) (v := ?_) ?_ (by kernel_rfl) (by kernel_rfl) (by kernel_rfl) ?_ ?_ (by assumption) ?_
        rotate_left 2; (simp only [List.getElem?_toArray, List.getElem?_cons_succ, List.getElem?_cons_zero]; rfl)
        rotate_left; (first | (refine .inl ⟨by rfl, ?_⟩; intro w9 hS9; go_simp; try with_reducible rfl) | (refine .inr ⟨by rfl, ?_⟩; with_reducible rfl))
        rotate_left; (intro _ _ _ h9; exact h9)
        try simp only [Act.put, List.setIfInBounds_toArray, List.set_cons_zero, List.set_cons_succ]
        refine wpAnyH_take (i := 9) (oi := ?_) (v := ?_) ?_ (by kernel_rfl) (by kernel_rfl) (by kernel_rfl) ?_ ?_ (by assumption) ?_
        rotate_left 2; (simp only [List.getElem?_toArray, List.getElem?_cons_succ, List.getElem?_cons_zero]; rfl)
        rotate_left; (first | (refine .inl ⟨by rfl, ?_⟩; intro w9 hS9; go_simp; try with_reducible rfl) | (refine .inr ⟨by rfl, ?_⟩; with_reducible rfl))
        rotate_left; (intro _ _ _ h9; exact h9)
        try simp only [Act.put, List.setIfInBounds_toArray, List.set_cons_zero, List.set_cons_succ]
        refine wpAnyH_take (i := 10) (oi := ?_) (v := ?_) ?_ (by kernel_rfl) (by kernel_rfl) (by kernel_rfl) ?_ ?_ (by assumption) ?_
        rotate_left 2; (simp only [List.getElem?_toArray, List.getElem?_cons_succ, List.getElem?_cons_zero]; rfl)
        rotate_left; (first | (refine .inl ⟨by rfl, ?_⟩; intro w9 hS9; go_simp; try with_reducible rfl) | (refine .inr ⟨by rfl, ?_⟩; with_reducible rfl))
        rotate_left; (intro _ _ _ h9; exact h9)
        try simp only [Act.put, List.setIfInBounds_toArray, List.set_cons_zero, List.set_cons_succ]
        refine wpAnyH_take (i := 11) (oi := ?_) (v := ?_) ?_ (by kernel_rfl) (by kernel_rfl) (by kernel_rfl) ?_ ?_ (by assumption) ?_
        rotate_left 2; (simp only [List.getElem?_toArray, List.getElem?_cons_succ, List.getElem?_cons_zero]; rfl)
        rotate_left; (first | (refine .inl ⟨by rfl, ?_⟩; intro w9 hS9; go_simp; try with_reducible rfl) | (refine .inr ⟨by rfl, ?_⟩; with_reducible rfl))
        rotate_left; (intro _ _ _ h9; exact h9)
        try simp only [Act.put, List.setIfInBounds_toArray, List.set_cons_zero, List.set_cons_succ]
        refine wpAnyH_take (i := 12) (oi := ?_) (v := ?_) ?_ (by kernel_rfl) (by kernel_rfl) (by kernel_rfl) ?_ ?_ (by assumption) ?_
        rotate_left 2; (simp only [List.getElem?_toArray, List.getElem?_cons_succ, List.getElem?_cons_zero]; rfl)
        rotate_left; (first | (refine .inl ⟨by rfl, ?_⟩; intro w9 hS9; go_simp; try with_reducible rfl) | (refine .inr ⟨by rfl, ?_⟩; with_reducible rfl))
        rotate_left; (intro _ _ _ h9; exact h9)
        try simp only [Act.put, List.setIfInBounds_toArray, List.set_cons_zero, List.set_cons_succ]
        refine wpAnyH_take (i := 13) (oi := ?_) (v := ?_) ?_ (by kernel_rfl) (by kernel_rfl) (by kernel_rfl) ?_ ?_ (by assumption) ?_
        rotate_left 2; (simp only [List.getElem?_toArray, List.getElem?_cons_succ, List.getElem?_cons_zero]; rfl)
        rotate_left; (first | (refine .inl ⟨by rfl, ?_⟩; intro w9 hS9; go_simp; try with_reducible rfl) | (refine .inr ⟨by rfl, ?_⟩; with_reducible rfl))
        rotate_left; (intro _ _ _ h9; exact h9)
        try simp only [Act.put, List.setIfInBounds_toArray, List.set_cons_zero, List.set_cons_succ]
        refine wpAnyH_take (i := 14) (oi := ?_) (v := ?_) ?_ (by kernel_rfl) (by kernel_rfl) (by kernel_rfl) ?_ ?_ (by assumption) ?_
        rotate_left 2; (simp only [List.getElem?_toArray, List.getElem?_cons_succ, List.getElem?_cons_zero]; rfl)
        rotate_left; (first | (refine .inl ⟨by rfl, ?_⟩; intro w9 hS9; go_simp; try with_reducible rfl) | (refine .inr ⟨by rfl, ?_⟩; with_reducible rfl))
        rotate_left; (intro _ _ _ h9; exact h9)
        try simp only [Act.put, List.setIfInBounds_toArray, List.set_cons_zero, List.set_cons_succ]
        refine wpAnyH_take (i := 15) (oi := ?_) (v := ?_) ?_ (by kernel_rfl) (by kernel_rfl) (by kernel_rfl) ?_ ?_ (by assumption) ?_
        rotate_left 2; (simp only [List.getElem?_toArray, List.getElem?_cons_succ, List.getElem?_cons_zero]; rfl)
        rotate_left; (first | (refine .inl ⟨by rfl, ?_⟩; intro w9 hS9; go_simp; try with_reducible rfl) | (refine .inr ⟨by rfl, ?_⟩; with_reducible rfl))
        rotate_left; (intro _ _ _ h9; exact h9)
        try simp only [Act.put, List.setIfInBounds_toArray, List.set_cons_zero, List.set_cons_succ]
        refine wpAnyH_take (i := 16) (oi := ?_) (v := ?_) ?_ (by kernel_rfl) (by kernel_rfl) (by kernel_rfl) ?_ ?_ (by assumption) ?_
        rotate_left 2; (simp only [List.getElem?_toArray, List.getElem?_cons_succ, List.getElem?_cons_zero]; rfl)
        rotate_left; (first | (refine .inl ⟨by rfl, ?_⟩; intro w9 hS9; go_simp; try with_reducible rfl) | (refine .inr ⟨by rfl, ?_⟩; with_reducible rfl))
        rotate_left; (intro _ _ _ h9; exact h9)
        try simp only [Act.put, List.setIfInBounds_toArray, List.set_cons_zero, List.set_cons_succ]
        refine wpAnyH_done (by kernel_rfl) ?_ _
        clear hS2
        clear p0 p1 p2 p3 p4 p5 p6 p7 p8 p9 pa
        clear q0 q1 q2 q3 q4 q5 q6 q7 q8 q9 qa
        clear r0
        go_wp2_with fail
        go_ret
        exact ⟨by first | rfl | simp, below_go HW.out H2.out⟩
    refine AllReadyH.cons rfl (fun K9 hK9 => ?_) ?_
    · go_simp
      have hS2 := hS1.alloc hS1.size (.cells #[.int .i64 x1.strike, .int .i64 x1.signal, .int .i64 x1.s0, .int .i64 x1.s1, .int .i64 x1.s2] 48)
      refine hK9.out _ _ hS2 (fun _ => ?_)
      have HO2 := Lib.hid (HO1.out.fr (Fr.ofBelow (below_st y1 (.cells #[.int .i64 x1.strike, .int .i64 x1.signal, .int .i64 x1.s0, .int .i64 x1.s1, .int .i64 x1.s2] 48)) (fun _ => False)) (fun _ _ h => h))
      have HL2 := Lib.hid (ln_re_new y1 x1)
      have HB2 := Lib.hid (HB1.out.alloc (by have := HB1.out.size; have := HSZ.out; omega) (.cells #[.int .i64 x1.strike, .int .i64 x1.signal, .int .i64 x1.s0, .int .i64 x1.s1, .int .i64 x1.s2] 48))
      have HZ2 := Lib.hid (show (y1.alloc (.cells #[.int .i64 x1.strike, .int .i64 x1.signal, .int .i64 x1.s0, .int .i64 x1.s1, .int .i64 x1.s2] 48)).heap.size = y1.heap.size + 1 by simp)
      generalize y1.alloc (.cells #[.int .i64 x1.strike, .int .i64 x1.signal, .int .i64 x1.s0, .int .i64 x1.s1, .int .i64 x1.s2] 48) = y2 at *
      clear hS1
      have RY2 := Lib.hid (RX.out.below hS2)
      refine wpAnyH_ready (rs := [3]) (by kernel_rfl) (by simp) (AllReadyH.cons (o := ?_) ?_ (fun K9 hK9 => ?_) AllReadyH.nil)
      rotate_left; (simp only [List.getElem?_toArray, List.getElem?_cons_succ, List.getElem?_cons_zero]; rfl)
      rw [if_pos (by rfl)]
      refine wp_append_fr lnT lnc_len lnc_one _ _ rfl _ [] rfl HO2.out a0 len0 cap0 xs rfl RY2.out (by have := RX.out.len; simp; omega) (by have := RX.out.len; simp; omega) (fun v3 w3 hown3 hg3 hf3 => ?_)
      simp only [Act.put, List.setIfInBounds_toArray, List.set_cons_zero, List.set_cons_succ, List.nil_append] at hown3 ⊢
      have hS3 : Below x2.heap.size x2 w3 := hS2.grown hg3 (Nat.le_trans (by omega) hS2.size) (fun k e => by have e := blk0 e; have := HSZ.out; omega)
      refine hK9.out _ _ hS3 (fun _ => ?_)
      have HLS := Lib.hid (show LS x2.heap.size y w3 v3 y1.heap.size xs x1 from
        ⟨hown3, HL2.out.fr (Fr.ofGrown hg3) (fun _ b off e e2 => by cases e; have e2 := blk0 e2.symm; have := HZ1.out; omega), fun g hg => by
          rcases hf3 g hg with h | h
          · have h := blk0 h; have := HSZ.out; omega
          · have := HZ2.out; have := HZ1.out; have := HSZ.out; omega, by have := HZ1.out; have := HSZ.out; omega, HB2.out.grown hg3 (by have := HB2.out.size; have := HSZ.out; omega) (fun k e => by have e := blk0 e; have := HSZ.out; omega)⟩)
      clear hS2 hg3 hf3 hown3
      generalize y1.heap.size = L at *
      refine wpAnyH_ready (rs := [6]) (by kernel_rfl) (by simp) (AllReadyH.cons (o := ?_) ?_ (fun K9 hK9 => ?_) AllReadyH.nil)
      rotate_left; (simp only [List.getElem?_toArray, List.getElem?_cons_succ, List.getElem?_cons_zero]; rfl)
      rw [if_pos (by rfl)]
      refine wp_append_fr lnT lnc_len lnc_one _ _ rfl v3 xs rfl HLS.out.own _ 1 1 [x1] rfl HLS.out.lit (by have := RX.out.len; simp; omega) (by have := RX.out.len; simp; omega) (fun v6 w6 hown6 hg6 hf6 => ?_)
      simp only [Act.put, List.setIfInBounds_toArray, List.set_cons_zero, List.set_cons_succ]
      have hS6 := hS3.grown hg6 (Nat.le_trans (by omega) hS3.size) (fun k e => by have := HLS.out.far k e; omega)
      refine hK9.out _ _ hS6 (fun _ => ?_)
      clear hS3
      have hcf6 : CfBox w6 x2.heap.size a0 len0 cap0 t0 := (hg6.block _ (by have := HLS.out.lfar; have := HLS.out.bel.size; have := HSZ.out; omega) (fun e => by have := HLS.out.far _ e.symm; omega)).trans ((HLS.out.bel.block _ (Nat.lt_succ_self _)).trans HN.out)
      obtain ⟨A6, c6, rfl, hre6, hob6, _⟩ := hown6.re (by have := RX.out.len; simp; omega)
      obtain ⟨n0, _, _, _, _, _, _, _, _, _, _, nf⟩ := cf_cell_all hcf6
      have HC6 := Lib.hid hcf6
      have HR6 := Lib.hid hre6
      have HF6 := Lib.hid (show ∀ b off, A6 = some ⟨b, off, none⟩ → x2.heap.size < b from fun b off e => by
        rcases hf6 b (by rw [hob6, e]; rfl) with h | h
        · exact HLS.out.far _ h
        · have := HLS.out.lfar; have := HLS.out.bel.size; have := HSZ.out; omega)
      clear hown6 hg6 hf6 hcf6 hre6 hob6
      refine wpAnyH_take (i := 7) (oi := ?_) (v := ?_) ?_ (by kernel_rfl) (by kernel_rfl) (by kernel_rfl) ?_ ?_ (by assumption) ?_
      rotate_left 2; (simp only [List.getElem?_toArray, List.getElem?_cons_succ, List.getElem?_cons_zero]; rfl)
      rotate_left; (first | (refine .inl ⟨by rfl, ?_⟩; intro w9 hS9; go_simp; try with_reducible rfl) | (refine .inr ⟨by rfl, ?_⟩; with_reducible rfl))
      rotate_left; (intro _ _ _ h9; exact h9)
      try simp only [Act.put, List.setIfInBounds_toArray, List.set_cons_zero, List.set_cons_succ]
      refine wpAnyH_ready (rs := [8]) (by kernel_rfl) (by simp) (AllReadyH.cons rfl (fun K9 hK9 => ?_) AllReadyH.nil)
      go_simp
      have hS8 := hS6.setCell (p := ⟨x2.heap.size, 0, none⟩) (Nat.le_refl _) (.slice A6 (xs.length + 1) c6)
      refine hK9.out _ _ hS8 (fun _ => ?_)
      clear hS6
      have HS8 := Lib.hid hS8
      have HC8 := Lib.hid (show CfBox (w6.setCell ⟨x2.heap.size, 0, none⟩ (.slice A6 (xs.length + 1) c6)) x2.heap.size A6 (xs.length + 1) c6 t0 from cf_set0 HC6.out)
      have HR8 := Lib.hid (show RLn (w6.setCell ⟨x2.heap.size, 0, none⟩ (.slice A6 (xs.length + 1) c6)) A6 (xs.length + 1) c6 (xs ++ [x1]) from RE.fr (show RLn w6 A6 (xs.length + 1) c6 (xs ++ [x1]) by have h := HR6.out; rwa [List.length_append] at h) (fr_setCell (F := fun i => i = x2.heap.size) _ _ rfl) (fun _ b off e e2 => by have := HF6.out b off e; omega))
      generalize w6.setCell _ _ = w8 at *
      clear hS8 n0 nf l0 l1 l2 l3 l4
      clear p0 p1 p2 p3 p4 p5 p6 p7 p8 p9 pa
      refine wpAnyH_done (by kernel_rfl) ?_ _
      obtain ⟨p0, p1, p2, p3, p4, p5, p6, p7, p8, p9, pa, pf⟩ := cf_cell_all (CfBox.below HA.out HS8.out)
      have HN9 := Lib.hid (show CfBox (w8.alloc (.cells (cfa a0 len0 cap0 t0) 26)) w8.heap.size a0 len0 cap0 t0 from heap_alloc_new w8 _)
      have HB9 := Lib.hid (below_st w8 (.cells (cfa a0 len0 cap0 t0) 26))
      have HZ9 := Lib.hid (show (w8.alloc (.cells (cfa a0 len0 cap0 t0) 26)).heap.size = w8.heap.size + 1 by simp)
      go_upto_region 7 with fail
      change Code.wp _ _ _ _ (w8.alloc (.cells (cfa a0 len0 cap0 t0) 26))
      generalize w8.alloc (.cells (cfa a0 len0 cap0 t0) 26) = w9 at *
      clear p0 p1 p2 p3 p4 p5 p6 p7 p8 p9 pa
      clear pf
      have HLB := Lib.hid (blk_below (blk_below HB.out HS8.out) HB9.out)
      obtain ⟨l0, l1, l2, l3, l4⟩ := LnBlk.cells HLB.out w9 (Below.refl _ _)
      have HNA := Lib.hid (CfBox.below HN9.out (below_st w9 (.cells #[.int .i64 x1.strike, .int .i64 x1.signal, .int .i64 x1.s0, .int .i64 x1.s1, .int .i64 x1.s2] 48)))
      obtain ⟨n0, _, _, _, _, _, _, _, _, _, _, nf⟩ := cf_cell_all HNA.out
      have HBA := Lib.hid (below_go HB9.out (below_st w9 (.cells #[.int .i64 x1.strike, .int .i64 x1.signal, .int .i64 x1.s0, .int .i64 x1.s1, .int .i64 x1.s2] 48)))
      have HLA := Lib.hid (ln_re_new w9 x1)
      go_upto_region 8 with fail
      have HNC := Lib.hid (show CfBox ((w9.alloc (.cells #[.int .i64 x1.strike, .int .i64 x1.signal, .int .i64 x1.s0, .int .i64 x1.s1, .int .i64 x1.s2] 48)).setCell ⟨w8.heap.size, 0, none⟩ (.slice (some ⟨w9.heap.size, 0, none⟩) 1 1)) w8.heap.size (some ⟨w9.heap.size, 0, none⟩) 1 1 t0 from cf_set0 HNA.out)
      have HLC := Lib.hid (RE.fr HLA.out (fr_setCell (F := fun i => i = w8.heap.size) ⟨w8.heap.size, 0, none⟩ (.slice (some ⟨w9.heap.size, 0, none⟩) 1 1) rfl) (fun _ b off e e2 => by cases e; have := HZ9.out; omega))
      have HBC := Lib.hid (HBA.out.setCell (p := ⟨w8.heap.size, 0, none⟩) (Nat.le_refl _) (.slice (some ⟨w9.heap.size, 0, none⟩) 1 1))
      generalize (w9.alloc _).setCell _ _ = wt at *
      clear l0 l1 l2 l3 l4 n0 nf
      have HRC := Lib.hid (HR8.out.below HBC.out)
      have HCC := Lib.hid (CfBox.below HC8.out HBC.out)
      have HAC := Lib.hid (CfBox.below (CfBox.below HA.out HS8.out) HBC.out)
      have HW := Lib.hid (below_go (below_go B2.out HS8.out) HBC.out)
      generalize w9.heap.size = G9 at *
      clear HLA HNA HBA HZ9 HB9 HN9
      have hS0 : Below wt.heap.size wt wt.drew := ⟨rfl, rfl, rfl, Nat.le_refl _, fun _ _ => rfl⟩
      obtain ⟨p0, p1, p2, p3, p4, p5, p6, p7, p8, p9, pa⟩ := cf_fun HCC.out
      obtain ⟨q0, q1, q2, q3, q4, q5, q6, q7, q8, q9, qa⟩ := cf_fun HNC.out
      obtain ⟨r0, _⟩ := cf_fun HAC.out
      have hlen := RX.out.len
      have hlo := lines_ok xs x1 t0 k0
      rw [hlen] at hlo
      by_cases k1 : cfOk [x1] t0 = true
      · by_cases h8 : (len0 : Int) < 8
        · rw [k1, decide_eq_true h8] at hlo
          have E4 := Lib.hid (cfErr_ok hlo)
          have E5 := Lib.hid (cfErr_ok k1)
          clear hlo k1 hlen
          refine wp_region_held (S := fun w' => Below wt.heap.size wt w') (by kernel_rfl) ?_
          change wpAnyH _ _ _ _ _ _ _ _ wt.drew
          change wpAnyH _ _ _ _ _ 17 (Array.replicate 17 false) _ _
          refine wpAnyH_take (i := 0) (oi := ?_) (v := ?_) ?_ (by kernel_rfl) (by kernel_rfl) (by kernel_rfl) ?_ ?_ (by assumption) ?_
          rotate_left 2; (simp only [List.getElem?_toArray, List.getElem?_cons_succ, List.getElem?_cons_zero]; rfl)
          rotate_left; (first | (refine .inl ⟨by rfl, ?_⟩; intro w9 hS9; go_simp; try with_reducible rfl) | (refine .inr ⟨by rfl, ?_⟩; with_reducible rfl))
          rotate_left; (intro _ _ _ h9; exact h9)
          try simp only [Act.put, List.setIfInBounds_toArray, List.set_cons_zero, List.set_cons_succ]
          refine wpAnyH_take (i := 1) (oi := ?_) (v := ?_) ?_ (by kernel_rfl) (by kernel_rfl) (by kernel_rfl) ?_ ?_ (by assumption) ?_
          rotate_left 2; (simp only [List.getElem?_toArray, List.getElem?_cons_succ, List.getElem?_cons_zero]; rfl)
          rotate_left; (first | (refine .inl ⟨by rfl, ?_⟩; intro w9 hS9; go_simp; try with_reducible rfl) | (refine .inr ⟨by rfl, ?_⟩; with_reducible rfl))
          rotate_left; (intro _ _ _ h9; exact h9)
          try simp only [Act.put, List.setIfInBounds_toArray, List.set_cons_zero, List.set_cons_succ]
          refine wpAnyH_take (i := 2) (oi := ?_) (v := ?_) ?_ (by kernel_rfl) (by kernel_rfl) (by kernel_rfl) ?_ ?_ (by assumption) ?_
          rotate_left 2; (simp only [List.getElem?_toArray, List.getElem?_cons_succ, List.getElem?_cons_zero]; rfl)
          rotate_left; (first | (refine .inl ⟨by rfl, ?_⟩; intro w9 hS9; go_simp; try with_reducible rfl) | (refine .inr ⟨by rfl, ?_⟩; with_reducible rfl))
          rotate_left; (intro _ _ _ h9; exact h9)
          try simp only [Act.put, List.setIfInBounds_toArray, List.set_cons_zero, List.set_cons_succ]
          refine wpAnyH_take (i := 5) (oi := ?_) (v := ?_) ?_ (by kernel_rfl) (by kernel_rfl) (by kernel_rfl) ?_ ?_ (by assumption) ?_
          rotate_left 2; (simp only [List.getElem?_toArray, List.getElem?_cons_succ, List.getElem?_cons_zero]; rfl)
          rotate_left; (first | (refine .inl ⟨by rfl, ?_⟩; intro w9 hS9; go_simp; try with_reducible rfl) | (refine .inr ⟨by rfl, ?_⟩; with_reducible rfl))
          rotate_left; (intro _ _ _ h9; exact h9)
          try simp only [Act.put, List.setIfInBounds_toArray, List.set_cons_zero, List.set_cons_succ]
          refine wpAnyH_ready (rs := [3]) (by kernel_rfl) (by simp) (AllReadyH.cons rfl (fun K9 hK9 => ?_) AllReadyH.nil)
          go_simp
          refine (cf_check A6 (xs.length + 1) c6 (xs ++ [x1]) t0 _ (HRC.out.below hS0)).mono ?_
          rintro e x4 ⟨v4, rfl, he4, hb⟩
          rw [E4.out] at he4
          obtain rfl := he4.isNil
          have hS1 := below_go hS0 hb
          have H1 := Lib.hid hS1
          refine hK9.out _ _ hS1 (fun _ => ?_)
          clear hS0 hb he4
          refine wpAnyH_take (i := 4) (oi := ?_) (v := ?_) ?_ (by kernel_rfl) (by kernel_rfl) (by kernel_rfl) ?_ ?_ (by assumption) ?_
          rotate_left 2; (simp only [List.getElem?_toArray, List.getElem?_cons_succ, List.getElem?_cons_zero]; rfl)
          rotate_left; (first | (refine .inl ⟨by rfl, ?_⟩; intro w9 hS9; go_simp; try with_reducible rfl) | (refine .inr ⟨by rfl, ?_⟩; with_reducible rfl))
          rotate_left; (intro _ _ _ h9; exact h9)
          try simp only [Act.put, List.setIfInBounds_toArray, List.set_cons_zero, List.set_cons_succ]
          refine wpAnyH_ready (rs := [6]) (by kernel_rfl) (by simp) (AllReadyH.cons rfl (fun K9 hK9 => ?_) AllReadyH.nil)
          go_simp
          refine (cf_check (some ⟨G9, 0, none⟩) 1 1 [x1] t0 _ (HLC.out.below H1.out)).mono ?_
          rintro e x5 ⟨v5, rfl, he5, hb⟩
          rw [E5.out] at he5
          obtain rfl := he5.isNil
          have hS2 := below_go H1.out hb
          have H2 := Lib.hid hS2
          refine hK9.out _ _ hS2 (fun _ => ?_)
          clear hS1 hb he5
          refine wpAnyH_take (i := 7) (oi := ?_) (v := ?_) ?_ (by kernel_rfl) (by kernel_rfl) (by kernel_rfl) ?_ ?_ (by assumption) ?_
          rotate_left 2; (simp only [List.getElem?_toArray, List.getElem?_cons_succ, List.getElem?_cons_zero]; rfl)
          rotate_left; (first | (refine .inl ⟨by rfl, ?_⟩; intro w9 hS9; go_simp; try with_reducible rfl) | (refine .inr ⟨by rfl, ?_⟩; with_reducible rfl))
          rotate_left; (intro _ _ _ h9; exact h9)
          try simp only [Act.put, List.setIfInBounds_toArray, List.set_cons_zero, List.set_cons_succ]
          refine wpAnyH_take (i := 8) (oi := ?_) (v := ?_) ?_ (by kernel_rfl) (by kernel_rfl) (by kernel_rfl) ?_ ?_ (by assumption) ?_
          rotate_left 2; (simp only [List.getElem?_toArray, List.getElem?_cons_succ, List.getElem?_cons_zero]; rfl)
          rotate_left; (first | (refine .inl ⟨by rfl, ?_⟩; intro w9 hS9; go_simp; try with_reducible rfl) | (refine .inr ⟨by rfl, ?_⟩; with_reducible rfl))
          rotate_left; (intro _ _ _ h9; exact h9)
          try simp only [Act.put, List.setIfInBounds_toArray, List.set_cons_zero, List.set_cons_succ]
          refine wpAnyH_take (i := 9) (oi := ?_) (v := ?_) ?_ (by kernel_rfl) (by kernel_rfl) (by kernel_rfl) ?_ ?_ (by assumption) ?_
          rotate_left 2; (simp only [List.getElem?_toArray, List.getElem?_cons_succ, List.getElem?_cons_zero]; rfl)
          rotate_left; (first | (refine .inl ⟨by rfl, ?_⟩; intro w9 hS9; go_simp; try with_reducible rfl) | (refine .inr ⟨by rfl, ?_⟩; with_reducible rfl))
          rotate_left; (intro _ _ _ h9; exact h9)
          try simp only [Act.put, List.setIfInBounds_toArray, List.set_cons_zero, List.set_cons_succ]
          refine wpAnyH_take (i := 10) (oi := ?_) (v := ?_) ?_ (by kernel_rfl) (by kernel_rfl) (by kernel_rfl) ?_ ?_ (by assumption) ?_
          rotate_left 2; (simp only [List.getElem?_toArray, List.getElem?_cons_succ, List.getElem?_cons_zero]; rfl)
          rotate_left; (first | (refine .inl ⟨by rfl, ?_⟩; intro w9 hS9; go_simp; try with_reducible rfl) | (refine .inr ⟨by rfl, ?_⟩; with_reducible rfl))
          rotate_left; (intro _ _ _ h9; exact h9)
          try simp only [Act.put, List.setIfInBounds_toArray, List.set_cons_zero, List.set_cons_succ]
          refine wpAnyH_take (i := 11) (oi := ?_) (v := ?_) ?_ (by kernel_rfl) (by kernel_rfl) (by kernel_rfl) ?_ ?_ (by assumption) ?_
          rotate_left 2; (simp only [List.getElem?_toArray, List.getElem?_cons_succ, List.getElem?_cons_zero]; rfl)
          rotate_left; (first | (refine .inl ⟨by rfl, ?_⟩; intro w9 hS9; go_simp; try with_reducible rfl) | (refine .inr ⟨by rfl, ?_⟩; with_reducible rfl))
          rotate_left; (intro _ _ _ h9; exact h9)
          try simp only [Act.put, List.setIfInBounds_toArray, List.set_cons_zero, List.set_cons_succ]
          refine wpAnyH_take (i := 12) (oi := ?_) (v := ?_) ?_ (by kernel_rfl) (by kernel_rfl) (by kernel_rfl) ?_ ?_ (by assumption) ?_
          rotate_left 2; (simp only [List.getElem?_toArray, List.getElem?_cons_succ, List.getElem?_cons_zero]; rfl)
          rotate_left; (first | (refine .inl ⟨by rfl, ?_⟩; intro w9 hS9; go_simp; try with_reducible rfl) | (refine .inr ⟨by rfl, ?_⟩; with_reducible rfl))
          rotate_left; (intro _ _ _ h9; exact h9)
          try simp only [Act.put, List.setIfInBounds_toArray, List.set_cons_zero, List.set_cons_succ]
          refine wpAnyH_take (i := 13) (oi := ?_) (v := ?_) ?_ (by kernel_rfl) (by kernel_rfl) (by kernel_rfl) ?_ ?_ (by assumption) ?_
          rotate_left 2; (simp only [List.getElem?_toArray, List.getElem?_cons_succ, List.getElem?_cons_zero]; rfl)
          rotate_left; (first | (refine .inl ⟨by rfl, ?_⟩; intro w9 hS9; go_simp; try with_reducible rfl) | (refine .inr ⟨by rfl, ?_⟩; with_reducible rfl))
          rotate_left; (intro _ _ _ h9; exact h9)
          try simp only [Act.put, List.setIfInBounds_toArray, List.set_cons_zero, List.set_cons_succ]
          refine wpAnyH_take (i := 14) (oi := ?_) (v := ?_) ?_ (by kernel_rfl) (by kernel_rfl) (by kernel_rfl) ?_ ?_ (by assumption) ?_
          rotate_left 2; (simp only [List.getElem?_toArray, List.getElem?_cons_succ, List.getElem?_cons_zero]; rfl)
          rotate_left; (first | (refine .inl ⟨by rfl, ?_⟩; intro w9 hS9; go_simp; try with_reducible rfl) | (refine .inr ⟨by rfl, ?_⟩; with_reducible rfl))
          rotate_left; (intro _ _ _ h9; exact h9)
          try simp only [Act.put, List.setIfInBounds_toArray, List.set_cons_zero, List.set_cons_succ]
          refine wpAnyH_take (i := 15) (oi := ?_) (v := ?_) ?_ (by kernel_rfl) (by kernel_rfl) (by kernel_rfl) ?_ ?_ (by assumption) ?_
          rotate_left 2; (simp only [List.getElem?_toArray, List.getElem?_cons_succ, List.getElem?_cons_zero]; rfl)
          rotate_left; (first | (refine .inl ⟨by rfl, ?_⟩; intro w9 hS9; go_simp; try with_reducible rfl) | (refine .inr ⟨by rfl, ?_⟩; with_reducible rfl))
          rotate_left; (intro _ _ _ h9; exact h9)
          try simp only [Act.put, List.setIfInBounds_toArray, List.set_cons_zero, List.set_cons_succ]
          refine wpAnyH_take (i := 16) (oi := ?_) (v := ?_) ?_ (by kernel_rfl) (by kernel_rfl) (by kernel_rfl) ?_ ?_ (by assumption) ?_
          rotate_left 2; (simp only [List.getElem?_toArray, List.getElem?_cons_succ, List.getElem?_cons_zero]; rfl)
          rotate_left; (first | (refine .inl ⟨by rfl, ?_⟩; intro w9 hS9; go_simp; try with_reducible rfl) | (refine .inr ⟨by rfl, ?_⟩; with_reducible rfl))
          rotate_left; (intro _ _ _ h9; exact h9)
          try simp only [Act.put, List.setIfInBounds_toArray, List.set_cons_zero, List.set_cons_succ]
          refine wpAnyH_done (by kernel_rfl) ?_ _
          clear hS2
          clear p0 p1 p2 p3 p4 p5 p6 p7 p8 p9 pa
          clear q0 q1 q2 q3 q4 q5 q6 q7 q8 q9 qa
          clear r0
          go_wp2_with fail
          go_ret
          exact ⟨by first | rfl | simp, below_go HW.out H2.out⟩
        · rw [k1, decide_eq_false h8] at hlo
          have E4 := Lib.hid (cfErr_no (by rw [hlo]; decide))
          have E5 := Lib.hid (cfErr_ok k1)
          clear hlo k1 hlen
          refine wp_region_held (S := fun w' => Below wt.heap.size wt w') (by kernel_rfl) ?_
          change wpAnyH _ _ _ _ _ _ _ _ wt.drew
          change wpAnyH _ _ _ _ _ 17 (Array.replicate 17 false) _ _
          refine wpAnyH_take (i := 0) (oi := ?_) (v := ?_) ?_ (by kernel_rfl) (by kernel_rfl) (by kernel_rfl) ?_ ?_ (by assumption) ?_
          rotate_left 2; (simp only [List.getElem?_toArray, List.getElem?_cons_succ, List.getElem?_cons_zero]; rfl)
          rotate_left; (first | (refine .inl ⟨by rfl, ?_⟩; intro w9 hS9; go_simp; try with_reducible rfl) | (refine .inr ⟨by rfl, ?_⟩; with_reducible rfl))
          rotate_left; (intro _ _ _ h9; exact h9)
          try simp only [Act.put, List.setIfInBounds_toArray, List.set_cons_zero, List.set_cons_succ]
          refine wpAnyH_take (i := 1) (oi := ?_) (v := ?_) ?_ (by kernel_rfl) (by kernel_rfl) (by kernel_rfl) ?_ ?_ (by assumption) ?_
          rotate_left 2; (simp only [List.getElem?_toArray, List.getElem?_cons_succ, List.getElem?_cons_zero]; rfl)
          rotate_left; (first | (refine .inl ⟨by rfl, ?_⟩; intro w9 hS9; go_simp; try with_reducible rfl) | (refine .inr ⟨by rfl, ?_⟩; with_reducible rfl))
          rotate_left; (intro _ _ _ h9; exact h9)
          try simp only [Act.put, List.setIfInBounds_toArray, List.set_cons_zero, List.set_cons_succ]
          refine wpAnyH_take (i := 2) (oi := ?_) (v := ?_) ?_ (by kernel_rfl) (by kernel_rfl) (by kernel_rfl) ?_ ?_ (by assumption) ?_
          rotate_left 2; (simp only [List.getElem?_toArray, List.getElem?_cons_succ, List.getElem?_cons_zero]; rfl)
          rotate_left; (first | (refine .inl ⟨by rfl, ?_⟩; intro w9 hS9; go_simp; try with_reducible rfl) | (refine .inr ⟨by rfl, ?_⟩; with_reducible rfl))
          rotate_left; (intro _ _ _ h9; exact h9)
          try simp only [Act.put, List.setIfInBounds_toArray, List.set_cons_zero, List.set_cons_succ]
          refine wpAnyH_take (i := 5) (oi := ?_) (v := ?_) ?_ (by kernel_rfl) (by kernel_rfl) (by kernel_rfl) ?_ ?_ (by assumption) ?_
          rotate_left 2; (simp only [List.getElem?_toArray, List.getElem?_cons_succ, List.getElem?_cons_zero]; rfl)
          rotate_left; (first | (refine .inl ⟨by rfl, ?_⟩; intro w9 hS9; go_simp; try with_reducible rfl) | (refine .inr ⟨by rfl, ?_⟩; with_reducible rfl))
          rotate_left; (intro _ _ _ h9; exact h9)
          try simp only [Act.put, List.setIfInBounds_toArray, List.set_cons_zero, List.set_cons_succ]
          refine wpAnyH_ready (rs := [3]) (by kernel_rfl) (by simp) (AllReadyH.cons rfl (fun K9 hK9 => ?_) AllReadyH.nil)
          go_simp
          refine (cf_check A6 (xs.length + 1) c6 (xs ++ [x1]) t0 _ (HRC.out.below hS0)).mono ?_
          rintro e x4 ⟨v4, rfl, he4, hb⟩
          rw [E4.out] at he4
          obtain ⟨ta, ua, rfl⟩ := he4.isErr (by decide)
          have hS1 := below_go hS0 hb
          have H1 := Lib.hid hS1
          refine hK9.out _ _ hS1 (fun _ => ?_)
          clear hS0 hb he4
          refine wpAnyH_take (i := 4) (oi := ?_) (v := ?_) ?_ (by kernel_rfl) (by kernel_rfl) (by kernel_rfl) ?_ ?_ (by assumption) ?_
          rotate_left 2; (simp only [List.getElem?_toArray, List.getElem?_cons_succ, List.getElem?_cons_zero]; rfl)
          rotate_left; (first | (refine .inl ⟨by rfl, ?_⟩; intro w9 hS9; go_simp; try with_reducible rfl) | (refine .inr ⟨by rfl, ?_⟩; with_reducible rfl))
          rotate_left; (intro _ _ _ h9; exact h9)
          try simp only [Act.put, List.setIfInBounds_toArray, List.set_cons_zero, List.set_cons_succ]
          refine wpAnyH_ready (rs := [6]) (by kernel_rfl) (by simp) (AllReadyH.cons rfl (fun K9 hK9 => ?_) AllReadyH.nil)
          go_simp
          refine (cf_check (some ⟨G9, 0, none⟩) 1 1 [x1] t0 _ (HLC.out.below H1.out)).mono ?_
          rintro e x5 ⟨v5, rfl, he5, hb⟩
          rw [E5.out] at he5
          obtain rfl := he5.isNil
          have hS2 := below_go H1.out hb
          have H2 := Lib.hid hS2
          refine hK9.out _ _ hS2 (fun _ => ?_)
          clear hS1 hb he5
          refine wpAnyH_take (i := 7) (oi := ?_) (v := ?_) ?_ (by kernel_rfl) (by kernel_rfl) (by kernel_rfl) ?_ ?_ (by assumption) ?_
          rotate_left 2; (simp only [List.getElem?_toArray, List.getElem?_cons_succ, List.getElem?_cons_zero]; rfl)
          rotate_left; (first | (refine .inl ⟨by rfl, ?_⟩; intro w9 hS9; go_simp; try with_reducible rfl) | (refine .inr ⟨by rfl, ?_⟩; with_reducible rfl))
          rotate_left; (intro _ _ _ h9; exact h9)
          try simp only [Act.put, List.setIfInBounds_toArray, List.set_cons_zero, List.set_cons_succ]
          refine wpAnyH_take (i := 8) (oi := ?_) (v := ?_) ?_ (by kernel_rfl) (by kernel_rfl) (by kernel_rfl) ?_ ?_ (by assumption) ?_
          rotate_left 2; (simp only [List.getElem?_toArray, List.getElem?_cons_succ, List.getElem?_cons_zero]; rfl)
          rotate_left; (first | (refine .inl ⟨by rfl, ?_⟩; intro w9 hS9; go_simp; try with_reducible rfl) | (refine .inr ⟨by rfl, ?_⟩; with_reducible rfl))
          rotate_left; (intro _ _ _ h9; exact h9)
          try simp only [Act.put, List.setIfInBounds_toArray, List.set_cons_zero, List.set_cons_succ]
          refine wpAnyH_take (i := 9) (oi := ?_) (v := ?_) ?_ (by kernel_rfl) (by kernel_rfl) (by kernel_rfl) ?_ ?_ (by assumption) ?_
          rotate_left 2; (simp only [List.getElem?_toArray, List.getElem?_cons_succ, List.getElem?_cons_zero]; rfl)
          rotate_left; (first | (refine .inl ⟨by rfl, ?_⟩; intro w9 hS9; go_simp; try with_reducible rfl) | (refine .inr ⟨by rfl, ?_⟩; with_reducible rfl))
          rotate_left; (intro _ _ _ h9; exact h9)
          try simp only [Act.put, List.setIfInBounds_toArray, List.set_cons_zero, List.set_cons_succ]
          refine wpAnyH_take (i := 10) (oi := ?_) (v := ?_) ?_ (by kernel_rfl) (by kernel_rfl) (by kernel_rfl) ?_ ?_ (by assumption) ?_
          rotate_left 2; (simp only [List.getElem?_toArray, List.getElem?_cons_succ, List.getElem?_cons_zero]; rfl)
          rotate_left; (first | (refine .inl ⟨by rfl, ?_⟩; intro w9 hS9; go_simp; try with_reducible rfl) | (refine .inr ⟨by rfl, ?_⟩; with_reducible rfl))
          rotate_left; (intro _ _ _ h9; exact h9)
          try simp only [Act.put, List.setIfInBounds_toArray, List.set_cons_zero, List.set_cons_succ]
          refine wpAnyH_take (i := 11) (oi := ?_) (v := ?_) ?_ (by kernel_rfl) (by kernel_rfl) (by kernel_rfl) ?_ ?_ (by assumption) ?_
          rotate_left 2; (simp only [List.getElem?_toArray, List.getElem?_cons_succ, List.getElem?_cons_zero]; rfl)
          rotate_left; (first | (refine .inl ⟨by rfl, ?_⟩; intro w9 hS9; go_simp; try with_reducible rfl) | (refine .inr ⟨by rfl, ?_⟩; with_reducible rfl))
          rotate_left; (intro _ _ _ h9; exact h9)
          try simp only [Act.put, List.setIfInBounds_toArray, List.set_cons_zero, List.set_cons_succ]
          refine wpAnyH_take (i := 12) (oi := ?_) (v := ?_) ?_ (by kernel_rfl) (by kernel_rfl) (by kernel_rfl) ?_ ?_ (by assumption) ?_
          rotate_left 2; (simp only [List.getElem?_toArray, List.getElem?_cons_succ, List.getElem?_cons_zero]; rfl)
          rotate_left; (first | (refine .inl ⟨by rfl, ?_⟩; intro w9 hS9; go_simp; try with_reducible rfl) | (refine .inr ⟨by rfl, ?_⟩; with_reducible rfl))
          rotate_left; (intro _ _ _ h9; exact h9)
          try simp only [Act.put, List.setIfInBounds_toArray, List.set_cons_zero, List.set_cons_succ]
          refine wpAnyH_take (i := 13) (oi := ?_) (v := ?_) ?_ (by kernel_rfl) (by kernel_rfl) (by kernel_rfl) ?_ ?_ (by assumption) ?_
          rotate_left 2; (simp only [List.getElem?_toArray, List.getElem?_cons_succ, List.getElem?_cons_zero]; rfl)
          rotate_left; (first | (refine .inl ⟨by rfl, ?_⟩; intro w9 hS9; go_simp; try with_reducible rfl) | (refine .inr ⟨by rfl, ?_⟩; with_reducible rfl))
          rotate_left; (intro _ _ _ h9; exact h9)
          try simp only [Act.put, List.setIfInBounds_toArray, List.set_cons_zero, List.set_cons_succ]
          refine wpAnyH_take (i := 14) (oi := ?_) (v := ?_) ?_ (by kernel_rfl) (by kernel_rfl) (by kernel_rfl) ?_ ?_ (by assumption) ?_
          rotate_left 2; (simp only [List.getElem?_toArray, List.getElem?_cons_succ, List.getElem?_cons_zero]; rfl)
          rotate_left; (first | (refine .inl ⟨by rfl, ?_⟩; intro w9 hS9; go_simp; try with_reducible rfl) | (refine .inr ⟨by rfl, ?_⟩; with_reducible rfl))
          rotate_left; (intro _ _ _ h9; exact h9)
          try simp only [Act.put, List.setIfInBounds_toArray, List.set_cons_zero, List.set_cons_succ]
          refine wpAnyH_take (i := 15) (oi := ?_) (v := ?_) ?_ (by kernel_rfl) (by kernel_rfl) (by kernel_rfl) ?_ ?_ (by assumption) ?_
          rotate_left 2; (simp only [List.getElem?_toArray, List.getElem?_cons_succ, List.getElem?_cons_zero]; rfl)
          rotate_left; (first | (refine .inl ⟨by rfl, ?_⟩; intro w9 hS9; go_simp; try with_reducible rfl) | (refine .inr ⟨by rfl, ?_⟩; with_reducible rfl))
          rotate_left; (intro _ _ _ h9; exact h9)
          try simp only [Act.put, List.setIfInBounds_toArray, List.set_cons_zero, List.set_cons_succ]
          refine wpAnyH_take (i := 16) (oi := ?_) (v := ?_) ?_ (by kernel_rfl) (by kernel_rfl) (by kernel_rfl) ?_ ?_ (by assumption) ?_
          rotate_left 2; (simp only [List.getElem?_toArray, List.getElem?_cons_succ, List.getElem?_cons_zero]; rfl)
          rotate_left; (first | (refine .inl ⟨by rfl, ?_⟩; intro w9 hS9; go_simp; try with_reducible rfl) | (refine .inr ⟨by rfl, ?_⟩; with_reducible rfl))
          rotate_left; (intro _ _ _ h9; exact h9)
          try simp only [Act.put, List.setIfInBounds_toArray, List.set_cons_zero, List.set_cons_succ]
          refine wpAnyH_done (by kernel_rfl) ?_ _
          clear hS2
          clear p0 p1 p2 p3 p4 p5 p6 p7 p8 p9 pa
          clear q0 q1 q2 q3 q4 q5 q6 q7 q8 q9 qa
          clear r0
          go_wp2_with fail
          go_ret
          exact ⟨by first | rfl | simp, below_go HW.out H2.out⟩
      · rw [Bool.not_eq_true] at k1
        rw [k1, Bool.false_and] at hlo
        have E4 := Lib.hid (cfErr_no (by rw [hlo]; decide))
        have E5 := Lib.hid (cfErr_no (by rw [k1]; decide))
        clear hlo k1 hlen
        refine wp_region_held (S := fun w' => Below wt.heap.size wt w') (by kernel_rfl) ?_
        change wpAnyH _ _ _ _ _ _ _ _ wt.drew
        change wpAnyH _ _ _ _ _ 17 (Array.replicate 17 false) _ _
        refine wpAnyH_take (i := 0) (oi := ?_) (v := ?_) ?_ (by kernel_rfl) (by kernel_rfl) (by kernel_rfl) ?_ ?_ (by assumption) ?_
        rotate_left 2; (simp only [List.getElem?_toArray, List.getElem?_cons_succ, List.getElem?_cons_zero]; rfl)
        rotate_left; (first | (refine .inl ⟨by rfl, ?_⟩; intro w9 hS9; go_simp; try with_reducible rfl) | (refine .inr ⟨by rfl, ?_⟩; with_reducible rfl))
        rotate_left; (intro _ _ _ h9; exact h9)
        try simp only [Act.put, List.setIfInBounds_toArray, List.set_cons_zero, List.set_cons_succ]
        refine wpAnyH_take (i := 1) (oi := ?_) (v := ?_) ?_ (by kernel_rfl) (by kernel_rfl) (by kernel_rfl) ?_ ?_ (by assumption) ?_
        rotate_left 2; (simp only [List.getElem?_toArray, List.getElem?_cons_succ, List.getElem?_cons_zero]; rfl)
        rotate_left; (first | (refine .inl ⟨by rfl, ?_⟩; intro w9 hS9; go_simp; try with_reducible rfl) | (refine .inr ⟨by rfl, ?_⟩; with_reducible rfl))
        rotate_left; (intro _ _ _ h9; exact h9)
        try simp only [Act.put, List.setIfInBounds_toArray, List.set_cons_zero, List.set_cons_succ]
        refine wpAnyH_take (i := 2) (oi := ?_) (v := ?_) ?_ (by kernel_rfl) (by kernel_rfl) (by kernel_rfl) ?_ ?_ (by assumption) ?_
        rotate_left 2; (simp only [List.getElem?_toArray, List.getElem?_cons_succ, List.getElem?_cons_zero]; rfl)
        rotate_left; (first | (refine .inl ⟨by rfl, ?_⟩; intro w9 hS9; go_simp; try with_reducible rfl) | (refine .inr ⟨by rfl, ?_⟩; with_reducible rfl))
        rotate_left; (intro _ _ _ h9; exact h9)
        try simp only [Act.put, List.setIfInBounds_toArray, List.set_cons_zero, List.set_cons_succ]
        refine wpAnyH_take (i := 5) (oi := ?_) (v := ?_) ?_ (by kernel_rfl) (by kernel_rfl) (by kernel_rfl) ?_ ?_ (by assumption) ?_
        rotate_left 2; (simp only [List.getElem?_toArray, List.getElem?_cons_succ, List.getElem?_cons_zero]; rfl)
        rotate_left; (first | (refine .inl ⟨by rfl, ?_⟩; intro w9 hS9; go_simp; try with_reducible rfl) | (refine .inr ⟨by rfl, ?_⟩; with_reducible rfl))
        rotate_left; (intro _ _ _ h9; exact h9)
        try simp only [Act.put, List.setIfInBounds_toArray, List.set_cons_zero, List.set_cons_succ]
        refine wpAnyH_ready (rs := [3]) (by kernel_rfl) (by simp) (AllReadyH.cons rfl (fun K9 hK9 => ?_) AllReadyH.nil)
        go_simp
        refine (cf_check A6 (xs.length + 1) c6 (xs ++ [x1]) t0 _ (HRC.out.below hS0)).mono ?_
        rintro e x4 ⟨v4, rfl, he4, hb⟩
        rw [E4.out] at he4
        obtain ⟨ta, ua, rfl⟩ := he4.isErr (by decide)
        have hS1 := below_go hS0 hb
        have H1 := Lib.hid hS1
        refine hK9.out _ _ hS1 (fun _ => ?_)
        clear hS0 hb he4
        refine wpAnyH_take (i := 4) (oi := ?_) (v := ?_) ?_ (by kernel_rfl) (by kernel_rfl) (by kernel_rfl) ?_ ?_ (by assumption) ?_
        rotate_left 2; (simp only [List.getElem?_toArray, List.getElem?_cons_succ, List.getElem?_cons_zero]; rfl)
        rotate_left; (first | (refine .inl ⟨by rfl, ?_⟩; intro w9 hS9; go_simp; try with_reducible rfl) | (refine .inr ⟨by rfl, ?_⟩; with_reducible rfl))
        rotate_left; (intro _ _ _ h9; exact h9)
        try simp only [Act.put, List.setIfInBounds_toArray, List.set_cons_zero, List.set_cons_succ]
        refine wpAnyH_ready (rs := [6]) (by kernel_rfl) (by simp) (AllReadyH.cons rfl (fun K9 hK9 => ?_) AllReadyH.nil)
        go_simp
        refine (cf_check (some ⟨G9, 0, none⟩) 1 1 [x1] t0 _ (HLC.out.below H1.out)).mono ?_
        rintro e x5 ⟨v5, rfl, he5, hb⟩
        rw [E5.out] at he5
        obtain ⟨tb, ub, rfl⟩ := he5.isErr (by decide)
        have hS2 := below_go H1.out hb
        have H2 := Lib.hid hS2
        refine hK9.out _ _ hS2 (fun _ => ?_)
        clear hS1 hb he5
        refine wpAnyH_take (i := 7) (oi := ?_) (v := ?_) ?_ (by kernel_rfl) (by kernel_rfl) (by kernel_rfl) ?_ ?_ (by assumption) ?_
        rotate_left 2; (simp only [List.getElem?_toArray, List.getElem?_cons_succ, List.getElem?_cons_zero]; rfl)
        rotate_left; (first | (refine .inl ⟨by rfl, ?_⟩; intro w9 hS9; go_simp; try with_reducible rfl) | (refine .inr ⟨by rfl, ?_⟩; with_reducible rfl))
        rotate_left; (intro _ _ _ h9; exact h9)
        try simp only [Act.put, List.setIfInBounds_toArray, List.set_cons_zero, List.set_cons_succ]
        refine wpAnyH_take (i := 8) (oi := ?_) (v := ?_) ?_ (by kernel_rfl) (by kernel_rfl) (by kernel_rfl) ?_ ?_ (by assumption) ?_
        rotate_left 2; (simp only [List.getElem?_toArray, List.getElem?_cons_succ, List.getElem?_cons_zero]; rfl)
        rotate_left; (first | (refine .inl ⟨by rfl, ?_⟩; intro w9 hS9; go_simp; try with_reducible rfl) | (refine .inr ⟨by rfl, ?_⟩; with_reducible rfl))
        rotate_left; (intro _ _ _ h9; exact h9)
        try simp only [Act.put, List.setIfInBounds_toArray, List.set_cons_zero, List.set_cons_succ]
        refine wpAnyH_take (i := 9) (oi := ?_) (v := ?_) ?_ (by kernel_rfl) (by kernel_rfl) (by kernel_rfl) ?_ ?_ (by assumption) ?_
        rotate_left 2; (simp only [List.getElem?_toArray, List.getElem?_cons_succ, List.getElem?_cons_zero]; rfl)
        rotate_left; (first | (refine .inl ⟨by rfl, ?_⟩; intro w9 hS9; go_simp; try with_reducible rfl) | (refine .inr ⟨by rfl, ?_⟩; with_reducible rfl))
        rotate_left; (intro _ _ _ h9; exact h9)
        try simp only [Act.put, List.setIfInBounds_toArray, List.set_cons_zero, List.set_cons_succ]
        refine wpAnyH_take (i := 10) (oi := ?_) (v := ?_) ?_ (by kernel_rfl) (by kernel_rfl) (by kernel_rfl) ?_ ?_ (by assumption) ?_
        rotate_left 2; (simp only [List.getElem?_toArray, List.getElem?_cons_succ, List.getElem?_cons_zero]; rfl)
        rotate_left; (first | (refine .inl ⟨by rfl, ?_⟩; intro w9 hS9; go_simp; try with_reducible rfl) | (refine .inr ⟨by rfl, ?_⟩; with_reducible rfl))
        rotate_left; (intro _ _ _ h9; exact h9)
        try simp only [Act.put, List.setIfInBounds_toArray, List.set_cons_zero, List.set_cons_succ]
        refine wpAnyH_take (i := 11) (oi := ?_) (v := ?_) ?_ (by kernel_rfl) (by kernel_rfl) (by kernel_rfl) ?_ ?_ (by assumption) ?_
        rotate_left 2; (simp only [List.getElem?_toArray, List.getElem?_cons_succ, List.getElem?_cons_zero]; rfl)
        rotate_left; (first | (refine .inl ⟨by rfl, ?_⟩; intro w9 hS9; go_simp; try with_reducible rfl) | (refine .inr ⟨by rfl, ?_⟩; with_reducible rfl))
        rotate_left; (intro _ _ _ h9; exact h9)
        try simp only [Act.put, List.setIfInBounds_toArray, List.set_cons_zero, List.set_cons_succ]
        refine wpAnyH_take (i := 12) (oi := ?_) (v := ?_) ?_ (by kernel_rfl) (by kernel_rfl) (by kernel_rfl) ?_ ?_ (by assumption) ?_
        rotate_left 2; (simp only [List.getElem?_toArray, List.getElem?_cons_succ, List.getElem?_cons_zero]; rfl)
        rotate_left; (first | (refine .inl ⟨by rfl, ?_⟩; intro w9 hS9; go_simp; try with_reducible rfl) | (refine .inr ⟨by rfl, ?_⟩; with_reducible rfl))
        rotate_left; (intro _ _ _ h9; exact h9)
        try simp only [Act.put, List.setIfInBounds_toArray, List.set_cons_zero, List.set_cons_succ]
        refine wpAnyH_take (i := 13) (oi := ?_) (v := ?_) ?_ (by kernel_rfl) (by kernel_rfl) (by kernel_rfl) ?_ ?_ (by assumption) ?_
        rotate_left 2; (simp only [List.getElem?_toArray, List.getElem?_cons_succ, List.getElem?_cons_zero]; rfl)
        rotate_left; (first | (refine .inl ⟨by rfl, ?_⟩; intro w9 hS9; go_simp; try with_reducible rfl) | (refine .inr ⟨by rfl, ?_⟩; with_reducible rfl))
        rotate_left; (intro _ _ _ h9; exact h9)
        try simp only [Act.put, List.setIfInBounds_toArray, List.set_cons_zero, List.set_cons_succ]
        refine wpAnyH_take (i := 14) (oi := ?_) (v := ?_) ?_ (by kernel_rfl) (by kernel_rfl) (by kernel_rfl) ?_ ?_ (by assumption) ?_
        rotate_left 2; (simp only [List.getElem?_toArray, List.getElem?_cons_succ, List.getElem?_cons_zero]; rfl)
        rotate_left; (first | (refine .inl ⟨by rfl, ?_⟩; intro w9 hS9; go_simp; try with_reducible rfl) | (refine .inr ⟨by rfl, ?_⟩; with_reducible rfl))
        rotate_left; (intro _ _ _ h9; exact h9)
        try simp only [Act.put, List.setIfInBounds_toArray, List.set_cons_zero, List.set_cons_succ]
        refine wpAnyH_take (i := 15) (oi := ?_) (v := ?_) ?_ (by kernel_rfl) (by kernel_rfl) (by kernel_rfl) ?_ ?_ (by assumption) ?_
        rotate_left 2; (simp only [List.getElem?_toArray, List.getElem?_cons_succ, List.getElem?_cons_zero]; rfl)
        rotate_left; (first | (refine .inl ⟨by rfl, ?_⟩; intro w9 hS9; go_simp; try with_reducible rfl) | (refine .inr ⟨by rfl, ?_⟩; with_reducible rfl))
        rotate_left; (intro _ _ _ h9; exact h9)
        try simp only [Act.put, List.setIfInBounds_toArray, List.set_cons_zero, List.set_cons_succ]
        refine wpAnyH_take (i := 16) (oi := ?_) (v := ?_) ?_ (by kernel_rfl) (by kernel_rfl) (by kernel_rfl) ?_ ?_ (by assumption) ?_
        rotate_left 2; (simp only [List.getElem?_toArray, List.getElem?_cons_succ, List.getElem?_cons_zero]; rfl)
        rotate_left; (first | (refine .inl ⟨by rfl, ?_⟩; intro w9 hS9; go_simp; try with_reducible rfl) | (refine .inr ⟨by rfl, ?_⟩; with_reducible rfl))
        rotate_left; (intro _ _ _ h9; exact h9)
        try simp only [Act.put, List.setIfInBounds_toArray, List.set_cons_zero, List.set_cons_succ]
        refine wpAnyH_done (by kernel_rfl) ?_ _
        clear hS2
        clear p0 p1 p2 p3 p4 p5 p6 p7 p8 p9 pa
        clear q0 q1 q2 q3 q4 q5 q6 q7 q8 q9 qa
        clear r0
        go_wp2_with fail
        go_ret
        exact ⟨by first | rfl | simp, below_go HW.out H2.out⟩
    exact AllReadyH.nil
  refine AllReadyH.cons rfl (fun K9 hK9 => ?_) ?_
  · go_simp
    have hS1 := hS0.alloc HA1.out (.cells #[.int .i64 x1.strike, .int .i64 x1.signal, .int .i64 x1.s0, .int .i64 x1.s1, .int .i64 x1.s2] 48)
    refine hK9.out _ _ hS1 (fun _ => ?_)
    have HL1 := Lib.hid (ln_re_new y x1)
    have HB1 := Lib.hid ((Below.refl (x2.heap.size + 1) y).alloc HA2.out (.cells #[.int .i64 x1.strike, .int .i64 x1.signal, .int .i64 x1.s0, .int .i64 x1.s1, .int .i64 x1.s2] 48))
    have HZ1 := Lib.hid (show (y.alloc (.cells #[.int .i64 x1.strike, .int .i64 x1.signal, .int .i64 x1.s0, .int .i64 x1.s1, .int .i64 x1.s2] 48)).heap.size = y.heap.size + 1 by simp)
    generalize y.alloc (.cells #[.int .i64 x1.strike, .int .i64 x1.signal, .int .i64 x1.s0, .int .i64 x1.s1, .int .i64 x1.s2] 48) = y1 at *
    clear hS0
    refine wpAnyH_ready (rs := [0]) (by kernel_rfl) (by simp) (AllReadyH.cons rfl (fun K9 hK9 => ?_) AllReadyH.nil)
    go_simp
    have hS2 := hS1.alloc hS1.size (.cells #[] 48)
    refine hK9.out _ _ hS2 (fun _ => ?_)
    have HO2 := Lib.hid (ln_own0 y1)
    have HL2 := Lib.hid (HL1.out.below (below_st y1 (.cells #[] 48)))
    have HB2 := Lib.hid (HB1.out.alloc (by have := HB1.out.size; have := HSZ.out; omega) (.cells #[] 48))
    have HZ2 := Lib.hid (show (y1.alloc (.cells #[] 48)).heap.size = y1.heap.size + 1 by simp)
    generalize y1.alloc (.cells #[] 48) = y2 at *
    clear hS1
    have RY2 := Lib.hid (RX.out.below hS2)
    refine wpAnyH_ready (rs := [3]) (by kernel_rfl) (by simp) (AllReadyH.cons (o := ?_) ?_ (fun K9 hK9 => ?_) AllReadyH.nil)
    rotate_left; (simp only [List.getElem?_toArray, List.getElem?_cons_succ, List.getElem?_cons_zero]; rfl)
    rw [if_pos (by rfl)]
    refine wp_append_fr lnT lnc_len lnc_one _ _ rfl _ [] rfl HO2.out a0 len0 cap0 xs rfl RY2.out (by have := RX.out.len; simp; omega) (by have := RX.out.len; simp; omega) (fun v3 w3 hown3 hg3 hf3 => ?_)
    simp only [Act.put, List.setIfInBounds_toArray, List.set_cons_zero, List.set_cons_succ, List.nil_append] at hown3 ⊢
    have hS3 : Below x2.heap.size x2 w3 := hS2.grown hg3 (Nat.le_trans (by omega) hS2.size) (fun k e => by have e := blk0 e; have := HZ1.out; have := HSZ.out; omega)
    refine hK9.out _ _ hS3 (fun _ => ?_)
    have HLS := Lib.hid (show LS x2.heap.size y w3 v3 y.heap.size xs x1 from
      ⟨hown3, HL2.out.fr (Fr.ofGrown hg3) (fun _ b off e e2 => by cases e; have e2 := blk0 e2.symm; have := HZ1.out; omega), fun g hg => by
        rcases hf3 g hg with h | h
        · have h := blk0 h; have := HZ1.out; have := HSZ.out; omega
        · have := HZ2.out; have := HZ1.out; have := HSZ.out; omega, by have := HSZ.out; omega, HB2.out.grown hg3 (by have := HB2.out.size; have := HSZ.out; omega) (fun k e => by have e := blk0 e; have := HZ1.out; have := HSZ.out; omega)⟩)
    clear hS2 hg3 hf3 hown3
    refine wpAnyH_ready (rs := [6]) (by kernel_rfl) (by simp) (AllReadyH.cons (o := ?_) ?_ (fun K9 hK9 => ?_) AllReadyH.nil)
    rotate_left; (simp only [List.getElem?_toArray, List.getElem?_cons_succ, List.getElem?_cons_zero]; rfl)
    rw [if_pos (by rfl)]
    refine wp_append_fr lnT lnc_len lnc_one _ _ rfl v3 xs rfl HLS.out.own _ 1 1 [x1] rfl HLS.out.lit (by have := RX.out.len; simp; omega) (by have := RX.out.len; simp; omega) (fun v6 w6 hown6 hg6 hf6 => ?_)
    simp only [Act.put, List.setIfInBounds_toArray, List.set_cons_zero, List.set_cons_succ]
    have hS6 := hS3.grown hg6 (Nat.le_trans (by omega) hS3.size) (fun k e => by have := HLS.out.far k e; omega)
    refine hK9.out _ _ hS6 (fun _ => ?_)
    clear hS3
    have hcf6 : CfBox w6 x2.heap.size a0 len0 cap0 t0 := (hg6.block _ (by have := HLS.out.lfar; have := HLS.out.bel.size; have := HSZ.out; omega) (fun e => by have := HLS.out.far _ e.symm; omega)).trans ((HLS.out.bel.block _ (Nat.lt_succ_self _)).trans HN.out)
    obtain ⟨A6, c6, rfl, hre6, hob6, _⟩ := hown6.re (by have := RX.out.len; simp; omega)
    obtain ⟨n0, _, _, _, _, _, _, _, _, _, _, nf⟩ := cf_cell_all hcf6
    have HC6 := Lib.hid hcf6
    have HR6 := Lib.hid hre6
    have HF6 := Lib.hid (show ∀ b off, A6 = some ⟨b, off, none⟩ → x2.heap.size < b from fun b off e => by
      rcases hf6 b (by rw [hob6, e]; rfl) with h | h
      · exact HLS.out.far _ h
      · have := HLS.out.lfar; have := HLS.out.bel.size; have := HSZ.out; omega)
    clear hown6 hg6 hf6 hcf6 hre6 hob6
    refine wpAnyH_take (i := 7) (oi := ?_) (v := ?_) ?_ (by kernel_rfl) (by kernel_rfl) (by kernel_rfl) ?_ ?_ (by assumption) ?_
    rotate_left 2; (simp only [List.getElem?_toArray, List.getElem?_cons_succ, List.getElem?_cons_zero]; rfl)
    rotate_left; (first | (refine .inl ⟨by rfl, ?_⟩; intro w9 hS9; go_simp; try with_reducible rfl) | (refine .inr ⟨by rfl, ?_⟩; with_reducible rfl))
    rotate_left; (intro _ _ _ h9; exact h9)
    try simp only [Act.put, List.setIfInBounds_toArray, List.set_cons_zero, List.set_cons_succ]
    refine wpAnyH_ready (rs := [8]) (by kernel_rfl) (by simp) (AllReadyH.cons rfl (fun K9 hK9 => ?_) AllReadyH.nil)
    go_simp
    have hS8 := hS6.setCell (p := ⟨x2.heap.size, 0, none⟩) (Nat.le_refl _) (.slice A6 (xs.length + 1) c6)
    refine hK9.out _ _ hS8 (fun _ => ?_)
    clear hS6
    have HS8 := Lib.hid hS8
    have HC8 := Lib.hid (show CfBox (w6.setCell ⟨x2.heap.size, 0, none⟩ (.slice A6 (xs.length + 1) c6)) x2.heap.size A6 (xs.length + 1) c6 t0 from cf_set0 HC6.out)
    have HR8 := Lib.hid (show RLn (w6.setCell ⟨x2.heap.size, 0, none⟩ (.slice A6 (xs.length + 1) c6)) A6 (xs.length + 1) c6 (xs ++ [x1]) from RE.fr (show RLn w6 A6 (xs.length + 1) c6 (xs ++ [x1]) by have h := HR6.out; rwa [List.length_append] at h) (fr_setCell (F := fun i => i = x2.heap.size) _ _ rfl) (fun _ b off e e2 => by have := HF6.out b off e; omega))
    generalize w6.setCell _ _ = w8 at *
    clear hS8 n0 nf l0 l1 l2 l3 l4
    clear p0 p1 p2 p3 p4 p5 p6 p7 p8 p9 pa
    refine wpAnyH_done (by kernel_rfl) ?_ _
    obtain ⟨p0, p1, p2, p3, p4, p5, p6, p7, p8, p9, pa, pf⟩ := cf_cell_all (CfBox.below HA.out HS8.out)
    have HN9 := Lib.hid (show CfBox (w8.alloc (.cells (cfa a0 len0 cap0 t0) 26)) w8.heap.size a0 len0 cap0 t0 from heap_alloc_new w8 _)
    have HB9 := Lib.hid (below_st w8 (.cells (cfa a0 len0 cap0 t0) 26))
    have HZ9 := Lib.hid (show (w8.alloc (.cells (cfa a0 len0 cap0 t0) 26)).heap.size = w8.heap.size + 1 by simp)
    go_upto_region 7 with fail
    change Code.wp _ _ _ _ (w8.alloc (.cells (cfa a0 len0 cap0 t0) 26))
    generalize w8.alloc (.cells (cfa a0 len0 cap0 t0) 26) = w9 at *
    clear p0 p1 p2 p3 p4 p5 p6 p7 p8 p9 pa
    clear pf
    have HLB := Lib.hid (blk_below (blk_below HB.out HS8.out) HB9.out)
    obtain ⟨l0, l1, l2, l3, l4⟩ := LnBlk.cells HLB.out w9 (Below.refl _ _)
    have HNA := Lib.hid (CfBox.below HN9.out (below_st w9 (.cells #[.int .i64 x1.strike, .int .i64 x1.signal, .int .i64 x1.s0, .int .i64 x1.s1, .int .i64 x1.s2] 48)))
    obtain ⟨n0, _, _, _, _, _, _, _, _, _, _, nf⟩ := cf_cell_all HNA.out
    have HBA := Lib.hid (below_go HB9.out (below_st w9 (.cells #[.int .i64 x1.strike, .int .i64 x1.signal, .int .i64 x1.s0, .int .i64 x1.s1, .int .i64 x1.s2] 48)))
    have HLA := Lib.hid (ln_re_new w9 x1)
    go_upto_region 8 with fail
    have HNC := Lib.hid (show CfBox ((w9.alloc (.cells #[.int .i64 x1.strike, .int .i64 x1.signal, .int .i64 x1.s0, .int .i64 x1.s1, .int .i64 x1.s2] 48)).setCell ⟨w8.heap.size, 0, none⟩ (.slice (some ⟨w9.heap.size, 0, none⟩) 1 1)) w8.heap.size (some ⟨w9.heap.size, 0, none⟩) 1 1 t0 from cf_set0 HNA.out)
    have HLC := Lib.hid (RE.fr HLA.out (fr_setCell (F := fun i => i = w8.heap.size) ⟨w8.heap.size, 0, none⟩ (.slice (some ⟨w9.heap.size, 0, none⟩) 1 1) rfl) (fun _ b off e e2 => by cases e; have := HZ9.out; omega))
    have HBC := Lib.hid (HBA.out.setCell (p := ⟨w8.heap.size, 0, none⟩) (Nat.le_refl _) (.slice (some ⟨w9.heap.size, 0, none⟩) 1 1))
    generalize (w9.alloc _).setCell _ _ = wt at *
    clear l0 l1 l2 l3 l4 n0 nf
    have HRC := Lib.hid (HR8.out.below HBC.out)
    have HCC := Lib.hid (CfBox.below HC8.out HBC.out)
    have HAC := Lib.hid (CfBox.below (CfBox.below HA.out HS8.out) HBC.out)
    have HW := Lib.hid (below_go (below_go B2.out HS8.out) HBC.out)
    generalize w9.heap.size = G9 at *
    clear HLA HNA HBA HZ9 HB9 HN9
    have hS0 : Below wt.heap.size wt wt.drew := ⟨rfl, rfl, rfl, Nat.le_refl _, fun _ _ => rfl⟩
    obtain ⟨p0, p1, p2, p3, p4, p5, p6, p7, p8, p9, pa⟩ := cf_fun HCC.out
    obtain ⟨q0, q1, q2, q3, q4, q5, q6, q7, q8, q9, qa⟩ := cf_fun HNC.out
    obtain ⟨r0, _⟩ := cf_fun HAC.out
    have hlen := RX.out.len
    have hlo := lines_ok xs x1 t0 k0
    rw [hlen] at hlo
    by_cases k1 : cfOk [x1] t0 = true
    · by_cases h8 : (len0 : Int) < 8
      · rw [k1, decide_eq_true h8] at hlo
        have E4 := Lib.hid (cfErr_ok hlo)
        have E5 := Lib.hid (cfErr_ok k1)
        clear hlo k1 hlen
        refine wp_region_held (S := fun w' => Below wt.heap.size wt w') (by kernel_rfl) ?_
        change wpAnyH _ _ _ _ _ _ _ _ wt.drew
        change wpAnyH _ _ _ _ _ 17 (Array.replicate 17 false) _ _
        refine wpAnyH_take (i := 0) (oi := ?_) (v := ?_) ?_ (by kernel_rfl) (by kernel_rfl) (by kernel_rfl) ?_ ?_ (by assumption) ?_
        rotate_left 2; (simp only [List.getElem?_toArray, List.getElem?_cons_succ, List.getElem?_cons_zero]; rfl)
        rotate_left; (first | (refine .inl ⟨by rfl, ?_⟩; intro w9 hS9; go_simp; try with_reducible rfl) | (refine .inr ⟨by rfl, ?_⟩; with_reducible rfl))
        rotate_left; (intro _ _ _ h9; exact h9)
        try simp only [Act.put, List.setIfInBounds_toArray, List.set_cons_zero, List.set_cons_succ]
        refine wpAnyH_take (i := 1) (oi := ?_) (v := ?_) ?_ (by kernel_rfl) (by kernel_rfl) (by kernel_rfl) ?_ ?_ (by assumption) ?_
        rotate_left 2; (simp only [List.getElem?_toArray, List.getElem?_cons_succ, List.getElem?_cons_zero]; rfl)
        rotate_left; (first | (refine .inl ⟨by rfl, ?_⟩; intro w9 hS9; go_simp; try with_reducible rfl) | (refine .inr ⟨by rfl, ?_⟩; with_reducible rfl))
        rotate_left; (intro _ _ _ h9; exact h9)
        try simp only [Act.put, List.setIfInBounds_toArray, List.set_cons_zero, List.set_cons_succ]
        refine wpAnyH_take (i := 2) (oi := ?_) (v := ?_) ?_ (by kernel_rfl) (by kernel_rfl) (by kernel_rfl) ?_ ?_ (by assumption) ?_
        rotate_left 2; (simp only [List.getElem?_toArray, List.getElem?_cons_succ, List.getElem?_cons_zero]; rfl)
        rotate_left; (first | (refine .inl ⟨by rfl, ?_⟩; intro w9 hS9; go_simp; try with_reducible rfl) | (refine .inr ⟨by rfl, ?_⟩; with_reducible rfl))
        rotate_left; (intro _ _ _ h9; exact h9)
        try simp only [Act.put, List.setIfInBounds_toArray, List.set_cons_zero, List.set_cons_succ]
        refine wpAnyH_take (i := 5) (oi := ?_) (v := ?_) ?_ (by kernel_rfl) (by kernel_rfl) (by kernel_rfl) ?_ ?_ (by assumption) ?_
        rotate_left 2; (simp only [List.getElem?_toArray, List.getElem?_cons_succ, List.getElem?_cons_zero]; rfl)
        rotate_left; (first | (refine .inl ⟨by rfl, ?_⟩; intro w9 hS9; go_simp; try with_reducible rfl) | (refine .inr ⟨by rfl, ?_⟩; with_reducible rfl))
        rotate_left; (intro _ _ _ h9; exact h9)
        try simp only [Act.put, List.setIfInBounds_toArray, List.set_cons_zero, List.set_cons_succ]
        refine wpAnyH_ready (rs := [3]) (by kernel_rfl) (by simp) (AllReadyH.cons rfl (fun K9 hK9 => ?_) AllReadyH.nil)
        go_simp
        refine (cf_check A6 (xs.length + 1) c6 (xs ++ [x1]) t0 _ (HRC.out.below hS0)).mono ?_
        rintro e x4 ⟨v4, rfl, he4, hb⟩
        rw [E4.out] at he4
        obtain rfl := he4.isNil
        have hS1 := below_go hS0 hb
        have H1 := Lib.hid hS1
        refine hK9.out _ _ hS1 (fun _ => ?_)
        clear hS0 hb he4
        refine wpAnyH_take (i := 4) (oi := ?_) (v := ?_) ?_ (by kernel_rfl) (by kernel_rfl) (by kernel_rfl) ?_ ?_ (by assumption) ?_
        rotate_left 2; (simp only [List.getElem?_toArray, List.getElem?_cons_succ, List.getElem?_cons_zero]; rfl)
        rotate_left; (first | (refine .inl ⟨by rfl, ?_⟩; intro w9 hS9; go_simp; try with_reducible rfl) | (refine .inr ⟨by rfl, ?_⟩; with_reducible rfl))
        rotate_left; (intro _ _ _ h9; exact h9)
        try simp only [Act.put, List.setIfInBounds_toArray, List.set_cons_zero, List.set_cons_succ]
        refine wpAnyH_ready (rs := [6]) (by kernel_rfl) (by simp) (AllReadyH.cons rfl (fun K9 hK9 => ?_) AllReadyH.nil)
        go_simp
        refine (cf_check (some ⟨G9, 0, none⟩) 1 1 [x1] t0 _ (HLC.out.below H1.out)).mono ?_
        rintro e x5 ⟨v5, rfl, he5, hb⟩
        rw [E5.out] at he5
        obtain rfl := he5.isNil
        have hS2 := below_go H1.out hb
        have H2 := Lib.hid hS2
        refine hK9.out _ _ hS2 (fun _ => ?_)
        clear hS1 hb he5
        refine wpAnyH_take (i := 7) (oi := ?_) (v := ?_) ?_ (by kernel_rfl) (by kernel_rfl) (by kernel_rfl) ?_ ?_ (by assumption) ?_
        rotate_left 2; (simp only [List.getElem?_toArray, List.getElem?_cons_succ, List.getElem?_cons_zero]; rfl)
        rotate_left; (first | (refine .inl ⟨by rfl, ?_⟩; intro w9 hS9; go_simp; try with_reducible rfl) | (refine .inr ⟨by rfl, ?_⟩; with_reducible rfl))
        rotate_left; (intro _ _ _ h9; exact h9)
        try simp only [Act.put, List.setIfInBounds_toArray, List.set_cons_zero, List.set_cons_succ]
        refine wpAnyH_take (i := 8) (oi := ?_) (v := ?_) ?_ (by kernel_rfl) (by kernel_rfl) (by kernel_rfl) ?_ ?_ (by assumption) ?_
        rotate_left 2; (simp only [List.getElem?_toArray, List.getElem?_cons_succ, List.getElem?_cons_zero]; rfl)
        rotate_left; (first | (refine .inl ⟨by rfl, ?_⟩; intro w9 hS9; go_simp; try with_reducible rfl) | (refine .inr ⟨by rfl, ?_⟩; with_reducible rfl))
        rotate_left; (intro _ _ _ h9; exact h9)
        try simp only [Act.put, List.setIfInBounds_toArray, List.set_cons_zero, List.set_cons_succ]
        refine wpAnyH_take (i := 9) (oi := ?_) (v := ?_) ?_ (by kernel_rfl) (by kernel_rfl) (by kernel_rfl) ?_ ?_ (by assumption) ?_
        rotate_left 2; (simp only [List.getElem?_toArray, List.getElem?_cons_succ, List.getElem?_cons_zero]; rfl)
        rotate_left; (first | (refine .inl ⟨by rfl, ?_⟩; intro w9 hS9; go_simp; try with_reducible rfl) | (refine .inr ⟨by rfl, ?_⟩; with_reducible rfl))
        rotate_left; (intro _ _ _ h9; exact h9)
        try simp only [Act.put, List.setIfInBounds_toArray, List.set_cons_zero, List.set_cons_succ]
        refine wpAnyH_take (i := 10) (oi := ?_) (v := ?_) ?_ (by kernel_rfl) (by kernel_rfl) (by kernel_rfl) ?_ ?_ (by assumption) ?_
        rotate_left 2; (simp only [List.getElem?_toArray, List.getElem?_cons_succ, List.getElem?_cons_zero]; rfl)
        rotate_left; (first | (refine .inl ⟨by rfl, ?_⟩; intro w9 hS9; go_simp; try with_reducible rfl) | (refine .inr ⟨by rfl, ?_⟩; with_reducible rfl))
        rotate_left; (intro _ _ _ h9; exact h9)
        try simp only [Act.put, List.setIfInBounds_toArray, List.set_cons_zero, List.set_cons_succ]
        refine wpAnyH_take (i := 11) (oi := ?_) (v := ?_) ?_ (by kernel_rfl) (by kernel_rfl) (by kernel_rfl) ?_ ?_ (by assumption) ?_
        rotate_left 2; (simp only [List.getElem?_toArray, List.getElem?_cons_succ, List.getElem?_cons_zero]; rfl)
        rotate_left; (first | (refine .inl ⟨by rfl, ?_⟩; intro w9 hS9; go_simp; try with_reducible rfl) | (refine .inr ⟨by rfl, ?_⟩; with_reducible rfl))
        rotate_left; (intro _ _ _ h9; exact h9)
        try simp only [Act.put, List.setIfInBounds_toArray, List.set_cons_zero, List.set_cons_succ]
        refine wpAnyH_take (i := 12) (oi := ?_) (v := ?_) ?_ (by kernel_rfl) (by kernel_rfl) (by kernel_rfl) ?_ ?_ (by assumption) ?_
        rotate_left 2; (simp only [List.getElem?_toArray, List.getElem?_cons_succ, List.getElem?_cons_zero]; rfl)
        rotate_left; (first | (refine .inl ⟨by rfl, ?_⟩; intro w9 hS9; go_simp; try with_reducible rfl) | (refine .inr ⟨by rfl, ?_⟩; with_reducible rfl))
        rotate_left; (intro _ _ _ h9; exact h9)
        try simp only [Act.put, List.setIfInBounds_toArray, List.set_cons_zero, List.set_cons_succ]
        refine wpAnyH_take (i := 13) (oi := ?_) (v := ?_) ?_ (by kernel_rfl) (by kernel_rfl) (by kernel_rfl) ?_ ?_ (by assumption) ?_
        rotate_left 2; (simp only [List.getElem?_toArray, List.getElem?_cons_succ, List.getElem?_cons_zero]; rfl)
        rotate_left; (first | (refine .inl ⟨by rfl, ?_⟩; intro w9 hS9; go_simp; try with_reducible rfl) | (refine .inr ⟨by rfl, ?_⟩; with_reducible rfl))
        rotate_left; (intro _ _ _ h9; exact h9)
        try simp only [Act.put, List.setIfInBounds_toArray, List.set_cons_zero, List.set_cons_succ]
        refine wpAnyH_take (i := 14) (oi := ?_) (v := ?_) ?_ (by kernel_rfl) (by kernel_rfl) (by kernel_rfl) ?_ ?_ (by assumption) ?_
        rotate_left 2; (simp only [List.getElem?_toArray, List.getElem?_cons_succ, List.getElem?_cons_zero]; rfl)
        rotate_left; (first | (refine .inl ⟨by rfl, ?_⟩; intro w9 hS9; go_simp; try with_reducible rfl) | (refine .inr ⟨by rfl, ?_⟩; with_reducible rfl))
        rotate_left; (intro _ _ _ h9; exact h9)
        try simp only [Act.put, List.setIfInBounds_toArray, List.set_cons_zero, List.set_cons_succ]
        refine wpAnyH_take (i := 15) (oi := ?_) (v := ?_) ?_ (by kernel_rfl) (by kernel_rfl) (by kernel_rfl) ?_ ?_ (by assumption) ?_
        rotate_left 2; (simp only [List.getElem?_toArray, List.getElem?_cons_succ, List.getElem?_cons_zero]; rfl)
        rotate_left; (first | (refine .inl ⟨by rfl, ?_⟩; intro w9 hS9; go_simp; try with_reducible rfl) | (refine .inr ⟨by rfl, ?_⟩; with_reducible rfl))
        rotate_left; (intro _ _ _ h9; exact h9)
        try simp only [Act.put, List.setIfInBounds_toArray, List.set_cons_zero, List.set_cons_succ]
        refine wpAnyH_take (i := 16) (oi := ?_) (v := ?_) ?_ (by kernel_rfl) (by kernel_rfl) (by kernel_rfl) ?_ ?_ (by assumption) ?_
        rotate_left 2; (simp only [List.getElem?_toArray, List.getElem?_cons_succ, List.getElem?_cons_zero]; rfl)
        rotate_left; (first | (refine .inl ⟨by rfl, ?_⟩; intro w9 hS9; go_simp; try with_reducible rfl) | (refine .inr ⟨by rfl, ?_⟩; with_reducible rfl))
        rotate_left; (intro _ _ _ h9; exact h9)
        try simp only [Act.put, List.setIfInBounds_toArray, List.set_cons_zero, List.set_cons_succ]
        refine wpAnyH_done (by kernel_rfl) ?_ _
        clear hS2
        clear p0 p1 p2 p3 p4 p5 p6 p7 p8 p9 pa
        clear q0 q1 q2 q3 q4 q5 q6 q7 q8 q9 qa
        clear r0
        go_wp2_with fail
        go_ret
        exact ⟨by first | rfl | simp, below_go HW.out H2.out⟩
      · rw [k1, decide_eq_false h8] at hlo
        have E4 := Lib.hid (cfErr_no (by rw [hlo]; decide))
        have E5 := Lib.hid (cfErr_ok k1)
        clear hlo k1 hlen
        refine wp_region_held (S := fun w' => Below wt.heap.size wt w') (by kernel_rfl) ?_
        change wpAnyH _ _ _ _ _ _ _ _ wt.drew
        change wpAnyH _ _ _ _ _ 17 (Array.replicate 17 false) _ _
        refine wpAnyH_take (i := 0) (oi := ?_) (v := ?_) ?_ (by kernel_rfl) (by kernel_rfl) (by kernel_rfl) ?_ ?_ (by assumption) ?_
        rotate_left 2; (simp only [List.getElem?_toArray, List.getElem?_cons_succ, List.getElem?_cons_zero]; rfl)
        rotate_left; (first | (refine .inl ⟨by rfl, ?_⟩; intro w9 hS9; go_simp; try with_reducible rfl) | (refine .inr ⟨by rfl, ?_⟩; with_reducible rfl))
        rotate_left; (intro _ _ _ h9; exact h9)
        try simp only [Act.put, List.setIfInBounds_toArray, List.set_cons_zero, List.set_cons_succ]
        refine wpAnyH_take (i := 1) (oi := ?_) (v := ?_) ?_ (by kernel_rfl) (by kernel_rfl) (by kernel_rfl) ?_ ?_ (by assumption) ?_
        rotate_left 2; (simp only [List.getElem?_toArray, List.getElem?_cons_succ, List.getElem?_cons_zero]; rfl)
        rotate_left; (first | (refine .inl ⟨by rfl, ?_⟩; intro w9 hS9; go_simp; try with_reducible rfl) | (refine .inr ⟨by rfl, ?_⟩; with_reducible rfl))
        rotate_left; (intro _ _ _ h9; exact h9)
        try simp only [Act.put, List.setIfInBounds_toArray, List.set_cons_zero, List.set_cons_succ]
        refine wpAnyH_take (i := 2) (oi := ?_) (v := ?_) ?_ (by kernel_rfl) (by kernel_rfl) (by kernel_rfl) ?_ ?_ (by assumption) ?_
        rotate_left 2; (simp only [List.getElem?_toArray, List.getElem?_cons_succ, List.getElem?_cons_zero]; rfl)
        rotate_left; (first | (refine .inl ⟨by rfl, ?_⟩; intro w9 hS9; go_simp; try with_reducible rfl) | (refine .inr ⟨by rfl, ?_⟩; with_reducible rfl))
        rotate_left; (intro _ _ _ h9; exact h9)
        try simp only [Act.put, List.setIfInBounds_toArray, List.set_cons_zero, List.set_cons_succ]
        refine wpAnyH_take (i := 5) (oi := ?_) (v := ?_) ?_ (by kernel_rfl) (by kernel_rfl) (by kernel_rfl) ?_ ?_ (by assumption) ?_
        rotate_left 2; (simp only [List.getElem?_toArray, List.getElem?_cons_succ, List.getElem?_cons_zero]; rfl)
        rotate_left; (first | (refine .inl ⟨by rfl, ?_⟩; intro w9 hS9; go_simp; try with_reducible rfl) | (refine .inr ⟨by rfl, ?_⟩; with_reducible rfl))
        rotate_left; (intro _ _ _ h9; exact h9)
        try simp only [Act.put, List.setIfInBounds_toArray, List.set_cons_zero, List.set_cons_succ]
        refine wpAnyH_ready (rs := [3]) (by kernel_rfl) (by simp) (AllReadyH.cons rfl (fun K9 hK9 => ?_) AllReadyH.nil)
        go_simp
        refine (cf_check A6 (xs.length + 1) c6 (xs ++ [x1]) t0 _ (HRC.out.below hS0)).mono ?_
        rintro e x4 ⟨v4, rfl, he4, hb⟩
        rw [E4.out] at he4
        obtain ⟨ta, ua, rfl⟩ := he4.isErr (by decide)
        have hS1 := below_go hS0 hb
        have H1 := Lib.hid hS1
        refine hK9.out _ _ hS1 (fun _ => ?_)
        clear hS0 hb he4
        refine wpAnyH_take (i := 4) (oi := ?_) (v := ?_) ?_ (by kernel_rfl) (by kernel_rfl) (by kernel_rfl) ?_ ?_ (by assumption) ?_
        rotate_left 2; (simp only [List.getElem?_toArray, List.getElem?_cons_succ, List.getElem?_cons_zero]; rfl)
        rotate_left; (first | (refine .inl ⟨by rfl, ?_⟩; intro w9 hS9; go_simp; try with_reducible rfl) | (refine .inr ⟨by rfl, ?_⟩; with_reducible rfl))
        rotate_left; (intro _ _ _ h9; exact h9)
        try simp only [Act.put, List.setIfInBounds_toArray, List.set_cons_zero, List.set_cons_succ]
        refine wpAnyH_ready (rs := [6]) (by kernel_rfl) (by simp) (AllReadyH.cons rfl (fun K9 hK9 => ?_) AllReadyH.nil)
        go_simp
        refine (cf_check (some ⟨G9, 0, none⟩) 1 1 [x1] t0 _ (HLC.out.below H1.out)).mono ?_
        rintro e x5 ⟨v5, rfl, he5, hb⟩
        rw [E5.out] at he5
        obtain rfl := he5.isNil
        have hS2 := below_go H1.out hb
        have H2 := Lib.hid hS2
        refine hK9.out _ _ hS2 (fun _ => ?_)
        clear hS1 hb he5
        refine wpAnyH_take (i := 7) (oi := ?_) (v := ?_) ?_ (by kernel_rfl) (by kernel_rfl) (by kernel_rfl) ?_ ?_ (by assumption) ?_
        rotate_left 2; (simp only [List.getElem?_toArray, List.getElem?_cons_succ, List.getElem?_cons_zero]; rfl)
        rotate_left; (first | (refine .inl ⟨by rfl, ?_⟩; intro w9 hS9; go_simp; try with_reducible rfl) | (refine .inr ⟨by rfl, ?_⟩; with_reducible rfl))
        rotate_left; (intro _ _ _ h9; exact h9)
        try simp only [Act.put, List.setIfInBounds_toArray, List.set_cons_zero, List.set_cons_succ]
        refine wpAnyH_take (i := 8) (oi := ?_) (v := ?_) ?_ (by kernel_rfl) (by kernel_rfl) (by kernel_rfl) ?_ ?_ (by assumption) ?_
        rotate_left 2; (simp only [List.getElem?_toArray, List.getElem?_cons_succ, List.getElem?_cons_zero]; rfl)
        rotate_left; (first | (refine .inl ⟨by rfl, ?_⟩; intro w9 hS9; go_simp; try with_reducible rfl) | (refine .inr ⟨by rfl, ?_⟩; with_reducible rfl))
        rotate_left; (intro _ _ _ h9; exact h9)
        try simp only [Act.put, List.setIfInBounds_toArray, List.set_cons_zero, List.set_cons_succ]
        refine wpAnyH_take (i := 9) (oi := ?_) (v := ?_) ?_ (by kernel_rfl) (by kernel_rfl) (by kernel_rfl) ?_ ?_ (by assumption) ?_
        rotate_left 2; (simp only [List.getElem?_toArray, List.getElem?_cons_succ, List.getElem?_cons_zero]; rfl)
        rotate_left; (first | (refine .inl ⟨by rfl, ?_⟩; intro w9 hS9; go_simp; try with_reducible rfl) | (refine .inr ⟨by rfl, ?_⟩; with_reducible rfl))
        rotate_left; (intro _ _ _ h9; exact h9)
        try simp only [Act.put, List.setIfInBounds_toArray, List.set_cons_zero, List.set_cons_succ]
        refine wpAnyH_take (i := 10) (oi := ?_) (v := ?_) ?_ (by kernel_rfl) (by kernel_rfl) (by kernel_rfl) ?_ ?_ (by assumption) ?_
        rotate_left 2; (simp only [List.getElem?_toArray, List.getElem?_cons_succ, List.getElem?_cons_zero]; rfl)
        rotate_left; (first | (refine .inl ⟨by rfl, ?_⟩; intro w9 hS9; go_simp; try with_reducible rfl) | (refine .inr ⟨by rfl, ?_⟩; with_reducible rfl))
        rotate_left; (intro _ _ _ h9; exact h9)
        try simp only [Act.put, List.setIfInBounds_toArray, List.set_cons_zero, List.set_cons_succ]
        refine wpAnyH_take (i := 11) (oi := ?_) (v := ?_) ?_ (by kernel_rfl) (by kernel_rfl) (by kernel_rfl) ?_ ?_ (by assumption) ?_
        rotate_left 2; (simp only [List.getElem?_toArray, List.getElem?_cons_succ, List.getElem?_cons_zero]; rfl)
        rotate_left; (first | (refine .inl ⟨by rfl, ?_⟩; intro w9 hS9; go_simp; try with_reducible rfl) | (refine .inr ⟨by rfl, ?_⟩; with_reducible rfl))
        rotate_left; (intro _ _ _ h9; exact h9)
        try simp only [Act.put, List.setIfInBounds_toArray, List.set_cons_zero, List.set_cons_succ]
        refine wpAnyH_take (i := 12) (oi := ?_) (v := ?_) ?_ (by kernel_rfl) (by kernel_rfl) (by kernel_rfl) ?_ ?_ (by assumption) ?_
        rotate_left 2; (simp only [List.getElem?_toArray, List.getElem?_cons_succ, List.getElem?_cons_zero]; rfl)
        rotate_left; (first | (refine .inl ⟨by rfl, ?_⟩; intro w9 hS9; go_simp; try with_reducible rfl) | (refine .inr ⟨by rfl, ?_⟩; with_reducible rfl))
        rotate_left; (intro _ _ _ h9; exact h9)
        try simp only [Act.put, List.setIfInBounds_toArray, List.set_cons_zero, List.set_cons_succ]
        refine wpAnyH_take (i := 13) (oi := ?_) (v := ?_) ?_ (by kernel_rfl) (by kernel_rfl) (by kernel_rfl) ?_ ?_ (by assumption) ?_
        rotate_left 2; (simp only [List.getElem?_toArray, List.getElem?_cons_succ, List.getElem?_cons_zero]; rfl)
        rotate_left; (first | (refine .inl ⟨by rfl, ?_⟩; intro w9 hS9; go_simp; try with_reducible rfl) | (refine .inr ⟨by rfl, ?_⟩; with_reducible rfl))
        rotate_left; (intro _ _ _ h9; exact h9)
        try simp only [Act.put, List.setIfInBounds_toArray, List.set_cons_zero, List.set_cons_succ]
        refine wpAnyH_take (i := 14) (oi := ?_) (v := ?_) ?_ (by kernel_rfl) (by kernel_rfl) (by kernel_rfl) ?_ ?_ (by assumption) ?_
        rotate_left 2; (simp only [List.getElem?_toArray, List.getElem?_cons_succ, List.getElem?_cons_zero]; rfl)
        rotate_left; (first | (refine .inl ⟨by rfl, ?_⟩; intro w9 hS9; go_simp; try with_reducible rfl) | (refine .inr ⟨by rfl, ?_⟩; with_reducible rfl))
        rotate_left; (intro _ _ _ h9; exact h9)
        try simp only [Act.put, List.setIfInBounds_toArray, List.set_cons_zero, List.set_cons_succ]
        refine wpAnyH_take (i := 15) (oi := ?_) (v := ?_) ?_ (by kernel_rfl) (by kernel_rfl) (by kernel_rfl) ?_ ?_ (by assumption) ?_
        rotate_left 2; (simp only [List.getElem?_toArray, List.getElem?_cons_succ, List.getElem?_cons_zero]; rfl)
        rotate_left; (first | (refine .inl ⟨by rfl, ?_⟩; intro w9 hS9; go_simp; try with_reducible rfl) | (refine .inr ⟨by rfl, ?_⟩; with_reducible rfl))
        rotate_left; (intro _ _ _ h9; exact h9)
        try simp only [Act.put, List.setIfInBounds_toArray, List.set_cons_zero, List.set_cons_succ]
        refine wpAnyH_take (i := 16) (oi := ?_) (v := ?_) ?_ (by kernel_rfl) (by kernel_rfl) (by kernel_rfl) ?_ ?_ (by assumption) ?_
        rotate_left 2; (simp only [List.getElem?_toArray, List.getElem?_cons_succ, List.getElem?_cons_zero]; rfl)
        rotate_left; (first | (refine .inl ⟨by rfl, ?_⟩; intro w9 hS9; go_simp; try with_reducible rfl) | (refine .inr ⟨by rfl, ?_⟩; with_reducible rfl))
        rotate_left; (intro _ _ _ h9; exact h9)
        try simp only [Act.put, List.setIfInBounds_toArray, List.set_cons_zero, List.set_cons_succ]
        refine wpAnyH_done (by kernel_rfl) ?_ _
        clear hS2
        clear p0 p1 p2 p3 p4 p5 p6 p7 p8 p9 pa
        clear q0 q1 q2 q3 q4 q5 q6 q7 q8 q9 qa
        clear r0
        go_wp2_with fail
        go_ret
        exact ⟨by first | rfl | simp, below_go HW.out H2.out⟩
    · rw [Bool.not_eq_true] at k1
      rw [k1, Bool.false_and] at hlo
      have E4 := Lib.hid (cfErr_no (by rw [hlo]; decide))
      have E5 := Lib.hid (cfErr_no (by rw [k1]; decide))
      clear hlo k1 hlen
      refine wp_region_held (S := fun w' => Below wt.heap.size wt w') (by kernel_rfl) ?_
      change wpAnyH _ _ _ _ _ _ _ _ wt.drew
      change wpAnyH _ _ _ _ _ 17 (Array.replicate 17 false) _ _
      refine wpAnyH_take (i := 0) (oi := ?_) (v := ?_) ?_ (by kernel_rfl) (by kernel_rfl) (by kernel_rfl) ?_ ?_ (by assumption) ?_
      rotate_left 2; (simp only [List.getElem?_toArray, List.getElem?_cons_succ, List.getElem?_cons_zero]; rfl)
      rotate_left; (first | (refine .inl ⟨by rfl, ?_⟩; intro w9 hS9; go_simp; try with_reducible rfl) | (refine .inr ⟨by rfl, ?_⟩; with_reducible rfl))
      rotate_left; (intro _ _ _ h9; exact h9)
      try simp only [Act.put, List.setIfInBounds_toArray, List.set_cons_zero, List.set_cons_succ]
      refine wpAnyH_take (i := 1) (oi := ?_) (v := ?_) ?_ (by kernel_rfl) (by kernel_rfl) (by kernel_rfl) ?_ ?_ (by assumption) ?_
      rotate_left 2; (simp only [List.getElem?_toArray, List.getElem?_cons_succ, List.getElem?_cons_zero]; rfl)
      rotate_left; (first | (refine .inl ⟨by rfl, ?_⟩; intro w9 hS9; go_simp; try with_reducible rfl) | (refine .inr ⟨by rfl, ?_⟩; with_reducible rfl))
      rotate_left; (intro _ _ _ h9; exact h9)
      try simp only [Act.put, List.setIfInBounds_toArray, List.set_cons_zero, List.set_cons_succ]
      refine wpAnyH_take (i := 2) (oi := ?_) (v := ?_) ?_ (by kernel_rfl) (by kernel_rfl) (by kernel_rfl) ?_ ?_ (by assumption) ?_
      rotate_left 2; (simp only [List.getElem?_toArray, List.getElem?_cons_succ, List.getElem?_cons_zero]; rfl)
      rotate_left; (first | (refine .inl ⟨by rfl, ?_⟩; intro w9 hS9; go_simp; try with_reducible rfl) | (refine .inr ⟨by rfl, ?_⟩; with_reducible rfl))
      rotate_left; (intro _ _ _ h9; exact h9)
      try simp only [Act.put, List.setIfInBounds_toArray, List.set_cons_zero, List.set_cons_succ]
      refine wpAnyH_take (i := 5) (oi := ?_) (v := ?_) ?_ (by kernel_rfl) (by kernel_rfl) (by kernel_rfl) ?_ ?_ (by assumption) ?_
      rotate_left 2; (simp only [List.getElem?_toArray, List.getElem?_cons_succ, List.getElem?_cons_zero]; rfl)
      rotate_left; (first | (refine .inl ⟨by rfl, ?_⟩; intro w9 hS9; go_simp; try with_reducible rfl) | (refine .inr ⟨by rfl, ?_⟩; with_reducible rfl))
      rotate_left; (intro _ _ _ h9; exact h9)
      try simp only [Act.put, List.setIfInBounds_toArray, List.set_cons_zero, List.set_cons_succ]
      refine wpAnyH_ready (rs := [3]) (by kernel_rfl) (by simp) (AllReadyH.cons rfl (fun K9 hK9 => ?_) AllReadyH.nil)
      go_simp
      refine (cf_check A6 (xs.length + 1) c6 (xs ++ [x1]) t0 _ (HRC.out.below hS0)).mono ?_
      rintro e x4 ⟨v4, rfl, he4, hb⟩
      rw [E4.out] at he4
      obtain ⟨ta, ua, rfl⟩ := he4.isErr (by decide)
      have hS1 := below_go hS0 hb
      have H1 := Lib.hid hS1
      refine hK9.out _ _ hS1 (fun _ => ?_)
      clear hS0 hb he4
      refine wpAnyH_take (i := 4) (oi := ?_) (v := ?_) ?_ (by kernel_rfl) (by kernel_rfl) (by kernel_rfl) ?_ ?_ (by assumption) ?_
      rotate_left 2; (simp only [List.getElem?_toArray, List.getElem?_cons_succ, List.getElem?_cons_zero]; rfl)
      rotate_left; (first | (refine .inl ⟨by rfl, ?_⟩; intro w9 hS9; go_simp; try with_reducible rfl) | (refine .inr ⟨by rfl, ?_⟩; with_reducible rfl))
      rotate_left; (intro _ _ _ h9; exact h9)
      try simp only [Act.put, List.setIfInBounds_toArray, List.set_cons_zero, List.set_cons_succ]
      refine wpAnyH_ready (rs := [6]) (by kernel_rfl) (by simp) (AllReadyH.cons rfl (fun K9 hK9 => ?_) AllReadyH.nil)
      go_simp
      refine (cf_check (some ⟨G9, 0, none⟩) 1 1 [x1] t0 _ (HLC.out.below H1.out)).mono ?_
      rintro e x5 ⟨v5, rfl, he5, hb⟩
      rw [E5.out] at he5
      obtain ⟨tb, ub, rfl⟩ := he5.isErr (by decide)
      have hS2 := below_go H1.out hb
      have H2 := Lib.hid hS2
      refine hK9.out _ _ hS2 (fun _ => ?_)
      clear hS1 hb he5
      refine wpAnyH_take (i := 7) (oi := ?_) (v := ?_) ?_ (by kernel_rfl) (by kernel_rfl) (by kernel_rfl) ?_ ?_ (by assumption) ?_
      rotate_left 2; (simp only [List.getElem?_toArray, List.getElem?_cons_succ, List.getElem?_cons_zero]; rfl)
      rotate_left; (first | (refine .inl ⟨by rfl, ?_⟩; intro w9 hS9; go_simp; try with_reducible rfl) | (refine .inr ⟨by rfl, ?_⟩; with_reducible rfl))
      rotate_left; (intro _ _ _ h9; exact h9)
      try simp only [Act.put, List.setIfInBounds_toArray, List.set_cons_zero, List.set_cons_succ]
      refine wpAnyH_take (i := 8) (oi := ?_) (v := ?_) ?_ (by kernel_rfl) (by kernel_rfl) (by kernel_rfl) ?_ ?_ (by assumption) ?_
      rotate_left 2; (simp only [List.getElem?_toArray, List.getElem?_cons_succ, List.getElem?_cons_zero]; rfl)
      rotate_left; (first | (refine .inl ⟨by rfl, ?_⟩; intro w9 hS9; go_simp; try with_reducible rfl) | (refine .inr ⟨by rfl, ?_⟩; with_reducible rfl))
      rotate_left; (intro _ _ _ h9; exact h9)
      try simp only [Act.put, List.setIfInBounds_toArray, List.set_cons_zero, List.set_cons_succ]
      refine wpAnyH_take (i := 9) (oi := ?_) (v := ?_) ?_ (by kernel_rfl) (by kernel_rfl) (by kernel_rfl) ?_ ?_ (by assumption) ?_
      rotate_left 2; (simp only [List.getElem?_toArray, List.getElem?_cons_succ, List.getElem?_cons_zero]; rfl)
      rotate_left; (first | (refine .inl ⟨by rfl, ?_⟩; intro w9 hS9; go_simp; try with_reducible rfl) | (refine .inr ⟨by rfl, ?_⟩; with_reducible rfl))
      rotate_left; (intro _ _ _ h9; exact h9)
      try simp only [Act.put, List.setIfInBounds_toArray, List.set_cons_zero, List.set_cons_succ]
      refine wpAnyH_take (i := 10) (oi := ?_) (v := ?_) ?_ (by kernel_rfl) (by kernel_rfl) (by kernel_rfl) ?_ ?_ (by assumption) ?_
      rotate_left 2; (simp only [List.getElem?_toArray, List.getElem?_cons_succ, List.getElem?_cons_zero]; rfl)
      rotate_left; (first | (refine .inl ⟨by rfl, ?_⟩; intro w9 hS9; go_simp; try with_reducible rfl) | (refine .inr ⟨by rfl, ?_⟩; with_reducible rfl))
      rotate_left; (intro _ _ _ h9; exact h9)
      try simp only [Act.put, List.setIfInBounds_toArray, List.set_cons_zero, List.set_cons_succ]
      refine wpAnyH_take (i := 11) (oi := ?_) (v := ?_) ?_ (by kernel_rfl) (by kernel_rfl) (by kernel_rfl) ?_ ?_ (by assumption) ?_
      rotate_left 2; (simp only [List.getElem?_toArray, List.getElem?_cons_succ, List.getElem?_cons_zero]; rfl)
      rotate_left; (first | (refine .inl ⟨by rfl, ?_⟩; intro w9 hS9; go_simp; try with_reducible rfl) | (refine .inr ⟨by rfl, ?_⟩; with_reducible rfl))
      rotate_left; (intro _ _ _ h9; exact h9)
      try simp only [Act.put, List.setIfInBounds_toArray, List.set_cons_zero, List.set_cons_succ]
      refine wpAnyH_take (i := 12) (oi := ?_) (v := ?_) ?_ (by kernel_rfl) (by kernel_rfl) (by kernel_rfl) ?_ ?_ (by assumption) ?_
      rotate_left 2; (simp only [List.getElem?_toArray, List.getElem?_cons_succ, List.getElem?_cons_zero]; rfl)
      rotate_left; (first | (refine .inl ⟨by rfl, ?_⟩; intro w9 hS9; go_simp; try with_reducible rfl) | (refine .inr ⟨by rfl, ?_⟩; with_reducible rfl))
      rotate_left; (intro _ _ _ h9; exact h9)
      try simp only [Act.put, List.setIfInBounds_toArray, List.set_cons_zero, List.set_cons_succ]
      refine wpAnyH_take (i := 13) (oi := ?_) (v := ?_) ?_ (by kernel_rfl) (by kernel_rfl) (by kernel_rfl) ?_ ?_ (by assumption) ?_
      rotate_left 2; (simp only [List.getElem?_toArray, List.getElem?_cons_succ, List.getElem?_cons_zero]; rfl)
      rotate_left; (first | (refine .inl ⟨by rfl, ?_⟩; intro w9 hS9; go_simp; try with_reducible rfl) | (refine .inr ⟨by rfl, ?_⟩; with_reducible rfl))
      rotate_left; (intro _ _ _ h9; exact h9)
      try simp only [Act.put, List.setIfInBounds_toArray, List.set_cons_zero, List.set_cons_succ]
      refine wpAnyH_take (i := 14) (oi := ?_) (v := ?_) ?_ (by kernel_rfl) (by kernel_rfl) (by kernel_rfl) ?_ ?_ (by assumption) ?_
      rotate_left 2; (simp only [List.getElem?_toArray, List.getElem?_cons_succ, List.getElem?_cons_zero]; rfl)
      rotate_left; (first | (refine .inl ⟨by rfl, ?_⟩; intro w9 hS9; go_simp; try with_reducible rfl) | (refine .inr ⟨by rfl, ?_⟩; with_reducible rfl))
      rotate_left; (intro _ _ _ h9; exact h9)
      try simp only [Act.put, List.setIfInBounds_toArray, List.set_cons_zero, List.set_cons_succ]
      refine wpAnyH_take (i := 15) (oi := ?_) (v := ?_) ?_ (by kernel_rfl) (by kernel_rfl) (by kernel_rfl) ?_ ?_ (by assumption) ?_
      rotate_left 2; (simp only [List.getElem?_toArray, List.getElem?_cons_succ, List.getElem?_cons_zero]; rfl)
      rotate_left; (first | (refine .inl ⟨by rfl, ?_⟩; intro w9 hS9; go_simp; try with_reducible rfl) | (refine .inr ⟨by rfl, ?_⟩; with_reducible rfl))
      rotate_left; (intro _ _ _ h9; exact h9)
      try simp only [Act.put, List.setIfInBounds_toArray, List.set_cons_zero, List.set_cons_succ]
      refine wpAnyH_take (i := 16) (oi := ?_) (v := ?_) ?_ (by kernel_rfl) (by kernel_rfl) (by kernel_rfl) ?_ ?_ (by assumption) ?_
      rotate_left 2; (simp only [List.getElem?_toArray, List.getElem?_cons_succ, List.getElem?_cons_zero]; rfl)
      rotate_left; (first | (refine .inl ⟨by rfl, ?_⟩; intro w9 hS9; go_simp; try with_reducible rfl) | (refine .inr ⟨by rfl, ?_⟩; with_reducible rfl))
      rotate_left; (intro _ _ _ h9; exact h9)
      try simp only [Act.put, List.setIfInBounds_toArray, List.set_cons_zero, List.set_cons_succ]
      refine wpAnyH_done (by kernel_rfl) ?_ _
      clear hS2
      clear p0 p1 p2 p3 p4 p5 p6 p7 p8 p9 pa
      clear q0 q1 q2 q3 q4 q5 q6 q7 q8 q9 qa
      clear r0
      go_wp2_with fail
      go_ret
      exact ⟨by first | rfl | simp, below_go HW.out H2.out⟩
  exact AllReadyH.nil
end Go.Proofs.YteeocmkaecoeiaaDoor
