/- The walk of StoreCounts. -/
import Derived.Test.YtjoiblgnppjpiaaDoorStTears
namespace Go.Proofs.YtjoiblgnppjpiaaDoor
open Go.RowKit
set_option linter.unusedVariables false
set_option linter.unusedSimpArgs false

set_option maxRecDepth 100000 in
set_option maxHeartbeats 16000000 in
theorem storeCounts_walk (a0 : Int) (a1 : Option Addr) (len1 cap1 : Nat) (z1 : List Int) (w : World) (w0 : (Lit.int .i64 a0).wf = true) (w1 : IsRow .i64 w a1 len1 cap1 z1) (hg : HasTy w) :
    Calls Tryd.prog 5 #[.int .i64 a0, .slice a1 len1 cap1] w fun e w' => e = .returned (.bool true) ∧ Below w.heap.size w w' := by
  obtain ⟨ys, hri, hlc, hcm, _⟩ := w1.ints
  have hbd := i64_bd w0
  have HA := Lib.hid hri
  have H0 := Lib.hid hg
  clear w0 w1 hg hri
  have hst500 : stSize 500 = 500 := by decide
  have Hs := Lib.hid hst500
  clear hst500
  go_enter Tryd.func5, Tryd.ntmps5
  go_wp2_with fail
  refine (st_small _ H0.out).mono ?_
  rintro e wa ⟨rfl, hb⟩
  go_wp2_with fail
  refine (st_new _ _).mono ?_
  rintro e wb ⟨g, gb, rfl, hst, hwg, hwb, hb2⟩
  rw [Hs.out] at hst
  have hsa := hb.size
  have hwg2 : w.heap.size ≤ g := by omega
  have hwb2 : w.heap.size ≤ gb := by omega
  replace hb := Lib.hid (below_step hb hb2)
  clear hb2 hwg hwb hsa Hs
  by_cases c0 : a0 < 0
  · clear hst
    go_wp2_with fail
    go_ret
    exact ⟨rfl, hb.out⟩
  by_cases c1 : 60 < len1
  · have c1' : (60 : Int) < len1 := by omega
    clear hst
    go_wp2_with fail
    go_ret
    exact ⟨rfl, hb.out⟩
  have c1' : ¬ (60 : Int) < len1 := by omega
  obtain ⟨L, rfl⟩ := Int.eq_ofNat_of_zero_le (show 0 ≤ a0 by omega)
  have hL : L ≤ 9223372036854775807 := by omega
  clear hbd
  go_wp2_with fail
  refine (st_kill g gb _ _ _ L _ (by omega) hst).mono ?_
  rintro e w3 ⟨rfl, h2, hf⟩
  replace hb := Lib.hid (below_one hb.out hf hwg2)
  replace hst : StIs w3 g gb (List.replicate 500 255) (some L) false := h2
  clear hf h2
  go_wp2_with fail
  clear c1'
  go_loopw [7, 8] (fun s7 s8 wr => ∃ (k M K : Nat) (xs : List UInt8) (dead : Bool), k ≤ len1 ∧ s8 = .int .i64 k ∧ s7 = .int .i64 M ∧ M ≤ 9223372036854775807 ∧ xs.length = 500 ∧ StIs wr g gb xs (some K) dead ∧ (dead = false → M = K) ∧ Below w.heap.size w wr) (fun _ i _ => len1 - (intOf i).toNat)
  case atStart => exact ⟨0, L, L, _, false, Nat.zero_le _, rfl, rfl, hL, by simp, hst, fun _ => rfl, hb.out⟩
  case round =>
    obtain ⟨k, M, K, xs, dead, hk, rfl, rfl, hM, hxl, hst, hMK, hbr⟩ := hrel
    clear hb hL
    have hb := Lib.hid hbr
    have HX := Lib.hid hxl
    have HK := Lib.hid hMK
    clear hbr hxl hMK
    by_cases hlt : k < len1
    · have hlt' : (k : Int) < len1 := by omega
      obtain ⟨b, off, rfl, hbA, hc⟩ := HA.out.2.2.2 (by omega)
      have x0 : ∀ w', Below w.heap.size w w' → w'.cell? ⟨b, off + k, none⟩ = some (.int .i64 (ys.getD k 0)) := fun w' hb => (hb.cell (p := ⟨b, off + k, none⟩) hbA).trans (hc k hlt)
      clear hc
      generalize ys.getD k 0 = z at x0
      have HZ := Lib.hid x0
      replace x0 := HZ.out wr hb.out
      by_cases z0 : z < 0
      · clear hst
        go_wp2_with fail
        go_ret
        exact ⟨rfl, hb.out⟩
      by_cases z1 : 500 < z
      · clear hst
        go_wp2_with fail
        go_ret
        exact ⟨rfl, hb.out⟩
      obtain ⟨m, rfl⟩ := Int.eq_ofNat_of_zero_le (show 0 ≤ z by omega)
      have hm : m ≤ 500 := by omega
      have hmk := fun w' => by_make2 w' m m (Nat.le_refl _) (by omega) (m : Int) (m : Int) rfl rfl
      go_wp2_with fail
      refine (st_dead g gb _ _ _ _ hst).mono ?_
      rintro e w9 ⟨rfl, rfl⟩
      have hown := by_make2_own wr wr.heap.size m m (Nat.le_refl _) (by omega) (Nat.le_refl _)
      have hbn := below_new wr (.cells (madeCells #[.int .u8 0] m) 5)
      have hrs := hown.rs
      have hst2 := hst.below hbn
      have hb2 := Lib.hid (below_step hb.out hbn)
      clear hown hbn hst
      go_wp2_with fail
      clear hmk x0
      cases dead with
      | true =>
        refine (st_write_dead g gb _ _ 0 _ _ _ _ hst2).mono ?_
        rintro e wc ⟨v, rfl, he, hbx⟩
        have hst3 := hst2.below hbx
        have hb3 := Lib.hid (below_step hb2.out hbx)
        obtain ⟨t, u, rfl⟩ := he.iface
        clear he hbx hst2 hb2
        clear hrs
        have hS0 := below_drew1 wc
        have x0 : ∀ w', Below wc.heap.size wc w' → w'.cell? ⟨b, off + k, none⟩ = some (.int .i64 m) := fun w' hb => HZ.out w' (below_step hb3.out hb)
        go_wp2_with fail
        refine wp_region_held (S := fun w' => Below wc.heap.size wc w') (by kernel_rfl) ?_
        change wpAnyH _ _ _ _ _ _ _ _ wc.drew
        change wpAnyH _ _ _ _ _ 27 (Array.replicate 27 false) _ _
        refine wpAnyH_take (i := 0) (oi := ?_) (v := ?_) ?_ (by kernel_rfl) (by kernel_rfl) (by kernel_rfl) ?_ ?_ (by assumption) ?_
        rotate_left 2; (simp only [List.getElem?_toArray, List.getElem?_cons_succ, List.getElem?_cons_zero]; rfl)
        rotate_left; (first | (refine .inl ⟨by rfl, ?_⟩; intro w9 hS9; go_simp; try with_reducible rfl) | (refine .inr ⟨by rfl, ?_⟩; with_reducible rfl))
        rotate_left; (intro _ _ _ h9; exact h9)
        try simp only [Act.put, List.setIfInBounds_toArray, List.set_cons_zero, List.set_cons_succ]
        refine wpAnyH_take (i := 1) (oi := ?_) (v := ?_) ?_ (by kernel_rfl) (by kernel_rfl) (by kernel_rfl) ?_ ?_ (by assumption) ?_
        rotate_left 2; (simp only [List.getElem?_toArray, List.getElem?_cons_succ, List.getElem?_cons_zero]; rfl)
        rotate_left; (first | (refine .inl ⟨by rfl, ?_⟩; intro w9 hS9; go_simp; try with_reducible rfl) | (refine .inr ⟨by rfl, ?_⟩; with_reducible rfl))
        rotate_left; (intro _ _ _ h9; exact h9)
        try simp only [Act.put, List.setIfInBounds_toArray, List.set_cons_zero, List.set_cons_succ]
        refine wpAnyH_take (i := 2) (oi := ?_) (v := ?_) ?_ (by kernel_rfl) (by kernel_rfl) (by kernel_rfl) ?_ ?_ (by assumption) ?_
        rotate_left 2; (simp only [List.getElem?_toArray, List.getElem?_cons_succ, List.getElem?_cons_zero]; rfl)
        rotate_left; (first | (refine .inl ⟨by rfl, ?_⟩; intro w9 hS9; go_simp; try with_reducible rfl) | (refine .inr ⟨by rfl, ?_⟩; with_reducible rfl))
        rotate_left; (intro _ _ _ h9; exact h9)
        try simp only [Act.put, List.setIfInBounds_toArray, List.set_cons_zero, List.set_cons_succ]
        refine wpAnyH_take (i := 3) (oi := ?_) (v := ?_) ?_ (by kernel_rfl) (by kernel_rfl) (by kernel_rfl) ?_ ?_ (by assumption) ?_
        rotate_left 2; (simp only [List.getElem?_toArray, List.getElem?_cons_succ, List.getElem?_cons_zero]; rfl)
        rotate_left; (first | (refine .inl ⟨by rfl, ?_⟩; intro w9 hS9; go_simp; try with_reducible rfl) | (refine .inr ⟨by rfl, ?_⟩; with_reducible rfl))
        rotate_left; (intro _ _ _ h9; exact h9)
        try simp only [Act.put, List.setIfInBounds_toArray, List.set_cons_zero, List.set_cons_succ]
        refine wpAnyH_take (i := 4) (oi := ?_) (v := ?_) ?_ (by kernel_rfl) (by kernel_rfl) (by kernel_rfl) ?_ ?_ (by assumption) ?_
        rotate_left 2; (simp only [List.getElem?_toArray, List.getElem?_cons_succ, List.getElem?_cons_zero]; rfl)
        rotate_left; (first | (refine .inl ⟨by rfl, ?_⟩; intro w9 hS9; go_simp; try with_reducible rfl) | (refine .inr ⟨by rfl, ?_⟩; with_reducible rfl))
        rotate_left; (intro _ _ _ h9; exact h9)
        try simp only [Act.put, List.setIfInBounds_toArray, List.set_cons_zero, List.set_cons_succ]
        refine wpAnyH_take (i := 5) (oi := ?_) (v := ?_) ?_ (by kernel_rfl) (by kernel_rfl) (by kernel_rfl) ?_ ?_ (by assumption) ?_
        rotate_left 2; (simp only [List.getElem?_toArray, List.getElem?_cons_succ, List.getElem?_cons_zero]; rfl)
        rotate_left; (first | (refine .inl ⟨by rfl, ?_⟩; intro w9 hS9; go_simp; try with_reducible rfl) | (refine .inr ⟨by rfl, ?_⟩; with_reducible rfl))
        rotate_left; (intro _ _ _ h9; exact h9)
        try simp only [Act.put, List.setIfInBounds_toArray, List.set_cons_zero, List.set_cons_succ]
        refine wpAnyH_take (i := 6) (oi := ?_) (v := ?_) ?_ (by kernel_rfl) (by kernel_rfl) (by kernel_rfl) ?_ ?_ (by assumption) ?_
        rotate_left 2; (simp only [List.getElem?_toArray, List.getElem?_cons_succ, List.getElem?_cons_zero]; rfl)
        rotate_left; (first | (refine .inl ⟨by rfl, ?_⟩; intro w9 hS9; go_simp; try with_reducible rfl) | (refine .inr ⟨by rfl, ?_⟩; with_reducible rfl))
        rotate_left; (intro _ _ _ h9; exact h9)
        try simp only [Act.put, List.setIfInBounds_toArray, List.set_cons_zero, List.set_cons_succ]
        refine wpAnyH_take (i := 7) (oi := ?_) (v := ?_) ?_ (by kernel_rfl) (by kernel_rfl) (by kernel_rfl) ?_ ?_ (by assumption) ?_
        rotate_left 2; (simp only [List.getElem?_toArray, List.getElem?_cons_succ, List.getElem?_cons_zero]; rfl)
        rotate_left; (first | (refine .inl ⟨by rfl, ?_⟩; intro w9 hS9; go_simp; try with_reducible rfl) | (refine .inr ⟨by rfl, ?_⟩; with_reducible rfl))
        rotate_left; (intro _ _ _ h9; exact h9)
        try simp only [Act.put, List.setIfInBounds_toArray, List.set_cons_zero, List.set_cons_succ]
        refine wpAnyH_take (i := 8) (oi := ?_) (v := ?_) ?_ (by kernel_rfl) (by kernel_rfl) (by kernel_rfl) ?_ ?_ (by assumption) ?_
        rotate_left 2; (simp only [List.getElem?_toArray, List.getElem?_cons_succ, List.getElem?_cons_zero]; rfl)
        rotate_left; (first | (refine .inl ⟨by rfl, ?_⟩; intro w9 hS9; go_simp; try with_reducible rfl) | (refine .inr ⟨by rfl, ?_⟩; with_reducible rfl))
        rotate_left; (intro _ _ _ h9; exact h9)
        try simp only [Act.put, List.setIfInBounds_toArray, List.set_cons_zero, List.set_cons_succ]
        refine wpAnyH_take (i := 9) (oi := ?_) (v := ?_) ?_ (by kernel_rfl) (by kernel_rfl) (by kernel_rfl) ?_ ?_ (by assumption) ?_
        rotate_left 2; (simp only [List.getElem?_toArray, List.getElem?_cons_succ, List.getElem?_cons_zero]; rfl)
        rotate_left; (first | (refine .inl ⟨by rfl, ?_⟩; intro w9 hS9; go_simp; try with_reducible rfl) | (refine .inr ⟨by rfl, ?_⟩; with_reducible rfl))
        rotate_left; (intro _ _ _ h9; exact h9)
        try simp only [Act.put, List.setIfInBounds_toArray, List.set_cons_zero, List.set_cons_succ]
        refine wpAnyH_take (i := 10) (oi := ?_) (v := ?_) ?_ (by kernel_rfl) (by kernel_rfl) (by kernel_rfl) ?_ ?_ (by assumption) ?_
        rotate_left 2; (simp only [List.getElem?_toArray, List.getElem?_cons_succ, List.getElem?_cons_zero]; rfl)
        rotate_left; (first | (refine .inl ⟨by rfl, ?_⟩; intro w9 hS9; go_simp; try with_reducible rfl) | (refine .inr ⟨by rfl, ?_⟩; with_reducible rfl))
        rotate_left; (intro _ _ _ h9; exact h9)
        try simp only [Act.put, List.setIfInBounds_toArray, List.set_cons_zero, List.set_cons_succ]
        refine wpAnyH_take (i := 11) (oi := ?_) (v := ?_) ?_ (by kernel_rfl) (by kernel_rfl) (by kernel_rfl) ?_ ?_ (by assumption) ?_
        rotate_left 2; (simp only [List.getElem?_toArray, List.getElem?_cons_succ, List.getElem?_cons_zero]; rfl)
        rotate_left; (first | (refine .inl ⟨by rfl, ?_⟩; intro w9 hS9; go_simp; try with_reducible rfl) | (refine .inr ⟨by rfl, ?_⟩; with_reducible rfl))
        rotate_left; (intro _ _ _ h9; exact h9)
        try simp only [Act.put, List.setIfInBounds_toArray, List.set_cons_zero, List.set_cons_succ]
        refine wpAnyH_take (i := 12) (oi := ?_) (v := ?_) ?_ (by kernel_rfl) (by kernel_rfl) (by kernel_rfl) ?_ ?_ (by assumption) ?_
        rotate_left 2; (simp only [List.getElem?_toArray, List.getElem?_cons_succ, List.getElem?_cons_zero]; rfl)
        rotate_left; (first | (refine .inl ⟨by rfl, ?_⟩; intro w9 hS9; go_simp; try with_reducible rfl) | (refine .inr ⟨by rfl, ?_⟩; with_reducible rfl))
        rotate_left; (intro _ _ _ h9; exact h9)
        try simp only [Act.put, List.setIfInBounds_toArray, List.set_cons_zero, List.set_cons_succ]
        refine wpAnyH_take (i := 13) (oi := ?_) (v := ?_) ?_ (by kernel_rfl) (by kernel_rfl) (by kernel_rfl) ?_ ?_ (by assumption) ?_
        rotate_left 2; (simp only [List.getElem?_toArray, List.getElem?_cons_succ, List.getElem?_cons_zero]; rfl)
        rotate_left; (first | (refine .inl ⟨by rfl, ?_⟩; intro w9 hS9; go_simp; try with_reducible rfl) | (refine .inr ⟨by rfl, ?_⟩; with_reducible rfl))
        rotate_left; (intro _ _ _ h9; exact h9)
        try simp only [Act.put, List.setIfInBounds_toArray, List.set_cons_zero, List.set_cons_succ]
        refine wpAnyH_take (i := 14) (oi := ?_) (v := ?_) ?_ (by kernel_rfl) (by kernel_rfl) (by kernel_rfl) ?_ ?_ (by assumption) ?_
        rotate_left 2; (simp only [List.getElem?_toArray, List.getElem?_cons_succ, List.getElem?_cons_zero]; rfl)
        rotate_left; (first | (refine .inl ⟨by rfl, ?_⟩; intro w9 hS9; go_simp; try with_reducible rfl) | (refine .inr ⟨by rfl, ?_⟩; with_reducible rfl))
        rotate_left; (intro _ _ _ h9; exact h9)
        try simp only [Act.put, List.setIfInBounds_toArray, List.set_cons_zero, List.set_cons_succ]
        refine wpAnyH_take (i := 16) (oi := ?_) (v := ?_) ?_ (by kernel_rfl) (by kernel_rfl) (by kernel_rfl) ?_ ?_ (by assumption) ?_
        rotate_left 2; (simp only [List.getElem?_toArray, List.getElem?_cons_succ, List.getElem?_cons_zero]; rfl)
        rotate_left; (first | (refine .inl ⟨by rfl, ?_⟩; intro w9 hS9; go_simp; try with_reducible rfl) | (refine .inr ⟨by rfl, ?_⟩; with_reducible rfl))
        rotate_left; (intro _ _ _ h9; exact h9)
        try simp only [Act.put, List.setIfInBounds_toArray, List.set_cons_zero, List.set_cons_succ]
        refine wpAnyH_ready (rs := [15]) (by kernel_rfl) (by simp) (AllReadyH.cons rfl (fun K9 hK9 => ?_) AllReadyH.nil)
        go_simp
        go_must (refine (st_dead g gb _ _ _ _ (hst3.below hS0)).mono ?_)
        rintro e we2 ⟨rfl, rfl⟩
        refine hK9.out _ _ hS0 (fun _ => ?_)
        clear hK9
        refine wpAnyH_take (i := 17) (oi := ?_) (v := ?_) ?_ (by kernel_rfl) (by kernel_rfl) (by kernel_rfl) ?_ ?_ (by assumption) ?_
        rotate_left 2; (simp only [List.getElem?_toArray, List.getElem?_cons_succ, List.getElem?_cons_zero]; rfl)
        rotate_left; (first | (refine .inl ⟨by rfl, ?_⟩; intro w9 hS9; go_simp; try with_reducible rfl) | (refine .inr ⟨by rfl, ?_⟩; with_reducible rfl))
        rotate_left; (intro _ _ _ h9; exact h9)
        try simp only [Act.put, List.setIfInBounds_toArray, List.set_cons_zero, List.set_cons_succ]
        refine wpAnyH_take (i := 18) (oi := ?_) (v := ?_) ?_ (by kernel_rfl) (by kernel_rfl) (by kernel_rfl) ?_ ?_ (by assumption) ?_
        rotate_left 2; (simp only [List.getElem?_toArray, List.getElem?_cons_succ, List.getElem?_cons_zero]; rfl)
        rotate_left; (first | (refine .inl ⟨by rfl, ?_⟩; intro w9 hS9; go_simp; try with_reducible rfl) | (refine .inr ⟨by rfl, ?_⟩; with_reducible rfl))
        rotate_left; (intro _ _ _ h9; exact h9)
        try simp only [Act.put, List.setIfInBounds_toArray, List.set_cons_zero, List.set_cons_succ]
        refine wpAnyH_take (i := 19) (oi := ?_) (v := ?_) ?_ (by kernel_rfl) (by kernel_rfl) (by kernel_rfl) ?_ ?_ (by assumption) ?_
        rotate_left 2; (simp only [List.getElem?_toArray, List.getElem?_cons_succ, List.getElem?_cons_zero]; rfl)
        rotate_left; (first | (refine .inl ⟨by rfl, ?_⟩; intro w9 hS9; go_simp; try with_reducible rfl) | (refine .inr ⟨by rfl, ?_⟩; with_reducible rfl))
        rotate_left; (intro _ _ _ h9; exact h9)
        try simp only [Act.put, List.setIfInBounds_toArray, List.set_cons_zero, List.set_cons_succ]
        refine wpAnyH_take (i := 20) (oi := ?_) (v := ?_) ?_ (by kernel_rfl) (by kernel_rfl) (by kernel_rfl) ?_ ?_ (by assumption) ?_
        rotate_left 2; (simp only [List.getElem?_toArray, List.getElem?_cons_succ, List.getElem?_cons_zero]; rfl)
        rotate_left; (first | (refine .inl ⟨by rfl, ?_⟩; intro w9 hS9; go_simp; try with_reducible rfl) | (refine .inr ⟨by rfl, ?_⟩; with_reducible rfl))
        rotate_left; (intro _ _ _ h9; exact h9)
        try simp only [Act.put, List.setIfInBounds_toArray, List.set_cons_zero, List.set_cons_succ]
        refine wpAnyH_take (i := 21) (oi := ?_) (v := ?_) ?_ (by kernel_rfl) (by kernel_rfl) (by kernel_rfl) ?_ ?_ (by assumption) ?_
        rotate_left 2; (simp only [List.getElem?_toArray, List.getElem?_cons_succ, List.getElem?_cons_zero]; rfl)
        rotate_left; (first | (refine .inl ⟨by rfl, ?_⟩; intro w9 hS9; go_simp; try with_reducible rfl) | (refine .inr ⟨by rfl, ?_⟩; with_reducible rfl))
        rotate_left; (intro _ _ _ h9; exact h9)
        try simp only [Act.put, List.setIfInBounds_toArray, List.set_cons_zero, List.set_cons_succ]
        refine wpAnyH_take (i := 22) (oi := ?_) (v := ?_) ?_ (by kernel_rfl) (by kernel_rfl) (by kernel_rfl) ?_ ?_ (by assumption) ?_
        rotate_left 2; (simp only [List.getElem?_toArray, List.getElem?_cons_succ, List.getElem?_cons_zero]; rfl)
        rotate_left; (first | (refine .inl ⟨by rfl, ?_⟩; intro w9 hS9; go_simp; try with_reducible rfl) | (refine .inr ⟨by rfl, ?_⟩; with_reducible rfl))
        rotate_left; (intro _ _ _ h9; exact h9)
        try simp only [Act.put, List.setIfInBounds_toArray, List.set_cons_zero, List.set_cons_succ]
        refine wpAnyH_take (i := 23) (oi := ?_) (v := ?_) ?_ (by kernel_rfl) (by kernel_rfl) (by kernel_rfl) ?_ ?_ (by assumption) ?_
        rotate_left 2; (simp only [List.getElem?_toArray, List.getElem?_cons_succ, List.getElem?_cons_zero]; rfl)
        rotate_left; (first | (refine .inl ⟨by rfl, ?_⟩; intro w9 hS9; go_simp; try with_reducible rfl) | (refine .inr ⟨by rfl, ?_⟩; with_reducible rfl))
        rotate_left; (intro _ _ _ h9; exact h9)
        try simp only [Act.put, List.setIfInBounds_toArray, List.set_cons_zero, List.set_cons_succ]
        refine wpAnyH_take (i := 24) (oi := ?_) (v := ?_) ?_ (by kernel_rfl) (by kernel_rfl) (by kernel_rfl) ?_ ?_ (by assumption) ?_
        rotate_left 2; (simp only [List.getElem?_toArray, List.getElem?_cons_succ, List.getElem?_cons_zero]; rfl)
        rotate_left; (first | (refine .inl ⟨by rfl, ?_⟩; intro w9 hS9; go_simp; try with_reducible rfl) | (refine .inr ⟨by rfl, ?_⟩; with_reducible rfl))
        rotate_left; (intro _ _ _ h9; exact h9)
        try simp only [Act.put, List.setIfInBounds_toArray, List.set_cons_zero, List.set_cons_succ]
        refine wpAnyH_take (i := 25) (oi := ?_) (v := ?_) ?_ (by kernel_rfl) (by kernel_rfl) (by kernel_rfl) ?_ ?_ (by assumption) ?_
        rotate_left 2; (simp only [List.getElem?_toArray, List.getElem?_cons_succ, List.getElem?_cons_zero]; rfl)
        rotate_left; (first | (refine .inl ⟨by rfl, ?_⟩; intro w9 hS9; go_simp; try with_reducible rfl) | (refine .inr ⟨by rfl, ?_⟩; with_reducible rfl))
        rotate_left; (intro _ _ _ h9; exact h9)
        try simp only [Act.put, List.setIfInBounds_toArray, List.set_cons_zero, List.set_cons_succ]
        refine wpAnyH_take (i := 26) (oi := ?_) (v := ?_) ?_ (by kernel_rfl) (by kernel_rfl) (by kernel_rfl) ?_ ?_ (by assumption) ?_
        rotate_left 2; (simp only [List.getElem?_toArray, List.getElem?_cons_succ, List.getElem?_cons_zero]; rfl)
        rotate_left; (first | (refine .inl ⟨by rfl, ?_⟩; intro w9 hS9; go_simp; try with_reducible rfl) | (refine .inr ⟨by rfl, ?_⟩; with_reducible rfl))
        rotate_left; (intro _ _ _ h9; exact h9)
        try simp only [Act.put, List.setIfInBounds_toArray, List.set_cons_zero, List.set_cons_succ]
        refine wpAnyH_done (by kernel_rfl) ?_ _
        have HS := Lib.hid (hst3.below hS0)
        have HB := Lib.hid (below_step hb3.out hS0)
        replace x0 := x0 _ hS0
        clear hst3 hS0 hb3
        go_wp2_with fail
        exact ⟨⟨k + 1, M, K, xs, true, by omega, by go_num, rfl, hM, HX.out, HS.out, (fun h => by cases h), HB.out⟩, by simp [intOf]; omega⟩
      | false =>
        obtain rfl := HK.out rfl
        by_cases hfit : m ≤ M
        · have hfit' : (m : Int) ≤ M := by omega
          refine (st_write_fits g gb _ _ 0 _ _ _ _ _ hst2 hrs (by rw [HX.out]; omega) (fun k h => by cases h; exact hfit)).mono ?_
          rintro e wc ⟨rfl, hst3, hf⟩
          have hb3 := Lib.hid (below_two hb2.out hf hwg2 hwb2)
          have HX2 := Lib.hid (show (splice xs 0 (List.replicate m 0)).length = 500 by rw [length_splice _ _ _ (by simp [HX.out]; omega)]; exact HX.out)
          replace hst3 : StIs wc g gb (splice xs 0 (List.replicate m 0)) (some (M - m)) false := hst3
          clear hf hst2 hb2
          clear hrs
          have hS0 := below_drew1 wc
          have x0 : ∀ w', Below wc.heap.size wc w' → w'.cell? ⟨b, off + k, none⟩ = some (.int .i64 m) := fun w' hb => HZ.out w' (below_step hb3.out hb)
          go_wp2_with fail
          refine wp_region_held (S := fun w' => Below wc.heap.size wc w') (by kernel_rfl) ?_
          change wpAnyH _ _ _ _ _ _ _ _ wc.drew
          change wpAnyH _ _ _ _ _ 27 (Array.replicate 27 false) _ _
          refine wpAnyH_take (i := 0) (oi := ?_) (v := ?_) ?_ (by kernel_rfl) (by kernel_rfl) (by kernel_rfl) ?_ ?_ (by assumption) ?_
          rotate_left 2; (simp only [List.getElem?_toArray, List.getElem?_cons_succ, List.getElem?_cons_zero]; rfl)
          rotate_left; (first | (refine .inl ⟨by rfl, ?_⟩; intro w9 hS9; go_simp; try with_reducible rfl) | (refine .inr ⟨by rfl, ?_⟩; with_reducible rfl))
          rotate_left; (intro _ _ _ h9; exact h9)
          try simp only [Act.put, List.setIfInBounds_toArray, List.set_cons_zero, List.set_cons_succ]
          refine wpAnyH_take (i := 1) (oi := ?_) (v := ?_) ?_ (by kernel_rfl) (by kernel_rfl) (by kernel_rfl) ?_ ?_ (by assumption) ?_
          rotate_left 2; (simp only [List.getElem?_toArray, List.getElem?_cons_succ, List.getElem?_cons_zero]; rfl)
          rotate_left; (first | (refine .inl ⟨by rfl, ?_⟩; intro w9 hS9; go_simp; try with_reducible rfl) | (refine .inr ⟨by rfl, ?_⟩; with_reducible rfl))
          rotate_left; (intro _ _ _ h9; exact h9)
          try simp only [Act.put, List.setIfInBounds_toArray, List.set_cons_zero, List.set_cons_succ]
          refine wpAnyH_take (i := 2) (oi := ?_) (v := ?_) ?_ (by kernel_rfl) (by kernel_rfl) (by kernel_rfl) ?_ ?_ (by assumption) ?_
          rotate_left 2; (simp only [List.getElem?_toArray, List.getElem?_cons_succ, List.getElem?_cons_zero]; rfl)
          rotate_left; (first | (refine .inl ⟨by rfl, ?_⟩; intro w9 hS9; go_simp; try with_reducible rfl) | (refine .inr ⟨by rfl, ?_⟩; with_reducible rfl))
          rotate_left; (intro _ _ _ h9; exact h9)
          try simp only [Act.put, List.setIfInBounds_toArray, List.set_cons_zero, List.set_cons_succ]
          refine wpAnyH_take (i := 3) (oi := ?_) (v := ?_) ?_ (by kernel_rfl) (by kernel_rfl) (by kernel_rfl) ?_ ?_ (by assumption) ?_
          rotate_left 2; (simp only [List.getElem?_toArray, List.getElem?_cons_succ, List.getElem?_cons_zero]; rfl)
          rotate_left; (first | (refine .inl ⟨by rfl, ?_⟩; intro w9 hS9; go_simp; try with_reducible rfl) | (refine .inr ⟨by rfl, ?_⟩; with_reducible rfl))
          rotate_left; (intro _ _ _ h9; exact h9)
          try simp only [Act.put, List.setIfInBounds_toArray, List.set_cons_zero, List.set_cons_succ]
          refine wpAnyH_take (i := 4) (oi := ?_) (v := ?_) ?_ (by kernel_rfl) (by kernel_rfl) (by kernel_rfl) ?_ ?_ (by assumption) ?_
          rotate_left 2; (simp only [List.getElem?_toArray, List.getElem?_cons_succ, List.getElem?_cons_zero]; rfl)
          rotate_left; (first | (refine .inl ⟨by rfl, ?_⟩; intro w9 hS9; go_simp; try with_reducible rfl) | (refine .inr ⟨by rfl, ?_⟩; with_reducible rfl))
          rotate_left; (intro _ _ _ h9; exact h9)
          try simp only [Act.put, List.setIfInBounds_toArray, List.set_cons_zero, List.set_cons_succ]
          refine wpAnyH_take (i := 5) (oi := ?_) (v := ?_) ?_ (by kernel_rfl) (by kernel_rfl) (by kernel_rfl) ?_ ?_ (by assumption) ?_
          rotate_left 2; (simp only [List.getElem?_toArray, List.getElem?_cons_succ, List.getElem?_cons_zero]; rfl)
          rotate_left; (first | (refine .inl ⟨by rfl, ?_⟩; intro w9 hS9; go_simp; try with_reducible rfl) | (refine .inr ⟨by rfl, ?_⟩; with_reducible rfl))
          rotate_left; (intro _ _ _ h9; exact h9)
          try simp only [Act.put, List.setIfInBounds_toArray, List.set_cons_zero, List.set_cons_succ]
          refine wpAnyH_take (i := 6) (oi := ?_) (v := ?_) ?_ (by kernel_rfl) (by kernel_rfl) (by kernel_rfl) ?_ ?_ (by assumption) ?_
          rotate_left 2; (simp only [List.getElem?_toArray, List.getElem?_cons_succ, List.getElem?_cons_zero]; rfl)
          rotate_left; (first | (refine .inl ⟨by rfl, ?_⟩; intro w9 hS9; go_simp; try with_reducible rfl) | (refine .inr ⟨by rfl, ?_⟩; with_reducible rfl))
          rotate_left; (intro _ _ _ h9; exact h9)
          try simp only [Act.put, List.setIfInBounds_toArray, List.set_cons_zero, List.set_cons_succ]
          refine wpAnyH_take (i := 7) (oi := ?_) (v := ?_) ?_ (by kernel_rfl) (by kernel_rfl) (by kernel_rfl) ?_ ?_ (by assumption) ?_
          rotate_left 2; (simp only [List.getElem?_toArray, List.getElem?_cons_succ, List.getElem?_cons_zero]; rfl)
          rotate_left; (first | (refine .inl ⟨by rfl, ?_⟩; intro w9 hS9; go_simp; try with_reducible rfl) | (refine .inr ⟨by rfl, ?_⟩; with_reducible rfl))
          rotate_left; (intro _ _ _ h9; exact h9)
          try simp only [Act.put, List.setIfInBounds_toArray, List.set_cons_zero, List.set_cons_succ]
          refine wpAnyH_take (i := 8) (oi := ?_) (v := ?_) ?_ (by kernel_rfl) (by kernel_rfl) (by kernel_rfl) ?_ ?_ (by assumption) ?_
          rotate_left 2; (simp only [List.getElem?_toArray, List.getElem?_cons_succ, List.getElem?_cons_zero]; rfl)
          rotate_left; (first | (refine .inl ⟨by rfl, ?_⟩; intro w9 hS9; go_simp; try with_reducible rfl) | (refine .inr ⟨by rfl, ?_⟩; with_reducible rfl))
          rotate_left; (intro _ _ _ h9; exact h9)
          try simp only [Act.put, List.setIfInBounds_toArray, List.set_cons_zero, List.set_cons_succ]
          refine wpAnyH_take (i := 9) (oi := ?_) (v := ?_) ?_ (by kernel_rfl) (by kernel_rfl) (by kernel_rfl) ?_ ?_ (by assumption) ?_
          rotate_left 2; (simp only [List.getElem?_toArray, List.getElem?_cons_succ, List.getElem?_cons_zero]; rfl)
          rotate_left; (first | (refine .inl ⟨by rfl, ?_⟩; intro w9 hS9; go_simp; try with_reducible rfl) | (refine .inr ⟨by rfl, ?_⟩; with_reducible rfl))
          rotate_left; (intro _ _ _ h9; exact h9)
          try simp only [Act.put, List.setIfInBounds_toArray, List.set_cons_zero, List.set_cons_succ]
          refine wpAnyH_take (i := 10) (oi := ?_) (v := ?_) ?_ (by kernel_rfl) (by kernel_rfl) (by kernel_rfl) ?_ ?_ (by assumption) ?_
          rotate_left 2; (simp only [List.getElem?_toArray, List.getElem?_cons_succ, List.getElem?_cons_zero]; rfl)
          rotate_left; (first | (refine .inl ⟨by rfl, ?_⟩; intro w9 hS9; go_simp; try with_reducible rfl) | (refine .inr ⟨by rfl, ?_⟩; with_reducible rfl))
          rotate_left; (intro _ _ _ h9; exact h9)
          try simp only [Act.put, List.setIfInBounds_toArray, List.set_cons_zero, List.set_cons_succ]
          refine wpAnyH_take (i := 11) (oi := ?_) (v := ?_) ?_ (by kernel_rfl) (by kernel_rfl) (by kernel_rfl) ?_ ?_ (by assumption) ?_
          rotate_left 2; (simp only [List.getElem?_toArray, List.getElem?_cons_succ, List.getElem?_cons_zero]; rfl)
          rotate_left; (first | (refine .inl ⟨by rfl, ?_⟩; intro w9 hS9; go_simp; try with_reducible rfl) | (refine .inr ⟨by rfl, ?_⟩; with_reducible rfl))
          rotate_left; (intro _ _ _ h9; exact h9)
          try simp only [Act.put, List.setIfInBounds_toArray, List.set_cons_zero, List.set_cons_succ]
          refine wpAnyH_take (i := 12) (oi := ?_) (v := ?_) ?_ (by kernel_rfl) (by kernel_rfl) (by kernel_rfl) ?_ ?_ (by assumption) ?_
          rotate_left 2; (simp only [List.getElem?_toArray, List.getElem?_cons_succ, List.getElem?_cons_zero]; rfl)
          rotate_left; (first | (refine .inl ⟨by rfl, ?_⟩; intro w9 hS9; go_simp; try with_reducible rfl) | (refine .inr ⟨by rfl, ?_⟩; with_reducible rfl))
          rotate_left; (intro _ _ _ h9; exact h9)
          try simp only [Act.put, List.setIfInBounds_toArray, List.set_cons_zero, List.set_cons_succ]
          refine wpAnyH_take (i := 13) (oi := ?_) (v := ?_) ?_ (by kernel_rfl) (by kernel_rfl) (by kernel_rfl) ?_ ?_ (by assumption) ?_
          rotate_left 2; (simp only [List.getElem?_toArray, List.getElem?_cons_succ, List.getElem?_cons_zero]; rfl)
          rotate_left; (first | (refine .inl ⟨by rfl, ?_⟩; intro w9 hS9; go_simp; try with_reducible rfl) | (refine .inr ⟨by rfl, ?_⟩; with_reducible rfl))
          rotate_left; (intro _ _ _ h9; exact h9)
          try simp only [Act.put, List.setIfInBounds_toArray, List.set_cons_zero, List.set_cons_succ]
          refine wpAnyH_take (i := 14) (oi := ?_) (v := ?_) ?_ (by kernel_rfl) (by kernel_rfl) (by kernel_rfl) ?_ ?_ (by assumption) ?_
          rotate_left 2; (simp only [List.getElem?_toArray, List.getElem?_cons_succ, List.getElem?_cons_zero]; rfl)
          rotate_left; (first | (refine .inl ⟨by rfl, ?_⟩; intro w9 hS9; go_simp; try with_reducible rfl) | (refine .inr ⟨by rfl, ?_⟩; with_reducible rfl))
          rotate_left; (intro _ _ _ h9; exact h9)
          try simp only [Act.put, List.setIfInBounds_toArray, List.set_cons_zero, List.set_cons_succ]
          refine wpAnyH_take (i := 16) (oi := ?_) (v := ?_) ?_ (by kernel_rfl) (by kernel_rfl) (by kernel_rfl) ?_ ?_ (by assumption) ?_
          rotate_left 2; (simp only [List.getElem?_toArray, List.getElem?_cons_succ, List.getElem?_cons_zero]; rfl)
          rotate_left; (first | (refine .inl ⟨by rfl, ?_⟩; intro w9 hS9; go_simp; try with_reducible rfl) | (refine .inr ⟨by rfl, ?_⟩; with_reducible rfl))
          rotate_left; (intro _ _ _ h9; exact h9)
          try simp only [Act.put, List.setIfInBounds_toArray, List.set_cons_zero, List.set_cons_succ]
          refine wpAnyH_ready (rs := [15]) (by kernel_rfl) (by simp) (AllReadyH.cons rfl (fun K9 hK9 => ?_) AllReadyH.nil)
          go_simp
          go_must (refine (st_dead g gb _ _ _ _ (hst3.below hS0)).mono ?_)
          rintro e we2 ⟨rfl, rfl⟩
          refine hK9.out _ _ hS0 (fun _ => ?_)
          clear hK9
          refine wpAnyH_take (i := 17) (oi := ?_) (v := ?_) ?_ (by kernel_rfl) (by kernel_rfl) (by kernel_rfl) ?_ ?_ (by assumption) ?_
          rotate_left 2; (simp only [List.getElem?_toArray, List.getElem?_cons_succ, List.getElem?_cons_zero]; rfl)
          rotate_left; (first | (refine .inl ⟨by rfl, ?_⟩; intro w9 hS9; go_simp; try with_reducible rfl) | (refine .inr ⟨by rfl, ?_⟩; with_reducible rfl))
          rotate_left; (intro _ _ _ h9; exact h9)
          try simp only [Act.put, List.setIfInBounds_toArray, List.set_cons_zero, List.set_cons_succ]
          refine wpAnyH_take (i := 18) (oi := ?_) (v := ?_) ?_ (by kernel_rfl) (by kernel_rfl) (by kernel_rfl) ?_ ?_ (by assumption) ?_
          rotate_left 2; (simp only [List.getElem?_toArray, List.getElem?_cons_succ, List.getElem?_cons_zero]; rfl)
          rotate_left; (first | (refine .inl ⟨by rfl, ?_⟩; intro w9 hS9; go_simp; try with_reducible rfl) | (refine .inr ⟨by rfl, ?_⟩; with_reducible rfl))
          rotate_left; (intro _ _ _ h9; exact h9)
          try simp only [Act.put, List.setIfInBounds_toArray, List.set_cons_zero, List.set_cons_succ]
          refine wpAnyH_take (i := 19) (oi := ?_) (v := ?_) ?_ (by kernel_rfl) (by kernel_rfl) (by kernel_rfl) ?_ ?_ (by assumption) ?_
          rotate_left 2; (simp only [List.getElem?_toArray, List.getElem?_cons_succ, List.getElem?_cons_zero]; rfl)
          rotate_left; (first | (refine .inl ⟨by rfl, ?_⟩; intro w9 hS9; go_simp; try with_reducible rfl) | (refine .inr ⟨by rfl, ?_⟩; with_reducible rfl))
          rotate_left; (intro _ _ _ h9; exact h9)
          try simp only [Act.put, List.setIfInBounds_toArray, List.set_cons_zero, List.set_cons_succ]
          refine wpAnyH_take (i := 20) (oi := ?_) (v := ?_) ?_ (by kernel_rfl) (by kernel_rfl) (by kernel_rfl) ?_ ?_ (by assumption) ?_
          rotate_left 2; (simp only [List.getElem?_toArray, List.getElem?_cons_succ, List.getElem?_cons_zero]; rfl)
          rotate_left; (first | (refine .inl ⟨by rfl, ?_⟩; intro w9 hS9; go_simp; try with_reducible rfl) | (refine .inr ⟨by rfl, ?_⟩; with_reducible rfl))
          rotate_left; (intro _ _ _ h9; exact h9)
          try simp only [Act.put, List.setIfInBounds_toArray, List.set_cons_zero, List.set_cons_succ]
          refine wpAnyH_take (i := 21) (oi := ?_) (v := ?_) ?_ (by kernel_rfl) (by kernel_rfl) (by kernel_rfl) ?_ ?_ (by assumption) ?_
          rotate_left 2; (simp only [List.getElem?_toArray, List.getElem?_cons_succ, List.getElem?_cons_zero]; rfl)
          rotate_left; (first | (refine .inl ⟨by rfl, ?_⟩; intro w9 hS9; go_simp; try with_reducible rfl) | (refine .inr ⟨by rfl, ?_⟩; with_reducible rfl))
          rotate_left; (intro _ _ _ h9; exact h9)
          try simp only [Act.put, List.setIfInBounds_toArray, List.set_cons_zero, List.set_cons_succ]
          refine wpAnyH_take (i := 22) (oi := ?_) (v := ?_) ?_ (by kernel_rfl) (by kernel_rfl) (by kernel_rfl) ?_ ?_ (by assumption) ?_
          rotate_left 2; (simp only [List.getElem?_toArray, List.getElem?_cons_succ, List.getElem?_cons_zero]; rfl)
          rotate_left; (first | (refine .inl ⟨by rfl, ?_⟩; intro w9 hS9; go_simp; try with_reducible rfl) | (refine .inr ⟨by rfl, ?_⟩; with_reducible rfl))
          rotate_left; (intro _ _ _ h9; exact h9)
          try simp only [Act.put, List.setIfInBounds_toArray, List.set_cons_zero, List.set_cons_succ]
          refine wpAnyH_take (i := 23) (oi := ?_) (v := ?_) ?_ (by kernel_rfl) (by kernel_rfl) (by kernel_rfl) ?_ ?_ (by assumption) ?_
          rotate_left 2; (simp only [List.getElem?_toArray, List.getElem?_cons_succ, List.getElem?_cons_zero]; rfl)
          rotate_left; (first | (refine .inl ⟨by rfl, ?_⟩; intro w9 hS9; go_simp; try with_reducible rfl) | (refine .inr ⟨by rfl, ?_⟩; with_reducible rfl))
          rotate_left; (intro _ _ _ h9; exact h9)
          try simp only [Act.put, List.setIfInBounds_toArray, List.set_cons_zero, List.set_cons_succ]
          refine wpAnyH_take (i := 24) (oi := ?_) (v := ?_) ?_ (by kernel_rfl) (by kernel_rfl) (by kernel_rfl) ?_ ?_ (by assumption) ?_
          rotate_left 2; (simp only [List.getElem?_toArray, List.getElem?_cons_succ, List.getElem?_cons_zero]; rfl)
          rotate_left; (first | (refine .inl ⟨by rfl, ?_⟩; intro w9 hS9; go_simp; try with_reducible rfl) | (refine .inr ⟨by rfl, ?_⟩; with_reducible rfl))
          rotate_left; (intro _ _ _ h9; exact h9)
          try simp only [Act.put, List.setIfInBounds_toArray, List.set_cons_zero, List.set_cons_succ]
          refine wpAnyH_take (i := 25) (oi := ?_) (v := ?_) ?_ (by kernel_rfl) (by kernel_rfl) (by kernel_rfl) ?_ ?_ (by assumption) ?_
          rotate_left 2; (simp only [List.getElem?_toArray, List.getElem?_cons_succ, List.getElem?_cons_zero]; rfl)
          rotate_left; (first | (refine .inl ⟨by rfl, ?_⟩; intro w9 hS9; go_simp; try with_reducible rfl) | (refine .inr ⟨by rfl, ?_⟩; with_reducible rfl))
          rotate_left; (intro _ _ _ h9; exact h9)
          try simp only [Act.put, List.setIfInBounds_toArray, List.set_cons_zero, List.set_cons_succ]
          refine wpAnyH_take (i := 26) (oi := ?_) (v := ?_) ?_ (by kernel_rfl) (by kernel_rfl) (by kernel_rfl) ?_ ?_ (by assumption) ?_
          rotate_left 2; (simp only [List.getElem?_toArray, List.getElem?_cons_succ, List.getElem?_cons_zero]; rfl)
          rotate_left; (first | (refine .inl ⟨by rfl, ?_⟩; intro w9 hS9; go_simp; try with_reducible rfl) | (refine .inr ⟨by rfl, ?_⟩; with_reducible rfl))
          rotate_left; (intro _ _ _ h9; exact h9)
          try simp only [Act.put, List.setIfInBounds_toArray, List.set_cons_zero, List.set_cons_succ]
          refine wpAnyH_done (by kernel_rfl) ?_ _
          have HS := Lib.hid (hst3.below hS0)
          have HB := Lib.hid (below_step hb3.out hS0)
          replace x0 := x0 _ hS0
          clear hst3 hS0 hb3
          go_wp2_with fail
          exact ⟨⟨k + 1, M - m, M - m, _, false, by omega, by go_num, by congr 1; omega, by omega, HX2.out, HS.out, fun _ => rfl, HB.out⟩, by simp [intOf]; omega⟩
        · have hfit' : ¬ (m : Int) ≤ M := by omega
          refine (st_write_torn g gb _ M 0 _ _ _ _ _ hst2 hrs (fun _ _ _ _ => trivial) (by rw [HX.out]; omega) (by omega)).mono ?_
          rintro e wc ⟨v, rfl, he, hst3, hf⟩
          have hb3 := Lib.hid (below_two hb2.out hf hwg2 hwb2)
          have HX2 := Lib.hid (show (splice xs 0 ((List.replicate m (0 : UInt8)).take M)).length = 500 by rw [length_splice _ _ _ (by simp [HX.out]; omega)]; exact HX.out)
          obtain ⟨t, u, rfl⟩ := he.iface
          clear he hf hst2 hb2
          clear hrs
          have hS0 := below_drew1 wc
          have x0 : ∀ w', Below wc.heap.size wc w' → w'.cell? ⟨b, off + k, none⟩ = some (.int .i64 m) := fun w' hb => HZ.out w' (below_step hb3.out hb)
          go_wp2_with fail
          refine wp_region_held (S := fun w' => Below wc.heap.size wc w') (by kernel_rfl) ?_
          change wpAnyH _ _ _ _ _ _ _ _ wc.drew
          change wpAnyH _ _ _ _ _ 27 (Array.replicate 27 false) _ _
          refine wpAnyH_take (i := 0) (oi := ?_) (v := ?_) ?_ (by kernel_rfl) (by kernel_rfl) (by kernel_rfl) ?_ ?_ (by assumption) ?_
          rotate_left 2; (simp only [List.getElem?_toArray, List.getElem?_cons_succ, List.getElem?_cons_zero]; rfl)
          rotate_left; (first | (refine .inl ⟨by rfl, ?_⟩; intro w9 hS9; go_simp; try with_reducible rfl) | (refine .inr ⟨by rfl, ?_⟩; with_reducible rfl))
          rotate_left; (intro _ _ _ h9; exact h9)
          try simp only [Act.put, List.setIfInBounds_toArray, List.set_cons_zero, List.set_cons_succ]
          refine wpAnyH_take (i := 1) (oi := ?_) (v := ?_) ?_ (by kernel_rfl) (by kernel_rfl) (by kernel_rfl) ?_ ?_ (by assumption) ?_
          rotate_left 2; (simp only [List.getElem?_toArray, List.getElem?_cons_succ, List.getElem?_cons_zero]; rfl)
          rotate_left; (first | (refine .inl ⟨by rfl, ?_⟩; intro w9 hS9; go_simp; try with_reducible rfl) | (refine .inr ⟨by rfl, ?_⟩; with_reducible rfl))
          rotate_left; (intro _ _ _ h9; exact h9)
          try simp only [Act.put, List.setIfInBounds_toArray, List.set_cons_zero, List.set_cons_succ]
          refine wpAnyH_take (i := 2) (oi := ?_) (v := ?_) ?_ (by kernel_rfl) (by kernel_rfl) (by kernel_rfl) ?_ ?_ (by assumption) ?_
          rotate_left 2; (simp only [List.getElem?_toArray, List.getElem?_cons_succ, List.getElem?_cons_zero]; rfl)
          rotate_left; (first | (refine .inl ⟨by rfl, ?_⟩; intro w9 hS9; go_simp; try with_reducible rfl) | (refine .inr ⟨by rfl, ?_⟩; with_reducible rfl))
          rotate_left; (intro _ _ _ h9; exact h9)
          try simp only [Act.put, List.setIfInBounds_toArray, List.set_cons_zero, List.set_cons_succ]
          refine wpAnyH_take (i := 3) (oi := ?_) (v := ?_) ?_ (by kernel_rfl) (by kernel_rfl) (by kernel_rfl) ?_ ?_ (by assumption) ?_
          rotate_left 2; (simp only [List.getElem?_toArray, List.getElem?_cons_succ, List.getElem?_cons_zero]; rfl)
          rotate_left; (first | (refine .inl ⟨by rfl, ?_⟩; intro w9 hS9; go_simp; try with_reducible rfl) | (refine .inr ⟨by rfl, ?_⟩; with_reducible rfl))
          rotate_left; (intro _ _ _ h9; exact h9)
          try simp only [Act.put, List.setIfInBounds_toArray, List.set_cons_zero, List.set_cons_succ]
          refine wpAnyH_take (i := 4) (oi := ?_) (v := ?_) ?_ (by kernel_rfl) (by kernel_rfl) (by kernel_rfl) ?_ ?_ (by assumption) ?_
          rotate_left 2; (simp only [List.getElem?_toArray, List.getElem?_cons_succ, List.getElem?_cons_zero]; rfl)
          rotate_left; (first | (refine .inl ⟨by rfl, ?_⟩; intro w9 hS9; go_simp; try with_reducible rfl) | (refine .inr ⟨by rfl, ?_⟩; with_reducible rfl))
          rotate_left; (intro _ _ _ h9; exact h9)
          try simp only [Act.put, List.setIfInBounds_toArray, List.set_cons_zero, List.set_cons_succ]
          refine wpAnyH_take (i := 5) (oi := ?_) (v := ?_) ?_ (by kernel_rfl) (by kernel_rfl) (by kernel_rfl) ?_ ?_ (by assumption) ?_
          rotate_left 2; (simp only [List.getElem?_toArray, List.getElem?_cons_succ, List.getElem?_cons_zero]; rfl)
          rotate_left; (first | (refine .inl ⟨by rfl, ?_⟩; intro w9 hS9; go_simp; try with_reducible rfl) | (refine .inr ⟨by rfl, ?_⟩; with_reducible rfl))
          rotate_left; (intro _ _ _ h9; exact h9)
          try simp only [Act.put, List.setIfInBounds_toArray, List.set_cons_zero, List.set_cons_succ]
          refine wpAnyH_take (i := 6) (oi := ?_) (v := ?_) ?_ (by kernel_rfl) (by kernel_rfl) (by kernel_rfl) ?_ ?_ (by assumption) ?_
          rotate_left 2; (simp only [List.getElem?_toArray, List.getElem?_cons_succ, List.getElem?_cons_zero]; rfl)
          rotate_left; (first | (refine .inl ⟨by rfl, ?_⟩; intro w9 hS9; go_simp; try with_reducible rfl) | (refine .inr ⟨by rfl, ?_⟩; with_reducible rfl))
          rotate_left; (intro _ _ _ h9; exact h9)
          try simp only [Act.put, List.setIfInBounds_toArray, List.set_cons_zero, List.set_cons_succ]
          refine wpAnyH_take (i := 7) (oi := ?_) (v := ?_) ?_ (by kernel_rfl) (by kernel_rfl) (by kernel_rfl) ?_ ?_ (by assumption) ?_
          rotate_left 2; (simp only [List.getElem?_toArray, List.getElem?_cons_succ, List.getElem?_cons_zero]; rfl)
          rotate_left; (first | (refine .inl ⟨by rfl, ?_⟩; intro w9 hS9; go_simp; try with_reducible rfl) | (refine .inr ⟨by rfl, ?_⟩; with_reducible rfl))
          rotate_left; (intro _ _ _ h9; exact h9)
          try simp only [Act.put, List.setIfInBounds_toArray, List.set_cons_zero, List.set_cons_succ]
          refine wpAnyH_take (i := 8) (oi := ?_) (v := ?_) ?_ (by kernel_rfl) (by kernel_rfl) (by kernel_rfl) ?_ ?_ (by assumption) ?_
          rotate_left 2; (simp only [List.getElem?_toArray, List.getElem?_cons_succ, List.getElem?_cons_zero]; rfl)
          rotate_left; (first | (refine .inl ⟨by rfl, ?_⟩; intro w9 hS9; go_simp; try with_reducible rfl) | (refine .inr ⟨by rfl, ?_⟩; with_reducible rfl))
          rotate_left; (intro _ _ _ h9; exact h9)
          try simp only [Act.put, List.setIfInBounds_toArray, List.set_cons_zero, List.set_cons_succ]
          refine wpAnyH_take (i := 9) (oi := ?_) (v := ?_) ?_ (by kernel_rfl) (by kernel_rfl) (by kernel_rfl) ?_ ?_ (by assumption) ?_
          rotate_left 2; (simp only [List.getElem?_toArray, List.getElem?_cons_succ, List.getElem?_cons_zero]; rfl)
          rotate_left; (first | (refine .inl ⟨by rfl, ?_⟩; intro w9 hS9; go_simp; try with_reducible rfl) | (refine .inr ⟨by rfl, ?_⟩; with_reducible rfl))
          rotate_left; (intro _ _ _ h9; exact h9)
          try simp only [Act.put, List.setIfInBounds_toArray, List.set_cons_zero, List.set_cons_succ]
          refine wpAnyH_take (i := 10) (oi := ?_) (v := ?_) ?_ (by kernel_rfl) (by kernel_rfl) (by kernel_rfl) ?_ ?_ (by assumption) ?_
          rotate_left 2; (simp only [List.getElem?_toArray, List.getElem?_cons_succ, List.getElem?_cons_zero]; rfl)
          rotate_left; (first | (refine .inl ⟨by rfl, ?_⟩; intro w9 hS9; go_simp; try with_reducible rfl) | (refine .inr ⟨by rfl, ?_⟩; with_reducible rfl))
          rotate_left; (intro _ _ _ h9; exact h9)
          try simp only [Act.put, List.setIfInBounds_toArray, List.set_cons_zero, List.set_cons_succ]
          refine wpAnyH_take (i := 11) (oi := ?_) (v := ?_) ?_ (by kernel_rfl) (by kernel_rfl) (by kernel_rfl) ?_ ?_ (by assumption) ?_
          rotate_left 2; (simp only [List.getElem?_toArray, List.getElem?_cons_succ, List.getElem?_cons_zero]; rfl)
          rotate_left; (first | (refine .inl ⟨by rfl, ?_⟩; intro w9 hS9; go_simp; try with_reducible rfl) | (refine .inr ⟨by rfl, ?_⟩; with_reducible rfl))
          rotate_left; (intro _ _ _ h9; exact h9)
          try simp only [Act.put, List.setIfInBounds_toArray, List.set_cons_zero, List.set_cons_succ]
          refine wpAnyH_take (i := 12) (oi := ?_) (v := ?_) ?_ (by kernel_rfl) (by kernel_rfl) (by kernel_rfl) ?_ ?_ (by assumption) ?_
          rotate_left 2; (simp only [List.getElem?_toArray, List.getElem?_cons_succ, List.getElem?_cons_zero]; rfl)
          rotate_left; (first | (refine .inl ⟨by rfl, ?_⟩; intro w9 hS9; go_simp; try with_reducible rfl) | (refine .inr ⟨by rfl, ?_⟩; with_reducible rfl))
          rotate_left; (intro _ _ _ h9; exact h9)
          try simp only [Act.put, List.setIfInBounds_toArray, List.set_cons_zero, List.set_cons_succ]
          refine wpAnyH_take (i := 13) (oi := ?_) (v := ?_) ?_ (by kernel_rfl) (by kernel_rfl) (by kernel_rfl) ?_ ?_ (by assumption) ?_
          rotate_left 2; (simp only [List.getElem?_toArray, List.getElem?_cons_succ, List.getElem?_cons_zero]; rfl)
          rotate_left; (first | (refine .inl ⟨by rfl, ?_⟩; intro w9 hS9; go_simp; try with_reducible rfl) | (refine .inr ⟨by rfl, ?_⟩; with_reducible rfl))
          rotate_left; (intro _ _ _ h9; exact h9)
          try simp only [Act.put, List.setIfInBounds_toArray, List.set_cons_zero, List.set_cons_succ]
          refine wpAnyH_take (i := 14) (oi := ?_) (v := ?_) ?_ (by kernel_rfl) (by kernel_rfl) (by kernel_rfl) ?_ ?_ (by assumption) ?_
          rotate_left 2; (simp only [List.getElem?_toArray, List.getElem?_cons_succ, List.getElem?_cons_zero]; rfl)
          rotate_left; (first | (refine .inl ⟨by rfl, ?_⟩; intro w9 hS9; go_simp; try with_reducible rfl) | (refine .inr ⟨by rfl, ?_⟩; with_reducible rfl))
          rotate_left; (intro _ _ _ h9; exact h9)
          try simp only [Act.put, List.setIfInBounds_toArray, List.set_cons_zero, List.set_cons_succ]
          refine wpAnyH_take (i := 16) (oi := ?_) (v := ?_) ?_ (by kernel_rfl) (by kernel_rfl) (by kernel_rfl) ?_ ?_ (by assumption) ?_
          rotate_left 2; (simp only [List.getElem?_toArray, List.getElem?_cons_succ, List.getElem?_cons_zero]; rfl)
          rotate_left; (first | (refine .inl ⟨by rfl, ?_⟩; intro w9 hS9; go_simp; try with_reducible rfl) | (refine .inr ⟨by rfl, ?_⟩; with_reducible rfl))
          rotate_left; (intro _ _ _ h9; exact h9)
          try simp only [Act.put, List.setIfInBounds_toArray, List.set_cons_zero, List.set_cons_succ]
          refine wpAnyH_ready (rs := [15]) (by kernel_rfl) (by simp) (AllReadyH.cons rfl (fun K9 hK9 => ?_) AllReadyH.nil)
          go_simp
          go_must (refine (st_dead g gb _ _ _ _ (hst3.below hS0)).mono ?_)
          rintro e we2 ⟨rfl, rfl⟩
          refine hK9.out _ _ hS0 (fun _ => ?_)
          clear hK9
          refine wpAnyH_take (i := 17) (oi := ?_) (v := ?_) ?_ (by kernel_rfl) (by kernel_rfl) (by kernel_rfl) ?_ ?_ (by assumption) ?_
          rotate_left 2; (simp only [List.getElem?_toArray, List.getElem?_cons_succ, List.getElem?_cons_zero]; rfl)
          rotate_left; (first | (refine .inl ⟨by rfl, ?_⟩; intro w9 hS9; go_simp; try with_reducible rfl) | (refine .inr ⟨by rfl, ?_⟩; with_reducible rfl))
          rotate_left; (intro _ _ _ h9; exact h9)
          try simp only [Act.put, List.setIfInBounds_toArray, List.set_cons_zero, List.set_cons_succ]
          refine wpAnyH_take (i := 18) (oi := ?_) (v := ?_) ?_ (by kernel_rfl) (by kernel_rfl) (by kernel_rfl) ?_ ?_ (by assumption) ?_
          rotate_left 2; (simp only [List.getElem?_toArray, List.getElem?_cons_succ, List.getElem?_cons_zero]; rfl)
          rotate_left; (first | (refine .inl ⟨by rfl, ?_⟩; intro w9 hS9; go_simp; try with_reducible rfl) | (refine .inr ⟨by rfl, ?_⟩; with_reducible rfl))
          rotate_left; (intro _ _ _ h9; exact h9)
          try simp only [Act.put, List.setIfInBounds_toArray, List.set_cons_zero, List.set_cons_succ]
          refine wpAnyH_take (i := 19) (oi := ?_) (v := ?_) ?_ (by kernel_rfl) (by kernel_rfl) (by kernel_rfl) ?_ ?_ (by assumption) ?_
          rotate_left 2; (simp only [List.getElem?_toArray, List.getElem?_cons_succ, List.getElem?_cons_zero]; rfl)
          rotate_left; (first | (refine .inl ⟨by rfl, ?_⟩; intro w9 hS9; go_simp; try with_reducible rfl) | (refine .inr ⟨by rfl, ?_⟩; with_reducible rfl))
          rotate_left; (intro _ _ _ h9; exact h9)
          try simp only [Act.put, List.setIfInBounds_toArray, List.set_cons_zero, List.set_cons_succ]
          refine wpAnyH_take (i := 20) (oi := ?_) (v := ?_) ?_ (by kernel_rfl) (by kernel_rfl) (by kernel_rfl) ?_ ?_ (by assumption) ?_
          rotate_left 2; (simp only [List.getElem?_toArray, List.getElem?_cons_succ, List.getElem?_cons_zero]; rfl)
          rotate_left; (first | (refine .inl ⟨by rfl, ?_⟩; intro w9 hS9; go_simp; try with_reducible rfl) | (refine .inr ⟨by rfl, ?_⟩; with_reducible rfl))
          rotate_left; (intro _ _ _ h9; exact h9)
          try simp only [Act.put, List.setIfInBounds_toArray, List.set_cons_zero, List.set_cons_succ]
          refine wpAnyH_take (i := 21) (oi := ?_) (v := ?_) ?_ (by kernel_rfl) (by kernel_rfl) (by kernel_rfl) ?_ ?_ (by assumption) ?_
          rotate_left 2; (simp only [List.getElem?_toArray, List.getElem?_cons_succ, List.getElem?_cons_zero]; rfl)
          rotate_left; (first | (refine .inl ⟨by rfl, ?_⟩; intro w9 hS9; go_simp; try with_reducible rfl) | (refine .inr ⟨by rfl, ?_⟩; with_reducible rfl))
          rotate_left; (intro _ _ _ h9; exact h9)
          try simp only [Act.put, List.setIfInBounds_toArray, List.set_cons_zero, List.set_cons_succ]
          refine wpAnyH_take (i := 22) (oi := ?_) (v := ?_) ?_ (by kernel_rfl) (by kernel_rfl) (by kernel_rfl) ?_ ?_ (by assumption) ?_
          rotate_left 2; (simp only [List.getElem?_toArray, List.getElem?_cons_succ, List.getElem?_cons_zero]; rfl)
          rotate_left; (first | (refine .inl ⟨by rfl, ?_⟩; intro w9 hS9; go_simp; try with_reducible rfl) | (refine .inr ⟨by rfl, ?_⟩; with_reducible rfl))
          rotate_left; (intro _ _ _ h9; exact h9)
          try simp only [Act.put, List.setIfInBounds_toArray, List.set_cons_zero, List.set_cons_succ]
          refine wpAnyH_take (i := 23) (oi := ?_) (v := ?_) ?_ (by kernel_rfl) (by kernel_rfl) (by kernel_rfl) ?_ ?_ (by assumption) ?_
          rotate_left 2; (simp only [List.getElem?_toArray, List.getElem?_cons_succ, List.getElem?_cons_zero]; rfl)
          rotate_left; (first | (refine .inl ⟨by rfl, ?_⟩; intro w9 hS9; go_simp; try with_reducible rfl) | (refine .inr ⟨by rfl, ?_⟩; with_reducible rfl))
          rotate_left; (intro _ _ _ h9; exact h9)
          try simp only [Act.put, List.setIfInBounds_toArray, List.set_cons_zero, List.set_cons_succ]
          refine wpAnyH_take (i := 24) (oi := ?_) (v := ?_) ?_ (by kernel_rfl) (by kernel_rfl) (by kernel_rfl) ?_ ?_ (by assumption) ?_
          rotate_left 2; (simp only [List.getElem?_toArray, List.getElem?_cons_succ, List.getElem?_cons_zero]; rfl)
          rotate_left; (first | (refine .inl ⟨by rfl, ?_⟩; intro w9 hS9; go_simp; try with_reducible rfl) | (refine .inr ⟨by rfl, ?_⟩; with_reducible rfl))
          rotate_left; (intro _ _ _ h9; exact h9)
          try simp only [Act.put, List.setIfInBounds_toArray, List.set_cons_zero, List.set_cons_succ]
          refine wpAnyH_take (i := 25) (oi := ?_) (v := ?_) ?_ (by kernel_rfl) (by kernel_rfl) (by kernel_rfl) ?_ ?_ (by assumption) ?_
          rotate_left 2; (simp only [List.getElem?_toArray, List.getElem?_cons_succ, List.getElem?_cons_zero]; rfl)
          rotate_left; (first | (refine .inl ⟨by rfl, ?_⟩; intro w9 hS9; go_simp; try with_reducible rfl) | (refine .inr ⟨by rfl, ?_⟩; with_reducible rfl))
          rotate_left; (intro _ _ _ h9; exact h9)
          try simp only [Act.put, List.setIfInBounds_toArray, List.set_cons_zero, List.set_cons_succ]
          refine wpAnyH_take (i := 26) (oi := ?_) (v := ?_) ?_ (by kernel_rfl) (by kernel_rfl) (by kernel_rfl) ?_ ?_ (by assumption) ?_
          rotate_left 2; (simp only [List.getElem?_toArray, List.getElem?_cons_succ, List.getElem?_cons_zero]; rfl)
          rotate_left; (first | (refine .inl ⟨by rfl, ?_⟩; intro w9 hS9; go_simp; try with_reducible rfl) | (refine .inr ⟨by rfl, ?_⟩; with_reducible rfl))
          rotate_left; (intro _ _ _ h9; exact h9)
          try simp only [Act.put, List.setIfInBounds_toArray, List.set_cons_zero, List.set_cons_succ]
          refine wpAnyH_done (by kernel_rfl) ?_ _
          have HS := Lib.hid (hst3.below hS0)
          have HB := Lib.hid (below_step hb3.out hS0)
          replace x0 := x0 _ hS0
          clear hst3 hS0 hb3
          go_wp2_with fail
          exact ⟨⟨k + 1, M, 0, _, true, by omega, by go_num, rfl, hM, HX2.out, HS.out, (fun h => by cases h), HB.out⟩, by simp [intOf]; omega⟩
    · have hkl : ¬ (k : Int) < len1 := by omega
      clear hst
      go_wp2_with fail
      go_ret
      exact ⟨rfl, hb.out⟩
end Go.Proofs.YtjoiblgnppjpiaaDoor
