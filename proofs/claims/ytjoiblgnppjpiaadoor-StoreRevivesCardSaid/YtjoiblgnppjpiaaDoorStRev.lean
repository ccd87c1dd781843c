/- The walks of StoreRevives, StoreKeeps. -/
import Derived.Test.YtjoiblgnppjpiaaDoorStTears
namespace Go.Proofs.YtjoiblgnppjpiaaDoor
open Go.RowKit
set_option linter.unusedVariables false
set_option linter.unusedSimpArgs false

theorem RS.two {w w' : World} {g gb : Nat} {b n c : Nat} {xs : List UInt8} (h : RS w (some ⟨b, 0, Option.none⟩) n c xs) (hf : Fr (fun i => i = g ∨ i = gb) w w') (hb : b ≠ g) (hb2 : b ≠ gb) : RS w' (some ⟨b, 0, Option.none⟩) n c xs := h.fr hf (fun _ b' off e h => by cases e; rcases h with h | h; exact hb h; exact hb2 h)
theorem splice_self (xs : List UInt8) (k : Nat) (hk : k ≤ xs.length) (n : Nat) (hn : n = xs.length) (ys : List UInt8) (hy : ys.length = n) : splice (splice ys 0 (xs.take k)) 0 xs = xs := by
  apply splice_whole
  rw [length_splice _ _ _ (by rw [List.length_take]; omega)]; omega
set_option maxRecDepth 100000 in
set_option maxHeartbeats 8000000 in
theorem storeRevives_walk (a0 : Option Addr) (len0 cap0 : Nat) (z0 : List Int) (a1 : Int) (w : World) (w0 : IsRow .u8 w a0 len0 cap0 z0) (w1 : (Lit.int .i64 a1).wf = true) (hg : HasTy w) :
    Calls Tryd.prog 6 #[.slice a0 len0 cap0, .int .i64 a1] w fun e w' => e = .returned (.bool true) ∧ Below w.heap.size w w' := by
  obtain ⟨xs, hr⟩ := w0.bytes
  have hmx := hr.rb.2.1
  have H0 := Lib.hid hg
  clear w0 w1 hg
  by_cases c0 : len0 < 1
  · have c0' : (len0 : Int) < 1 := by omega
    clear hr
    go_enter Tryd.func6, Tryd.ntmps6
    go_wp2_with (first | (go_at_call 7; refine (st_small _ H0.out).mono ?_; rintro e w' ⟨rfl, hb⟩) | (go_at_call 8; refine (st_new _ _).mono ?_; rintro e w2 ⟨g, gb, rfl, _, _, _, hb2⟩; have hb := below_step hb hb2))
    go_ret
    exact ⟨rfl, hb⟩
  have c0' : ¬ (len0 : Int) < 1 := by omega
  by_cases c1 : 2000 < len0
  · have c1' : (2000 : Int) < len0 := by omega
    clear hr
    go_enter Tryd.func6, Tryd.ntmps6
    go_wp2_with (first | (go_at_call 7; refine (st_small _ H0.out).mono ?_; rintro e w' ⟨rfl, hb⟩) | (go_at_call 8; refine (st_new _ _).mono ?_; rintro e w2 ⟨g, gb, rfl, _, _, _, hb2⟩; have hb := below_step hb hb2))
    go_ret
    exact ⟨rfl, hb⟩
  have c1' : ¬ (2000 : Int) < len0 := by omega
  by_cases c3 : a1 < 0
  · clear hr
    go_enter Tryd.func6, Tryd.ntmps6
    go_wp2_with (first | (go_at_call 7; refine (st_small _ H0.out).mono ?_; rintro e w' ⟨rfl, hb⟩) | (go_at_call 8; refine (st_new _ _).mono ?_; rintro e w2 ⟨g, gb, rfl, _, _, _, hb2⟩; have hb := below_step hb hb2))
    go_ret
    exact ⟨rfl, hb⟩
  by_cases c7 : (len0 : Int) ≤ a1
  · clear hr
    go_enter Tryd.func6, Tryd.ntmps6
    go_wp2_with (first | (go_at_call 7; refine (st_small _ H0.out).mono ?_; rintro e w' ⟨rfl, hb⟩) | (go_at_call 8; refine (st_new _ _).mono ?_; rintro e w2 ⟨g, gb, rfl, _, _, _, hb2⟩; have hb := below_step hb hb2))
    go_ret
    exact ⟨rfl, hb⟩
  obtain ⟨k, rfl⟩ := Int.eq_ofNat_of_zero_le (show 0 ≤ a1 by omega)
  have hl := Lib.hid hr.len
  have HR := Lib.hid hr
  have hkm : k < len0 := by omega
  clear hr
  go_enter Tryd.func6, Tryd.ntmps6
  go_wp2_with fail
  refine (st_small _ H0.out).mono ?_
  rintro e wa ⟨rfl, hb⟩
  go_wp2_with fail
  refine (st_new _ _).mono ?_
  rintro e wb ⟨g, gb, rfl, hst, hwg, hwb, hb2⟩
  rw [stSize_nat len0 (by omega)] at hst
  have hsa := hb.size
  have hwg2 : w.heap.size ≤ g := by omega
  have hwb2 : w.heap.size ≤ gb := by omega
  replace hb := Lib.hid (below_step hb hb2)
  clear hb2 hwg hwb hsa
  go_wp2_with fail
  refine (st_kill g gb _ _ _ k _ (by omega) hst).mono ?_
  rintro e w3 ⟨rfl, h2, hf⟩
  replace hb := Lib.hid (below_one hb.out hf hwg2)
  replace hst : StIs w3 g gb (List.replicate len0 255) (some k) false := h2
  clear hf h2
  go_wp2_with fail
  refine (st_write_torn g gb _ k 0 _ _ _ xs _ hst (HR.out.below hb.out) (fun _ _ _ _ => trivial) (by rw [List.length_replicate]; omega) hkm).mono ?_
  rintro e w4 ⟨ve, rfl, hee, h2, hf⟩
  replace hb := Lib.hid (below_two hb.out hf hwg2 hwb2)
  replace hst := h2
  have hms : (splice (List.replicate len0 255) 0 (xs.take k)).length = len0 := by rw [length_splice _ _ _ (by rw [List.length_take, hl.out, List.length_replicate]; omega), List.length_replicate]
  have hself := Lib.hid (show splice (splice (List.replicate len0 255) 0 (xs.take k)) 0 xs = xs from splice_self xs k (by rw [hl.out]; omega) len0 hl.out.symm _ (by simp))
  clear hf h2
  generalize splice (List.replicate len0 255) 0 (xs.take k) = ms at hst hms hself
  have hlt4 := hst.lt
  go_wp2_with fail
  refine (st_read g gb _ _ _ 0 len0 _ hst).mono ?_
  rintro e w5 ⟨v1, rfl, ho1, hb2⟩
  rw [stRead_all _ _ hms.symm] at ho1
  rcases ho1.form with ⟨_, h0⟩ | ⟨g1, cp1, rfl, hg1, _, _, hr1⟩
  · rw [h0] at hms; simp at hms; omega
  rw [hms] at hr1 ⊢
  replace hb := Lib.hid (below_step hb.out hb2)
  replace hst := hst.below hb2
  replace hee := hee.below hb2
  clear hb2 ho1
  go_wp2_with fail
  refine (st_revive g gb _ _ _ _ hst).mono ?_
  rintro e w6 ⟨rfl, h2, hf⟩
  replace hee := hee.fr hf (fun k cs m e => hst.noStep k cs m (.inl e))
  replace hr1 := hr1.one hf (by omega)
  replace hb := Lib.hid (below_one hb.out hf hwg2)
  replace hst := h2
  clear hf h2
  have hlt6 := hst.lt
  go_wp2_with fail
  refine (st_read g gb _ _ _ 0 len0 _ hst).mono ?_
  rintro e w7 ⟨v2, rfl, ho2, hb2⟩
  rw [stRead_all _ _ hms.symm] at ho2
  rcases ho2.form with ⟨_, h0⟩ | ⟨g2, cp2, rfl, hg2, _, _, hr2⟩
  · rw [h0] at hms; simp at hms; omega
  rw [hms] at hr2 ⊢
  replace hb := Lib.hid (below_step hb.out hb2)
  replace hst := hst.below hb2
  replace hee := hee.below hb2
  replace hr1 := hr1.below hb2
  clear hb2 ho2
  go_wp2_with fail
  refine (st_write_fits g gb _ _ 0 _ _ _ xs _ hst (HR.out.below hb.out) (by rw [hms]; omega) (fun k h => by cases h)).mono ?_
  rintro e w8 ⟨rfl, h2, hf⟩
  rw [hself.out] at h2
  replace hee := hee.fr hf hst.noStep
  replace hr1 := hr1.two hf (by omega) (by omega)
  replace hr2 := hr2.two hf (by omega) (by omega)
  replace hb := Lib.hid (below_two hb.out hf hwg2 hwb2)
  replace hst : StIs w8 g gb xs none false := h2
  clear hf h2
  go_wp2_with fail
  refine (st_write_fits g gb _ _ 0 _ _ _ xs _ hst (HR.out.below hb.out) (by rw [hl.out]; omega) (fun k h => by cases h)).mono ?_
  rintro e wc ⟨rfl, h2, hf⟩
  rw [splice_whole _ _ rfl] at h2
  replace hee := hee.fr hf hst.noStep
  replace hr1 := hr1.two hf (by omega) (by omega)
  replace hr2 := hr2.two hf (by omega) (by omega)
  replace hb := Lib.hid (below_two hb.out hf hwg2 hwb2)
  replace hst : StIs wc g gb xs none false := h2
  clear hf h2
  have Hee := Lib.hid hee
  have H0' := Lib.hid (H0.out.below hb.out)
  obtain ⟨te, ue, rfl⟩ := hee.iface
  have k1 := by_string_of wc _ _ cp1 _ hr1.rb
  have k2 := by_string_of wc _ _ cp2 _ hr2.rb
  have k3 := by_string_of wc _ _ cap0 _ (HR.out.below hb.out).rb
  have t1 := strB_toList ms
  have t2 := strB_toList xs
  clear hee hr1 hr2 hself hlt4 hlt6
  have hS0 := below_drew1 wc
  go_wp2_with fail
  refine wp_region_held (S := fun w' => Below wc.heap.size wc w') (by kernel_rfl) ?_
  change wpAnyH _ _ _ _ _ _ _ _ wc.drew
  change wpAnyH _ _ _ _ _ 32 (Array.replicate 32 false) _ _
  refine wpAnyH_take (i := 0) (oi := ?_) (v := ?_) ?_ (by kernel_rfl) (by kernel_rfl) (by kernel_rfl) ?_ ?_ (by assumption) ?_
  rotate_left 2; (simp only [List.getElem?_toArray, List.getElem?_cons_succ, List.getElem?_cons_zero]; rfl)
  rotate_left; (first | (refine .inl ⟨by rfl, ?_⟩; intro w9 hS9; go_simp; try with_reducible rfl) | (refine .inr ⟨by rfl, ?_⟩; with_reducible rfl))
  rotate_left; (intro _ _ _ h9; exact h9)
  try simp only [Act.put, List.setIfInBounds_toArray, List.set_cons_zero, List.set_cons_succ]
  refine wpAnyH_take (i := 1) (oi := ?_) (v := ?_) ?_ (by kernel_rfl) (by kernel_rfl) (by kernel_rfl) ?_ ?_ (by assumption) ?_
  rotate_left 2; (simp only [List.getElem?_toArray, List.getElem?_cons_succ, List.getElem?_cons_zero]; rfl)
  rotate_left; (first | (refine .inl ⟨by rfl, ?_⟩; intro w9 hS9; go_simp; try with_reducible rfl) | (refine .inr ⟨by rfl, ?_⟩; with_reducible rfl))
  rotate_left; (intro _ _ _ h9; exact h9)
  try simp only [Act.put, List.setIfInBounds_toArray, List.set_cons_zero, List.set_cons_succ]
  refine wpAnyH_take (i := 2) (oi := ?_) (v := ?_) ?_ (by kernel_rfl) (by kernel_rfl) (by kernel_rfl) ?_ ?_ (by assumption) ?_
  rotate_left 2; (simp only [List.getElem?_toArray, List.getElem?_cons_succ, List.getElem?_cons_zero]; rfl)
  rotate_left; (first | (refine .inl ⟨by rfl, ?_⟩; intro w9 hS9; go_simp; try with_reducible rfl) | (refine .inr ⟨by rfl, ?_⟩; with_reducible rfl))
  rotate_left; (intro _ _ _ h9; exact h9)
  try simp only [Act.put, List.setIfInBounds_toArray, List.set_cons_zero, List.set_cons_succ]
  refine wpAnyH_ready (rs := [3]) (by kernel_rfl) (by simp) (AllReadyH.cons rfl (fun K9 hK9 => ?_) AllReadyH.nil)
  go_simp
  go_must (refine (fault_code 1 _ 7 _ (H0'.out.below hS0) (Hee.out.below hS0)).mono ?_)
  rintro e wd ⟨rfl, hb2⟩
  have hS1 := below_step hS0 hb2
  refine hK9.out _ _ hS1 (fun _ => ?_)
  clear hK9
  refine wpAnyH_take (i := 4) (oi := ?_) (v := ?_) ?_ (by kernel_rfl) (by kernel_rfl) (by kernel_rfl) ?_ ?_ (by assumption) ?_
  rotate_left 2; (simp only [List.getElem?_toArray, List.getElem?_cons_succ, List.getElem?_cons_zero]; rfl)
  rotate_left; (first | (refine .inl ⟨by rfl, ?_⟩; intro w9 hS9; go_simp; try with_reducible rfl) | (refine .inr ⟨by rfl, ?_⟩; with_reducible rfl))
  rotate_left; (intro _ _ _ h9; exact h9)
  try simp only [Act.put, List.setIfInBounds_toArray, List.set_cons_zero, List.set_cons_succ]
  refine wpAnyH_take (i := 5) (oi := ?_) (v := ?_) ?_ (by kernel_rfl) (by kernel_rfl) (by kernel_rfl) ?_ ?_ (by assumption) ?_
  rotate_left 2; (simp only [List.getElem?_toArray, List.getElem?_cons_succ, List.getElem?_cons_zero]; rfl)
  rotate_left; (first | (refine .inl ⟨by rfl, ?_⟩; intro w9 hS9; go_simp; try with_reducible rfl) | (refine .inr ⟨by rfl, ?_⟩; with_reducible rfl))
  rotate_left; (intro _ _ _ h9; exact h9)
  try simp only [Act.put, List.setIfInBounds_toArray, List.set_cons_zero, List.set_cons_succ]
  refine wpAnyH_take (i := 6) (oi := ?_) (v := ?_) ?_ (by kernel_rfl) (by kernel_rfl) (by kernel_rfl) ?_ ?_ (by assumption) ?_
  rotate_left 2; (simp only [List.getElem?_toArray, List.getElem?_cons_succ, List.getElem?_cons_zero]; rfl)
  rotate_left; (first | (refine .inl ⟨by rfl, ?_⟩; intro w9 hS9; go_simp; try with_reducible rfl) | (refine .inr ⟨by rfl, ?_⟩; with_reducible rfl))
  rotate_left; (intro _ _ _ h9; exact h9)
  try simp only [Act.put, List.setIfInBounds_toArray, List.set_cons_zero, List.set_cons_succ]
  refine wpAnyH_take (i := 7) (oi := ?_) (v := ?_) ?_ (by kernel_rfl) (by kernel_rfl) (by kernel_rfl) ?_ ?_ (by assumption) ?_
  rotate_left 2; (simp only [List.getElem?_toArray, List.getElem?_cons_succ, List.getElem?_cons_zero]; rfl)
  rotate_left; (first | (refine .inl ⟨by rfl, ?_⟩; intro w9 hS9; go_simp; try with_reducible rfl) | (refine .inr ⟨by rfl, ?_⟩; with_reducible rfl))
  rotate_left; (intro _ _ _ h9; exact h9)
  try simp only [Act.put, List.setIfInBounds_toArray, List.set_cons_zero, List.set_cons_succ]
  refine wpAnyH_take (i := 8) (oi := ?_) (v := ?_) ?_ (by kernel_rfl) (by kernel_rfl) (by kernel_rfl) ?_ ?_ (by assumption) ?_
  rotate_left 2; (simp only [List.getElem?_toArray, List.getElem?_cons_succ, List.getElem?_cons_zero]; rfl)
  rotate_left; (first | (refine .inl ⟨by rfl, ?_⟩; intro w9 hS9; go_simp; try with_reducible rfl) | (refine .inr ⟨by rfl, ?_⟩; with_reducible rfl))
  rotate_left; (intro _ _ _ h9; exact h9)
  try simp only [Act.put, List.setIfInBounds_toArray, List.set_cons_zero, List.set_cons_succ]
  refine wpAnyH_take (i := 9) (oi := ?_) (v := ?_) ?_ (by kernel_rfl) (by kernel_rfl) (by kernel_rfl) ?_ ?_ (by assumption) ?_
  rotate_left 2; (simp only [List.getElem?_toArray, List.getElem?_cons_succ, List.getElem?_cons_zero]; rfl)
  rotate_left; (first | (refine .inl ⟨by rfl, ?_⟩; intro w9 hS9; go_simp; try with_reducible rfl) | (refine .inr ⟨by rfl, ?_⟩; with_reducible rfl))
  rotate_left; (intro _ _ _ h9; exact h9)
  try simp only [Act.put, List.setIfInBounds_toArray, List.set_cons_zero, List.set_cons_succ]
  refine wpAnyH_take (i := 10) (oi := ?_) (v := ?_) ?_ (by kernel_rfl) (by kernel_rfl) (by kernel_rfl) ?_ ?_ (by assumption) ?_
  rotate_left 2; (simp only [List.getElem?_toArray, List.getElem?_cons_succ, List.getElem?_cons_zero]; rfl)
  rotate_left; (first | (refine .inl ⟨by rfl, ?_⟩; intro w9 hS9; go_simp; try with_reducible rfl) | (refine .inr ⟨by rfl, ?_⟩; with_reducible rfl))
  rotate_left; (intro _ _ _ h9; exact h9)
  try simp only [Act.put, List.setIfInBounds_toArray, List.set_cons_zero, List.set_cons_succ]
  refine wpAnyH_take (i := 11) (oi := ?_) (v := ?_) ?_ (by kernel_rfl) (by kernel_rfl) (by kernel_rfl) ?_ ?_ (by assumption) ?_
  rotate_left 2; (simp only [List.getElem?_toArray, List.getElem?_cons_succ, List.getElem?_cons_zero]; rfl)
  rotate_left; (first | (refine .inl ⟨by rfl, ?_⟩; intro w9 hS9; go_simp; try with_reducible rfl) | (refine .inr ⟨by rfl, ?_⟩; with_reducible rfl))
  rotate_left; (intro _ _ _ h9; exact h9)
  try simp only [Act.put, List.setIfInBounds_toArray, List.set_cons_zero, List.set_cons_succ]
  refine wpAnyH_take (i := 12) (oi := ?_) (v := ?_) ?_ (by kernel_rfl) (by kernel_rfl) (by kernel_rfl) ?_ ?_ (by assumption) ?_
  rotate_left 2; (simp only [List.getElem?_toArray, List.getElem?_cons_succ, List.getElem?_cons_zero]; rfl)
  rotate_left; (first | (refine .inl ⟨by rfl, ?_⟩; intro w9 hS9; go_simp; try with_reducible rfl) | (refine .inr ⟨by rfl, ?_⟩; with_reducible rfl))
  rotate_left; (intro _ _ _ h9; exact h9)
  try simp only [Act.put, List.setIfInBounds_toArray, List.set_cons_zero, List.set_cons_succ]
  refine wpAnyH_take (i := 13) (oi := ?_) (v := ?_) ?_ (by kernel_rfl) (by kernel_rfl) (by kernel_rfl) ?_ ?_ (by assumption) ?_
  rotate_left 2; (simp only [List.getElem?_toArray, List.getElem?_cons_succ, List.getElem?_cons_zero]; rfl)
  rotate_left; (first | (refine .inl ⟨by rfl, ?_⟩; intro w9 hS9; go_simp; try with_reducible rfl) | (refine .inr ⟨by rfl, ?_⟩; with_reducible rfl))
  rotate_left; (intro _ _ _ h9; exact h9)
  try simp only [Act.put, List.setIfInBounds_toArray, List.set_cons_zero, List.set_cons_succ]
  refine wpAnyH_take (i := 14) (oi := ?_) (v := ?_) ?_ (by kernel_rfl) (by kernel_rfl) (by kernel_rfl) ?_ ?_ (by assumption) ?_
  rotate_left 2; (simp only [List.getElem?_toArray, List.getElem?_cons_succ, List.getElem?_cons_zero]; rfl)
  rotate_left; (first | (refine .inl ⟨by rfl, ?_⟩; intro w9 hS9; go_simp; try with_reducible rfl) | (refine .inr ⟨by rfl, ?_⟩; with_reducible rfl))
  rotate_left; (intro _ _ _ h9; exact h9)
  try simp only [Act.put, List.setIfInBounds_toArray, List.set_cons_zero, List.set_cons_succ]
  refine wpAnyH_take (i := 15) (oi := ?_) (v := ?_) ?_ (by kernel_rfl) (by kernel_rfl) (by kernel_rfl) ?_ ?_ (by assumption) ?_
  rotate_left 2; (simp only [List.getElem?_toArray, List.getElem?_cons_succ, List.getElem?_cons_zero]; rfl)
  rotate_left; (first | (refine .inl ⟨by rfl, ?_⟩; intro w9 hS9; go_simp; try with_reducible rfl) | (refine .inr ⟨by rfl, ?_⟩; with_reducible rfl))
  rotate_left; (intro _ _ _ h9; exact h9)
  try simp only [Act.put, List.setIfInBounds_toArray, List.set_cons_zero, List.set_cons_succ]
  refine wpAnyH_take (i := 16) (oi := ?_) (v := ?_) ?_ (by kernel_rfl) (by kernel_rfl) (by kernel_rfl) ?_ ?_ (by assumption) ?_
  rotate_left 2; (simp only [List.getElem?_toArray, List.getElem?_cons_succ, List.getElem?_cons_zero]; rfl)
  rotate_left; (first | (refine .inl ⟨by rfl, ?_⟩; intro w9 hS9; go_simp; try with_reducible rfl) | (refine .inr ⟨by rfl, ?_⟩; with_reducible rfl))
  rotate_left; (intro _ _ _ h9; exact h9)
  try simp only [Act.put, List.setIfInBounds_toArray, List.set_cons_zero, List.set_cons_succ]
  refine wpAnyH_take (i := 17) (oi := ?_) (v := ?_) ?_ (by kernel_rfl) (by kernel_rfl) (by kernel_rfl) ?_ ?_ (by assumption) ?_
  rotate_left 2; (simp only [List.getElem?_toArray, List.getElem?_cons_succ, List.getElem?_cons_zero]; rfl)
  rotate_left; (first | (refine .inl ⟨by rfl, ?_⟩; intro w9 hS9; go_simp; try with_reducible rfl) | (refine .inr ⟨by rfl, ?_⟩; with_reducible rfl))
  rotate_left; (intro _ _ _ h9; exact h9)
  try simp only [Act.put, List.setIfInBounds_toArray, List.set_cons_zero, List.set_cons_succ]
  refine wpAnyH_take (i := 18) (oi := ?_) (v := ?_) ?_ (by kernel_rfl) (by kernel_rfl) (by kernel_rfl) ?_ ?_ (by assumption) ?_
  rotate_left 2; (simp only [List.getElem?_toArray, List.getElem?_cons_succ, List.getElem?_cons_zero]; rfl)
  rotate_left; (first | (refine .inl ⟨by rfl, ?_⟩; intro w9 hS9; go_simp; try with_reducible rfl) | (refine .inr ⟨by rfl, ?_⟩; with_reducible rfl))
  rotate_left; (intro _ _ _ h9; exact h9)
  try simp only [Act.put, List.setIfInBounds_toArray, List.set_cons_zero, List.set_cons_succ]
  refine wpAnyH_take (i := 19) (oi := ?_) (v := ?_) ?_ (by kernel_rfl) (by kernel_rfl) (by kernel_rfl) ?_ ?_ (by assumption) ?_
  rotate_left 2; (simp only [List.getElem?_toArray, List.getElem?_cons_succ, List.getElem?_cons_zero]; rfl)
  rotate_left; (first | (refine .inl ⟨by rfl, ?_⟩; intro w9 hS9; go_simp; try with_reducible rfl) | (refine .inr ⟨by rfl, ?_⟩; with_reducible rfl))
  rotate_left; (intro _ _ _ h9; exact h9)
  try simp only [Act.put, List.setIfInBounds_toArray, List.set_cons_zero, List.set_cons_succ]
  refine wpAnyH_take (i := 20) (oi := ?_) (v := ?_) ?_ (by kernel_rfl) (by kernel_rfl) (by kernel_rfl) ?_ ?_ (by assumption) ?_
  rotate_left 2; (simp only [List.getElem?_toArray, List.getElem?_cons_succ, List.getElem?_cons_zero]; rfl)
  rotate_left; (first | (refine .inl ⟨by rfl, ?_⟩; intro w9 hS9; go_simp; try with_reducible rfl) | (refine .inr ⟨by rfl, ?_⟩; with_reducible rfl))
  rotate_left; (intro _ _ _ h9; exact h9)
  try simp only [Act.put, List.setIfInBounds_toArray, List.set_cons_zero, List.set_cons_succ]
  refine wpAnyH_take (i := 21) (oi := ?_) (v := ?_) ?_ (by kernel_rfl) (by kernel_rfl) (by kernel_rfl) ?_ ?_ (by assumption) ?_
  rotate_left 2; (simp only [List.getElem?_toArray, List.getElem?_cons_succ, List.getElem?_cons_zero]; rfl)
  rotate_left; (first | (refine .inl ⟨by rfl, ?_⟩; intro w9 hS9; go_simp; try with_reducible rfl) | (refine .inr ⟨by rfl, ?_⟩; with_reducible rfl))
  rotate_left; (intro _ _ _ h9; exact h9)
  try simp only [Act.put, List.setIfInBounds_toArray, List.set_cons_zero, List.set_cons_succ]
  refine wpAnyH_take (i := 22) (oi := ?_) (v := ?_) ?_ (by kernel_rfl) (by kernel_rfl) (by kernel_rfl) ?_ ?_ (by assumption) ?_
  rotate_left 2; (simp only [List.getElem?_toArray, List.getElem?_cons_succ, List.getElem?_cons_zero]; rfl)
  rotate_left; (first | (refine .inl ⟨by rfl, ?_⟩; intro w9 hS9; go_simp; try with_reducible rfl) | (refine .inr ⟨by rfl, ?_⟩; with_reducible rfl))
  rotate_left; (intro _ _ _ h9; exact h9)
  try simp only [Act.put, List.setIfInBounds_toArray, List.set_cons_zero, List.set_cons_succ]
  refine wpAnyH_take (i := 23) (oi := ?_) (v := ?_) ?_ (by kernel_rfl) (by kernel_rfl) (by kernel_rfl) ?_ ?_ (by assumption) ?_
  rotate_left 2; (simp only [List.getElem?_toArray, List.getElem?_cons_succ, List.getElem?_cons_zero]; rfl)
  rotate_left; (first | (refine .inl ⟨by rfl, ?_⟩; intro w9 hS9; go_simp; try with_reducible rfl) | (refine .inr ⟨by rfl, ?_⟩; with_reducible rfl))
  rotate_left; (intro _ _ _ h9; exact h9)
  try simp only [Act.put, List.setIfInBounds_toArray, List.set_cons_zero, List.set_cons_succ]
  refine wpAnyH_take (i := 24) (oi := ?_) (v := ?_) ?_ (by kernel_rfl) (by kernel_rfl) (by kernel_rfl) ?_ ?_ (by assumption) ?_
  rotate_left 2; (simp only [List.getElem?_toArray, List.getElem?_cons_succ, List.getElem?_cons_zero]; rfl)
  rotate_left; (first | (refine .inl ⟨by rfl, ?_⟩; intro w9 hS9; go_simp; try with_reducible rfl) | (refine .inr ⟨by rfl, ?_⟩; with_reducible rfl))
  rotate_left; (intro _ _ _ h9; exact h9)
  try simp only [Act.put, List.setIfInBounds_toArray, List.set_cons_zero, List.set_cons_succ]
  refine wpAnyH_take (i := 27) (oi := ?_) (v := ?_) ?_ (by kernel_rfl) (by kernel_rfl) (by kernel_rfl) ?_ ?_ (by assumption) ?_
  rotate_left 2; (simp only [List.getElem?_toArray, List.getElem?_cons_succ, List.getElem?_cons_zero]; rfl)
  rotate_left; (first | (refine .inl ⟨by rfl, ?_⟩; intro w9 hS9; go_simp; try with_reducible rfl) | (refine .inr ⟨by rfl, ?_⟩; with_reducible rfl))
  rotate_left; (intro _ _ _ h9; exact h9)
  try simp only [Act.put, List.setIfInBounds_toArray, List.set_cons_zero, List.set_cons_succ]
  refine wpAnyH_take (i := 28) (oi := ?_) (v := ?_) ?_ (by kernel_rfl) (by kernel_rfl) (by kernel_rfl) ?_ ?_ (by assumption) ?_
  rotate_left 2; (simp only [List.getElem?_toArray, List.getElem?_cons_succ, List.getElem?_cons_zero]; rfl)
  rotate_left; (first | (refine .inl ⟨by rfl, ?_⟩; intro w9 hS9; go_simp; try with_reducible rfl) | (refine .inr ⟨by rfl, ?_⟩; with_reducible rfl))
  rotate_left; (intro _ _ _ h9; exact h9)
  try simp only [Act.put, List.setIfInBounds_toArray, List.set_cons_zero, List.set_cons_succ]
  refine wpAnyH_ready (rs := [25]) (by kernel_rfl) (by simp) (AllReadyH.cons rfl (fun K9 hK9 => ?_) AllReadyH.nil)
  go_simp
  go_must (refine (st_read g gb _ _ _ 0 len0 _ (hst.below hS1)).mono ?_)
  rintro e wf ⟨v, rfl, hownr, hb4⟩
  rw [stRead_all _ _ hl.out.symm] at hownr
  obtain ⟨Ar, cr, rfl, hrr⟩ := hownr.reads
  rw [hl.out] at hrr ⊢
  have hS3 := below_step hS1 hb4
  have k4 := by_string_of wf _ _ cr _ hrr.rb
  have k3' : ∀ w', Below wf.heap.size wf w' → _ := fun w' hb => k3 w' (below_step hS3 hb)
  refine hK9.out _ _ hS3 (fun _ => ?_)
  have hS4 := Below.refl wf.heap.size wf
  refine wpAnyH_weaken (T := fun w' => Below wf.heap.size wf w') (fun w' h => below_step hS3 h) _ _ _ _ ?_
  clear hK9 hownr k1 k2 k3
  refine wpAnyH_take (i := 26) (oi := ?_) (v := ?_) ?_ (by kernel_rfl) (by kernel_rfl) (by kernel_rfl) ?_ ?_ (by assumption) ?_
  rotate_left 2; (simp only [List.getElem?_toArray, List.getElem?_cons_succ, List.getElem?_cons_zero]; rfl)
  rotate_left; (first | (refine .inl ⟨by rfl, ?_⟩; intro w9 hS9; go_simp; try with_reducible rfl) | (refine .inr ⟨by rfl, ?_⟩; with_reducible rfl))
  rotate_left; (intro _ _ _ h9; exact h9)
  try simp only [Act.put, List.setIfInBounds_toArray, List.set_cons_zero, List.set_cons_succ]
  refine wpAnyH_take (i := 29) (oi := ?_) (v := ?_) ?_ (by kernel_rfl) (by kernel_rfl) (by kernel_rfl) ?_ ?_ (by assumption) ?_
  rotate_left 2; (simp only [List.getElem?_toArray, List.getElem?_cons_succ, List.getElem?_cons_zero]; rfl)
  rotate_left; (first | (refine .inl ⟨by rfl, ?_⟩; intro w9 hS9; go_simp; try with_reducible rfl) | (refine .inr ⟨by rfl, ?_⟩; with_reducible rfl))
  rotate_left; (intro _ _ _ h9; exact h9)
  try simp only [Act.put, List.setIfInBounds_toArray, List.set_cons_zero, List.set_cons_succ]
  refine wpAnyH_take (i := 30) (oi := ?_) (v := ?_) ?_ (by kernel_rfl) (by kernel_rfl) (by kernel_rfl) ?_ ?_ (by assumption) ?_
  rotate_left 2; (simp only [List.getElem?_toArray, List.getElem?_cons_succ, List.getElem?_cons_zero]; rfl)
  rotate_left; (first | (refine .inl ⟨by rfl, ?_⟩; intro w9 hS9; go_simp; try with_reducible rfl) | (refine .inr ⟨by rfl, ?_⟩; with_reducible rfl))
  rotate_left; (intro _ _ _ h9; exact h9)
  try simp only [Act.put, List.setIfInBounds_toArray, List.set_cons_zero, List.set_cons_succ]
  refine wpAnyH_take (i := 31) (oi := ?_) (v := ?_) ?_ (by kernel_rfl) (by kernel_rfl) (by kernel_rfl) ?_ ?_ (by assumption) ?_
  rotate_left 2; (simp only [List.getElem?_toArray, List.getElem?_cons_succ, List.getElem?_cons_zero]; rfl)
  rotate_left; (first | (refine .inl ⟨by rfl, ?_⟩; intro w9 hS9; go_simp; try with_reducible rfl) | (refine .inr ⟨by rfl, ?_⟩; with_reducible rfl))
  rotate_left; (intro _ _ _ h9; exact h9)
  try simp only [Act.put, List.setIfInBounds_toArray, List.set_cons_zero, List.set_cons_succ]
  refine wpAnyH_done (by kernel_rfl) ?_ _
  go_wp2_with fail
  go_ret
  exact ⟨rfl, below_step hb.out hS3⟩

set_option maxRecDepth 100000 in
set_option maxHeartbeats 8000000 in
theorem storeKeeps_walk (a0 : Option Addr) (len0 cap0 : Nat) (z0 : List Int) (a1 : Int) (a2 : Option Addr) (len2 cap2 : Nat) (z2 : List Int) (w : World) (w0 : IsRow .u8 w a0 len0 cap0 z0) (w1 : (Lit.int .i64 a1).wf = true) (w2 : IsRow .u8 w a2 len2 cap2 z2) (hg : HasTy w) :
    Calls Tryd.prog 4 #[.slice a0 len0 cap0, .int .i64 a1, .slice a2 len2 cap2] w fun e w' => e = .returned (.bool true) ∧ Below w.heap.size w w' := by
  obtain ⟨xs, hr⟩ := w0.bytes
  obtain ⟨ys, kr⟩ := w2.bytes
  have hmx := hr.rb.2.1
  have kmx := kr.rb.2.1
  have H0 := Lib.hid hg
  clear w0 w1 w2 hg
  by_cases c1 : 2000 < len0
  · have c1' : (2000 : Int) < len0 := by omega
    clear hr kr
    go_enter Tryd.func4, Tryd.ntmps4
    go_wp2_with (first | (go_at_call 7; refine (st_small _ H0.out).mono ?_; rintro e w' ⟨rfl, hb⟩) | (go_at_call 8; refine (st_new _ _).mono ?_; rintro e w2 ⟨g, gb, rfl, _, _, _, hb2⟩; have hb := below_step hb hb2))
    go_ret
    exact ⟨rfl, hb⟩
  have c1' : ¬ (2000 : Int) < len0 := by omega
  by_cases c2 : 2000 < len2
  · have c2' : (2000 : Int) < len2 := by omega
    clear hr kr
    go_enter Tryd.func4, Tryd.ntmps4
    go_wp2_with (first | (go_at_call 7; refine (st_small _ H0.out).mono ?_; rintro e w' ⟨rfl, hb⟩) | (go_at_call 8; refine (st_new _ _).mono ?_; rintro e w2 ⟨g, gb, rfl, _, _, _, hb2⟩; have hb := below_step hb hb2))
    go_ret
    exact ⟨rfl, hb⟩
  have c2' : ¬ (2000 : Int) < len2 := by omega
  by_cases c3 : a1 < 0
  · clear hr kr
    go_enter Tryd.func4, Tryd.ntmps4
    go_wp2_with (first | (go_at_call 7; refine (st_small _ H0.out).mono ?_; rintro e w' ⟨rfl, hb⟩) | (go_at_call 8; refine (st_new _ _).mono ?_; rintro e w2 ⟨g, gb, rfl, _, _, _, hb2⟩; have hb := below_step hb hb2))
    go_ret
    exact ⟨rfl, hb⟩
  by_cases c4 : (len0 : Int) < a1
  · clear hr kr
    go_enter Tryd.func4, Tryd.ntmps4
    go_wp2_with (first | (go_at_call 7; refine (st_small _ H0.out).mono ?_; rintro e w' ⟨rfl, hb⟩) | (go_at_call 8; refine (st_new _ _).mono ?_; rintro e w2 ⟨g, gb, rfl, _, _, _, hb2⟩; have hb := below_step hb hb2))
    go_ret
    exact ⟨rfl, hb⟩
  by_cases c5 : (len0 : Int) - a1 < len2
  · clear hr kr
    go_enter Tryd.func4, Tryd.ntmps4
    go_wp2_with (first | (go_at_call 7; refine (st_small _ H0.out).mono ?_; rintro e w' ⟨rfl, hb⟩) | (go_at_call 8; refine (st_new _ _).mono ?_; rintro e w2 ⟨g, gb, rfl, _, _, _, hb2⟩; have hb := below_step hb hb2))
    go_ret
    exact ⟨rfl, hb⟩
  obtain ⟨a, rfl⟩ := Int.eq_ofNat_of_zero_le (show 0 ≤ a1 by omega)
  have hl := Lib.hid hr.len
  have kl := Lib.hid kr.len
  have HR := Lib.hid hr
  have KR := Lib.hid kr
  have ham : a + len2 ≤ len0 := by omega
  clear hr kr
  go_enter Tryd.func4, Tryd.ntmps4
  go_wp2_with fail
  refine (st_small _ H0.out).mono ?_
  rintro e wa ⟨rfl, hb⟩
  go_wp2_with fail
  refine (st_new _ _).mono ?_
  rintro e wb ⟨g, gb, rfl, hst, hwg, hwb, hb2⟩
  rw [stSize_nat len0 (by omega)] at hst
  have hsa := hb.size
  have hwg2 : w.heap.size ≤ g := by omega
  have hwb2 : w.heap.size ≤ gb := by omega
  replace hb := Lib.hid (below_step hb hb2)
  clear hb2 hwg hwb hsa
  go_wp2_with fail
  refine (st_write_fits g gb _ _ 0 _ _ _ xs _ hst (HR.out.below hb.out) (by rw [List.length_replicate]; omega) (fun k h => by cases h)).mono ?_
  rintro e w2 ⟨rfl, h2, hf⟩
  replace hb := Lib.hid (below_two hb.out hf hwg2 hwb2)
  rw [splice_whole _ _ (by rw [List.length_replicate, hl.out])] at h2
  replace hst : StIs w2 g gb xs none false := h2
  clear hf h2
  go_wp2_with fail
  refine (st_write_fits g gb _ _ a _ _ _ ys _ hst (KR.out.below hb.out) (by rw [hl.out]; exact ham) (fun k h => by cases h)).mono ?_
  rintro e w5 ⟨rfl, h2, hf⟩
  replace hb := Lib.hid (below_two hb.out hf hwg2 hwb2)
  replace hst : StIs w5 g gb (splice xs a ys) none false := h2
  clear hf h2
  have hw5 := hb.out.size
  have hg5 := hst.lt
  have hown := by_lit0 w5 w5.heap.size (Nat.le_refl _)
  have hb0 := below_new w5 (.cells #[] 5)
  have hrb := (HR.out.below (below_step hb.out hb0)).rb
  have hnil := HR.out.nil
  have hlen0 : ([] : List UInt8).length + len0 ≤ 140737488355328 := by simp; omega
  go_wp2_with (at_builtin; go_must (refine wpList_append_by rfl _ _ rfl w5 hb0 _ [] rfl hown _ _ _ xs rfl hnil hrb hlen0 ?_; intro v1 w6 hown1 hb6 _))
  rw [List.nil_append] at hown1
  replace hb := Lib.hid (below_step hb.out hb6)
  replace hst := hst.below hb6
  have Hst := Lib.hid hst
  have hF : ∀ b, v1.ownBlock = some b → w5.heap.size ≤ b := fun b hb9 => (hown1.own b hb9).1
  obtain ⟨A1, ci, rfl, _⟩ := hown1.reads
  rw [hl.out] at hown1 hF ⊢
  clear hst hb6 hown hb0 hrb hnil hlen0
  have hfr6 : Fr (fun b => (Value.slice A1 len0 ci).ownBlock = some b) w6 w6 := Fr.refl _ _
  rw [show xs = splice xs a (ys.take 0) by simp [splice_nothing]] at hown1
  go_wp2_with fail
  go_loopw [12] (fun i wr => ∃ j : Nat, j ≤ len2 ∧ i = .int .i64 j ∧ OwnB wr w5.heap.size (.slice A1 len0 ci) (splice xs a (ys.take j)) ∧ Fr (fun b => (Value.slice A1 len0 ci).ownBlock = some b) w6 wr) (fun i _ => len2 - (intOf i).toNat)
  case atStart => exact ⟨0, Nat.zero_le _, rfl, hown1, hfr6⟩
  case round =>
    obtain ⟨j, hj, rfl, hor, hfr⟩ := hrel
    clear hown1 hfr6
    have hsl : (splice xs a (ys.take j)).length = len0 := by rw [length_splice _ _ _ (by rw [List.length_take, kl.out, hl.out]; omega), hl.out]
    have hbr := Lib.hid (hb.out.trans (hfr.below w.heap.size hb.out.size (fun i e => by have := hF i e; omega)))
    by_cases hlt : j < len2
    · have hlt' : (j : Int) < len2 := by omega
      obtain ⟨b, off, rfl, hbl, hc⟩ := KR.out.rb.cells (by omega)
      have x0 := (hbr.out.cell (p := ⟨b, off + j, none⟩) hbl).trans (hc j (by omega))
      unfold bv at x0
      rcases hor.form with ⟨_, h0⟩ | ⟨gi, c9, he, _, _, hfz, hri⟩
      · rw [h0] at hsl; simp at hsl; omega
      rw [hsl] at he
      cases he
      have x2 : wr.cell? ⟨gi, a + j, none⟩ = some (bv ((splice xs a (ys.take j)).getD (a + j) 0)) := by
        obtain ⟨b9, o9, e8, _, hc9⟩ := hri.rb.cells (by omega)
        cases e8
        have := hc9 (a + j) (by omega)
        rwa [Nat.zero_add] at this
      unfold bv at x2
      have x3 : wr.frozen? ⟨gi, a + j, none⟩ = false := hfz _
      have hset := hor.set (a + j) (by omega) (ys.getD j 0)
      rw [splice_step xs ys a j (by rw [kl.out]; omega) (by rw [hl.out]; omega)] at hset
      have H1 := Lib.hid hset
      have H2 := Lib.hid (fr_same hfr (fr_setCell (F := fun b => (Value.slice (some ⟨gi, 0, none⟩) len0 ci).ownBlock = some b) (w := wr) ⟨gi, a + j, none⟩ (bv (ys.getD j 0)) rfl))
      have hbd := nb_bd (ys.getD j 0)
      clear hset hor hfr hc hsl hri hfz hF
      unfold bv at H1 H2
      generalize nb (ys.getD j 0) = y at *
      generalize nb ((splice xs a (ys.take j)).getD (a + j) 0) = y2 at *
      have hal : (a : Int) + j < len0 := by omega
      go_wp2_with fail
      exact ⟨⟨j + 1, by omega, by go_num, H1.out, H2.out⟩, by simp [intOf]; omega⟩
    · have hjk : ¬ (j : Int) < len2 := by omega
      obtain ⟨wc, rfl⟩ : ∃ wc : World, wc = wr := ⟨_, rfl⟩
      have hst := Hst.out.fr hfr (fun h => by have := hF _ h; omega) (fun h => by have := hF _ h; omega)
      have hrw := hor.rs
      rw [List.take_of_length_le (by rw [kl.out]; omega)] at hrw hsl
      have hrd : stRead (splice xs a ys) a len2 = ys := by
        unfold stRead
        rcases Nat.eq_zero_or_pos len2 with h0 | h0
        · rw [if_neg (by omega)]
          exact (List.eq_nil_of_length_eq_zero (by rw [kl.out, h0])).symm
        · rw [if_pos ⟨by omega, stIn_iff.2 ⟨by omega, by omega, by omega⟩⟩]
          show ((splice xs a ys).drop a).take len2 = ys
          unfold splice
          rw [List.drop_left' (by rw [List.length_take, hl.out]; omega), List.take_left' kl.out]
      have k1 := by_string_of wc _ _ ci _ hrw.rb
      have k3 := by_string_of wc _ _ cap2 _ (KR.out.below hbr.out).rb
      have t1 := strB_toList (splice xs a ys)
      have t2 := strB_toList ys
      have HRD := Lib.hid hrd
      have HSL := Lib.hid hsl
      clear hor hfr hrw hsl hrd hF hb
      have hS0 := below_drew1 wc
      by_cases hz : len2 = 0
      · subst hz
        go_wp2_with fail
        refine wp_region_held (S := fun w' => Below wc.heap.size wc w') (by kernel_rfl) ?_
        change wpAnyH _ _ _ _ _ _ _ _ wc.drew
        change wpAnyH _ _ _ _ _ 41 (Array.replicate 41 false) _ _
        refine wpAnyH_take (i := 0) (oi := ?_) (v := ?_) ?_ (by kernel_rfl) (by kernel_rfl) (by kernel_rfl) ?_ ?_ (by assumption) ?_
        rotate_left 2; (simp only [List.getElem?_toArray, List.getElem?_cons_succ, List.getElem?_cons_zero]; rfl)
        rotate_left; (first | (refine .inl ⟨by rfl, ?_⟩; intro w9 hS9; go_simp; try with_reducible rfl) | (refine .inr ⟨by rfl, ?_⟩; with_reducible rfl))
        rotate_left; (intro _ _ _ h9; exact h9)
        try simp only [Act.put, List.setIfInBounds_toArray, List.set_cons_zero, List.set_cons_succ]
        refine wpAnyH_take (i := 1) (oi := ?_) (v := ?_) ?_ (by kernel_rfl) (by kernel_rfl) (by kernel_rfl) ?_ ?_ (by assumption) ?_
        rotate_left 2; (simp only [List.getElem?_toArray, List.getElem?_cons_succ, List.getElem?_cons_zero]; rfl)
        rotate_left; (first | (refine .inl ⟨by rfl, ?_⟩; intro w9 hS9; go_simp; try with_reducible rfl) | (refine .inr ⟨by rfl, ?_⟩; with_reducible rfl))
        rotate_left; (intro _ _ _ h9; exact h9)
        try simp only [Act.put, List.setIfInBounds_toArray, List.set_cons_zero, List.set_cons_succ]
        refine wpAnyH_take (i := 2) (oi := ?_) (v := ?_) ?_ (by kernel_rfl) (by kernel_rfl) (by kernel_rfl) ?_ ?_ (by assumption) ?_
        rotate_left 2; (simp only [List.getElem?_toArray, List.getElem?_cons_succ, List.getElem?_cons_zero]; rfl)
        rotate_left; (first | (refine .inl ⟨by rfl, ?_⟩; intro w9 hS9; go_simp; try with_reducible rfl) | (refine .inr ⟨by rfl, ?_⟩; with_reducible rfl))
        rotate_left; (intro _ _ _ h9; exact h9)
        try simp only [Act.put, List.setIfInBounds_toArray, List.set_cons_zero, List.set_cons_succ]
        refine wpAnyH_take (i := 3) (oi := ?_) (v := ?_) ?_ (by kernel_rfl) (by kernel_rfl) (by kernel_rfl) ?_ ?_ (by assumption) ?_
        rotate_left 2; (simp only [List.getElem?_toArray, List.getElem?_cons_succ, List.getElem?_cons_zero]; rfl)
        rotate_left; (first | (refine .inl ⟨by rfl, ?_⟩; intro w9 hS9; go_simp; try with_reducible rfl) | (refine .inr ⟨by rfl, ?_⟩; with_reducible rfl))
        rotate_left; (intro _ _ _ h9; exact h9)
        try simp only [Act.put, List.setIfInBounds_toArray, List.set_cons_zero, List.set_cons_succ]
        refine wpAnyH_take (i := 4) (oi := ?_) (v := ?_) ?_ (by kernel_rfl) (by kernel_rfl) (by kernel_rfl) ?_ ?_ (by assumption) ?_
        rotate_left 2; (simp only [List.getElem?_toArray, List.getElem?_cons_succ, List.getElem?_cons_zero]; rfl)
        rotate_left; (first | (refine .inl ⟨by rfl, ?_⟩; intro w9 hS9; go_simp; try with_reducible rfl) | (refine .inr ⟨by rfl, ?_⟩; with_reducible rfl))
        rotate_left; (intro _ _ _ h9; exact h9)
        try simp only [Act.put, List.setIfInBounds_toArray, List.set_cons_zero, List.set_cons_succ]
        refine wpAnyH_take (i := 5) (oi := ?_) (v := ?_) ?_ (by kernel_rfl) (by kernel_rfl) (by kernel_rfl) ?_ ?_ (by assumption) ?_
        rotate_left 2; (simp only [List.getElem?_toArray, List.getElem?_cons_succ, List.getElem?_cons_zero]; rfl)
        rotate_left; (first | (refine .inl ⟨by rfl, ?_⟩; intro w9 hS9; go_simp; try with_reducible rfl) | (refine .inr ⟨by rfl, ?_⟩; with_reducible rfl))
        rotate_left; (intro _ _ _ h9; exact h9)
        try simp only [Act.put, List.setIfInBounds_toArray, List.set_cons_zero, List.set_cons_succ]
        refine wpAnyH_take (i := 6) (oi := ?_) (v := ?_) ?_ (by kernel_rfl) (by kernel_rfl) (by kernel_rfl) ?_ ?_ (by assumption) ?_
        rotate_left 2; (simp only [List.getElem?_toArray, List.getElem?_cons_succ, List.getElem?_cons_zero]; rfl)
        rotate_left; (first | (refine .inl ⟨by rfl, ?_⟩; intro w9 hS9; go_simp; try with_reducible rfl) | (refine .inr ⟨by rfl, ?_⟩; with_reducible rfl))
        rotate_left; (intro _ _ _ h9; exact h9)
        try simp only [Act.put, List.setIfInBounds_toArray, List.set_cons_zero, List.set_cons_succ]
        refine wpAnyH_take (i := 7) (oi := ?_) (v := ?_) ?_ (by kernel_rfl) (by kernel_rfl) (by kernel_rfl) ?_ ?_ (by assumption) ?_
        rotate_left 2; (simp only [List.getElem?_toArray, List.getElem?_cons_succ, List.getElem?_cons_zero]; rfl)
        rotate_left; (first | (refine .inl ⟨by rfl, ?_⟩; intro w9 hS9; go_simp; try with_reducible rfl) | (refine .inr ⟨by rfl, ?_⟩; with_reducible rfl))
        rotate_left; (intro _ _ _ h9; exact h9)
        try simp only [Act.put, List.setIfInBounds_toArray, List.set_cons_zero, List.set_cons_succ]
        refine wpAnyH_take (i := 8) (oi := ?_) (v := ?_) ?_ (by kernel_rfl) (by kernel_rfl) (by kernel_rfl) ?_ ?_ (by assumption) ?_
        rotate_left 2; (simp only [List.getElem?_toArray, List.getElem?_cons_succ, List.getElem?_cons_zero]; rfl)
        rotate_left; (first | (refine .inl ⟨by rfl, ?_⟩; intro w9 hS9; go_simp; try with_reducible rfl) | (refine .inr ⟨by rfl, ?_⟩; with_reducible rfl))
        rotate_left; (intro _ _ _ h9; exact h9)
        try simp only [Act.put, List.setIfInBounds_toArray, List.set_cons_zero, List.set_cons_succ]
        refine wpAnyH_take (i := 9) (oi := ?_) (v := ?_) ?_ (by kernel_rfl) (by kernel_rfl) (by kernel_rfl) ?_ ?_ (by assumption) ?_
        rotate_left 2; (simp only [List.getElem?_toArray, List.getElem?_cons_succ, List.getElem?_cons_zero]; rfl)
        rotate_left; (first | (refine .inl ⟨by rfl, ?_⟩; intro w9 hS9; go_simp; try with_reducible rfl) | (refine .inr ⟨by rfl, ?_⟩; with_reducible rfl))
        rotate_left; (intro _ _ _ h9; exact h9)
        try simp only [Act.put, List.setIfInBounds_toArray, List.set_cons_zero, List.set_cons_succ]
        refine wpAnyH_take (i := 10) (oi := ?_) (v := ?_) ?_ (by kernel_rfl) (by kernel_rfl) (by kernel_rfl) ?_ ?_ (by assumption) ?_
        rotate_left 2; (simp only [List.getElem?_toArray, List.getElem?_cons_succ, List.getElem?_cons_zero]; rfl)
        rotate_left; (first | (refine .inl ⟨by rfl, ?_⟩; intro w9 hS9; go_simp; try with_reducible rfl) | (refine .inr ⟨by rfl, ?_⟩; with_reducible rfl))
        rotate_left; (intro _ _ _ h9; exact h9)
        try simp only [Act.put, List.setIfInBounds_toArray, List.set_cons_zero, List.set_cons_succ]
        refine wpAnyH_ready (rs := [11]) (by kernel_rfl) (by simp) (AllReadyH.cons rfl (fun K9 hK9 => ?_) AllReadyH.nil)
        go_simp
        go_must (refine (st_dead g gb _ _ _ _ (hst.below hS0)).mono ?_)
        rintro e we2 ⟨rfl, rfl⟩
        refine hK9.out _ _ hS0 (fun _ => ?_)
        clear hK9
        refine wpAnyH_take (i := 12) (oi := ?_) (v := ?_) ?_ (by kernel_rfl) (by kernel_rfl) (by kernel_rfl) ?_ ?_ (by assumption) ?_
        rotate_left 2; (simp only [List.getElem?_toArray, List.getElem?_cons_succ, List.getElem?_cons_zero]; rfl)
        rotate_left; (first | (refine .inl ⟨by rfl, ?_⟩; intro w9 hS9; go_simp; try with_reducible rfl) | (refine .inr ⟨by rfl, ?_⟩; with_reducible rfl))
        rotate_left; (intro _ _ _ h9; exact h9)
        try simp only [Act.put, List.setIfInBounds_toArray, List.set_cons_zero, List.set_cons_succ]
        refine wpAnyH_take (i := 13) (oi := ?_) (v := ?_) ?_ (by kernel_rfl) (by kernel_rfl) (by kernel_rfl) ?_ ?_ (by assumption) ?_
        rotate_left 2; (simp only [List.getElem?_toArray, List.getElem?_cons_succ, List.getElem?_cons_zero]; rfl)
        rotate_left; (first | (refine .inl ⟨by rfl, ?_⟩; intro w9 hS9; go_simp; try with_reducible rfl) | (refine .inr ⟨by rfl, ?_⟩; with_reducible rfl))
        rotate_left; (intro _ _ _ h9; exact h9)
        try simp only [Act.put, List.setIfInBounds_toArray, List.set_cons_zero, List.set_cons_succ]
        refine wpAnyH_take (i := 14) (oi := ?_) (v := ?_) ?_ (by kernel_rfl) (by kernel_rfl) (by kernel_rfl) ?_ ?_ (by assumption) ?_
        rotate_left 2; (simp only [List.getElem?_toArray, List.getElem?_cons_succ, List.getElem?_cons_zero]; rfl)
        rotate_left; (first | (refine .inl ⟨by rfl, ?_⟩; intro w9 hS9; go_simp; try with_reducible rfl) | (refine .inr ⟨by rfl, ?_⟩; with_reducible rfl))
        rotate_left; (intro _ _ _ h9; exact h9)
        try simp only [Act.put, List.setIfInBounds_toArray, List.set_cons_zero, List.set_cons_succ]
        refine wpAnyH_take (i := 15) (oi := ?_) (v := ?_) ?_ (by kernel_rfl) (by kernel_rfl) (by kernel_rfl) ?_ ?_ (by assumption) ?_
        rotate_left 2; (simp only [List.getElem?_toArray, List.getElem?_cons_succ, List.getElem?_cons_zero]; rfl)
        rotate_left; (first | (refine .inl ⟨by rfl, ?_⟩; intro w9 hS9; go_simp; try with_reducible rfl) | (refine .inr ⟨by rfl, ?_⟩; with_reducible rfl))
        rotate_left; (intro _ _ _ h9; exact h9)
        try simp only [Act.put, List.setIfInBounds_toArray, List.set_cons_zero, List.set_cons_succ]
        refine wpAnyH_take (i := 16) (oi := ?_) (v := ?_) ?_ (by kernel_rfl) (by kernel_rfl) (by kernel_rfl) ?_ ?_ (by assumption) ?_
        rotate_left 2; (simp only [List.getElem?_toArray, List.getElem?_cons_succ, List.getElem?_cons_zero]; rfl)
        rotate_left; (first | (refine .inl ⟨by rfl, ?_⟩; intro w9 hS9; go_simp; try with_reducible rfl) | (refine .inr ⟨by rfl, ?_⟩; with_reducible rfl))
        rotate_left; (intro _ _ _ h9; exact h9)
        try simp only [Act.put, List.setIfInBounds_toArray, List.set_cons_zero, List.set_cons_succ]
        refine wpAnyH_take (i := 17) (oi := ?_) (v := ?_) ?_ (by kernel_rfl) (by kernel_rfl) (by kernel_rfl) ?_ ?_ (by assumption) ?_
        rotate_left 2; (simp only [List.getElem?_toArray, List.getElem?_cons_succ, List.getElem?_cons_zero]; rfl)
        rotate_left; (first | (refine .inl ⟨by rfl, ?_⟩; intro w9 hS9; go_simp; try with_reducible rfl) | (refine .inr ⟨by rfl, ?_⟩; with_reducible rfl))
        rotate_left; (intro _ _ _ h9; exact h9)
        try simp only [Act.put, List.setIfInBounds_toArray, List.set_cons_zero, List.set_cons_succ]
        refine wpAnyH_take (i := 20) (oi := ?_) (v := ?_) ?_ (by kernel_rfl) (by kernel_rfl) (by kernel_rfl) ?_ ?_ (by assumption) ?_
        rotate_left 2; (simp only [List.getElem?_toArray, List.getElem?_cons_succ, List.getElem?_cons_zero]; rfl)
        rotate_left; (first | (refine .inl ⟨by rfl, ?_⟩; intro w9 hS9; go_simp; try with_reducible rfl) | (refine .inr ⟨by rfl, ?_⟩; with_reducible rfl))
        rotate_left; (intro _ _ _ h9; exact h9)
        try simp only [Act.put, List.setIfInBounds_toArray, List.set_cons_zero, List.set_cons_succ]
        refine wpAnyH_take (i := 21) (oi := ?_) (v := ?_) ?_ (by kernel_rfl) (by kernel_rfl) (by kernel_rfl) ?_ ?_ (by assumption) ?_
        rotate_left 2; (simp only [List.getElem?_toArray, List.getElem?_cons_succ, List.getElem?_cons_zero]; rfl)
        rotate_left; (first | (refine .inl ⟨by rfl, ?_⟩; intro w9 hS9; go_simp; try with_reducible rfl) | (refine .inr ⟨by rfl, ?_⟩; with_reducible rfl))
        rotate_left; (intro _ _ _ h9; exact h9)
        try simp only [Act.put, List.setIfInBounds_toArray, List.set_cons_zero, List.set_cons_succ]
        refine wpAnyH_ready (rs := [18]) (by kernel_rfl) (by simp) (AllReadyH.cons rfl (fun K9 hK9 => ?_) AllReadyH.nil)
        go_simp
        go_must (refine (st_read g gb _ _ _ 0 len0 _ (hst.below hS0)).mono ?_)
        rintro e wf ⟨v, rfl, hownr, hb4⟩
        rw [stRead_all _ _ HSL.out.symm] at hownr
        obtain ⟨Ar, cr, rfl, hrr⟩ := hownr.reads
        rw [HSL.out] at hrr ⊢
        have hS3 := below_step hS0 hb4
        have k4 := by_string_of wf _ _ cr _ hrr.rb
        have k1' : ∀ w', Below wf.heap.size wf w' → _ := fun w' hb => k1 w' (below_step hS3 hb)
        have k3' : ∀ w', Below wf.heap.size wf w' → _ := fun w' hb => k3 w' (below_step hS3 hb)
        refine hK9.out _ _ hS3 (fun _ => ?_)
        have hS4 := Below.refl wf.heap.size wf
        refine wpAnyH_weaken (T := fun w' => Below wf.heap.size wf w') (fun w' h => below_step hS3 h) _ _ _ _ ?_
        clear hK9 hownr k1 k3
        refine wpAnyH_take (i := 19) (oi := ?_) (v := ?_) ?_ (by kernel_rfl) (by kernel_rfl) (by kernel_rfl) ?_ ?_ (by assumption) ?_
        rotate_left 2; (simp only [List.getElem?_toArray, List.getElem?_cons_succ, List.getElem?_cons_zero]; rfl)
        rotate_left; (first | (refine .inl ⟨by rfl, ?_⟩; intro w9 hS9; go_simp; try with_reducible rfl) | (refine .inr ⟨by rfl, ?_⟩; with_reducible rfl))
        rotate_left; (intro _ _ _ h9; exact h9)
        try simp only [Act.put, List.setIfInBounds_toArray, List.set_cons_zero, List.set_cons_succ]
        refine wpAnyH_take (i := 22) (oi := ?_) (v := ?_) ?_ (by kernel_rfl) (by kernel_rfl) (by kernel_rfl) ?_ ?_ (by assumption) ?_
        rotate_left 2; (simp only [List.getElem?_toArray, List.getElem?_cons_succ, List.getElem?_cons_zero]; rfl)
        rotate_left; (first | (refine .inl ⟨by rfl, ?_⟩; intro w9 hS9; go_simp; try with_reducible rfl) | (refine .inr ⟨by rfl, ?_⟩; with_reducible rfl))
        rotate_left; (intro _ _ _ h9; exact h9)
        try simp only [Act.put, List.setIfInBounds_toArray, List.set_cons_zero, List.set_cons_succ]
        refine wpAnyH_take (i := 23) (oi := ?_) (v := ?_) ?_ (by kernel_rfl) (by kernel_rfl) (by kernel_rfl) ?_ ?_ (by assumption) ?_
        rotate_left 2; (simp only [List.getElem?_toArray, List.getElem?_cons_succ, List.getElem?_cons_zero]; rfl)
        rotate_left; (first | (refine .inl ⟨by rfl, ?_⟩; intro w9 hS9; go_simp; try with_reducible rfl) | (refine .inr ⟨by rfl, ?_⟩; with_reducible rfl))
        rotate_left; (intro _ _ _ h9; exact h9)
        try simp only [Act.put, List.setIfInBounds_toArray, List.set_cons_zero, List.set_cons_succ]
        refine wpAnyH_take (i := 24) (oi := ?_) (v := ?_) ?_ (by kernel_rfl) (by kernel_rfl) (by kernel_rfl) ?_ ?_ (by assumption) ?_
        rotate_left 2; (simp only [List.getElem?_toArray, List.getElem?_cons_succ, List.getElem?_cons_zero]; rfl)
        rotate_left; (first | (refine .inl ⟨by rfl, ?_⟩; intro w9 hS9; go_simp; try with_reducible rfl) | (refine .inr ⟨by rfl, ?_⟩; with_reducible rfl))
        rotate_left; (intro _ _ _ h9; exact h9)
        try simp only [Act.put, List.setIfInBounds_toArray, List.set_cons_zero, List.set_cons_succ]
        refine wpAnyH_take (i := 25) (oi := ?_) (v := ?_) ?_ (by kernel_rfl) (by kernel_rfl) (by kernel_rfl) ?_ ?_ (by assumption) ?_
        rotate_left 2; (simp only [List.getElem?_toArray, List.getElem?_cons_succ, List.getElem?_cons_zero]; rfl)
        rotate_left; (first | (refine .inl ⟨by rfl, ?_⟩; intro w9 hS9; go_simp; try with_reducible rfl) | (refine .inr ⟨by rfl, ?_⟩; with_reducible rfl))
        rotate_left; (intro _ _ _ h9; exact h9)
        try simp only [Act.put, List.setIfInBounds_toArray, List.set_cons_zero, List.set_cons_succ]
        refine wpAnyH_take (i := 26) (oi := ?_) (v := ?_) ?_ (by kernel_rfl) (by kernel_rfl) (by kernel_rfl) ?_ ?_ (by assumption) ?_
        rotate_left 2; (simp only [List.getElem?_toArray, List.getElem?_cons_succ, List.getElem?_cons_zero]; rfl)
        rotate_left; (first | (refine .inl ⟨by rfl, ?_⟩; intro w9 hS9; go_simp; try with_reducible rfl) | (refine .inr ⟨by rfl, ?_⟩; with_reducible rfl))
        rotate_left; (intro _ _ _ h9; exact h9)
        try simp only [Act.put, List.setIfInBounds_toArray, List.set_cons_zero, List.set_cons_succ]
        refine wpAnyH_take (i := 27) (oi := ?_) (v := ?_) ?_ (by kernel_rfl) (by kernel_rfl) (by kernel_rfl) ?_ ?_ (by assumption) ?_
        rotate_left 2; (simp only [List.getElem?_toArray, List.getElem?_cons_succ, List.getElem?_cons_zero]; rfl)
        rotate_left; (first | (refine .inl ⟨by rfl, ?_⟩; intro w9 hS9; go_simp; try with_reducible rfl) | (refine .inr ⟨by rfl, ?_⟩; with_reducible rfl))
        rotate_left; (intro _ _ _ h9; exact h9)
        try simp only [Act.put, List.setIfInBounds_toArray, List.set_cons_zero, List.set_cons_succ]
        refine wpAnyH_take (i := 28) (oi := ?_) (v := ?_) ?_ (by kernel_rfl) (by kernel_rfl) (by kernel_rfl) ?_ ?_ (by assumption) ?_
        rotate_left 2; (simp only [List.getElem?_toArray, List.getElem?_cons_succ, List.getElem?_cons_zero]; rfl)
        rotate_left; (first | (refine .inl ⟨by rfl, ?_⟩; intro w9 hS9; go_simp; try with_reducible rfl) | (refine .inr ⟨by rfl, ?_⟩; with_reducible rfl))
        rotate_left; (intro _ _ _ h9; exact h9)
        try simp only [Act.put, List.setIfInBounds_toArray, List.set_cons_zero, List.set_cons_succ]
        refine wpAnyH_take (i := 29) (oi := ?_) (v := ?_) ?_ (by kernel_rfl) (by kernel_rfl) (by kernel_rfl) ?_ ?_ (by assumption) ?_
        rotate_left 2; (simp only [List.getElem?_toArray, List.getElem?_cons_succ, List.getElem?_cons_zero]; rfl)
        rotate_left; (first | (refine .inl ⟨by rfl, ?_⟩; intro w9 hS9; go_simp; try with_reducible rfl) | (refine .inr ⟨by rfl, ?_⟩; with_reducible rfl))
        rotate_left; (intro _ _ _ h9; exact h9)
        try simp only [Act.put, List.setIfInBounds_toArray, List.set_cons_zero, List.set_cons_succ]
        refine wpAnyH_take (i := 30) (oi := ?_) (v := ?_) ?_ (by kernel_rfl) (by kernel_rfl) (by kernel_rfl) ?_ ?_ (by assumption) ?_
        rotate_left 2; (simp only [List.getElem?_toArray, List.getElem?_cons_succ, List.getElem?_cons_zero]; rfl)
        rotate_left; (first | (refine .inl ⟨by rfl, ?_⟩; intro w9 hS9; go_simp; try with_reducible rfl) | (refine .inr ⟨by rfl, ?_⟩; with_reducible rfl))
        rotate_left; (intro _ _ _ h9; exact h9)
        try simp only [Act.put, List.setIfInBounds_toArray, List.set_cons_zero, List.set_cons_succ]
        refine wpAnyH_take (i := 31) (oi := ?_) (v := ?_) ?_ (by kernel_rfl) (by kernel_rfl) (by kernel_rfl) ?_ ?_ (by assumption) ?_
        rotate_left 2; (simp only [List.getElem?_toArray, List.getElem?_cons_succ, List.getElem?_cons_zero]; rfl)
        rotate_left; (first | (refine .inl ⟨by rfl, ?_⟩; intro w9 hS9; go_simp; try with_reducible rfl) | (refine .inr ⟨by rfl, ?_⟩; with_reducible rfl))
        rotate_left; (intro _ _ _ h9; exact h9)
        try simp only [Act.put, List.setIfInBounds_toArray, List.set_cons_zero, List.set_cons_succ]
        refine wpAnyH_take (i := 32) (oi := ?_) (v := ?_) ?_ (by kernel_rfl) (by kernel_rfl) (by kernel_rfl) ?_ ?_ (by assumption) ?_
        rotate_left 2; (simp only [List.getElem?_toArray, List.getElem?_cons_succ, List.getElem?_cons_zero]; rfl)
        rotate_left; (first | (refine .inl ⟨by rfl, ?_⟩; intro w9 hS9; go_simp; try with_reducible rfl) | (refine .inr ⟨by rfl, ?_⟩; with_reducible rfl))
        rotate_left; (intro _ _ _ h9; exact h9)
        try simp only [Act.put, List.setIfInBounds_toArray, List.set_cons_zero, List.set_cons_succ]
        refine wpAnyH_take (i := 33) (oi := ?_) (v := ?_) ?_ (by kernel_rfl) (by kernel_rfl) (by kernel_rfl) ?_ ?_ (by assumption) ?_
        rotate_left 2; (simp only [List.getElem?_toArray, List.getElem?_cons_succ, List.getElem?_cons_zero]; rfl)
        rotate_left; (first | (refine .inl ⟨by rfl, ?_⟩; intro w9 hS9; go_simp; try with_reducible rfl) | (refine .inr ⟨by rfl, ?_⟩; with_reducible rfl))
        rotate_left; (intro _ _ _ h9; exact h9)
        try simp only [Act.put, List.setIfInBounds_toArray, List.set_cons_zero, List.set_cons_succ]
        refine wpAnyH_take (i := 34) (oi := ?_) (v := ?_) ?_ (by kernel_rfl) (by kernel_rfl) (by kernel_rfl) ?_ ?_ (by assumption) ?_
        rotate_left 2; (simp only [List.getElem?_toArray, List.getElem?_cons_succ, List.getElem?_cons_zero]; rfl)
        rotate_left; (first | (refine .inl ⟨by rfl, ?_⟩; intro w9 hS9; go_simp; try with_reducible rfl) | (refine .inr ⟨by rfl, ?_⟩; with_reducible rfl))
        rotate_left; (intro _ _ _ h9; exact h9)
        try simp only [Act.put, List.setIfInBounds_toArray, List.set_cons_zero, List.set_cons_succ]
        refine wpAnyH_take (i := 35) (oi := ?_) (v := ?_) ?_ (by kernel_rfl) (by kernel_rfl) (by kernel_rfl) ?_ ?_ (by assumption) ?_
        rotate_left 2; (simp only [List.getElem?_toArray, List.getElem?_cons_succ, List.getElem?_cons_zero]; rfl)
        rotate_left; (first | (refine .inl ⟨by rfl, ?_⟩; intro w9 hS9; go_simp; try with_reducible rfl) | (refine .inr ⟨by rfl, ?_⟩; with_reducible rfl))
        rotate_left; (intro _ _ _ h9; exact h9)
        try simp only [Act.put, List.setIfInBounds_toArray, List.set_cons_zero, List.set_cons_succ]
        refine wpAnyH_take (i := 36) (oi := ?_) (v := ?_) ?_ (by kernel_rfl) (by kernel_rfl) (by kernel_rfl) ?_ ?_ (by assumption) ?_
        rotate_left 2; (simp only [List.getElem?_toArray, List.getElem?_cons_succ, List.getElem?_cons_zero]; rfl)
        rotate_left; (first | (refine .inl ⟨by rfl, ?_⟩; intro w9 hS9; go_simp; try with_reducible rfl) | (refine .inr ⟨by rfl, ?_⟩; with_reducible rfl))
        rotate_left; (intro _ _ _ h9; exact h9)
        try simp only [Act.put, List.setIfInBounds_toArray, List.set_cons_zero, List.set_cons_succ]
        refine wpAnyH_take (i := 37) (oi := ?_) (v := ?_) ?_ (by kernel_rfl) (by kernel_rfl) (by kernel_rfl) ?_ ?_ (by assumption) ?_
        rotate_left 2; (simp only [List.getElem?_toArray, List.getElem?_cons_succ, List.getElem?_cons_zero]; rfl)
        rotate_left; (first | (refine .inl ⟨by rfl, ?_⟩; intro w9 hS9; go_simp; try with_reducible rfl) | (refine .inr ⟨by rfl, ?_⟩; with_reducible rfl))
        rotate_left; (intro _ _ _ h9; exact h9)
        try simp only [Act.put, List.setIfInBounds_toArray, List.set_cons_zero, List.set_cons_succ]
        refine wpAnyH_take (i := 38) (oi := ?_) (v := ?_) ?_ (by kernel_rfl) (by kernel_rfl) (by kernel_rfl) ?_ ?_ (by assumption) ?_
        rotate_left 2; (simp only [List.getElem?_toArray, List.getElem?_cons_succ, List.getElem?_cons_zero]; rfl)
        rotate_left; (first | (refine .inl ⟨by rfl, ?_⟩; intro w9 hS9; go_simp; try with_reducible rfl) | (refine .inr ⟨by rfl, ?_⟩; with_reducible rfl))
        rotate_left; (intro _ _ _ h9; exact h9)
        try simp only [Act.put, List.setIfInBounds_toArray, List.set_cons_zero, List.set_cons_succ]
        refine wpAnyH_take (i := 39) (oi := ?_) (v := ?_) ?_ (by kernel_rfl) (by kernel_rfl) (by kernel_rfl) ?_ ?_ (by assumption) ?_
        rotate_left 2; (simp only [List.getElem?_toArray, List.getElem?_cons_succ, List.getElem?_cons_zero]; rfl)
        rotate_left; (first | (refine .inl ⟨by rfl, ?_⟩; intro w9 hS9; go_simp; try with_reducible rfl) | (refine .inr ⟨by rfl, ?_⟩; with_reducible rfl))
        rotate_left; (intro _ _ _ h9; exact h9)
        try simp only [Act.put, List.setIfInBounds_toArray, List.set_cons_zero, List.set_cons_succ]
        refine wpAnyH_take (i := 40) (oi := ?_) (v := ?_) ?_ (by kernel_rfl) (by kernel_rfl) (by kernel_rfl) ?_ ?_ (by assumption) ?_
        rotate_left 2; (simp only [List.getElem?_toArray, List.getElem?_cons_succ, List.getElem?_cons_zero]; rfl)
        rotate_left; (first | (refine .inl ⟨by rfl, ?_⟩; intro w9 hS9; go_simp; try with_reducible rfl) | (refine .inr ⟨by rfl, ?_⟩; with_reducible rfl))
        rotate_left; (intro _ _ _ h9; exact h9)
        try simp only [Act.put, List.setIfInBounds_toArray, List.set_cons_zero, List.set_cons_succ]
        refine wpAnyH_done (by kernel_rfl) ?_ _
        go_wp2_with fail
        go_ret
        exact ⟨rfl, below_step hbr.out hS3⟩
      · have hz' : ((len2 : Int) == 0) = false := by simp; omega
        clear hz
        go_wp2_with fail
        refine wp_region_held (S := fun w' => Below wc.heap.size wc w') (by kernel_rfl) ?_
        change wpAnyH _ _ _ _ _ _ _ _ wc.drew
        change wpAnyH _ _ _ _ _ 41 (Array.replicate 41 false) _ _
        refine wpAnyH_take (i := 0) (oi := ?_) (v := ?_) ?_ (by kernel_rfl) (by kernel_rfl) (by kernel_rfl) ?_ ?_ (by assumption) ?_
        rotate_left 2; (simp only [List.getElem?_toArray, List.getElem?_cons_succ, List.getElem?_cons_zero]; rfl)
        rotate_left; (first | (refine .inl ⟨by rfl, ?_⟩; intro w9 hS9; go_simp; try with_reducible rfl) | (refine .inr ⟨by rfl, ?_⟩; with_reducible rfl))
        rotate_left; (intro _ _ _ h9; exact h9)
        try simp only [Act.put, List.setIfInBounds_toArray, List.set_cons_zero, List.set_cons_succ]
        refine wpAnyH_take (i := 1) (oi := ?_) (v := ?_) ?_ (by kernel_rfl) (by kernel_rfl) (by kernel_rfl) ?_ ?_ (by assumption) ?_
        rotate_left 2; (simp only [List.getElem?_toArray, List.getElem?_cons_succ, List.getElem?_cons_zero]; rfl)
        rotate_left; (first | (refine .inl ⟨by rfl, ?_⟩; intro w9 hS9; go_simp; try with_reducible rfl) | (refine .inr ⟨by rfl, ?_⟩; with_reducible rfl))
        rotate_left; (intro _ _ _ h9; exact h9)
        try simp only [Act.put, List.setIfInBounds_toArray, List.set_cons_zero, List.set_cons_succ]
        refine wpAnyH_take (i := 2) (oi := ?_) (v := ?_) ?_ (by kernel_rfl) (by kernel_rfl) (by kernel_rfl) ?_ ?_ (by assumption) ?_
        rotate_left 2; (simp only [List.getElem?_toArray, List.getElem?_cons_succ, List.getElem?_cons_zero]; rfl)
        rotate_left; (first | (refine .inl ⟨by rfl, ?_⟩; intro w9 hS9; go_simp; try with_reducible rfl) | (refine .inr ⟨by rfl, ?_⟩; with_reducible rfl))
        rotate_left; (intro _ _ _ h9; exact h9)
        try simp only [Act.put, List.setIfInBounds_toArray, List.set_cons_zero, List.set_cons_succ]
        refine wpAnyH_take (i := 3) (oi := ?_) (v := ?_) ?_ (by kernel_rfl) (by kernel_rfl) (by kernel_rfl) ?_ ?_ (by assumption) ?_
        rotate_left 2; (simp only [List.getElem?_toArray, List.getElem?_cons_succ, List.getElem?_cons_zero]; rfl)
        rotate_left; (first | (refine .inl ⟨by rfl, ?_⟩; intro w9 hS9; go_simp; try with_reducible rfl) | (refine .inr ⟨by rfl, ?_⟩; with_reducible rfl))
        rotate_left; (intro _ _ _ h9; exact h9)
        try simp only [Act.put, List.setIfInBounds_toArray, List.set_cons_zero, List.set_cons_succ]
        refine wpAnyH_take (i := 4) (oi := ?_) (v := ?_) ?_ (by kernel_rfl) (by kernel_rfl) (by kernel_rfl) ?_ ?_ (by assumption) ?_
        rotate_left 2; (simp only [List.getElem?_toArray, List.getElem?_cons_succ, List.getElem?_cons_zero]; rfl)
        rotate_left; (first | (refine .inl ⟨by rfl, ?_⟩; intro w9 hS9; go_simp; try with_reducible rfl) | (refine .inr ⟨by rfl, ?_⟩; with_reducible rfl))
        rotate_left; (intro _ _ _ h9; exact h9)
        try simp only [Act.put, List.setIfInBounds_toArray, List.set_cons_zero, List.set_cons_succ]
        refine wpAnyH_take (i := 5) (oi := ?_) (v := ?_) ?_ (by kernel_rfl) (by kernel_rfl) (by kernel_rfl) ?_ ?_ (by assumption) ?_
        rotate_left 2; (simp only [List.getElem?_toArray, List.getElem?_cons_succ, List.getElem?_cons_zero]; rfl)
        rotate_left; (first | (refine .inl ⟨by rfl, ?_⟩; intro w9 hS9; go_simp; try with_reducible rfl) | (refine .inr ⟨by rfl, ?_⟩; with_reducible rfl))
        rotate_left; (intro _ _ _ h9; exact h9)
        try simp only [Act.put, List.setIfInBounds_toArray, List.set_cons_zero, List.set_cons_succ]
        refine wpAnyH_take (i := 6) (oi := ?_) (v := ?_) ?_ (by kernel_rfl) (by kernel_rfl) (by kernel_rfl) ?_ ?_ (by assumption) ?_
        rotate_left 2; (simp only [List.getElem?_toArray, List.getElem?_cons_succ, List.getElem?_cons_zero]; rfl)
        rotate_left; (first | (refine .inl ⟨by rfl, ?_⟩; intro w9 hS9; go_simp; try with_reducible rfl) | (refine .inr ⟨by rfl, ?_⟩; with_reducible rfl))
        rotate_left; (intro _ _ _ h9; exact h9)
        try simp only [Act.put, List.setIfInBounds_toArray, List.set_cons_zero, List.set_cons_succ]
        refine wpAnyH_take (i := 7) (oi := ?_) (v := ?_) ?_ (by kernel_rfl) (by kernel_rfl) (by kernel_rfl) ?_ ?_ (by assumption) ?_
        rotate_left 2; (simp only [List.getElem?_toArray, List.getElem?_cons_succ, List.getElem?_cons_zero]; rfl)
        rotate_left; (first | (refine .inl ⟨by rfl, ?_⟩; intro w9 hS9; go_simp; try with_reducible rfl) | (refine .inr ⟨by rfl, ?_⟩; with_reducible rfl))
        rotate_left; (intro _ _ _ h9; exact h9)
        try simp only [Act.put, List.setIfInBounds_toArray, List.set_cons_zero, List.set_cons_succ]
        refine wpAnyH_take (i := 8) (oi := ?_) (v := ?_) ?_ (by kernel_rfl) (by kernel_rfl) (by kernel_rfl) ?_ ?_ (by assumption) ?_
        rotate_left 2; (simp only [List.getElem?_toArray, List.getElem?_cons_succ, List.getElem?_cons_zero]; rfl)
        rotate_left; (first | (refine .inl ⟨by rfl, ?_⟩; intro w9 hS9; go_simp; try with_reducible rfl) | (refine .inr ⟨by rfl, ?_⟩; with_reducible rfl))
        rotate_left; (intro _ _ _ h9; exact h9)
        try simp only [Act.put, List.setIfInBounds_toArray, List.set_cons_zero, List.set_cons_succ]
        refine wpAnyH_take (i := 9) (oi := ?_) (v := ?_) ?_ (by kernel_rfl) (by kernel_rfl) (by kernel_rfl) ?_ ?_ (by assumption) ?_
        rotate_left 2; (simp only [List.getElem?_toArray, List.getElem?_cons_succ, List.getElem?_cons_zero]; rfl)
        rotate_left; (first | (refine .inl ⟨by rfl, ?_⟩; intro w9 hS9; go_simp; try with_reducible rfl) | (refine .inr ⟨by rfl, ?_⟩; with_reducible rfl))
        rotate_left; (intro _ _ _ h9; exact h9)
        try simp only [Act.put, List.setIfInBounds_toArray, List.set_cons_zero, List.set_cons_succ]
        refine wpAnyH_take (i := 10) (oi := ?_) (v := ?_) ?_ (by kernel_rfl) (by kernel_rfl) (by kernel_rfl) ?_ ?_ (by assumption) ?_
        rotate_left 2; (simp only [List.getElem?_toArray, List.getElem?_cons_succ, List.getElem?_cons_zero]; rfl)
        rotate_left; (first | (refine .inl ⟨by rfl, ?_⟩; intro w9 hS9; go_simp; try with_reducible rfl) | (refine .inr ⟨by rfl, ?_⟩; with_reducible rfl))
        rotate_left; (intro _ _ _ h9; exact h9)
        try simp only [Act.put, List.setIfInBounds_toArray, List.set_cons_zero, List.set_cons_succ]
        refine wpAnyH_ready (rs := [11]) (by kernel_rfl) (by simp) (AllReadyH.cons rfl (fun K9 hK9 => ?_) AllReadyH.nil)
        go_simp
        go_must (refine (st_dead g gb _ _ _ _ (hst.below hS0)).mono ?_)
        rintro e we2 ⟨rfl, rfl⟩
        refine hK9.out _ _ hS0 (fun _ => ?_)
        clear hK9
        refine wpAnyH_take (i := 12) (oi := ?_) (v := ?_) ?_ (by kernel_rfl) (by kernel_rfl) (by kernel_rfl) ?_ ?_ (by assumption) ?_
        rotate_left 2; (simp only [List.getElem?_toArray, List.getElem?_cons_succ, List.getElem?_cons_zero]; rfl)
        rotate_left; (first | (refine .inl ⟨by rfl, ?_⟩; intro w9 hS9; go_simp; try with_reducible rfl) | (refine .inr ⟨by rfl, ?_⟩; with_reducible rfl))
        rotate_left; (intro _ _ _ h9; exact h9)
        try simp only [Act.put, List.setIfInBounds_toArray, List.set_cons_zero, List.set_cons_succ]
        refine wpAnyH_take (i := 13) (oi := ?_) (v := ?_) ?_ (by kernel_rfl) (by kernel_rfl) (by kernel_rfl) ?_ ?_ (by assumption) ?_
        rotate_left 2; (simp only [List.getElem?_toArray, List.getElem?_cons_succ, List.getElem?_cons_zero]; rfl)
        rotate_left; (first | (refine .inl ⟨by rfl, ?_⟩; intro w9 hS9; go_simp; try with_reducible rfl) | (refine .inr ⟨by rfl, ?_⟩; with_reducible rfl))
        rotate_left; (intro _ _ _ h9; exact h9)
        try simp only [Act.put, List.setIfInBounds_toArray, List.set_cons_zero, List.set_cons_succ]
        refine wpAnyH_take (i := 14) (oi := ?_) (v := ?_) ?_ (by kernel_rfl) (by kernel_rfl) (by kernel_rfl) ?_ ?_ (by assumption) ?_
        rotate_left 2; (simp only [List.getElem?_toArray, List.getElem?_cons_succ, List.getElem?_cons_zero]; rfl)
        rotate_left; (first | (refine .inl ⟨by rfl, ?_⟩; intro w9 hS9; go_simp; try with_reducible rfl) | (refine .inr ⟨by rfl, ?_⟩; with_reducible rfl))
        rotate_left; (intro _ _ _ h9; exact h9)
        try simp only [Act.put, List.setIfInBounds_toArray, List.set_cons_zero, List.set_cons_succ]
        refine wpAnyH_take (i := 15) (oi := ?_) (v := ?_) ?_ (by kernel_rfl) (by kernel_rfl) (by kernel_rfl) ?_ ?_ (by assumption) ?_
        rotate_left 2; (simp only [List.getElem?_toArray, List.getElem?_cons_succ, List.getElem?_cons_zero]; rfl)
        rotate_left; (first | (refine .inl ⟨by rfl, ?_⟩; intro w9 hS9; go_simp; try with_reducible rfl) | (refine .inr ⟨by rfl, ?_⟩; with_reducible rfl))
        rotate_left; (intro _ _ _ h9; exact h9)
        try simp only [Act.put, List.setIfInBounds_toArray, List.set_cons_zero, List.set_cons_succ]
        refine wpAnyH_take (i := 16) (oi := ?_) (v := ?_) ?_ (by kernel_rfl) (by kernel_rfl) (by kernel_rfl) ?_ ?_ (by assumption) ?_
        rotate_left 2; (simp only [List.getElem?_toArray, List.getElem?_cons_succ, List.getElem?_cons_zero]; rfl)
        rotate_left; (first | (refine .inl ⟨by rfl, ?_⟩; intro w9 hS9; go_simp; try with_reducible rfl) | (refine .inr ⟨by rfl, ?_⟩; with_reducible rfl))
        rotate_left; (intro _ _ _ h9; exact h9)
        try simp only [Act.put, List.setIfInBounds_toArray, List.set_cons_zero, List.set_cons_succ]
        refine wpAnyH_take (i := 17) (oi := ?_) (v := ?_) ?_ (by kernel_rfl) (by kernel_rfl) (by kernel_rfl) ?_ ?_ (by assumption) ?_
        rotate_left 2; (simp only [List.getElem?_toArray, List.getElem?_cons_succ, List.getElem?_cons_zero]; rfl)
        rotate_left; (first | (refine .inl ⟨by rfl, ?_⟩; intro w9 hS9; go_simp; try with_reducible rfl) | (refine .inr ⟨by rfl, ?_⟩; with_reducible rfl))
        rotate_left; (intro _ _ _ h9; exact h9)
        try simp only [Act.put, List.setIfInBounds_toArray, List.set_cons_zero, List.set_cons_succ]
        refine wpAnyH_take (i := 20) (oi := ?_) (v := ?_) ?_ (by kernel_rfl) (by kernel_rfl) (by kernel_rfl) ?_ ?_ (by assumption) ?_
        rotate_left 2; (simp only [List.getElem?_toArray, List.getElem?_cons_succ, List.getElem?_cons_zero]; rfl)
        rotate_left; (first | (refine .inl ⟨by rfl, ?_⟩; intro w9 hS9; go_simp; try with_reducible rfl) | (refine .inr ⟨by rfl, ?_⟩; with_reducible rfl))
        rotate_left; (intro _ _ _ h9; exact h9)
        try simp only [Act.put, List.setIfInBounds_toArray, List.set_cons_zero, List.set_cons_succ]
        refine wpAnyH_take (i := 21) (oi := ?_) (v := ?_) ?_ (by kernel_rfl) (by kernel_rfl) (by kernel_rfl) ?_ ?_ (by assumption) ?_
        rotate_left 2; (simp only [List.getElem?_toArray, List.getElem?_cons_succ, List.getElem?_cons_zero]; rfl)
        rotate_left; (first | (refine .inl ⟨by rfl, ?_⟩; intro w9 hS9; go_simp; try with_reducible rfl) | (refine .inr ⟨by rfl, ?_⟩; with_reducible rfl))
        rotate_left; (intro _ _ _ h9; exact h9)
        try simp only [Act.put, List.setIfInBounds_toArray, List.set_cons_zero, List.set_cons_succ]
        refine wpAnyH_ready (rs := [18]) (by kernel_rfl) (by simp) (AllReadyH.cons rfl (fun K9 hK9 => ?_) AllReadyH.nil)
        go_simp
        go_must (refine (st_read g gb _ _ _ 0 len0 _ (hst.below hS0)).mono ?_)
        rintro e wf ⟨v, rfl, hownr, hb4⟩
        rw [stRead_all _ _ HSL.out.symm] at hownr
        obtain ⟨Ar, cr, rfl, hrr⟩ := hownr.reads
        rw [HSL.out] at hrr ⊢
        have hS3 := below_step hS0 hb4
        have k4 := by_string_of wf _ _ cr _ hrr.rb
        have k1' : ∀ w', Below wf.heap.size wf w' → _ := fun w' hb => k1 w' (below_step hS3 hb)
        have k3' : ∀ w', Below wf.heap.size wf w' → _ := fun w' hb => k3 w' (below_step hS3 hb)
        refine hK9.out _ _ hS3 (fun _ => ?_)
        have hS4 := Below.refl wf.heap.size wf
        refine wpAnyH_weaken (T := fun w' => Below wf.heap.size wf w') (fun w' h => below_step hS3 h) _ _ _ _ ?_
        clear hK9 hownr k1 k3
        refine wpAnyH_take (i := 19) (oi := ?_) (v := ?_) ?_ (by kernel_rfl) (by kernel_rfl) (by kernel_rfl) ?_ ?_ (by assumption) ?_
        rotate_left 2; (simp only [List.getElem?_toArray, List.getElem?_cons_succ, List.getElem?_cons_zero]; rfl)
        rotate_left; (first | (refine .inl ⟨by rfl, ?_⟩; intro w9 hS9; go_simp; try with_reducible rfl) | (refine .inr ⟨by rfl, ?_⟩; with_reducible rfl))
        rotate_left; (intro _ _ _ h9; exact h9)
        try simp only [Act.put, List.setIfInBounds_toArray, List.set_cons_zero, List.set_cons_succ]
        refine wpAnyH_take (i := 22) (oi := ?_) (v := ?_) ?_ (by kernel_rfl) (by kernel_rfl) (by kernel_rfl) ?_ ?_ (by assumption) ?_
        rotate_left 2; (simp only [List.getElem?_toArray, List.getElem?_cons_succ, List.getElem?_cons_zero]; rfl)
        rotate_left; (first | (refine .inl ⟨by rfl, ?_⟩; intro w9 hS9; go_simp; try with_reducible rfl) | (refine .inr ⟨by rfl, ?_⟩; with_reducible rfl))
        rotate_left; (intro _ _ _ h9; exact h9)
        try simp only [Act.put, List.setIfInBounds_toArray, List.set_cons_zero, List.set_cons_succ]
        refine wpAnyH_take (i := 23) (oi := ?_) (v := ?_) ?_ (by kernel_rfl) (by kernel_rfl) (by kernel_rfl) ?_ ?_ (by assumption) ?_
        rotate_left 2; (simp only [List.getElem?_toArray, List.getElem?_cons_succ, List.getElem?_cons_zero]; rfl)
        rotate_left; (first | (refine .inl ⟨by rfl, ?_⟩; intro w9 hS9; go_simp; try with_reducible rfl) | (refine .inr ⟨by rfl, ?_⟩; with_reducible rfl))
        rotate_left; (intro _ _ _ h9; exact h9)
        try simp only [Act.put, List.setIfInBounds_toArray, List.set_cons_zero, List.set_cons_succ]
        refine wpAnyH_take (i := 24) (oi := ?_) (v := ?_) ?_ (by kernel_rfl) (by kernel_rfl) (by kernel_rfl) ?_ ?_ (by assumption) ?_
        rotate_left 2; (simp only [List.getElem?_toArray, List.getElem?_cons_succ, List.getElem?_cons_zero]; rfl)
        rotate_left; (first | (refine .inl ⟨by rfl, ?_⟩; intro w9 hS9; go_simp; try with_reducible rfl) | (refine .inr ⟨by rfl, ?_⟩; with_reducible rfl))
        rotate_left; (intro _ _ _ h9; exact h9)
        try simp only [Act.put, List.setIfInBounds_toArray, List.set_cons_zero, List.set_cons_succ]
        refine wpAnyH_take (i := 25) (oi := ?_) (v := ?_) ?_ (by kernel_rfl) (by kernel_rfl) (by kernel_rfl) ?_ ?_ (by assumption) ?_
        rotate_left 2; (simp only [List.getElem?_toArray, List.getElem?_cons_succ, List.getElem?_cons_zero]; rfl)
        rotate_left; (first | (refine .inl ⟨by rfl, ?_⟩; intro w9 hS9; go_simp; try with_reducible rfl) | (refine .inr ⟨by rfl, ?_⟩; with_reducible rfl))
        rotate_left; (intro _ _ _ h9; exact h9)
        try simp only [Act.put, List.setIfInBounds_toArray, List.set_cons_zero, List.set_cons_succ]
        refine wpAnyH_take (i := 26) (oi := ?_) (v := ?_) ?_ (by kernel_rfl) (by kernel_rfl) (by kernel_rfl) ?_ ?_ (by assumption) ?_
        rotate_left 2; (simp only [List.getElem?_toArray, List.getElem?_cons_succ, List.getElem?_cons_zero]; rfl)
        rotate_left; (first | (refine .inl ⟨by rfl, ?_⟩; intro w9 hS9; go_simp; try with_reducible rfl) | (refine .inr ⟨by rfl, ?_⟩; with_reducible rfl))
        rotate_left; (intro _ _ _ h9; exact h9)
        try simp only [Act.put, List.setIfInBounds_toArray, List.set_cons_zero, List.set_cons_succ]
        refine wpAnyH_take (i := 27) (oi := ?_) (v := ?_) ?_ (by kernel_rfl) (by kernel_rfl) (by kernel_rfl) ?_ ?_ (by assumption) ?_
        rotate_left 2; (simp only [List.getElem?_toArray, List.getElem?_cons_succ, List.getElem?_cons_zero]; rfl)
        rotate_left; (first | (refine .inl ⟨by rfl, ?_⟩; intro w9 hS9; go_simp; try with_reducible rfl) | (refine .inr ⟨by rfl, ?_⟩; with_reducible rfl))
        rotate_left; (intro _ _ _ h9; exact h9)
        try simp only [Act.put, List.setIfInBounds_toArray, List.set_cons_zero, List.set_cons_succ]
        refine wpAnyH_take (i := 28) (oi := ?_) (v := ?_) ?_ (by kernel_rfl) (by kernel_rfl) (by kernel_rfl) ?_ ?_ (by assumption) ?_
        rotate_left 2; (simp only [List.getElem?_toArray, List.getElem?_cons_succ, List.getElem?_cons_zero]; rfl)
        rotate_left; (first | (refine .inl ⟨by rfl, ?_⟩; intro w9 hS9; go_simp; try with_reducible rfl) | (refine .inr ⟨by rfl, ?_⟩; with_reducible rfl))
        rotate_left; (intro _ _ _ h9; exact h9)
        try simp only [Act.put, List.setIfInBounds_toArray, List.set_cons_zero, List.set_cons_succ]
        refine wpAnyH_take (i := 29) (oi := ?_) (v := ?_) ?_ (by kernel_rfl) (by kernel_rfl) (by kernel_rfl) ?_ ?_ (by assumption) ?_
        rotate_left 2; (simp only [List.getElem?_toArray, List.getElem?_cons_succ, List.getElem?_cons_zero]; rfl)
        rotate_left; (first | (refine .inl ⟨by rfl, ?_⟩; intro w9 hS9; go_simp; try with_reducible rfl) | (refine .inr ⟨by rfl, ?_⟩; with_reducible rfl))
        rotate_left; (intro _ _ _ h9; exact h9)
        try simp only [Act.put, List.setIfInBounds_toArray, List.set_cons_zero, List.set_cons_succ]
        refine wpAnyH_take (i := 30) (oi := ?_) (v := ?_) ?_ (by kernel_rfl) (by kernel_rfl) (by kernel_rfl) ?_ ?_ (by assumption) ?_
        rotate_left 2; (simp only [List.getElem?_toArray, List.getElem?_cons_succ, List.getElem?_cons_zero]; rfl)
        rotate_left; (first | (refine .inl ⟨by rfl, ?_⟩; intro w9 hS9; go_simp; try with_reducible rfl) | (refine .inr ⟨by rfl, ?_⟩; with_reducible rfl))
        rotate_left; (intro _ _ _ h9; exact h9)
        try simp only [Act.put, List.setIfInBounds_toArray, List.set_cons_zero, List.set_cons_succ]
        refine wpAnyH_take (i := 31) (oi := ?_) (v := ?_) ?_ (by kernel_rfl) (by kernel_rfl) (by kernel_rfl) ?_ ?_ (by assumption) ?_
        rotate_left 2; (simp only [List.getElem?_toArray, List.getElem?_cons_succ, List.getElem?_cons_zero]; rfl)
        rotate_left; (first | (refine .inl ⟨by rfl, ?_⟩; intro w9 hS9; go_simp; try with_reducible rfl) | (refine .inr ⟨by rfl, ?_⟩; with_reducible rfl))
        rotate_left; (intro _ _ _ h9; exact h9)
        try simp only [Act.put, List.setIfInBounds_toArray, List.set_cons_zero, List.set_cons_succ]
        refine wpAnyH_take (i := 32) (oi := ?_) (v := ?_) ?_ (by kernel_rfl) (by kernel_rfl) (by kernel_rfl) ?_ ?_ (by assumption) ?_
        rotate_left 2; (simp only [List.getElem?_toArray, List.getElem?_cons_succ, List.getElem?_cons_zero]; rfl)
        rotate_left; (first | (refine .inl ⟨by rfl, ?_⟩; intro w9 hS9; go_simp; try with_reducible rfl) | (refine .inr ⟨by rfl, ?_⟩; with_reducible rfl))
        rotate_left; (intro _ _ _ h9; exact h9)
        try simp only [Act.put, List.setIfInBounds_toArray, List.set_cons_zero, List.set_cons_succ]
        refine wpAnyH_take (i := 35) (oi := ?_) (v := ?_) ?_ (by kernel_rfl) (by kernel_rfl) (by kernel_rfl) ?_ ?_ (by assumption) ?_
        rotate_left 2; (simp only [List.getElem?_toArray, List.getElem?_cons_succ, List.getElem?_cons_zero]; rfl)
        rotate_left; (first | (refine .inl ⟨by rfl, ?_⟩; intro w9 hS9; go_simp; try with_reducible rfl) | (refine .inr ⟨by rfl, ?_⟩; with_reducible rfl))
        rotate_left; (intro _ _ _ h9; exact h9)
        try simp only [Act.put, List.setIfInBounds_toArray, List.set_cons_zero, List.set_cons_succ]
        refine wpAnyH_take (i := 36) (oi := ?_) (v := ?_) ?_ (by kernel_rfl) (by kernel_rfl) (by kernel_rfl) ?_ ?_ (by assumption) ?_
        rotate_left 2; (simp only [List.getElem?_toArray, List.getElem?_cons_succ, List.getElem?_cons_zero]; rfl)
        rotate_left; (first | (refine .inl ⟨by rfl, ?_⟩; intro w9 hS9; go_simp; try with_reducible rfl) | (refine .inr ⟨by rfl, ?_⟩; with_reducible rfl))
        rotate_left; (intro _ _ _ h9; exact h9)
        try simp only [Act.put, List.setIfInBounds_toArray, List.set_cons_zero, List.set_cons_succ]
        refine wpAnyH_ready (rs := [33]) (by kernel_rfl) (by simp) (AllReadyH.cons rfl (fun K9 hK9 => ?_) AllReadyH.nil)
        go_simp
        go_must (refine (st_read g gb _ _ _ a len2 _ (hst.below hS3)).mono ?_)
        rintro e wg ⟨v, rfl, hownr, hb5⟩
        rw [HRD.out] at hownr
        obtain ⟨Ar2, cr2, rfl, hrr2⟩ := hownr.reads
        rw [kl.out] at hrr2 ⊢
        have hS5 := below_step hS4 hb5
        have k5 := by_string_of wg _ _ cr2 _ hrr2.rb
        have k3'' : ∀ w', Below wg.heap.size wg w' → _ := fun w' hb => k3' w' (below_step hS5 hb)
        refine hK9.out _ _ hS5 (fun _ => ?_)
        have hS6 := Below.refl wg.heap.size wg
        refine wpAnyH_weaken (T := fun w' => Below wg.heap.size wg w') (fun w' h => below_step hS5 h) _ _ _ _ ?_
        clear hK9 hownr k1' k3' k4
        refine wpAnyH_take (i := 34) (oi := ?_) (v := ?_) ?_ (by kernel_rfl) (by kernel_rfl) (by kernel_rfl) ?_ ?_ (by assumption) ?_
        rotate_left 2; (simp only [List.getElem?_toArray, List.getElem?_cons_succ, List.getElem?_cons_zero]; rfl)
        rotate_left; (first | (refine .inl ⟨by rfl, ?_⟩; intro w9 hS9; go_simp; try with_reducible rfl) | (refine .inr ⟨by rfl, ?_⟩; with_reducible rfl))
        rotate_left; (intro _ _ _ h9; exact h9)
        try simp only [Act.put, List.setIfInBounds_toArray, List.set_cons_zero, List.set_cons_succ]
        refine wpAnyH_take (i := 37) (oi := ?_) (v := ?_) ?_ (by kernel_rfl) (by kernel_rfl) (by kernel_rfl) ?_ ?_ (by assumption) ?_
        rotate_left 2; (simp only [List.getElem?_toArray, List.getElem?_cons_succ, List.getElem?_cons_zero]; rfl)
        rotate_left; (first | (refine .inl ⟨by rfl, ?_⟩; intro w9 hS9; go_simp; try with_reducible rfl) | (refine .inr ⟨by rfl, ?_⟩; with_reducible rfl))
        rotate_left; (intro _ _ _ h9; exact h9)
        try simp only [Act.put, List.setIfInBounds_toArray, List.set_cons_zero, List.set_cons_succ]
        refine wpAnyH_take (i := 38) (oi := ?_) (v := ?_) ?_ (by kernel_rfl) (by kernel_rfl) (by kernel_rfl) ?_ ?_ (by assumption) ?_
        rotate_left 2; (simp only [List.getElem?_toArray, List.getElem?_cons_succ, List.getElem?_cons_zero]; rfl)
        rotate_left; (first | (refine .inl ⟨by rfl, ?_⟩; intro w9 hS9; go_simp; try with_reducible rfl) | (refine .inr ⟨by rfl, ?_⟩; with_reducible rfl))
        rotate_left; (intro _ _ _ h9; exact h9)
        try simp only [Act.put, List.setIfInBounds_toArray, List.set_cons_zero, List.set_cons_succ]
        refine wpAnyH_take (i := 39) (oi := ?_) (v := ?_) ?_ (by kernel_rfl) (by kernel_rfl) (by kernel_rfl) ?_ ?_ (by assumption) ?_
        rotate_left 2; (simp only [List.getElem?_toArray, List.getElem?_cons_succ, List.getElem?_cons_zero]; rfl)
        rotate_left; (first | (refine .inl ⟨by rfl, ?_⟩; intro w9 hS9; go_simp; try with_reducible rfl) | (refine .inr ⟨by rfl, ?_⟩; with_reducible rfl))
        rotate_left; (intro _ _ _ h9; exact h9)
        try simp only [Act.put, List.setIfInBounds_toArray, List.set_cons_zero, List.set_cons_succ]
        refine wpAnyH_take (i := 40) (oi := ?_) (v := ?_) ?_ (by kernel_rfl) (by kernel_rfl) (by kernel_rfl) ?_ ?_ (by assumption) ?_
        rotate_left 2; (simp only [List.getElem?_toArray, List.getElem?_cons_succ, List.getElem?_cons_zero]; rfl)
        rotate_left; (first | (refine .inl ⟨by rfl, ?_⟩; intro w9 hS9; go_simp; try with_reducible rfl) | (refine .inr ⟨by rfl, ?_⟩; with_reducible rfl))
        rotate_left; (intro _ _ _ h9; exact h9)
        try simp only [Act.put, List.setIfInBounds_toArray, List.set_cons_zero, List.set_cons_succ]
        refine wpAnyH_done (by kernel_rfl) ?_ _
        go_wp2_with fail
        go_ret
        exact ⟨rfl, below_step hbr.out (below_step hS3 hS5)⟩
end Go.Proofs.YtjoiblgnppjpiaaDoor
