/- The walk of CrcSums. -/
import Derived.Test.YtknmgpaekgjjhaaCrcLaws
import Derived.Test.YtknmgpaekgjjhaaCrcRef
import Derived.Test.YtknmgpaekgjjhaaByCopy
import Derived.LoopTactic
namespace Go.Proofs.Ytknmgpaekgjjhaa
open Go.RowKit
set_option linter.unusedVariables false
set_option linter.unusedSimpArgs false

set_option maxRecDepth 100000 in
set_option maxHeartbeats 4000000 in
theorem crcSums_walk (a0 : Int) (a1 : Option Addr) (len1 cap1 : Nat) (z1 : List Int) (a2 : Option Addr) (len2 cap2 : Nat) (z2 : List Int) (w : World) (w0 : (Lit.int .u16 a0).wf = true) (w1 : IsRow .u8 w a1 len1 cap1 z1) (w2 : IsRow .u8 w a2 len2 cap2 z2) :
    Calls Try.prog 3 #[.int .u16 a0, .slice a1 len1 cap1, .slice a2 len2 cap2] w fun e w' => e = .returned (.bool true) ∧ Below w.heap.size w w' := by
  obtain ⟨s, rfl⟩ := u16_of w0
  obtain ⟨xs, hr⟩ := w1.bytes
  obtain ⟨ys, kr⟩ := w2.bytes
  have hmx := hr.rb.2.1
  have kmx := kr.rb.2.1
  clear w0 w1 w2
  by_cases h1 : 1000 < len1
  · have h1' : (1000 : Int) < len1 := by omega
    clear hr kr
    go_enter Try.func3, Try.ntmps3
    go_wp2_with (go_at_call 9; refine (crc_small _).mono ?_; rintro e w' ⟨rfl, hb⟩)
    go_ret
    exact ⟨rfl, hb⟩
  have h1' : ¬ (1000 : Int) < len1 := by omega
  by_cases h2 : 1000 < len2
  · have h2' : (1000 : Int) < len2 := by omega
    clear hr kr
    go_enter Try.func3, Try.ntmps3
    go_wp2_with (go_at_call 9; refine (crc_small _).mono ?_; rintro e w' ⟨rfl, hb⟩)
    go_ret
    exact ⟨rfl, hb⟩
  have h2' : ¬ (1000 : Int) < len2 := by omega
  have hl := Lib.hid hr.len
  have kl := Lib.hid kr.len
  have hmk := fun w => by_make2 w len1 (len1 + 8) (by omega) (by omega) (len1 : Int) ((len1 : Int) + 8) rfl (by omega)
  go_enter Try.func3, Try.ntmps3
  go_wp2_with fail
  refine (crc_small _).mono ?_
  rintro e wa ⟨rfl, hb⟩
  replace hr := hr.below hb
  replace kr := kr.below hb
  have hown := by_make2_own wa wa.heap.size len1 (len1 + 8) (by omega) (by omega) (Nat.le_refl _)
  have hbn := below_new wa (.cells (madeCells #[.int .u8 0] (len1 + 8)) 5)
  go_wp2_with (with_reducible show wpList _ _ _ (Oper.mk _ (Op.call { callee := Callee.builtin Builtin.copy, args := _, argTypes := _ }) _ _ _ _ :: _) _ _; go_must (refine wpList_copy_by rfl _ _ rfl wa wa.heap.size wa.heap.size len1 (len1 + 8) _ hown hbn (Nat.le_refl _) _ 0 _ _ rfl _ _ _ xs rfl (hr.rb.below hbn) (fun _ => rfl) (Nat.le_refl _) (by simp) ?_); intro wb hown2 hb2 hsz2)
  rw [splice_whole _ _ (by simp [hl.out])] at hown2
  have hsp := hown2.rs
  clear hown hown2 hmk hbn
  replace hr := hr.below hb2
  replace kr := kr.below hb2
  replace hb := below_step hb hb2
  clear hb2
  refine (crc_seal _ _ _ xs _ hsp (by omega)).mono ?_
  rintro e wc ⟨vc, rfl, hown, hb2⟩
  have hrb := hr
  have hsl := crcSum_seal_len xs
  obtain ⟨A1, c1, rfl, hr1⟩ := hown.reads
  obtain ⟨g, o1, hA1, hg0, _⟩ := hr1.rb.cells (by rw [hsl]; omega)
  subst hA1
  obtain ⟨ho1, hgb, hgw, _⟩ := hown.free rfl
  subst ho1
  rw [hsl, hl.out] at hown hr1 ⊢
  clear hsl
  replace hr := hr.below hb2
  go_wp2_with fail
  have hS0 := below_drew1 wc
  have k1 := by_string_of wc _ _ c1 _ hr1.rb
  refine wp_region_held (S := fun w' => Below wc.heap.size wc w') (by kernel_rfl) ?_
  change wpAnyH _ _ _ _ _ _ _ _ wc.drew
  change wpAnyH _ _ _ _ _ 7 (Array.replicate 7 false) _ _
  refine wpAnyH_take (i := 0) (oi := ?_) (v := ?_) ?_ (by kernel_rfl) (by kernel_rfl) (by kernel_rfl) ?_ ?_ (by assumption) ?_
  rotate_left 2; (simp only [List.getElem?_toArray, List.getElem?_cons_succ, List.getElem?_cons_zero]; rfl)
  rotate_left; (first | (refine .inl ⟨by rfl, ?_⟩; intro w9 hS9; go_simp; try with_reducible rfl) | (refine .inr ⟨by rfl, ?_⟩; with_reducible rfl))
  rotate_left; (intro _ _ _ h9; exact h9)
  try simp only [Act.put, List.setIfInBounds_toArray, List.set_cons_zero, List.set_cons_succ]
  refine wpAnyH_take (i := 1) (oi := ?_) (v := ?_) ?_ (by kernel_rfl) (by kernel_rfl) (by kernel_rfl) ?_ ?_ (by assumption) ?_
  rotate_left 2; (simp only [List.getElem?_toArray, List.getElem?_cons_succ, List.getElem?_cons_zero]; rfl)
  rotate_left; (first | (refine .inl ⟨by rfl, ?_⟩; intro w9 hS9; go_simp; try with_reducible rfl) | (refine .inr ⟨by rfl, ?_⟩; with_reducible rfl))
  rotate_left; (intro _ _ _ h9; exact h9)
  try simp only [Act.put, List.setIfInBounds_toArray, List.set_cons_zero, List.set_cons_succ]
  refine wpAnyH_take (i := 2) (oi := ?_) (v := ?_) ?_ (by kernel_rfl) (by kernel_rfl) (by kernel_rfl) ?_ ?_ (by assumption) ?_
  rotate_left 2; (simp only [List.getElem?_toArray, List.getElem?_cons_succ, List.getElem?_cons_zero]; rfl)
  rotate_left; (first | (refine .inl ⟨by rfl, ?_⟩; intro w9 hS9; go_simp; try with_reducible rfl) | (refine .inr ⟨by rfl, ?_⟩; with_reducible rfl))
  rotate_left; (intro _ _ _ h9; exact h9)
  try simp only [Act.put, List.setIfInBounds_toArray, List.set_cons_zero, List.set_cons_succ]
  refine wpAnyH_ready (rs := [3]) (by kernel_rfl) (by simp) (AllReadyH.cons rfl (fun K9 hK9 => ?_) AllReadyH.nil)
  go_simp
  go_must (refine (ref_crcSeal _ _ _ xs _ hr.drew (by omega)).mono ?_)
  rintro e wd ⟨vd, rfl, hownd, hbd⟩
  obtain ⟨A4, c4, rfl, hr4⟩ := hownd.reads
  have k4 := by_string_of wd _ _ c4 _ hr4.rb
  clear hownd
  refine hK9.out _ _ (below_step hS0 hbd) (fun _ => ?_)
  have hS1 := Below.refl wd.heap.size wd
  refine wpAnyH_weaken (T := fun w' => Below wd.heap.size wd w') (fun w' h => below_step (below_step hS0 hbd) h) _ _ _ _ ?_
  refine wpAnyH_take (i := 4) (oi := ?_) (v := ?_) ?_ (by kernel_rfl) (by kernel_rfl) (by kernel_rfl) ?_ ?_ (by assumption) ?_
  rotate_left 2; (simp only [List.getElem?_toArray, List.getElem?_cons_succ, List.getElem?_cons_zero]; rfl)
  rotate_left; (first | (refine .inl ⟨by rfl, ?_⟩; intro w9 hS9; go_simp; try with_reducible rfl) | (refine .inr ⟨by rfl, ?_⟩; with_reducible rfl))
  rotate_left; (intro _ _ _ h9; exact h9)
  try simp only [Act.put, List.setIfInBounds_toArray, List.set_cons_zero, List.set_cons_succ]
  refine wpAnyH_take (i := 5) (oi := ?_) (v := ?_) ?_ (by kernel_rfl) (by kernel_rfl) (by kernel_rfl) ?_ ?_ (by assumption) ?_
  rotate_left 2; (simp only [List.getElem?_toArray, List.getElem?_cons_succ, List.getElem?_cons_zero]; rfl)
  rotate_left; (first | (refine .inl ⟨by rfl, ?_⟩; intro w9 hS9; go_simp; try with_reducible rfl) | (refine .inr ⟨by rfl, ?_⟩; with_reducible rfl))
  rotate_left; (intro _ _ _ h9; exact h9)
  try simp only [Act.put, List.setIfInBounds_toArray, List.set_cons_zero, List.set_cons_succ]
  refine wpAnyH_take (i := 6) (oi := ?_) (v := ?_) ?_ (by kernel_rfl) (by kernel_rfl) (by kernel_rfl) ?_ ?_ (by assumption) ?_
  rotate_left 2; (simp only [List.getElem?_toArray, List.getElem?_cons_succ, List.getElem?_cons_zero]; rfl)
  rotate_left; (first | (refine .inl ⟨by rfl, ?_⟩; intro w9 hS9; go_simp; try with_reducible rfl) | (refine .inr ⟨by rfl, ?_⟩; with_reducible rfl))
  rotate_left; (intro _ _ _ h9; exact h9)
  try simp only [Act.put, List.setIfInBounds_toArray, List.set_cons_zero, List.set_cons_succ]
  refine wpAnyH_done (by kernel_rfl) ?_ _
  replace hown := hown.below (below_step hS0 hbd)
  replace hb2 := below_step hb2 (below_step hS0 hbd)
  clear hr1 hr4 k1 k4 hS1 hgw hg0 hr
  go_wp2_with fail
  go_loopw [11] (fun i wr => ∃ (k : Nat) (zs : List UInt8), k ≤ len1 + 2 ∧ zs.length = len1 + 2 ∧ i = .int .i64 k ∧ Below wb.heap.size wb wr ∧ OwnB wr wb.heap.size (.slice (some ⟨g, 0, none⟩) (len1 + 2) c1) zs) (fun i _ => len1 + 2 - (intOf i).toNat)
  case atStart => exact ⟨0, crcSeal xs, Nat.zero_le _, by rw [crcSum_seal_len, hl.out], rfl, hb2, hown⟩
  case round =>
    obtain ⟨k, zs, hk, hzs, rfl, hbr, hor⟩ := hrel
    clear hown
    by_cases hlt : k < len1 + 2
    · have hlt' : (k : Int) < (len1 : Int) + 2 := by omega
      have x2 : wr.cell? ⟨g, k, none⟩ = some (bv (zs.getD k 0)) := by
        obtain ⟨b9, o9, e8, _, hc9⟩ := hor.rs.rb.cells (by omega)
        cases e8
        have := hc9 k (by omega)
        rwa [Nat.zero_add] at this
      have x3 : wr.frozen? ⟨g, k, none⟩ = false := (hor.free rfl).2.2.2 _
      have hset := Lib.hid (hor.set k (by omega) 7)
      unfold bv at x2
      clear hrb kr hsp
      go_wp2_with fail
      exact ⟨⟨k + 1, zs.set k 7, by omega, by simp [hzs], by go_num, hbr.setCell hgb _, hset.out⟩, by simp [intOf]; omega⟩
    · obtain rfl : k = len1 + 2 := by omega
      replace hrb := hrb.below hbr
      replace kr := kr.below hbr
      replace hsp := hsp.below hbr
      replace hb := Lib.hid (below_step hb hbr)
      clear hbr hor hzs
      go_wp2_with fail
      refine (crc_open _ _ _ ys _ kr (by omega)).mono ?_
      rintro e we ⟨ve, rfl, hown, hb2⟩
      obtain ⟨A5, c5, rfl, hr5⟩ := hown.reads
      replace hrb := hrb.below hb2
      replace kr := kr.below hb2
      replace hsp := hsp.below hb2
      replace hb := Lib.hid (below_step hb.out hb2)
      clear hown hb2
      go_wp2_with fail
      refine (ref_crcOpen _ _ _ ys _ kr (by omega)).mono ?_
      rintro e wf ⟨vf, rfl, hown, hb2⟩
      obtain ⟨A6, c6, rfl, hr6⟩ := hown.reads
      replace hrb := hrb.below hb2
      replace hsp := hsp.below hb2
      replace hr5 := hr5.below hb2
      replace hb := Lib.hid (below_step hb.out hb2)
      clear hown hb2 kr
      generalize (crcOpen ys).isSome = ok
      generalize (crcOpen ys).getD [] = zz at hr5 hr6 ⊢
      have k1 := by_string wf _ _ (len1 + 8) _ hsp.rb
      have k2 := by_string wf _ _ cap1 _ hrb.rb
      have k3 := by_string wf _ _ c5 _ hr5.rb
      have k4 := by_string wf _ _ c6 _ hr6.rb
      have hrr := hrb.rb
      clear hsp hrb hr5 hr6 kl
      go_wp2_with (first
          | (go_at_call 16; with_reducible refine (crc_add _ _ _ _ _ _ hrr).mono ?_; rintro e w' ⟨rfl, rfl⟩)
          | (go_at_call 17; with_reducible refine (ref_crcAdd _ _ _ _ _ _ hrr).mono ?_; rintro e w' ⟨rfl, rfl⟩)
          | (go_at_call 14; with_reducible refine (crc_sum _ _ _ _ _ hrr).mono ?_; rintro e w' ⟨rfl, rfl⟩)
          | (go_at_call 15; with_reducible refine (ref_crcSum _ _ _ _ _ hrr).mono ?_; rintro e w' ⟨rfl, rfl⟩))
      go_ret
      exact ⟨rfl, hb.out⟩
end Go.Proofs.Ytknmgpaekgjjhaa
