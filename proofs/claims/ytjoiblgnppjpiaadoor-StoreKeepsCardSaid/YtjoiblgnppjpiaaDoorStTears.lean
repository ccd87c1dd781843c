/- The walks of StoreTears, StoreRevives. -/
import Derived.Test.YtjoiblgnppjpiaaDoorStSmall
import Derived.Test.YtjoiblgnppjpiaaDoorArgs
namespace Go.Proofs.YtjoiblgnppjpiaaDoor
open Go.RowKit
set_option linter.unusedVariables false
set_option linter.unusedSimpArgs false

theorem RS.one {w w' : World} {g : Nat} {b n c : Nat} {xs : List UInt8} (h : RS w (some ⟨b, 0, Option.none⟩) n c xs) (hf : Fr (fun i => i = g) w w') (hb : b ≠ g) : RS w' (some ⟨b, 0, Option.none⟩) n c xs := h.fr hf (fun _ b' off e => by cases e; exact hb)
theorem OwnB.noStepF {w : World} {base : Nat} {v : Value} {xs : List UInt8} (h : OwnB w base v xs) : NoStep w (fun k => v.ownBlock = some k) := by
  rcases h.2 with ⟨rfl, _⟩ | ⟨g', cap, cur, rfl, hb, hh, _⟩
  · intro k cs m e; cases e
  · intro k cs m e
    cases e
    exact noStep_block hh (by decide) _ cs m rfl
theorem splice_nothing {α : Type} (L : List α) (a : Nat) : splice L a [] = L := by simp [splice]
theorem splice_step (xs ys : List UInt8) (a j : Nat) (hj : j < ys.length) (ha : a + j < xs.length) : (splice xs a (ys.take j)).set (a + j) (ys.getD j 0) = splice xs a (ys.take (j + 1)) := by
  have hl1 : (ys.take j).length = j := by rw [List.length_take]; omega
  have hl2 : (ys.take (j + 1)).length = j + 1 := by rw [List.length_take]; omega
  unfold splice
  rw [hl1, hl2, List.set_append_right _ _ (by rw [List.length_take]; omega), List.length_take, Nat.min_eq_left (by omega), Nat.add_sub_cancel_left, List.set_append_right _ _ (by rw [hl1]; exact Nat.le_refl _), hl1, Nat.sub_self, List.take_succ_eq_append_getElem hj, List.append_assoc]
  congr 2
  rw [List.drop_eq_getElem_cons ha, List.set_cons_zero]
  simp [List.getD_eq_getElem?_getD, List.getElem?_eq_getElem hj]
  omega
theorem stSize_nat (n : Nat) (h : n ≤ 65536) : stSize n = n := by unfold stSize; omega
theorem stRead_all (xs : List UInt8) (n : Nat) (hn : n = xs.length) : stRead xs 0 n = xs := by
  unfold stRead
  rcases Nat.eq_zero_or_pos n with h0 | h0
  · rw [if_neg (by omega)]
    exact (List.eq_nil_of_length_eq_zero (by omega)).symm
  · rw [if_pos ⟨by omega, stIn_iff.2 ⟨by omega, by omega, by omega⟩⟩]
    simp [hn]

set_option maxRecDepth 100000 in
set_option maxHeartbeats 8000000 in
theorem storeTears_walk (a0 : Option Addr) (len0 cap0 : Nat) (z0 : List Int) (a1 : Int) (a2 : Option Addr) (len2 cap2 : Nat) (z2 : List Int) (a3 : Int) (w : World) (w0 : IsRow .u8 w a0 len0 cap0 z0) (w1 : (Lit.int .i64 a1).wf = true) (w2 : IsRow .u8 w a2 len2 cap2 z2) (w3 : (Lit.int .i64 a3).wf = true) (hg : HasTy w) :
    Calls Tryd.prog 3 #[.slice a0 len0 cap0, .int .i64 a1, .slice a2 len2 cap2, .int .i64 a3] w fun e w' => e = .returned (.bool true) ∧ Below w.heap.size w w' := by
  obtain ⟨xs, hr⟩ := w0.bytes
  obtain ⟨ys, kr⟩ := w2.bytes
  have hmx := hr.rb.2.1
  have kmx := kr.rb.2.1
  have H0 := Lib.hid hg
  clear w0 w1 w2 w3 hg
  by_cases c1 : 2000 < len0
  · have c1' : (2000 : Int) < len0 := by omega
    clear hr kr
    go_enter Tryd.func3, Tryd.ntmps3
    go_wp2_with (first | (go_at_call 7; refine (st_small _ H0.out).mono ?_; rintro e w' ⟨rfl, hb⟩) | (go_at_call 8; refine (st_new _ _).mono ?_; rintro e w2 ⟨g, gb, rfl, _, _, _, hb2⟩; have hb := below_step hb hb2))
    go_ret
    exact ⟨rfl, hb⟩
  have c1' : ¬ (2000 : Int) < len0 := by omega
  by_cases c2 : 2000 < len2
  · have c2' : (2000 : Int) < len2 := by omega
    clear hr kr
    go_enter Tryd.func3, Tryd.ntmps3
    go_wp2_with (first | (go_at_call 7; refine (st_small _ H0.out).mono ?_; rintro e w' ⟨rfl, hb⟩) | (go_at_call 8; refine (st_new _ _).mono ?_; rintro e w2 ⟨g, gb, rfl, _, _, _, hb2⟩; have hb := below_step hb hb2))
    go_ret
    exact ⟨rfl, hb⟩
  have c2' : ¬ (2000 : Int) < len2 := by omega
  by_cases c3 : a1 < 0
  · clear hr kr
    go_enter Tryd.func3, Tryd.ntmps3
    go_wp2_with (first | (go_at_call 7; refine (st_small _ H0.out).mono ?_; rintro e w' ⟨rfl, hb⟩) | (go_at_call 8; refine (st_new _ _).mono ?_; rintro e w2 ⟨g, gb, rfl, _, _, _, hb2⟩; have hb := below_step hb hb2))
    go_ret
    exact ⟨rfl, hb⟩
  by_cases c4 : (len0 : Int) < a1
  · clear hr kr
    go_enter Tryd.func3, Tryd.ntmps3
    go_wp2_with (first | (go_at_call 7; refine (st_small _ H0.out).mono ?_; rintro e w' ⟨rfl, hb⟩) | (go_at_call 8; refine (st_new _ _).mono ?_; rintro e w2 ⟨g, gb, rfl, _, _, _, hb2⟩; have hb := below_step hb hb2))
    go_ret
    exact ⟨rfl, hb⟩
  by_cases c5 : (len0 : Int) - a1 < len2
  · clear hr kr
    go_enter Tryd.func3, Tryd.ntmps3
    go_wp2_with (first | (go_at_call 7; refine (st_small _ H0.out).mono ?_; rintro e w' ⟨rfl, hb⟩) | (go_at_call 8; refine (st_new _ _).mono ?_; rintro e w2 ⟨g, gb, rfl, _, _, _, hb2⟩; have hb := below_step hb hb2))
    go_ret
    exact ⟨rfl, hb⟩
  by_cases c6 : a3 < 0
  · clear hr kr
    go_enter Tryd.func3, Tryd.ntmps3
    go_wp2_with (first | (go_at_call 7; refine (st_small _ H0.out).mono ?_; rintro e w' ⟨rfl, hb⟩) | (go_at_call 8; refine (st_new _ _).mono ?_; rintro e w2 ⟨g, gb, rfl, _, _, _, hb2⟩; have hb := below_step hb hb2))
    go_ret
    exact ⟨rfl, hb⟩
  by_cases c7 : (len2 : Int) ≤ a3
  · clear hr kr
    go_enter Tryd.func3, Tryd.ntmps3
    go_wp2_with (first | (go_at_call 7; refine (st_small _ H0.out).mono ?_; rintro e w' ⟨rfl, hb⟩) | (go_at_call 8; refine (st_new _ _).mono ?_; rintro e w2 ⟨g, gb, rfl, _, _, _, hb2⟩; have hb := below_step hb hb2))
    go_ret
    exact ⟨rfl, hb⟩
  obtain ⟨a, rfl⟩ := Int.eq_ofNat_of_zero_le (show 0 ≤ a1 by omega)
  obtain ⟨k, rfl⟩ := Int.eq_ofNat_of_zero_le (show 0 ≤ a3 by omega)
  have hl := Lib.hid hr.len
  have kl := Lib.hid kr.len
  have kcap := kr.cap
  have HR := Lib.hid hr
  have KR := Lib.hid kr
  have hkm : k < len2 := by omega
  have ham : a + len2 ≤ len0 := by omega
  have s1 := fun w' => by_slice_h w' a2 len2 cap2 1 (by omega) 1 rfl
  clear hr kr
  go_enter Tryd.func3, Tryd.ntmps3
  go_wp2_with fail
  refine (st_small _ H0.out).mono ?_
  rintro e wa ⟨rfl, hb⟩
  go_wp2_with fail
  refine (st_new _ _).mono ?_
  rintro e wb ⟨g, gb, rfl, hst, hwg, hwb, hb2⟩
  rw [stSize_nat len0 (by omega)] at hst
  have hsa := hb.size
  have hwg2 : w.heap.size ≤ g := by omega
  have hwb2 : w.heap.size ≤ gb := by omega
  replace hb := Lib.hid (below_step hb hb2)
  clear hb2 hwg hwb hsa
  go_wp2_with fail
  refine (st_write_fits g gb _ _ 0 _ _ _ xs _ hst (HR.out.below hb.out) (by rw [List.length_replicate]; omega) (fun k h => by cases h)).mono ?_
  rintro e w2 ⟨rfl, h2, hf⟩
  replace hb := Lib.hid (below_two hb.out hf hwg2 hwb2)
  rw [splice_whole _ _ (by rw [List.length_replicate, hl.out])] at h2
  replace hst : StIs w2 g gb xs none false := h2
  clear hf h2
  go_wp2_with fail
  refine (st_kill g gb _ _ _ k _ (by omega) hst).mono ?_
  rintro e w3 ⟨rfl, h2, hf⟩
  replace hb := Lib.hid (below_one hb.out hf hwg2)
  replace hst : StIs w3 g gb xs (some k) false := h2
  clear hf h2
  go_wp2_with fail
  refine (st_write_torn g gb _ k a _ _ _ ys _ hst (KR.out.below hb.out) (fun _ _ _ _ => trivial) (by rw [hl.out]; exact ham) hkm).mono ?_
  rintro e w4 ⟨vf, rfl, hef, h2, hf⟩
  replace hb := Lib.hid (below_two hb.out hf hwg2 hwb2)
  replace hst := h2
  clear hf h2
  go_wp2_with fail
  refine (st_write_dead g gb _ _ 0 _ _ _ _ hst).mono ?_
  rintro e w5 ⟨vg, rfl, heg, hb2⟩
  replace hb := Lib.hid (below_step hb.out hb2)
  replace hst := hst.below hb2
  replace hef := hef.below hb2
  have hw5 := hb.out.size
  have hg5 := hst.lt
  have hown := by_lit0 w5 w5.heap.size (Nat.le_refl _)
  have hb0 := below_new w5 (.cells #[] 5)
  have hrb := (HR.out.below (below_step hb.out hb0)).rb
  have hnil := HR.out.nil
  have hlen0 : ([] : List UInt8).length + len0 ≤ 140737488355328 := by simp; omega
  clear hb2 s1
  go_wp2_with (at_builtin; go_must (refine wpList_append_by rfl _ _ rfl w5 hb0 _ [] rfl hown _ _ _ xs rfl hnil hrb hlen0 ?_; intro v1 w6 hown1 hb6 _))
  rw [List.nil_append] at hown1
  replace hb := Lib.hid (below_step hb.out hb6)
  replace hst := hst.below hb6
  replace hef := hef.below hb6
  replace heg := heg.below hb6
  rcases hown1.form with ⟨_, h0⟩ | ⟨gi, ci, rfl, hgi, hgil, _, _⟩
  · have := hl.out; rw [h0] at this; simp at this; omega
  rw [hl.out] at hown1 ⊢
  have HN := Lib.hid hown1.noStepF
  have Hst := Lib.hid hst
  have Hef := Lib.hid hef
  have Heg := Lib.hid heg
  clear hst hef heg hb6 hown hb0 hrb hnil hlen0
  have hfr6 : Fr (fun b => b = gi) w6 w6 := Fr.refl _ _
  rw [show xs = splice xs a (ys.take 0) by simp [splice_nothing]] at hown1
  go_wp2_with fail
  go_loopw [15] (fun i wr => ∃ j : Nat, j ≤ k ∧ i = .int .i64 j ∧ OwnB wr w5.heap.size (.slice (some ⟨gi, 0, none⟩) len0 ci) (splice xs a (ys.take j)) ∧ Fr (fun b => b = gi) w6 wr) (fun i _ => k - (intOf i).toNat)
  case atStart => exact ⟨0, Nat.zero_le _, rfl, hown1, hfr6⟩
  case round =>
    obtain ⟨j, hj, rfl, hor, hfr⟩ := hrel
    clear hown1 hfr6
    have hsl : (splice xs a (ys.take j)).length = len0 := by rw [length_splice _ _ _ (by rw [List.length_take, kl.out, hl.out]; omega), hl.out]
    by_cases hlt : j < k
    · have hlt' : (j : Int) < k := by omega
      obtain ⟨b, off, rfl, hbl, hc⟩ := KR.out.rb.cells (by omega)
      have hbr := hb.out.trans (hfr.below w.heap.size hb.out.size (fun i e => by rw [e]; omega))
      have x0 := (hbr.cell (p := ⟨b, off + j, none⟩) hbl).trans (hc j (by omega))
      unfold bv at x0
      have x2 : wr.cell? ⟨gi, a + j, none⟩ = some (bv ((splice xs a (ys.take j)).getD (a + j) 0)) := by
        obtain ⟨b9, o9, e8, _, hc9⟩ := hor.rs.rb.cells (by omega)
        cases e8
        have := hc9 (a + j) (by omega)
        rwa [Nat.zero_add] at this
      unfold bv at x2
      have x3 : wr.frozen? ⟨gi, a + j, none⟩ = false := (hor.free rfl).2.2.2 _
      have hset := hor.set (a + j) (by omega) (ys.getD j 0)
      rw [splice_step xs ys a j (by rw [kl.out]; omega) (by rw [hl.out]; omega)] at hset
      have H1 := Lib.hid hset
      have H2 := Lib.hid (fr_same hfr (fr_setCell (F := fun b => b = gi) (w := wr) ⟨gi, a + j, none⟩ (bv (ys.getD j 0)) rfl))
      have hbd := nb_bd (ys.getD j 0)
      clear hset hor hfr hbr hc hsl
      unfold bv at H1 H2
      generalize nb (ys.getD j 0) = y at *
      generalize nb ((splice xs a (ys.take j)).getD (a + j) 0) = y2 at *
      have hjm : (j : Int) < len2 := by omega
      have hal : (a : Int) + j < len0 := by omega
      go_wp2_with fail
      exact ⟨⟨j + 1, by omega, by go_num, H1.out, H2.out⟩, by simp [intOf]; omega⟩
    · have hjk : ¬ (j : Int) < k := by omega
      obtain rfl : j = k := by omega
      have hbr := Lib.hid (hb.out.trans (hfr.below w.heap.size hb.out.size (fun i e => by rw [e]; omega)))
      have hns : NoStep w6 (fun b => b = gi) := fun b cs m e => HN.out b cs m (by show some gi = some b; rw [e])
      have hst := Hst.out.fr hfr (by show ¬ g = gi; omega) (by show ¬ gb = gi; omega)
      have Hef2 := Lib.hid (Hef.out.fr hfr hns)
      have Heg2 := Lib.hid (Heg.out.fr hfr hns)
      have hrw := hor.rs
      clear hor hfr hns Hst Hef Heg hb
      go_wp2_with fail
      refine (st_dead g gb _ _ _ _ hst).mono ?_
      rintro e w9 ⟨rfl, rfl⟩
      go_wp2_with fail
      refine (st_revive g gb _ _ _ _ hst).mono ?_
      rintro e wc ⟨rfl, h2, hf⟩
      have hns : NoStep wr (fun k => k = g) := fun k cs m e => hst.noStep k cs m (.inl e)
      have hef := Hef2.out.fr hf hns
      have heg := Heg2.out.fr hf hns
      replace hrw := hrw.one hf (by omega)
      replace hbr := Lib.hid (below_one hbr.out hf hwg2)
      replace hst := h2
      have Hef := Lib.hid hef
      have Heg := Lib.hid heg
      have H0' := Lib.hid (H0.out.below hbr.out)
      obtain ⟨tf, uf, rfl⟩ := hef.iface
      obtain ⟨tg, ug, rfl⟩ := heg.iface
      have hw := by_string_of wc _ _ ci _ hrw.rb
      have t1 := strB_toList (splice xs a (ys.take j))
      clear hf h2 hns hrw hef heg Hef2 Heg2
      have hS0 := below_drew1 wc
      go_wp2_with fail
      refine wp_region_held (S := fun w' => Below wc.heap.size wc w') (by kernel_rfl) ?_
      change wpAnyH _ _ _ _ _ _ _ _ wc.drew
      change wpAnyH _ _ _ _ _ 34 (Array.replicate 34 false) _ _
      refine wpAnyH_take (i := 0) (oi := ?_) (v := ?_) ?_ (by kernel_rfl) (by kernel_rfl) (by kernel_rfl) ?_ ?_ (by assumption) ?_
      rotate_left 2; (simp only [List.getElem?_toArray, List.getElem?_cons_succ, List.getElem?_cons_zero]; rfl)
      rotate_left; (first | (refine .inl ⟨by rfl, ?_⟩; intro w9 hS9; go_simp; try with_reducible rfl) | (refine .inr ⟨by rfl, ?_⟩; with_reducible rfl))
      rotate_left; (intro _ _ _ h9; exact h9)
      try simp only [Act.put, List.setIfInBounds_toArray, List.set_cons_zero, List.set_cons_succ]
      refine wpAnyH_take (i := 1) (oi := ?_) (v := ?_) ?_ (by kernel_rfl) (by kernel_rfl) (by kernel_rfl) ?_ ?_ (by assumption) ?_
      rotate_left 2; (simp only [List.getElem?_toArray, List.getElem?_cons_succ, List.getElem?_cons_zero]; rfl)
      rotate_left; (first | (refine .inl ⟨by rfl, ?_⟩; intro w9 hS9; go_simp; try with_reducible rfl) | (refine .inr ⟨by rfl, ?_⟩; with_reducible rfl))
      rotate_left; (intro _ _ _ h9; exact h9)
      try simp only [Act.put, List.setIfInBounds_toArray, List.set_cons_zero, List.set_cons_succ]
      refine wpAnyH_take (i := 2) (oi := ?_) (v := ?_) ?_ (by kernel_rfl) (by kernel_rfl) (by kernel_rfl) ?_ ?_ (by assumption) ?_
      rotate_left 2; (simp only [List.getElem?_toArray, List.getElem?_cons_succ, List.getElem?_cons_zero]; rfl)
      rotate_left; (first | (refine .inl ⟨by rfl, ?_⟩; intro w9 hS9; go_simp; try with_reducible rfl) | (refine .inr ⟨by rfl, ?_⟩; with_reducible rfl))
      rotate_left; (intro _ _ _ h9; exact h9)
      try simp only [Act.put, List.setIfInBounds_toArray, List.set_cons_zero, List.set_cons_succ]
      refine wpAnyH_take (i := 3) (oi := ?_) (v := ?_) ?_ (by kernel_rfl) (by kernel_rfl) (by kernel_rfl) ?_ ?_ (by assumption) ?_
      rotate_left 2; (simp only [List.getElem?_toArray, List.getElem?_cons_succ, List.getElem?_cons_zero]; rfl)
      rotate_left; (first | (refine .inl ⟨by rfl, ?_⟩; intro w9 hS9; go_simp; try with_reducible rfl) | (refine .inr ⟨by rfl, ?_⟩; with_reducible rfl))
      rotate_left; (intro _ _ _ h9; exact h9)
      try simp only [Act.put, List.setIfInBounds_toArray, List.set_cons_zero, List.set_cons_succ]
      refine wpAnyH_take (i := 4) (oi := ?_) (v := ?_) ?_ (by kernel_rfl) (by kernel_rfl) (by kernel_rfl) ?_ ?_ (by assumption) ?_
      rotate_left 2; (simp only [List.getElem?_toArray, List.getElem?_cons_succ, List.getElem?_cons_zero]; rfl)
      rotate_left; (first | (refine .inl ⟨by rfl, ?_⟩; intro w9 hS9; go_simp; try with_reducible rfl) | (refine .inr ⟨by rfl, ?_⟩; with_reducible rfl))
      rotate_left; (intro _ _ _ h9; exact h9)
      try simp only [Act.put, List.setIfInBounds_toArray, List.set_cons_zero, List.set_cons_succ]
      refine wpAnyH_take (i := 5) (oi := ?_) (v := ?_) ?_ (by kernel_rfl) (by kernel_rfl) (by kernel_rfl) ?_ ?_ (by assumption) ?_
      rotate_left 2; (simp only [List.getElem?_toArray, List.getElem?_cons_succ, List.getElem?_cons_zero]; rfl)
      rotate_left; (first | (refine .inl ⟨by rfl, ?_⟩; intro w9 hS9; go_simp; try with_reducible rfl) | (refine .inr ⟨by rfl, ?_⟩; with_reducible rfl))
      rotate_left; (intro _ _ _ h9; exact h9)
      try simp only [Act.put, List.setIfInBounds_toArray, List.set_cons_zero, List.set_cons_succ]
      refine wpAnyH_take (i := 6) (oi := ?_) (v := ?_) ?_ (by kernel_rfl) (by kernel_rfl) (by kernel_rfl) ?_ ?_ (by assumption) ?_
      rotate_left 2; (simp only [List.getElem?_toArray, List.getElem?_cons_succ, List.getElem?_cons_zero]; rfl)
      rotate_left; (first | (refine .inl ⟨by rfl, ?_⟩; intro w9 hS9; go_simp; try with_reducible rfl) | (refine .inr ⟨by rfl, ?_⟩; with_reducible rfl))
      rotate_left; (intro _ _ _ h9; exact h9)
      try simp only [Act.put, List.setIfInBounds_toArray, List.set_cons_zero, List.set_cons_succ]
      refine wpAnyH_ready (rs := [7]) (by kernel_rfl) (by simp) (AllReadyH.cons rfl (fun K9 hK9 => ?_) AllReadyH.nil)
      go_simp
      go_must (refine (fault_code 1 _ 7 _ (H0'.out.below hS0) (Hef.out.below hS0)).mono ?_)
      rintro e wd ⟨rfl, hb2⟩
      have hS1 := below_step hS0 hb2
      refine hK9.out _ _ hS1 (fun _ => ?_)
      clear hK9
      refine wpAnyH_take (i := 8) (oi := ?_) (v := ?_) ?_ (by kernel_rfl) (by kernel_rfl) (by kernel_rfl) ?_ ?_ (by assumption) ?_
      rotate_left 2; (simp only [List.getElem?_toArray, List.getElem?_cons_succ, List.getElem?_cons_zero]; rfl)
      rotate_left; (first | (refine .inl ⟨by rfl, ?_⟩; intro w9 hS9; go_simp; try with_reducible rfl) | (refine .inr ⟨by rfl, ?_⟩; with_reducible rfl))
      rotate_left; (intro _ _ _ h9; exact h9)
      try simp only [Act.put, List.setIfInBounds_toArray, List.set_cons_zero, List.set_cons_succ]
      refine wpAnyH_take (i := 9) (oi := ?_) (v := ?_) ?_ (by kernel_rfl) (by kernel_rfl) (by kernel_rfl) ?_ ?_ (by assumption) ?_
      rotate_left 2; (simp only [List.getElem?_toArray, List.getElem?_cons_succ, List.getElem?_cons_zero]; rfl)
      rotate_left; (first | (refine .inl ⟨by rfl, ?_⟩; intro w9 hS9; go_simp; try with_reducible rfl) | (refine .inr ⟨by rfl, ?_⟩; with_reducible rfl))
      rotate_left; (intro _ _ _ h9; exact h9)
      try simp only [Act.put, List.setIfInBounds_toArray, List.set_cons_zero, List.set_cons_succ]
      refine wpAnyH_take (i := 10) (oi := ?_) (v := ?_) ?_ (by kernel_rfl) (by kernel_rfl) (by kernel_rfl) ?_ ?_ (by assumption) ?_
      rotate_left 2; (simp only [List.getElem?_toArray, List.getElem?_cons_succ, List.getElem?_cons_zero]; rfl)
      rotate_left; (first | (refine .inl ⟨by rfl, ?_⟩; intro w9 hS9; go_simp; try with_reducible rfl) | (refine .inr ⟨by rfl, ?_⟩; with_reducible rfl))
      rotate_left; (intro _ _ _ h9; exact h9)
      try simp only [Act.put, List.setIfInBounds_toArray, List.set_cons_zero, List.set_cons_succ]
      refine wpAnyH_take (i := 11) (oi := ?_) (v := ?_) ?_ (by kernel_rfl) (by kernel_rfl) (by kernel_rfl) ?_ ?_ (by assumption) ?_
      rotate_left 2; (simp only [List.getElem?_toArray, List.getElem?_cons_succ, List.getElem?_cons_zero]; rfl)
      rotate_left; (first | (refine .inl ⟨by rfl, ?_⟩; intro w9 hS9; go_simp; try with_reducible rfl) | (refine .inr ⟨by rfl, ?_⟩; with_reducible rfl))
      rotate_left; (intro _ _ _ h9; exact h9)
      try simp only [Act.put, List.setIfInBounds_toArray, List.set_cons_zero, List.set_cons_succ]
      refine wpAnyH_ready (rs := [12]) (by kernel_rfl) (by simp) (AllReadyH.cons rfl (fun K9 hK9 => ?_) AllReadyH.nil)
      go_simp
      go_must (refine (fault_code 1 _ 7 _ (H0'.out.below hS1) (Heg.out.below hS1)).mono ?_)
      rintro e we ⟨rfl, hb3⟩
      have hS2 := below_step hS1 hb3
      refine hK9.out _ _ hS2 (fun _ => ?_)
      clear hK9
      refine wpAnyH_take (i := 13) (oi := ?_) (v := ?_) ?_ (by kernel_rfl) (by kernel_rfl) (by kernel_rfl) ?_ ?_ (by assumption) ?_
      rotate_left 2; (simp only [List.getElem?_toArray, List.getElem?_cons_succ, List.getElem?_cons_zero]; rfl)
      rotate_left; (first | (refine .inl ⟨by rfl, ?_⟩; intro w9 hS9; go_simp; try with_reducible rfl) | (refine .inr ⟨by rfl, ?_⟩; with_reducible rfl))
      rotate_left; (intro _ _ _ h9; exact h9)
      try simp only [Act.put, List.setIfInBounds_toArray, List.set_cons_zero, List.set_cons_succ]
      refine wpAnyH_take (i := 14) (oi := ?_) (v := ?_) ?_ (by kernel_rfl) (by kernel_rfl) (by kernel_rfl) ?_ ?_ (by assumption) ?_
      rotate_left 2; (simp only [List.getElem?_toArray, List.getElem?_cons_succ, List.getElem?_cons_zero]; rfl)
      rotate_left; (first | (refine .inl ⟨by rfl, ?_⟩; intro w9 hS9; go_simp; try with_reducible rfl) | (refine .inr ⟨by rfl, ?_⟩; with_reducible rfl))
      rotate_left; (intro _ _ _ h9; exact h9)
      try simp only [Act.put, List.setIfInBounds_toArray, List.set_cons_zero, List.set_cons_succ]
      refine wpAnyH_take (i := 15) (oi := ?_) (v := ?_) ?_ (by kernel_rfl) (by kernel_rfl) (by kernel_rfl) ?_ ?_ (by assumption) ?_
      rotate_left 2; (simp only [List.getElem?_toArray, List.getElem?_cons_succ, List.getElem?_cons_zero]; rfl)
      rotate_left; (first | (refine .inl ⟨by rfl, ?_⟩; intro w9 hS9; go_simp; try with_reducible rfl) | (refine .inr ⟨by rfl, ?_⟩; with_reducible rfl))
      rotate_left; (intro _ _ _ h9; exact h9)
      try simp only [Act.put, List.setIfInBounds_toArray, List.set_cons_zero, List.set_cons_succ]
      refine wpAnyH_take (i := 16) (oi := ?_) (v := ?_) ?_ (by kernel_rfl) (by kernel_rfl) (by kernel_rfl) ?_ ?_ (by assumption) ?_
      rotate_left 2; (simp only [List.getElem?_toArray, List.getElem?_cons_succ, List.getElem?_cons_zero]; rfl)
      rotate_left; (first | (refine .inl ⟨by rfl, ?_⟩; intro w9 hS9; go_simp; try with_reducible rfl) | (refine .inr ⟨by rfl, ?_⟩; with_reducible rfl))
      rotate_left; (intro _ _ _ h9; exact h9)
      try simp only [Act.put, List.setIfInBounds_toArray, List.set_cons_zero, List.set_cons_succ]
      refine wpAnyH_take (i := 17) (oi := ?_) (v := ?_) ?_ (by kernel_rfl) (by kernel_rfl) (by kernel_rfl) ?_ ?_ (by assumption) ?_
      rotate_left 2; (simp only [List.getElem?_toArray, List.getElem?_cons_succ, List.getElem?_cons_zero]; rfl)
      rotate_left; (first | (refine .inl ⟨by rfl, ?_⟩; intro w9 hS9; go_simp; try with_reducible rfl) | (refine .inr ⟨by rfl, ?_⟩; with_reducible rfl))
      rotate_left; (intro _ _ _ h9; exact h9)
      try simp only [Act.put, List.setIfInBounds_toArray, List.set_cons_zero, List.set_cons_succ]
      refine wpAnyH_take (i := 18) (oi := ?_) (v := ?_) ?_ (by kernel_rfl) (by kernel_rfl) (by kernel_rfl) ?_ ?_ (by assumption) ?_
      rotate_left 2; (simp only [List.getElem?_toArray, List.getElem?_cons_succ, List.getElem?_cons_zero]; rfl)
      rotate_left; (first | (refine .inl ⟨by rfl, ?_⟩; intro w9 hS9; go_simp; try with_reducible rfl) | (refine .inr ⟨by rfl, ?_⟩; with_reducible rfl))
      rotate_left; (intro _ _ _ h9; exact h9)
      try simp only [Act.put, List.setIfInBounds_toArray, List.set_cons_zero, List.set_cons_succ]
      refine wpAnyH_take (i := 19) (oi := ?_) (v := ?_) ?_ (by kernel_rfl) (by kernel_rfl) (by kernel_rfl) ?_ ?_ (by assumption) ?_
      rotate_left 2; (simp only [List.getElem?_toArray, List.getElem?_cons_succ, List.getElem?_cons_zero]; rfl)
      rotate_left; (first | (refine .inl ⟨by rfl, ?_⟩; intro w9 hS9; go_simp; try with_reducible rfl) | (refine .inr ⟨by rfl, ?_⟩; with_reducible rfl))
      rotate_left; (intro _ _ _ h9; exact h9)
      try simp only [Act.put, List.setIfInBounds_toArray, List.set_cons_zero, List.set_cons_succ]
      refine wpAnyH_ready (rs := [20]) (by kernel_rfl) (by simp) (AllReadyH.cons rfl (fun K9 hK9 => ?_) AllReadyH.nil)
      go_simp
      go_must (refine (st_dead g gb _ _ _ _ (hst.below hS2)).mono ?_)
      rintro e we2 ⟨rfl, rfl⟩
      refine hK9.out _ _ hS2 (fun _ => ?_)
      clear hK9
      refine wpAnyH_take (i := 21) (oi := ?_) (v := ?_) ?_ (by kernel_rfl) (by kernel_rfl) (by kernel_rfl) ?_ ?_ (by assumption) ?_
      rotate_left 2; (simp only [List.getElem?_toArray, List.getElem?_cons_succ, List.getElem?_cons_zero]; rfl)
      rotate_left; (first | (refine .inl ⟨by rfl, ?_⟩; intro w9 hS9; go_simp; try with_reducible rfl) | (refine .inr ⟨by rfl, ?_⟩; with_reducible rfl))
      rotate_left; (intro _ _ _ h9; exact h9)
      try simp only [Act.put, List.setIfInBounds_toArray, List.set_cons_zero, List.set_cons_succ]
      refine wpAnyH_take (i := 22) (oi := ?_) (v := ?_) ?_ (by kernel_rfl) (by kernel_rfl) (by kernel_rfl) ?_ ?_ (by assumption) ?_
      rotate_left 2; (simp only [List.getElem?_toArray, List.getElem?_cons_succ, List.getElem?_cons_zero]; rfl)
      rotate_left; (first | (refine .inl ⟨by rfl, ?_⟩; intro w9 hS9; go_simp; try with_reducible rfl) | (refine .inr ⟨by rfl, ?_⟩; with_reducible rfl))
      rotate_left; (intro _ _ _ h9; exact h9)
      try simp only [Act.put, List.setIfInBounds_toArray, List.set_cons_zero, List.set_cons_succ]
      refine wpAnyH_take (i := 23) (oi := ?_) (v := ?_) ?_ (by kernel_rfl) (by kernel_rfl) (by kernel_rfl) ?_ ?_ (by assumption) ?_
      rotate_left 2; (simp only [List.getElem?_toArray, List.getElem?_cons_succ, List.getElem?_cons_zero]; rfl)
      rotate_left; (first | (refine .inl ⟨by rfl, ?_⟩; intro w9 hS9; go_simp; try with_reducible rfl) | (refine .inr ⟨by rfl, ?_⟩; with_reducible rfl))
      rotate_left; (intro _ _ _ h9; exact h9)
      try simp only [Act.put, List.setIfInBounds_toArray, List.set_cons_zero, List.set_cons_succ]
      refine wpAnyH_take (i := 24) (oi := ?_) (v := ?_) ?_ (by kernel_rfl) (by kernel_rfl) (by kernel_rfl) ?_ ?_ (by assumption) ?_
      rotate_left 2; (simp only [List.getElem?_toArray, List.getElem?_cons_succ, List.getElem?_cons_zero]; rfl)
      rotate_left; (first | (refine .inl ⟨by rfl, ?_⟩; intro w9 hS9; go_simp; try with_reducible rfl) | (refine .inr ⟨by rfl, ?_⟩; with_reducible rfl))
      rotate_left; (intro _ _ _ h9; exact h9)
      try simp only [Act.put, List.setIfInBounds_toArray, List.set_cons_zero, List.set_cons_succ]
      refine wpAnyH_take (i := 25) (oi := ?_) (v := ?_) ?_ (by kernel_rfl) (by kernel_rfl) (by kernel_rfl) ?_ ?_ (by assumption) ?_
      rotate_left 2; (simp only [List.getElem?_toArray, List.getElem?_cons_succ, List.getElem?_cons_zero]; rfl)
      rotate_left; (first | (refine .inl ⟨by rfl, ?_⟩; intro w9 hS9; go_simp; try with_reducible rfl) | (refine .inr ⟨by rfl, ?_⟩; with_reducible rfl))
      rotate_left; (intro _ _ _ h9; exact h9)
      try simp only [Act.put, List.setIfInBounds_toArray, List.set_cons_zero, List.set_cons_succ]
      refine wpAnyH_take (i := 26) (oi := ?_) (v := ?_) ?_ (by kernel_rfl) (by kernel_rfl) (by kernel_rfl) ?_ ?_ (by assumption) ?_
      rotate_left 2; (simp only [List.getElem?_toArray, List.getElem?_cons_succ, List.getElem?_cons_zero]; rfl)
      rotate_left; (first | (refine .inl ⟨by rfl, ?_⟩; intro w9 hS9; go_simp; try with_reducible rfl) | (refine .inr ⟨by rfl, ?_⟩; with_reducible rfl))
      rotate_left; (intro _ _ _ h9; exact h9)
      try simp only [Act.put, List.setIfInBounds_toArray, List.set_cons_zero, List.set_cons_succ]
      refine wpAnyH_take (i := 29) (oi := ?_) (v := ?_) ?_ (by kernel_rfl) (by kernel_rfl) (by kernel_rfl) ?_ ?_ (by assumption) ?_
      rotate_left 2; (simp only [List.getElem?_toArray, List.getElem?_cons_succ, List.getElem?_cons_zero]; rfl)
      rotate_left; (first | (refine .inl ⟨by rfl, ?_⟩; intro w9 hS9; go_simp; try with_reducible rfl) | (refine .inr ⟨by rfl, ?_⟩; with_reducible rfl))
      rotate_left; (intro _ _ _ h9; exact h9)
      try simp only [Act.put, List.setIfInBounds_toArray, List.set_cons_zero, List.set_cons_succ]
      refine wpAnyH_take (i := 30) (oi := ?_) (v := ?_) ?_ (by kernel_rfl) (by kernel_rfl) (by kernel_rfl) ?_ ?_ (by assumption) ?_
      rotate_left 2; (simp only [List.getElem?_toArray, List.getElem?_cons_succ, List.getElem?_cons_zero]; rfl)
      rotate_left; (first | (refine .inl ⟨by rfl, ?_⟩; intro w9 hS9; go_simp; try with_reducible rfl) | (refine .inr ⟨by rfl, ?_⟩; with_reducible rfl))
      rotate_left; (intro _ _ _ h9; exact h9)
      try simp only [Act.put, List.setIfInBounds_toArray, List.set_cons_zero, List.set_cons_succ]
      refine wpAnyH_ready (rs := [27]) (by kernel_rfl) (by simp) (AllReadyH.cons rfl (fun K9 hK9 => ?_) AllReadyH.nil)
      go_simp
      go_must (refine (st_read g gb _ _ _ 0 len0 _ (hst.below hS2)).mono ?_)
      rintro e wf ⟨v, rfl, hownr, hb4⟩
      rw [stRead_all _ _ hsl.symm] at hownr
      obtain ⟨Ar, cr, rfl, hrr⟩ := hownr.reads
      rw [hsl] at hrr ⊢
      have hS3 := below_step hS2 hb4
      have k2 := by_string_of wf _ _ cr _ hrr.rb
      have hw2 : ∀ w', Below wf.heap.size wf w' → _ := fun w' hb => hw w' (below_step hS3 hb)
      refine hK9.out _ _ hS3 (fun _ => ?_)
      have hS4 := Below.refl wf.heap.size wf
      refine wpAnyH_weaken (T := fun w' => Below wf.heap.size wf w') (fun w' h => below_step hS3 h) _ _ _ _ ?_
      clear hK9 hownr hw
      refine wpAnyH_take (i := 28) (oi := ?_) (v := ?_) ?_ (by kernel_rfl) (by kernel_rfl) (by kernel_rfl) ?_ ?_ (by assumption) ?_
      rotate_left 2; (simp only [List.getElem?_toArray, List.getElem?_cons_succ, List.getElem?_cons_zero]; rfl)
      rotate_left; (first | (refine .inl ⟨by rfl, ?_⟩; intro w9 hS9; go_simp; try with_reducible rfl) | (refine .inr ⟨by rfl, ?_⟩; with_reducible rfl))
      rotate_left; (intro _ _ _ h9; exact h9)
      try simp only [Act.put, List.setIfInBounds_toArray, List.set_cons_zero, List.set_cons_succ]
      refine wpAnyH_take (i := 31) (oi := ?_) (v := ?_) ?_ (by kernel_rfl) (by kernel_rfl) (by kernel_rfl) ?_ ?_ (by assumption) ?_
      rotate_left 2; (simp only [List.getElem?_toArray, List.getElem?_cons_succ, List.getElem?_cons_zero]; rfl)
      rotate_left; (first | (refine .inl ⟨by rfl, ?_⟩; intro w9 hS9; go_simp; try with_reducible rfl) | (refine .inr ⟨by rfl, ?_⟩; with_reducible rfl))
      rotate_left; (intro _ _ _ h9; exact h9)
      try simp only [Act.put, List.setIfInBounds_toArray, List.set_cons_zero, List.set_cons_succ]
      refine wpAnyH_take (i := 32) (oi := ?_) (v := ?_) ?_ (by kernel_rfl) (by kernel_rfl) (by kernel_rfl) ?_ ?_ (by assumption) ?_
      rotate_left 2; (simp only [List.getElem?_toArray, List.getElem?_cons_succ, List.getElem?_cons_zero]; rfl)
      rotate_left; (first | (refine .inl ⟨by rfl, ?_⟩; intro w9 hS9; go_simp; try with_reducible rfl) | (refine .inr ⟨by rfl, ?_⟩; with_reducible rfl))
      rotate_left; (intro _ _ _ h9; exact h9)
      try simp only [Act.put, List.setIfInBounds_toArray, List.set_cons_zero, List.set_cons_succ]
      refine wpAnyH_take (i := 33) (oi := ?_) (v := ?_) ?_ (by kernel_rfl) (by kernel_rfl) (by kernel_rfl) ?_ ?_ (by assumption) ?_
      rotate_left 2; (simp only [List.getElem?_toArray, List.getElem?_cons_succ, List.getElem?_cons_zero]; rfl)
      rotate_left; (first | (refine .inl ⟨by rfl, ?_⟩; intro w9 hS9; go_simp; try with_reducible rfl) | (refine .inr ⟨by rfl, ?_⟩; with_reducible rfl))
      rotate_left; (intro _ _ _ h9; exact h9)
      try simp only [Act.put, List.setIfInBounds_toArray, List.set_cons_zero, List.set_cons_succ]
      refine wpAnyH_done (by kernel_rfl) ?_ _
      go_wp2_with fail
      go_ret
      exact ⟨rfl, below_step hbr.out hS3⟩
end Go.Proofs.YtjoiblgnppjpiaaDoor
