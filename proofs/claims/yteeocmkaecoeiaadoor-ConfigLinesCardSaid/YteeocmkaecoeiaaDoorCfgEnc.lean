/- config.Encode. -/
import Derived.Test.YteeocmkaecoeiaaDoorCfgPure
import Derived.Test.YteeocmkaecoeiaaDoorByApp
import Derived.Deep.DeepCutAuto
namespace Go.Proofs.YteeocmkaecoeiaaDoor
open Go.RowKit
set_option linter.unusedVariables false
set_option linter.unusedSimpArgs false

set_option maxHeartbeats 8000000 in
set_option maxRecDepth 100000 in
theorem cf_encode (A : Option Addr) (n c : Nat) (ls : List Ln) (t : Tm) (w : World) (rs : RLn w A n c ls) : Calls Tryd.prog 10 #[cfv A n c t] w (IsEnc (cfEnc ls t) (cfErr ls t) w) := by
  have hl := Lib.hid rs.len
  have HR := Lib.hid rs
  have HC := Lib.hid (show CfBox _ w.heap.size A n c t from heap_alloc_new w (.cells (cfa A n c t) 26))
  have hx := below_st w (.cells (cfa A n c t) 26)
  have HX := Lib.hid hx
  clear rs
  go_enter Tryd.func10, Tryd.ntmps10
  go_wp2_with fail
  generalize w.alloc _ = w1 at *
  refine (cf_check A n c ls t _ (HR.out.below hx)).mono ?_
  rintro e w2 ⟨v, rfl, hv, hb⟩
  have HX2 := Lib.hid (below_go HX.out hb)
  have hc := CfBox.below HC.out hb
  have HC := Lib.hid hc
  clear hb hx
  by_cases hok : cfOk ls t = true
  rotate_left
  · rw [cfErr_no hok] at hv
    have E := Lib.hid (cfErr_no hok)
    have N := Lib.hid (cfEnc_no hok)
    have HV := Lib.hid hv
    obtain ⟨ty, u, rfl⟩ := hv.isErr (by decide)
    clear hv hok hc
    go_wp2_with fail
    go_ret2
    exact ⟨_, _, rfl, by rw [N.out]; exact OwnB.nil _ _, by rw [E.out]; exact HV.out, HX2.out⟩
  rw [cfErr_ok hok] at hv
  obtain rfl := hv.isNil
  have E := Lib.hid (cfErr_ok hok)
  have N := Lib.hid (cfEnc_ok hok)
  have OK := Lib.hid hok
  have hn := cfOk_len ls t hok
  rw [hl.out] at hn
  have e8 := w8 (n := n) (by omega)
  obtain ⟨c0, _⟩ := cf_cell_all hc
  have kc := by_const
  have c1 : (w2.alloc (.cells #[.int .u8 88, .int .u8 66, .int .u8 49] 5 (3, 4))).cell? ⟨w.heap.size, 0, none⟩ = some (.slice A n c) := ((below_new w2 _).cell (p := ⟨w.heap.size, 0, none⟩) (Array.getElem?_eq_some_iff.mp hc).1).trans c0
  have hrb1 : RB ((w2.alloc (.cells #[.int .u8 88, .int .u8 66, .int .u8 49] 5 (3, 4))).alloc (.cells #[.int .u8 (nb (UInt8.ofNat n))] 5)) (some ⟨w2.heap.size + 1, 0, none⟩) 1 [UInt8.ofNat n] := by
    have := rb_one (w2.alloc (.cells #[.int .u8 88, .int .u8 66, .int .u8 49] 5 (3, 4))) (UInt8.ofNat n) 5
    rwa [show (w2.alloc (.cells #[.int .u8 88, .int .u8 66, .int .u8 49] 5 (3, 4))).heap.size = w2.heap.size + 1 by simp] at this
  clear hv hok hc
  go_wp2_with (at_builtin; go_must (refine wpList_append_grow_by rfl _ _ rfl (some ⟨w2.heap.size, 0, none⟩) 3 3 [88, 66, 49] rfl ((rs_mark w2 [88, 66, 49] _ (3, 4) (by simp)).below (below_new _ _)) _ 1 1 [UInt8.ofNat n] rfl hrb1 (by omega) (by omega) ?_; intro v3 w3 hown3 hb3))
  have hb3 := below_step (below_step (below_new w2 _) (below_new _ _)) hb3
  have HC := Lib.hid (CfBox.below HC.out hb3)
  have HX3 := Lib.hid (below_go HX2.out hb3)
  have HO3 := Lib.hid (show OwnB w3 w.heap.size v3 (encHd n) from hown3.base (by have := HX2.out.size; simp; omega))
  clear c0 c1 kc e8 hown3 hb3 hrb1
  refine (cf_times _ _).mono ?_
  rintro e w4 ⟨rfl, hb⟩
  have HC := Lib.hid (CfBox.below HC.out hb)
  have HX4 := Lib.hid (below_go HX3.out hb)
  have HO4 := Lib.hid (HO3.out.below hb)
  clear hb
  go_wp2_with fail
  go_loopw [5, 27] (fun s5 s27 wr => ∃ k : Nat, k ≤ 10 ∧ s27 = .int .i64 k ∧ OwnB wr w.heap.size s5 (encHd n ++ encTm t k) ∧ Below w4.heap.size w4 wr) (fun _ s27 _ => 10 - (intOf s27).toNat)
  case atStart => exact ⟨0, by omega, rfl, by simpa [encTm] using HO4.out, Below.refl _ _⟩
  case round =>
    obtain ⟨k, hk, rfl, hown, hbr⟩ := hrel
    have HBR := Lib.hid hbr
    have HOW := Lib.hid hown
    by_cases hlt : k < 10
    · have hlt' : (k : Int) < 10 := by omega
      have hi := tm_index w.heap.size k hlt
      have hbd := cfOk_tm ls t OK.out k hlt
      have hc := cf_cells _ _ A n c t _ (CfBox.below HC.out hbr) k hlt
      obtain ⟨m, hm⟩ := Int.eq_ofNat_of_zero_le (show 0 ≤ t.get k by omega)
      have ew : IntKind.u16.wrap (t.get k) = m := by rw [w16 (by omega), hm]; rfl
      have hlen := Lib.hid (show (encHd n ++ encTm t k).length ≤ 24 by rw [List.length_append, encHd_len, encTm_len]; omega)
      have hst := Lib.hid (show encHd n ++ encTm t (k + 1) = (encHd n ++ encTm t k) ++ beN 2 m by rw [encTm_succ, hm, ← List.append_assoc]; rfl)
      have hlt2 : m < 65536 := by omega
      clear hm
      generalize encHd n ++ encTm t k = xs at hown hlen hst
      obtain ⟨A5, c5, rfl, hr5⟩ := hown.reads
      have HR5 := Lib.hid hr5
      clear hown hbr hr5 hbd
      go_wp2_with fail
      refine (oct_put16 _ _ _ _ _ _ HR5.out (by have := hlen.out; omega) hlt2).mono ?_
      rintro e w5 ⟨v5, rfl, hown, hb⟩
      have HO5 := Lib.hid (hown.base (show w.heap.size ≤ _ from Nat.le_trans HX4.out.size HBR.out.size))
      have HB5 := Lib.hid (below_go HBR.out hb)
      clear hown hb hc ew
      go_wp2_with fail
      exact ⟨⟨k + 1, by omega, by go_num, by rw [hst.out]; exact HO5.out, HB5.out⟩, by simp [intOf]; omega⟩
    · have hk10 : ¬ (k : Int) < 10 := by omega
      have HO := Lib.hid (show OwnB wr w.heap.size _ (encHd n ++ encTm t 10) by have := HOW.out; rwa [(by omega : k = 10)] at this)
      have hc := CfBox.below HC.out hbr
      have HC := Lib.hid hc
      have HXR := Lib.hid (below_go HX4.out hbr)
      obtain ⟨c0, _⟩ := cf_cell_all hc
      clear hc hown HOW hbr
      go_wp2_with fail
      have HB0 := Lib.hid (encBody_len ls t)
      go_loopw [5, 40] (fun s5 s40 wq => ∃ i : Nat, i ≤ n ∧ s40 = .int .i64 i ∧ OwnB wq w.heap.size s5 (encHd n ++ encTm t 10 ++ (ls.take i).flatMap encLn) ∧ Below wr.heap.size wr wq) (fun _ s40 _ => n - (intOf s40).toNat)
      case atStart => exact ⟨0, Nat.zero_le _, rfl, by simpa using HO.out, Below.refl _ _⟩
      case round =>
        clear c0 hlt hk10 hk
        obtain ⟨i, hi, rfl, hown, hbr⟩ := hrel
        have HBR := Lib.hid hbr
        have HOW := Lib.hid hown
        have HWQ := Lib.hid (below_go HXR.out hbr)
        clear hown hbr
        by_cases hlt : i < n
        · have hlt' : (i : Int) < n := by omega
          obtain ⟨b, off, rfl, hbl, _⟩ := HR.out.cells (by omega)
          have hkl : i < ls.length := by rw [hl.out]; exact hlt
          have he := (HR.out.below HWQ.out).elem lnc_len i hkl
          have hts := Lib.hid (show ls.take (i + 1) = ls.take i ++ [ls[i]] from List.take_succ_eq_append_getElem hkl)
          have hbd := lnOk_bd _ (cfOk_ln ls t OK.out ls[i] (List.getElem_mem hkl))
          have hlen := Lib.hid (show (encHd n ++ encTm t 10 ++ (ls.take i).flatMap encLn).length ≤ 24 + 14 * 8 by rw [List.length_append, List.length_append, encHd_len, encTm_len, encLns_len, List.length_take]; omega)
          have hst := Lib.hid (show encHd n ++ encTm t 10 ++ (ls.take (i + 1)).flatMap encLn = (encHd n ++ encTm t 10 ++ (ls.take i).flatMap encLn) ++ encLn ls[i] by rw [hts.out, List.flatMap_append]; simp)
          have hown := HOW.out
          generalize ls[i] = x at he hst hbd
          generalize encHd n ++ encTm t 10 ++ (ls.take i).flatMap encLn = xs at hown hlen hst
          clear hts HOW hkl
          obtain ⟨l0, l1, l2, l3, l4⟩ := ln_cells wr b _ x he (Nat.lt_of_lt_of_le hbl HWQ.out.size) wr (Below.refl _ _)
          have HY := Lib.hid (show LnBlk (wr.alloc _) wr.heap.size x from heap_alloc_new wr _)
          have HZ := Lib.hid (below_st wr (.cells #[.int .i64 x.strike, .int .i64 x.signal, .int .i64 x.s0, .int .i64 x.s1, .int .i64 x.s2] 48))
          have HO1 := Lib.hid (hown.below HZ.out)
          clear he hown
          go_upto_region 13 with fail
          have HXL := Lib.hid (below_go HWQ.out HZ.out)
          have HBL := Lib.hid (below_go HBR.out HZ.out)
          generalize wr.heap.size = gl at *
          generalize wr.alloc _ = wl at *
          obtain ⟨⟨b0, b1⟩, ⟨b2, b3⟩, hsp⟩ := hbd
          obtain ⟨m, hm⟩ := Int.eq_ofNat_of_zero_le (show 0 ≤ x.strike by omega)
          obtain ⟨m2, hm2⟩ := Int.eq_ofNat_of_zero_le (show 0 ≤ x.signal by omega)
          have ew : IntKind.u32.wrap x.strike = m := by rw [w32 (by omega), hm]; rfl
          have ew2 : IntKind.u32.wrap x.signal = m2 := by rw [w32 (by omega), hm2]; rfl
          have hlt2 : m < 4294967296 := by omega
          have hlt3 : m2 < 4294967296 := by omega
          have hE0 := Lib.hid (show encLnTo x 0 = beN 4 m ++ beN 4 m2 by unfold encLnTo encSp; rw [hm, hm2]; simp)
          have HSP := Lib.hid hsp
          have hyc := HY.out.cells
          have y0 : ∀ w', Below wl.heap.size wl w' → w'.cell? ⟨gl, 0, none⟩ = some (.int .i64 x.strike) := fun w' h => (hyc w' h).1
          have y1 : ∀ w', Below wl.heap.size wl w' → w'.cell? ⟨gl, 1, none⟩ = some (.int .i64 x.signal) := fun w' h => (hyc w' h).2.1
          obtain ⟨A6, c6, rfl, hr6⟩ := HO1.out.reads
          have HR6 := Lib.hid hr6
          clear hyc hm hm2 b0 b1 b2 b3 hsp l0 l1 l2 l3 l4 hr6
          have hS0 : Below wl.heap.size wl wl.drew := ⟨rfl, rfl, rfl, Nat.le_refl _, fun _ _ => rfl⟩
          refine wp_region_held (S := fun w' => Below wl.heap.size wl w') (by kernel_rfl) ?_
          change wpAnyH _ _ _ _ _ _ _ _ wl.drew
          change wpAnyH _ _ _ _ _ 10 (Array.replicate 10 false) _ _
          refine wpAnyH_take (i := 0) (oi := ?_) (v := ?_) ?_ (by kernel_rfl) (by kernel_rfl) (by kernel_rfl) ?_ ?_ (by assumption) ?_
          rotate_left 2; (simp only [List.getElem?_toArray, List.getElem?_cons_succ, List.getElem?_cons_zero]; rfl)
          rotate_left; (first | (refine .inl ⟨by rfl, ?_⟩; intro w9 hS9; go_simp; try with_reducible rfl) | (refine .inr ⟨by rfl, ?_⟩; with_reducible rfl))
          rotate_left; (intro _ _ _ h9; exact h9)
          try simp only [Act.put, List.setIfInBounds_toArray, List.set_cons_zero, List.set_cons_succ]
          refine wpAnyH_take (i := 1) (oi := ?_) (v := ?_) ?_ (by kernel_rfl) (by kernel_rfl) (by kernel_rfl) ?_ ?_ (by assumption) ?_
          rotate_left 2; (simp only [List.getElem?_toArray, List.getElem?_cons_succ, List.getElem?_cons_zero]; rfl)
          rotate_left; (first | (refine .inl ⟨by rfl, ?_⟩; intro w9 hS9; go_simp; try with_reducible rfl) | (refine .inr ⟨by rfl, ?_⟩; with_reducible rfl))
          rotate_left; (intro _ _ _ h9; exact h9)
          try simp only [Act.put, List.setIfInBounds_toArray, List.set_cons_zero, List.set_cons_succ]
          refine wpAnyH_take (i := 2) (oi := ?_) (v := ?_) ?_ (by kernel_rfl) (by kernel_rfl) (by kernel_rfl) ?_ ?_ (by assumption) ?_
          rotate_left 2; (simp only [List.getElem?_toArray, List.getElem?_cons_succ, List.getElem?_cons_zero]; rfl)
          rotate_left; (first | (refine .inl ⟨by rfl, ?_⟩; intro w9 hS9; go_simp; try with_reducible rfl) | (refine .inr ⟨by rfl, ?_⟩; with_reducible rfl))
          rotate_left; (intro _ _ _ h9; exact h9)
          try simp only [Act.put, List.setIfInBounds_toArray, List.set_cons_zero, List.set_cons_succ]
          refine wpAnyH_take (i := 3) (oi := ?_) (v := ?_) ?_ (by kernel_rfl) (by kernel_rfl) (by kernel_rfl) ?_ ?_ (by assumption) ?_
          rotate_left 2; (simp only [List.getElem?_toArray, List.getElem?_cons_succ, List.getElem?_cons_zero]; rfl)
          rotate_left; (first | (refine .inl ⟨by rfl, ?_⟩; intro w9 hS9; go_simp; try with_reducible rfl) | (refine .inr ⟨by rfl, ?_⟩; with_reducible rfl))
          rotate_left; (intro _ _ _ h9; exact h9)
          try simp only [Act.put, List.setIfInBounds_toArray, List.set_cons_zero, List.set_cons_succ]
          refine wpAnyH_take (i := 5) (oi := ?_) (v := ?_) ?_ (by kernel_rfl) (by kernel_rfl) (by kernel_rfl) ?_ ?_ (by assumption) ?_
          rotate_left 2; (simp only [List.getElem?_toArray, List.getElem?_cons_succ, List.getElem?_cons_zero]; rfl)
          rotate_left; (first | (refine .inl ⟨by rfl, ?_⟩; intro w9 hS9; go_simp; try with_reducible rfl) | (refine .inr ⟨by rfl, ?_⟩; with_reducible rfl))
          rotate_left; (intro _ _ _ h9; exact h9)
          try simp only [Act.put, List.setIfInBounds_toArray, List.set_cons_zero, List.set_cons_succ]
          refine wpAnyH_take (i := 6) (oi := ?_) (v := ?_) ?_ (by kernel_rfl) (by kernel_rfl) (by kernel_rfl) ?_ ?_ (by assumption) ?_
          rotate_left 2; (simp only [List.getElem?_toArray, List.getElem?_cons_succ, List.getElem?_cons_zero]; rfl)
          rotate_left; (first | (refine .inl ⟨by rfl, ?_⟩; intro w9 hS9; go_simp; try with_reducible rfl) | (refine .inr ⟨by rfl, ?_⟩; with_reducible rfl))
          rotate_left; (intro _ _ _ h9; exact h9)
          try simp only [Act.put, List.setIfInBounds_toArray, List.set_cons_zero, List.set_cons_succ]
          refine wpAnyH_take (i := 7) (oi := ?_) (v := ?_) ?_ (by kernel_rfl) (by kernel_rfl) (by kernel_rfl) ?_ ?_ (by assumption) ?_
          rotate_left 2; (simp only [List.getElem?_toArray, List.getElem?_cons_succ, List.getElem?_cons_zero]; rfl)
          rotate_left; (first | (refine .inl ⟨by rfl, ?_⟩; intro w9 hS9; go_simp; try with_reducible rfl) | (refine .inr ⟨by rfl, ?_⟩; with_reducible rfl))
          rotate_left; (intro _ _ _ h9; exact h9)
          try simp only [Act.put, List.setIfInBounds_toArray, List.set_cons_zero, List.set_cons_succ]
          refine wpAnyH_ready (rs := [4]) (by kernel_rfl) (by simp) (AllReadyH.cons rfl (fun K9 hK9 => ?_) AllReadyH.nil)
          go_simp
          refine (oct_put32 _ _ _ _ _ _ (HR6.out.below hS0) (by have := hlen.out; omega) hlt2).mono ?_
          rintro e w5 ⟨v5, rfl, hown, hb⟩
          have hS1 := below_go hS0 hb
          have hlen5 := Lib.hid (show (xs ++ beN 4 m).length ≤ 200 by rw [List.length_append, beN_len]; have := hlen.out; omega)
          have HO5 := Lib.hid (hown.base (show w.heap.size ≤ _ from Nat.le_trans HXL.out.size (by exact hS0.size)))
          obtain ⟨A7, c7, rfl, hr7⟩ := hown.reads
          have HR7 := Lib.hid hr7
          generalize hX5 : xs ++ beN 4 m = xs5 at hlen5 HO5 HR7
          have HX5 := Lib.hid hX5
          refine hK9.out _ _ hS1 (fun _ => ?_)
          clear hS0 hb hown hr7 hX5
          refine wpAnyH_ready (rs := [8]) (by kernel_rfl) (by simp) (AllReadyH.cons rfl (fun K9 hK9 => ?_) AllReadyH.nil)
          go_simp
          refine (oct_put32 _ _ _ _ _ _ HR7.out (by have := hlen5.out; omega) hlt3).mono ?_
          rintro e w6 ⟨v6, rfl, hown, hb⟩
          have hS2 := below_go hS1 hb
          have HO6 := Lib.hid (show OwnB w6 w.heap.size v6 (xs ++ encLnTo x 0) by rw [hE0.out, ← List.append_assoc, HX5.out]; exact hown.base (Nat.le_trans HXL.out.size hS1.size))
          have H2 := Lib.hid hS2
          refine hK9.out _ _ hS2 (fun _ => ?_)
          clear hS1 hb hown
          refine wpAnyH_take (i := 9) (oi := ?_) (v := ?_) ?_ (by kernel_rfl) (by kernel_rfl) (by kernel_rfl) ?_ ?_ (by assumption) ?_
          rotate_left 2; (simp only [List.getElem?_toArray, List.getElem?_cons_succ, List.getElem?_cons_zero]; rfl)
          rotate_left; (first | (refine .inl ⟨by rfl, ?_⟩; intro w9 hS9; go_simp; try with_reducible rfl) | (refine .inr ⟨by rfl, ?_⟩; with_reducible rfl))
          rotate_left; (intro _ _ _ h9; exact h9)
          try simp only [Act.put, List.setIfInBounds_toArray, List.set_cons_zero, List.set_cons_succ]
          refine wpAnyH_done (by kernel_rfl) ?_ _
          clear y0 y1 ew ew2 hlt2 hlt3 hS2
          obtain ⟨x0, x1, x2, x3, x4⟩ := HY.out.cells w6 H2.out
          go_wp2_with fail
          clear x0 x1 x2 x3 x4
          have HB6 := Lib.hid (below_go HBL.out H2.out)
          have HX6 := Lib.hid (below_go HXL.out H2.out)
          go_loopw [5, 55] (fun s5 s55 wq => ∃ j : Nat, j ≤ 3 ∧ s55 = .int .i64 j ∧ OwnB wq w.heap.size s5 (xs ++ encLnTo x j) ∧ Below w6.heap.size w6 wq) (fun _ s55 _ => 3 - (intOf s55).toNat)
          case atStart => exact ⟨0, by omega, rfl, HO6.out, Below.refl _ _⟩
          case round =>
            obtain ⟨j, hj, rfl, hown, hbr⟩ := hrel
            have HBJ := Lib.hid hbr
            by_cases hj3 : j < 3
            · have hj3' : (j : Int) < 3 := by omega
              have hix := sp_index x j hj3
              have hbd := HSP.out j hj3
              obtain ⟨m3, hm⟩ := Int.eq_ofNat_of_zero_le (show 0 ≤ lnSp x j by omega)
              have ew : IntKind.u16.wrap (lnSp x j) = m3 := by rw [w16 (by omega), hm]; rfl
              have hlen3 := Lib.hid (show (xs ++ encLnTo x j).length ≤ 400 by rw [List.length_append, encLnTo_len]; have := hlen.out; omega)
              have hst3 := Lib.hid (show xs ++ encLnTo x (j + 1) = (xs ++ encLnTo x j) ++ beN 2 m3 by rw [encLnTo_succ, hm, ← List.append_assoc]; rfl)
              have hlt4 : m3 < 65536 := by omega
              clear hm hbd
              generalize xs ++ encLnTo x j = ys at hown hlen3 hst3
              obtain ⟨A8, c8, rfl, hr8⟩ := hown.reads
              have HR8 := Lib.hid hr8
              clear hown hr8 hbr
              go_wp2_with fail
              refine (oct_put16 _ _ _ _ _ _ HR8.out (by have := hlen3.out; omega) hlt4).mono ?_
              rintro e w8 ⟨v8, rfl, hown, hb⟩
              have HO8 := Lib.hid (hown.base (show w.heap.size ≤ _ from Nat.le_trans HX6.out.size HBJ.out.size))
              have HB8 := Lib.hid (below_go HBJ.out hb)
              clear hown hb hix ew
              go_wp2_with fail
              exact ⟨⟨j + 1, by omega, by go_num, by rw [hst3.out]; exact HO8.out, HB8.out⟩, by simp [intOf]; omega⟩
            · have hj3' : ¬ (j : Int) < 3 := by omega
              have HOJ := Lib.hid (show OwnB wr w.heap.size _ (xs ++ encLn x) by have h := hown; rwa [(by omega : j = 3)] at h)
              clear hown hbr
              go_wp2_with fail
              exact ⟨⟨i + 1, by omega, by go_num, by rw [hst.out]; exact HOJ.out, below_go HB6.out HBJ.out⟩, by simp [intOf]; omega⟩
        · have hin : ¬ (i : Int) < n := by omega
          have HO := Lib.hid (show OwnB wr w.heap.size _ (encBody ls t) by have := HOW.out; rwa [show ls.take i = ls from List.take_of_length_le (by rw [hl.out]; omega), ← hl.out] at this)
          obtain ⟨A5, c5, rfl, hr5⟩ := HO.out.reads
          have HR5 := Lib.hid hr5
          have HB1 := Lib.hid (show (encBody ls t).length ≤ 1000 by have := HB0.out; rw [hl.out] at this; omega)
          generalize encBody ls t = xs at HO HR5 HB1 N
          clear HOW hr5
          go_wp2_with fail
          refine (crc_seal _ _ _ xs _ HR5.out (by have := HB1.out; omega)).mono ?_
          rintro e w7 ⟨v7, rfl, hown, hb⟩
          have HO7 := Lib.hid (hown.base (show w.heap.size ≤ _ from HWQ.out.size))
          have HX7 := Lib.hid (below_go HWQ.out hb)
          clear hown hb
          go_wp2_with fail
          go_ret2
          exact ⟨_, _, rfl, by rw [N.out]; exact HO7.out, by rw [E.out]; exact .none _, HX7.out⟩
end Go.Proofs.YteeocmkaecoeiaaDoor
