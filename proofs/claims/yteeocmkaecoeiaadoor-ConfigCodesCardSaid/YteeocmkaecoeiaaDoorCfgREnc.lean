/- crossbuckref08.Encode. -/
import Derived.Test.YteeocmkaecoeiaaDoorCfgPure
import Derived.Test.YteeocmkaecoeiaaDoorCfgRef
import Derived.Test.YteeocmkaecoeiaaDoorOctRef2
import Derived.Deep.DeepCutAuto
namespace Go.Proofs.YteeocmkaecoeiaaDoor
open Go.RowKit
set_option linter.unusedVariables false
set_option linter.unusedSimpArgs false

set_option maxHeartbeats 8000000 in
set_option maxRecDepth 100000 in
theorem rf_encode (A : Option Addr) (n c : Nat) (ls : List Ln) (t : Tm) (w : World) (rs : RLn w A n c ls) : Calls Tryd.prog 11 #[cfv A n c t] w (IsREnc (cfEnc ls t) (cfErr ls t) w) := by
  have hl := Lib.hid rs.len
  have HR := Lib.hid rs
  have HC := Lib.hid (show CfBox _ w.heap.size A n c t from heap_alloc_new w (.cells (cfa A n c t) 26))
  have hx := below_st w (.cells (cfa A n c t) 26)
  have HX := Lib.hid hx
  clear rs
  go_enter Tryd.func11, Tryd.ntmps11
  go_wp2_with fail
  generalize w.alloc _ = w1 at *
  refine (rf_check A n c ls t _ (HR.out.below hx)).mono ?_
  rintro e w2 ⟨rfl, hb⟩
  have HX2 := Lib.hid (below_go HX.out hb)
  have hc := CfBox.below HC.out hb
  have HC := Lib.hid hc
  clear hb hx
  by_cases hok : cfOk ls t = true
  rotate_left
  · have E := Lib.hid (cfErr_no hok)
    have N := Lib.hid (cfEnc_no hok)
    rw [cfErr_no hok]
    clear hok hc
    go_wp2_with fail
    go_ret2
    exact ⟨_, by rw [E.out] <;> rfl, by rw [N.out]; exact OwnB.nil _ _, HX2.out⟩
  have E := Lib.hid (cfErr_ok hok)
  have N := Lib.hid (cfEnc_ok hok)
  have OK := Lib.hid hok
  rw [cfErr_ok hok]
  have hn := cfOk_len ls t hok
  rw [hl.out] at hn
  have e8 := w8 (n := n) (by omega)
  obtain ⟨c0, c1, c2, c3, c4, c5, c6, c7, c8, c9, c10, _⟩ := cf_cell_all hc
  have hown := by_lit w2 w.heap.size (encHd n) (by simp [encHd]) (by simp [encHd]) HX2.out.size
  have HO3 := Lib.hid (show OwnB (w2.alloc (.cells #[.int .u8 88, .int .u8 66, .int .u8 49, .int .u8 (nb (UInt8.ofNat n))] 5)) w.heap.size (.slice (some ⟨w2.heap.size, 0, none⟩) 4 4) (encHd n) from hown)
  have HB3 := Lib.hid (below_st w2 (.cells #[.int .u8 88, .int .u8 66, .int .u8 49, .int .u8 (nb (UInt8.ofNat n))] 5))
  clear hok hc hown c1 c2 c3 c4 c5 c6 c7 c8 c9 c10
  go_upto_region 5 with fail
  have HX3 := Lib.hid (below_go HX2.out HB3.out)
  have hc := CfBox.below HC.out HB3.out
  generalize w2.heap.size = g2 at *
  generalize w2.alloc _ = w3 at *
  clear c0 e8 HC
  have HC := Lib.hid hc
  obtain ⟨c0, c1, c2, c3, c4, c5, c6, c7, c8, c9, c10, _⟩ := cf_cell_all hc
  clear hc
  go_wp2_with fail
  refine (rf_times t _).mono ?_
  rintro e w4 ⟨rfl, hb⟩
  have HC := Lib.hid (CfBox.below HC.out hb)
  have HX4 := Lib.hid (below_go HX3.out hb)
  have HO4 := Lib.hid (HO3.out.below hb)
  clear hb c0 c1 c2 c3 c4 c5 c6 c7 c8 c9 c10
  have HT := Lib.hid (fun w' (h : Below (w4.alloc (.cells (tma t) 61)).heap.size (w4.alloc (.cells (tma t) 61)) w') k hk => ten_cells w' w4.heap.size t _ (blk_below (heap_alloc_new w4 (.cells (tma t) 61)) h) k hk)
  have HB5 := Lib.hid (below_st w4 (.cells (tma t) 61))
  have HC5 := Lib.hid (CfBox.below HC.out HB5.out)
  have HO5 := Lib.hid (HO4.out.below HB5.out)
  have HX5 := Lib.hid (below_go HX4.out HB5.out)
  go_upto_region 6 with fail
  generalize w4.heap.size = g4 at *
  generalize w4.alloc _ = w5 at *
  go_wp2_with fail
  go_loopw [5, 7] (fun s5 s7 wr => ∃ k : Nat, k ≤ 10 ∧ s7 = .int .i64 k ∧ OwnB wr w.heap.size s5 (encHd n ++ encTm t k) ∧ Below w5.heap.size w5 wr) (fun _ s7 _ => 10 - (intOf s7).toNat)
  case atStart => exact ⟨0, by omega, rfl, by simpa [encTm] using HO5.out, Below.refl _ _⟩
  case round =>
    obtain ⟨k, hk, rfl, hown, hbr⟩ := hrel
    have HBR := Lib.hid hbr
    have HOW := Lib.hid hown
    by_cases hlt : k < 10
    · have hlt' : (k : Int) < 10 := by omega
      have hbd := cfOk_tm ls t OK.out k hlt
      have hc := HT.out wr hbr k hlt
      obtain ⟨m, hm⟩ := Int.eq_ofNat_of_zero_le (show 0 ≤ t.get k by omega)
      have ew : IntKind.u32.wrap (t.get k) = m := by rw [w32 (by omega), hm]; rfl
      have hlen := Lib.hid (show (encHd n ++ encTm t k).length ≤ 24 by rw [List.length_append, encHd_len, encTm_len]; omega)
      have hst := Lib.hid (show encHd n ++ encTm t (k + 1) = (encHd n ++ encTm t k) ++ beN 2 m by rw [encTm_succ, hm, ← List.append_assoc]; rfl)
      have hlt2 : m < 65536 := by omega
      clear hm
      generalize encHd n ++ encTm t k = xs at hown hlen hst
      obtain ⟨A5, c5, rfl, hr5⟩ := hown.reads
      have HR5 := Lib.hid hr5
      clear hown hbr hr5 hbd
      go_wp2_with fail
      refine (ref_put2 _ _ _ _ _ _ HR5.out (by have := hlen.out; omega) hlt2).mono ?_
      rintro e w6 ⟨v5, rfl, hown, hb⟩
      have HO6 := Lib.hid (hown.base (show w.heap.size ≤ _ from Nat.le_trans HX5.out.size HBR.out.size))
      have HB6 := Lib.hid (below_go HBR.out hb)
      clear hown hb hc ew
      go_wp2_with fail
      exact ⟨⟨k + 1, by omega, by go_num, by rw [hst.out]; exact HO6.out, HB6.out⟩, by simp [intOf]; omega⟩
    · have hk10 : ¬ (k : Int) < 10 := by omega
      have HO := Lib.hid (show OwnB wr w.heap.size _ (encHd n ++ encTm t 10) by have := HOW.out; rwa [(by omega : k = 10)] at this)
      have HCR := Lib.hid (CfBox.below HC5.out hbr)
      have HXR := Lib.hid (below_go HX5.out hbr)
      clear hown HOW hbr
      go_wp2_with fail
      have HB0 := Lib.hid (encBody_len ls t)
      go_loopw [5, 8] (fun s5 s8 wq => ∃ i : Nat, i ≤ n ∧ s8 = .int .i64 i ∧ OwnB wq w.heap.size s5 (encHd n ++ encTm t 10 ++ (ls.take i).flatMap encLn) ∧ Below wr.heap.size wr wq) (fun _ s8 _ => n - (intOf s8).toNat)
      case atStart => exact ⟨0, Nat.zero_le _, rfl, by simpa using HO.out, Below.refl _ _⟩
      case round =>
        clear hlt hk10 hk
        obtain ⟨i, hi, rfl, hown, hbr⟩ := hrel
        have HBR := Lib.hid hbr
        have HOW := Lib.hid hown
        have HWQ := Lib.hid (below_go HXR.out hbr)
        have HCQ := Lib.hid (CfBox.below HCR.out hbr)
        obtain ⟨c0, _⟩ := cf_cell_all HCQ.out
        clear hown hbr
        by_cases hlt : i < n
        · have hlt' : (i : Int) < n := by omega
          obtain ⟨b, off, rfl, hbl, _⟩ := HR.out.cells (by omega)
          have hkl : i < ls.length := by rw [hl.out]; exact hlt
          have he := (HR.out.below HWQ.out).elem lnc_len i hkl
          have hts := Lib.hid (show ls.take (i + 1) = ls.take i ++ [ls[i]] from List.take_succ_eq_append_getElem hkl)
          have hbd := lnOk_bd _ (cfOk_ln ls t OK.out ls[i] (List.getElem_mem hkl))
          have hlen := Lib.hid (show (encHd n ++ encTm t 10 ++ (ls.take i).flatMap encLn).length ≤ 24 + 14 * 8 by rw [List.length_append, List.length_append, encHd_len, encTm_len, encLns_len, List.length_take]; omega)
          have hst := Lib.hid (show encHd n ++ encTm t 10 ++ (ls.take (i + 1)).flatMap encLn = (encHd n ++ encTm t 10 ++ (ls.take i).flatMap encLn) ++ encLn ls[i] by rw [hts.out, List.flatMap_append]; simp)
          have hown := HOW.out
          generalize ls[i] = x at he hst hbd
          generalize encHd n ++ encTm t 10 ++ (ls.take i).flatMap encLn = xs at hown hlen hst
          clear hts HOW hkl
          have HLN := Lib.hid (ln_cells wr b _ x he (Nat.lt_of_lt_of_le hbl HWQ.out.size))
          obtain ⟨l0, l1, l2, l3, l4⟩ := HLN.out wr (Below.refl _ _)
          obtain ⟨⟨b0, b1⟩, ⟨b2, b3⟩, hsp⟩ := hbd
          obtain ⟨m, hm⟩ := Int.eq_ofNat_of_zero_le (show 0 ≤ x.strike by omega)
          obtain ⟨m2, hm2⟩ := Int.eq_ofNat_of_zero_le (show 0 ≤ x.signal by omega)
          have ew : IntKind.u32.wrap x.strike = m := by rw [w32 (by omega), hm]; rfl
          have ew2 : IntKind.u32.wrap x.signal = m2 := by rw [w32 (by omega), hm2]; rfl
          have hlt2 : m < 4294967296 := by omega
          have hlt3 : m2 < 4294967296 := by omega
          have hE0 := Lib.hid (show encLnTo x 0 = beN 4 m ++ beN 4 m2 by unfold encLnTo encSp; rw [hm, hm2]; simp)
          have HSP := Lib.hid hsp
          obtain ⟨A6, c6, rfl, hr6⟩ := hown.reads
          have HR6 := Lib.hid hr6
          clear hm hm2 b0 b1 b2 b3 hsp l1 l2 l3 l4 hr6 hown
          go_wp2_with fail
          refine (ref_put4 _ _ _ _ _ _ HR6.out (by have := hlen.out; omega) hlt2).mono ?_
          rintro e w6 ⟨v5, rfl, hown, hb⟩
          have hlen5 := Lib.hid (show (xs ++ beN 4 m).length ≤ 200 by rw [List.length_append, beN_len]; have := hlen.out; omega)
          obtain ⟨A7, c7, rfl, hr7⟩ := hown.reads
          have HR7 := Lib.hid hr7
          have HS6 := Lib.hid hb
          generalize hX5 : xs ++ beN 4 m = xs5 at hlen5 HR7
          have HX5' := Lib.hid hX5
          obtain ⟨d0, _⟩ := cf_cell_all (CfBox.below HCQ.out hb)
          obtain ⟨l0, l1, l2, l3, l4⟩ := HLN.out w6 hb
          clear hb hown hr7 hX5 c0 ew
          go_wp2_with fail
          refine (ref_put4 _ _ _ _ _ _ HR7.out (by have := hlen5.out; omega) hlt3).mono ?_
          rintro e w7 ⟨v6, rfl, hown, hb⟩
          have HS7 := Lib.hid (below_go HS6.out hb)
          have HO7 := Lib.hid (show OwnB w7 w.heap.size v6 (xs ++ encLnTo x 0) by rw [hE0.out, ← List.append_assoc, HX5'.out]; exact hown.base (Nat.le_trans HWQ.out.size HS6.out.size))
          clear hb hown d0 l0 l1 l2 l3 l4 ew2 hlt2 hlt3
          have HX7 := Lib.hid (below_go HWQ.out HS7.out)
          have HB7 := Lib.hid (below_go HBR.out HS7.out)
          go_wp2_with fail
          go_loopw [5, 9] (fun s5 s9 wq => ∃ j : Nat, j ≤ 3 ∧ s9 = .int .i64 j ∧ OwnB wq w.heap.size s5 (xs ++ encLnTo x j) ∧ Below w7.heap.size w7 wq) (fun _ s9 _ => 3 - (intOf s9).toNat)
          case atStart => exact ⟨0, by omega, rfl, HO7.out, Below.refl _ _⟩
          case round =>
            obtain ⟨j, hj, rfl, hown, hbr⟩ := hrel
            have HBJ := Lib.hid hbr
            by_cases hj3 : j < 3
            · have hj3' : (j : Int) < 3 := by omega
              have hbd := HSP.out j hj3
              obtain ⟨m3, hm⟩ := Int.eq_ofNat_of_zero_le (show 0 ≤ lnSp x j by omega)
              have ew : IntKind.u32.wrap (lnSp x j) = m3 := by rw [w32 (by omega), hm]; rfl
              have hlen3 := Lib.hid (show (xs ++ encLnTo x j).length ≤ 400 by rw [List.length_append, encLnTo_len]; have := hlen.out; omega)
              have hst3 := Lib.hid (show xs ++ encLnTo x (j + 1) = (xs ++ encLnTo x j) ++ beN 2 m3 by rw [encLnTo_succ, hm, ← List.append_assoc]; rfl)
              have hlt4 : m3 < 65536 := by omega
              obtain ⟨d0, _⟩ := cf_cell_all (CfBox.below HCQ.out (below_go HS7.out hbr))
              have hlc := HLN.out wr (below_go HS7.out hbr)
              have hls : wr.cell? ⟨b, off + i * 5 + 2 + j, none⟩ = some (.int .i64 (lnSp x j)) := by
                obtain ⟨l0, l1, l2, l3, l4⟩ := hlc
                rcases (by omega : j = 0 ∨ j = 1 ∨ j = 2) with rfl | rfl | rfl
                · exact l2
                · exact l3
                · exact l4
              clear hm hbd hlc
              generalize xs ++ encLnTo x j = ys at hown hlen3 hst3
              obtain ⟨A8, c8, rfl, hr8⟩ := hown.reads
              have HR8 := Lib.hid hr8
              clear hown hr8 hbr
              go_wp2_with fail
              refine (ref_put2 _ _ _ _ _ _ HR8.out (by have := hlen3.out; omega) hlt4).mono ?_
              rintro e w8 ⟨v8, rfl, hown, hb⟩
              have HO8 := Lib.hid (hown.base (show w.heap.size ≤ _ from Nat.le_trans HX7.out.size HBJ.out.size))
              have HB8 := Lib.hid (below_go HBJ.out hb)
              clear hown hb hls ew d0
              go_wp2_with fail
              exact ⟨⟨j + 1, by omega, by go_num, by rw [hst3.out]; exact HO8.out, HB8.out⟩, by simp [intOf]; omega⟩
            · have hj3' : ¬ (j : Int) < 3 := by omega
              have HOJ := Lib.hid (show OwnB wr w.heap.size _ (xs ++ encLn x) by have h := hown; rwa [(by omega : j = 3)] at h)
              clear hown hbr
              go_wp2_with fail
              exact ⟨⟨i + 1, by omega, by go_num, by rw [hst.out]; exact HOJ.out, below_go HB7.out HBJ.out⟩, by simp [intOf]; omega⟩
        · have hin : ¬ (i : Int) < n := by omega
          have HO := Lib.hid (show OwnB wr w.heap.size _ (encBody ls t) by have := HOW.out; rwa [show ls.take i = ls from List.take_of_length_le (by rw [hl.out]; omega), ← hl.out] at this)
          obtain ⟨A5, c5, rfl, hr5⟩ := HO.out.reads
          have HR5 := Lib.hid hr5
          have HB1 := Lib.hid (show (encBody ls t).length ≤ 1000 by have := HB0.out; rw [hl.out] at this; omega)
          generalize encBody ls t = xs at HO HR5 HB1 N
          clear HOW hr5
          go_wp2_with fail
          refine (ref_crcSeal _ _ _ xs _ HR5.out (by have := HB1.out; omega)).mono ?_
          rintro e w7 ⟨v7, rfl, hown, hb⟩
          have HO7 := Lib.hid (hown.base (show w.heap.size ≤ _ from HWQ.out.size))
          have HX7 := Lib.hid (below_go HWQ.out hb)
          clear hown hb c0
          go_wp2_with fail
          go_ret2
          exact ⟨_, by rw [E.out] <;> rfl, by rw [N.out]; exact HO7.out, HX7.out⟩
end Go.Proofs.YteeocmkaecoeiaaDoor
