/- config.Decode. -/
import Derived.Test.YteeocmkaecoeiaaDoorCfgDS
import Derived.Deep.DeepCutAuto
namespace Go.Proofs.YteeocmkaecoeiaaDoor
open Go.RowKit
set_option linter.unusedVariables false
set_option linter.unusedSimpArgs false

theorem own_any {A : Option Addr} {n m c k : Nat} (h : (Value.slice A n c).ownBlock = some k) : (Value.slice A m c).ownBlock = some k := by
  cases A with
  | none => cases h
  | some a => exact h
theorem ErrIs.fr {F : Nat → Prop} {w w' : World} {v : Value} {c : Int} (h : ErrIs w v c) (hf : Fr F w w') (hF : NoStep w F) : ErrIs w' v c := h.imp id fun ⟨hc, d, hd⟩ => ⟨hc, d, hd.fr hf hF⟩
set_option maxHeartbeats 8000000 in
set_option maxRecDepth 100000 in
theorem cf_decode (A : Option Addr) (n c : Nat) (bs : List UInt8) (w : World) (rs : RS w A n c bs) (hn : n ≤ 1000000) : Calls Tryd.prog 12 #[.slice A n c] w (IsDec (decLs bs) (decT bs) (decErr bs) w) := by
  have HR := Lib.hid (show CfBox _ w.heap.size none 0 0 tm0 from heap_alloc_new w (.cells (cfa none 0 0 tm0) 26))
  have hx := below_st w (.cells (cfa none 0 0 tm0) 26)
  have HX := Lib.hid hx
  have RS0 := Lib.hid rs
  clear rs
  go_enter Tryd.func12, Tryd.ntmps12
  go_wp2_with fail
  have hlt : w.heap.size < (w.alloc (.cells (cfa none 0 0 tm0) 26)).heap.size := by simp
  change Calls _ _ _ (w.alloc (.cells (cfa none 0 0 tm0) 26)) _
  generalize w.alloc _ = w1 at *
  refine (crc_open A n c bs _ (RS0.out.below hx) (by omega)).mono ?_
  rintro e w2 ⟨v2, rfl, hown, hb⟩
  have HX2 := Lib.hid (below_go HX.out hb)
  have HR2 := Lib.hid (CfBox.below HR.out hb)
  cases ho : crcOpen bs with
  | none =>
    obtain ⟨d1, d2, d3⟩ := dec_none ho
    have D1 := Lib.hid d1
    have D2 := Lib.hid d2
    have D3 := Lib.hid d3
    clear hx hb hown ho d1 d2 d3
    simp only [Option.isSome_none]
    go_wp2_with fail
    refine (fault_new 3 _ _ (by decide)).mono ?_
    rintro e w9 ⟨v9, rfl, hv, hb⟩
    have HV := Lib.hid hv
    have HRZ := CfBox.below HR2.out hb
    have HW := Lib.hid (below_go HX2.out hb)
    have HZ := Lib.hid HRZ
    obtain ⟨q0, q1, q2, q3, q4, q5, q6, q7, q8, q9, q10, qf⟩ := cf_cell_all HRZ
    have HS := Lib.hid (setCells_heap w.heap.size 26 (cfa none 0 0 tm0).toList 0 w9 (cfa none 0 0 tm0).toList HRZ (by simp))
    have HF := Lib.hid (fr_setCells (F := fun i => i = w.heap.size) w.heap.size rfl (cfa none 0 0 tm0).toList 0 w9)
    clear hv hb HRZ
    go_wp2_with fail
    change bodyPost _ _ _ _ _ (w9.setCells w.heap.size 0 (cfa none 0 0 tm0).toList)
    have hend : CfBox (w9.setCells w.heap.size 0 (cfa none 0 0 tm0).toList) w.heap.size none 0 0 tm0 := by
      have := HS.out
      rwa [splice_whole _ _ rfl] at this
    refine bodyPost_ret (results_cell_tmp_row rfl _ _ w.heap.size _ _ _ _ v9 rfl rfl hend rfl Tryd.underlying26 (by kernel_rfl)) rfl ?_
    exact ⟨none, 0, v9, by rw [D2.out, D3.out] <;> rfl, by rw [D2.out]; exact RE.no _, by rw [D1.out]; exact .inr ⟨by decide, 1, HV.out.fr HF.out (noStep_block HZ.out (by decide))⟩, Fr.belowIn HW.out HF.out (fun i e => e ▸ Nat.le_refl _)⟩
  | some xs =>
    rw [ho] at hown
    simp only [Option.getD_some] at hown
    obtain ⟨A2, c2, rfl, hr2⟩ := hown.reads
    have HO := Lib.hid ho
    have RX := Lib.hid hr2
    have hxl := Lib.hid (show xs.length ≤ 1000000 by
      unfold crcOpen at ho
      split at ho
      · cases ho
        rw [List.length_take]
        have := RS0.out.len
        omega
      · cases ho)
    have HL3 := Lib.hid (show w.heap.size < (w2.alloc (.cells #[.int .u8 88, .int .u8 66, .int .u8 49] 5 (3, 4))).heap.size by have := hb.size; simp; omega)
    have kc := by_const
    have hb3 := below_new w2 (.cells #[.int .u8 88, .int .u8 66, .int .u8 49] 5 (3, 4))
    have hm3 : RS (w2.alloc (.cells #[.int .u8 88, .int .u8 66, .int .u8 49] 5 (3, 4))) (some ⟨w2.heap.size, 0, none⟩) 3 3 [88, 66, 49] := rs_mark w2 [88, 66, 49] 5 (3, 4) (by simp)
    have HX3 := Lib.hid (below_go HX2.out hb3)
    have HR3 := Lib.hid (CfBox.below HR2.out hb3)
    have HP := Lib.hid (by_cutPrefix A2 (some ⟨w2.heap.size, 0, none⟩) xs.length 3 c2 3 xs [88, 66, 49] _ (hr2.below hb3) hm3)
    have RX3 := Lib.hid (hr2.below hb3)
    clear hx hb hown ho hr2 hb3 hm3
    simp only [Option.isSome_some]
    go_wp2_with fail
    generalize w2.alloc _ = w3 at *
    refine HP.out.mono ?_
    rintro e w' ⟨A3, c3, rfl, hr3, rfl⟩
    clear kc HP
    cases hp : pfxB xs [88, 66, 49] with
    | false =>
      obtain ⟨d1, d2, d3⟩ := dec_form HO.out (by unfold decForm; rw [hp]; rfl)
      have D1 := Lib.hid d1
      have D2 := Lib.hid d2
      have D3 := Lib.hid d3
      clear hr3 hp d1 d2 d3
      go_wp2_with fail
      refine (fault_new 2 _ _ (by decide)).mono ?_
      rintro e w9 ⟨v9, rfl, hv, hb⟩
      have HV := Lib.hid hv
      have HRZ := CfBox.below HR3.out hb
      have HW := Lib.hid (below_go HX3.out hb)
      have HZ := Lib.hid HRZ
      obtain ⟨q0, q1, q2, q3, q4, q5, q6, q7, q8, q9, q10, qf⟩ := cf_cell_all HRZ
      have HS := Lib.hid (setCells_heap w.heap.size 26 (cfa none 0 0 tm0).toList 0 w9 (cfa none 0 0 tm0).toList HRZ (by simp))
      have HF := Lib.hid (fr_setCells (F := fun i => i = w.heap.size) w.heap.size rfl (cfa none 0 0 tm0).toList 0 w9)
      clear hv hb HRZ
      go_wp2_with fail
      change bodyPost _ _ _ _ _ (w9.setCells w.heap.size 0 (cfa none 0 0 tm0).toList)
      have hend : CfBox (w9.setCells w.heap.size 0 (cfa none 0 0 tm0).toList) w.heap.size none 0 0 tm0 := by
        have := HS.out
        rwa [splice_whole _ _ rfl] at this
      refine bodyPost_ret (results_cell_tmp_row rfl _ _ w.heap.size _ _ _ _ v9 rfl rfl hend rfl Tryd.underlying26 (by kernel_rfl)) rfl ?_
      exact ⟨none, 0, v9, by rw [D2.out, D3.out] <;> rfl, by rw [D2.out]; exact RE.no _, by rw [D1.out]; exact .inr ⟨by decide, 1, HV.out.fr HF.out (noStep_block HZ.out (by decide))⟩, Fr.belowIn HW.out HF.out (fun i e => e ▸ Nat.le_refl _)⟩
    | true =>
      have HPT := Lib.hid hp
      have hct : cutB xs [88, 66, 49] = xs.drop 3 := by unfold cutB; rw [hp]; rfl
      rw [hct] at hr3 ⊢
      have R3 := Lib.hid hr3
      clear hp hct hr3
      have hl3 : (xs.drop 3).length = xs.length - 3 := List.length_drop
      rw [hl3] at R3 ⊢
      clear hl3
      by_cases h3 : xs.length - 3 = 0
      · have q1 : (((xs.length - 3 : Nat) : Int) == 0) = true := by rw [beq_iff_eq]; omega
        obtain ⟨d1, d2, d3⟩ := dec_form HO.out (by unfold decForm; rw [show decide (4 ≤ xs.length) = false by rw [decide_eq_false_iff_not]; omega]; simp)
        have D1 := Lib.hid d1
        have D2 := Lib.hid d2
        have D3 := Lib.hid d3
        rw [h3] at R3 ⊢
        clear d1 d2 d3 q1 h3
        go_wp2_with fail
        refine (fault_new 2 _ _ (by decide)).mono ?_
        rintro e w9 ⟨v9, rfl, hv, hb⟩
        have HV := Lib.hid hv
        have HRZ := CfBox.below HR3.out hb
        have HW := Lib.hid (below_go HX3.out hb)
        have HZ := Lib.hid HRZ
        obtain ⟨q0, q1, q2, q3, q4, q5, q6, q7, q8, q9, q10, qf⟩ := cf_cell_all HRZ
        have HS := Lib.hid (setCells_heap w.heap.size 26 (cfa none 0 0 tm0).toList 0 w9 (cfa none 0 0 tm0).toList HRZ (by simp))
        have HF := Lib.hid (fr_setCells (F := fun i => i = w.heap.size) w.heap.size rfl (cfa none 0 0 tm0).toList 0 w9)
        clear hv hb HRZ
        go_wp2_with fail
        change bodyPost _ _ _ _ _ (w9.setCells w.heap.size 0 (cfa none 0 0 tm0).toList)
        have hend : CfBox (w9.setCells w.heap.size 0 (cfa none 0 0 tm0).toList) w.heap.size none 0 0 tm0 := by
          have := HS.out
          rwa [splice_whole _ _ rfl] at this
        refine bodyPost_ret (results_cell_tmp_row rfl _ _ w.heap.size _ _ _ _ v9 rfl rfl hend rfl Tryd.underlying26 (by kernel_rfl)) rfl ?_
        exact ⟨none, 0, v9, by rw [D2.out, D3.out] <;> rfl, by rw [D2.out]; exact RE.no _, by rw [D1.out]; exact .inr ⟨by decide, 1, HV.out.fr HF.out (noStep_block HZ.out (by decide))⟩, Fr.belowIn HW.out HF.out (fun i e => e ▸ Nat.le_refl _)⟩
      obtain ⟨b, off, rfl, hbl, hcell⟩ := R3.out.rb.cells (by omega)
      have hc0 : w3.cell? ⟨b, off, none⟩ = some (.int .u8 (decN xs : Int)) := by
        have := hcell 0 (by omega)
        rw [Nat.add_zero] at this
        rw [this]
        simp [bv, nb, decN, List.getD_eq_getElem?_getD, List.getElem?_drop]
      have hN9 : decN xs ≤ 255 := by unfold decN; have := (xs.getD 3 0).toNat_lt; omega
      have HC0 := Lib.hid hc0
      have hdec := Lib.hid (show decForm xs = decide (xs.length = 24 + 14 * decN xs) by
        unfold decForm; rw [HPT.out, show decide (4 ≤ xs.length) = true by rw [decide_eq_true_iff]; omega]; simp)
      clear hcell
      generalize hnn : decN xs = nn at *
      have HNN := Lib.hid hnn
      clear hnn
      generalize hm : xs.length - 3 = m at *
      have q1 : ((m : Int) == 0) = false := by rw [beq_eq_false_iff_ne]; omega
      have hm0 : 0 < m := by omega
      by_cases hlen : xs.length = 24 + 14 * nn
      rotate_left
      · have q2 : ((xs.length : Int) != 24 + 14 * (nn : Int)) = true := by rw [bne_iff_ne]; omega
        obtain ⟨d1, d2, d3⟩ := dec_form HO.out (by rw [hdec.out]; simp [hlen])
        have D1 := Lib.hid d1
        have D2 := Lib.hid d2
        have D3 := Lib.hid d3
        clear d1 d2 d3 hlen hm
        go_wp2_with fail
        refine (fault_new 2 _ _ (by decide)).mono ?_
        rintro e w9 ⟨v9, rfl, hv, hb⟩
        have HV := Lib.hid hv
        have HRZ := CfBox.below HR3.out hb
        have HW := Lib.hid (below_go HX3.out hb)
        have HZ := Lib.hid HRZ
        obtain ⟨q0, q1, q2, q3, q4, q5, q6, q7, q8, q9, q10, qf⟩ := cf_cell_all HRZ
        have HS := Lib.hid (setCells_heap w.heap.size 26 (cfa none 0 0 tm0).toList 0 w9 (cfa none 0 0 tm0).toList HRZ (by simp))
        have HF := Lib.hid (fr_setCells (F := fun i => i = w.heap.size) w.heap.size rfl (cfa none 0 0 tm0).toList 0 w9)
        clear hv hb HRZ
        go_wp2_with fail
        change bodyPost _ _ _ _ _ (w9.setCells w.heap.size 0 (cfa none 0 0 tm0).toList)
        have hend : CfBox (w9.setCells w.heap.size 0 (cfa none 0 0 tm0).toList) w.heap.size none 0 0 tm0 := by
          have := HS.out
          rwa [splice_whole _ _ rfl] at this
        refine bodyPost_ret (results_cell_tmp_row rfl _ _ w.heap.size _ _ _ _ v9 rfl rfl hend rfl Tryd.underlying26 (by kernel_rfl)) rfl ?_
        exact ⟨none, 0, v9, by rw [D2.out, D3.out] <;> rfl, by rw [D2.out]; exact RE.no _, by rw [D1.out]; exact .inr ⟨by decide, 1, HV.out.fr HF.out (noStep_block HZ.out (by decide))⟩, Fr.belowIn HW.out HF.out (fun i e => e ▸ Nat.le_refl _)⟩
      have q2 : ((xs.length : Int) != 24 + 14 * (nn : Int)) = false := by rw [bne_eq_false_iff_eq]; omega
      have HFO := Lib.hid (show decForm xs = true by rw [hdec.out]; simp [hlen])
      have HLEN := Lib.hid hlen
      have HM := Lib.hid hm
      clear hlen hm
      go_upto_region 7 with fail
      have hs := fun w' => by_slice_l w' (some ⟨b, off, none⟩) m c3 1 (by omega) 1 rfl
      have hb4 := below_st w3 (.cells (cfa none 0 0 tm0) 26)
      have HCF := Lib.hid (show CfBox _ w3.heap.size none 0 0 tm0 from heap_alloc_new w3 (.cells (cfa none 0 0 tm0) 26))
      have HB4 := Lib.hid hb4
      have r4 : RS (w3.alloc (.cells (cfa none 0 0 tm0) 26)) (subA (some ⟨b, off, none⟩) c3 1) (m - 1) (c3 - 1) (xs.drop 4) := by
        have h3 := R3.out.below hb4
        have h5 := h3.rb.sub 1 (by omega) h3.cap
        rw [List.drop_drop] at h5
        exact ⟨h5, (fun e => by unfold subA at e; split at e <;> cases e), by have := h3.cap; omega⟩
      have R4 := Lib.hid r4
      have hlt4 : w3.heap.size < (w3.alloc (.cells (cfa none 0 0 tm0) 26)).heap.size := by simp
      clear hb4 r4 hc0 q1 q2
      go_wp2_with fail
      change Calls _ _ _ (w3.alloc (.cells (cfa none 0 0 tm0) 26)) _
      generalize w3.alloc _ = w4 at *
      refine (rd_over _ _ _ _ _ R4.out (by have := hxl.out; have := HM.out; omega)).mono ?_
      rintro e w5 ⟨g, bl, rfl, hrd, hg4, hb4, hb5, hbel⟩
      have HY := Lib.hid (show (xs.drop 4).length = 20 + 14 * nn by rw [List.length_drop, HLEN.out]; omega)
      have HDT := Lib.hid (show DT w5.heap.size w3 w.heap.size w3.heap.size g bl by
        have h2 := HL3.out
        have h3 := hrd.lt
        have h4 := hbel.size
        exact ⟨by omega, by omega, by omega, by omega, h3, hb5, by omega, by omega, by omega, by omega, by omega⟩)
      have HDS := Lib.hid (show DS w5.heap.size w3 w5 w.heap.size w3.heap.size g bl none 0 0 (tmUp (decTm (xs.drop 4)) 0) (xs.drop 4) [] from ⟨below_go HB4.out hbel, CfBox.below HR3.out (below_go HB4.out hbel), CfBox.below HCF.out hbel, hrd, OwnE.nil _ _, (fun k h => by cases h), Nat.le_refl _⟩)
      have HOK := Lib.hid (show cfOk (decLns (xs.drop 4) nn) (decTm (xs.drop 4)) = true → decErr bs = 0 ∧ decLs bs = decLns (xs.drop 4) nn ∧ decT bs = decTm (xs.drop 4) from fun h => by have h1 := dec_ok HO.out HFO.out (by rw [HNN.out]; exact h); rwa [HNN.out] at h1)
      have HNO := Lib.hid (show ¬ cfOk (decLns (xs.drop 4) nn) (decTm (xs.drop 4)) = true → decErr bs = 6 ∧ decLs bs = [] ∧ decT bs = tm0 from fun h => dec_range HO.out HFO.out (by rw [HNN.out]; exact h))
      generalize xs.drop 4 = ys at *
      clear hrd hg4 hb4 hb5 hbel hs R4 RX RX3 hlt4 hlt
      go_wp2_with fail
      refine (cf_times w3.heap.size _).mono ?_
      rintro e w6 ⟨rfl, hb⟩
      have HDS := Lib.hid (HDS.out.below hb)
      clear hb
      go_wp2_with fail
      go_loopw [55] (fun s55 wr => ∃ k : Nat, k ≤ 10 ∧ s55 = .int .i64 k ∧ DS w5.heap.size w3 wr w.heap.size w3.heap.size g bl none 0 0 (tmUp (decTm ys) k) (ys.drop (2 * k)) []) (fun s55 _ => 10 - (intOf s55).toNat)
      case atStart => exact ⟨0, by omega, rfl, by simpa using HDS.out⟩
      case round =>
        obtain ⟨k, hk, rfl, hds⟩ := hrel
        have HD := Lib.hid hds
        clear hds
        by_cases hlt : k < 10
        · have hlt' : (k : Int) < 10 := by omega
          have hi := tm_index w3.heap.size k hlt
          obtain ⟨hr1, hr2, hr3⟩ := rd_step 2 (2 * k) ys (by have := HY.out; omega)
          have hv := decTm_get ys k hlt
          have hbd := numAt_bd 2 ys (2 * k)
          rw [← hv] at hr1 hbd
          have hbd1 := hbd.1
          have hbd2 : (decTm ys).get k < 65536 := hbd.2
          have HR1 := Lib.hid hr1
          have HR2 := Lib.hid hr2
          have HR3' := Lib.hid hr3
          clear hr1 hr2 hr3 hv hbd
          go_wp2_with fail
          refine (rd_u16 g bl _ _ _ HD.out.rd).mono ?_
          rintro e w7 ⟨rfl, hra, hfa⟩
          rw [HR1.out]
          rw [HR2.out, HR3'.out] at hra
          have HD7 := Lib.hid (HD.out.read HDT.out hfa hra)
          have hcc := cf_cells _ _ _ _ _ _ _ HD7.out.cfg k hlt
          obtain ⟨_, _, _, _, _, _, _, _, _, _, _, qf⟩ := cf_cell_all HD7.out.cfg
          clear hra hfa
          go_wp2_with fail
          have HD8 := Lib.hid (HD7.out.tick HDT.out hlt)
          exact ⟨⟨k + 1, by omega, by go_num, by rw [show 2 * (k + 1) = 2 * k + 2 by omega]; exact HD8.out⟩, by simp [intOf]; omega⟩
        · have hk10 : ¬ (k : Int) < 10 := by omega
          have HD := Lib.hid (show DS w5.heap.size w3 wr w.heap.size w3.heap.size g bl none 0 0 (decTm ys) (ys.drop 20) [] by have h := HD.out; rw [show k = 10 by omega, tmUp_10] at h; exact h)
          have hc0 := (HD.out.bel.cell (p := ⟨b, off, none⟩) hbl).trans HC0.out
          go_wp2_with fail
          clear hc0
          generalize decTm ys = T at *
          go_loopw [67] (fun s67 wq => ∃ (i : Nat) (A c : _), i ≤ nn ∧ s67 = .int .u8 i ∧ DS w5.heap.size w3 wq w.heap.size w3.heap.size g bl A i c T (ys.drop (20 + 14 * i)) (decLns ys i)) (fun s67 _ => nn - (intOf s67).toNat)
          case atStart => exact ⟨0, none, 0, Nat.zero_le _, rfl, HD.out⟩
          case round =>
            clear hlt hk10 hk
            obtain ⟨i, A, cc, hi, rfl, hds⟩ := hrel
            have HD2 := Lib.hid hds
            clear hds
            by_cases hin : i < nn
            · have hin' : (i : Int) < (nn : Int) := by omega
              have HL0 := Lib.hid (show LnBlk (wr.alloc (.cells #[.int .i64 0, .int .i64 0, .int .i64 0, .int .i64 0, .int .i64 0] 48)) wr.heap.size ⟨0, 0, 0, 0, 0⟩ from heap_alloc_new wr _)
              have HDL := Lib.hid (HD2.out.below (below_st wr (.cells #[.int .i64 0, .int .i64 0, .int .i64 0, .int .i64 0, .int .i64 0] 48)))
              have HOL := Lib.hid (show ∀ k, (Value.slice A i cc).ownBlock = some k → k ≠ wr.heap.size from fun k hk e => by have := HD2.out.own.lt k hk; omega)
              have HNL := Lib.hid HD2.out.size
              have HLg := Lib.hid (show wr.heap.size ≠ g from fun e => by have := HD2.out.size; have := HDT.out.lg; omega)
              obtain ⟨hr1, hr2, hr3⟩ := rd_step 4 (20 + 14 * i) ys (by have := HY.out; omega)
              have hbd := numAt_bd 4 ys (20 + 14 * i)
              have HR1 := Lib.hid hr1
              have HR2 := Lib.hid hr2
              have HR3' := Lib.hid hr3
              clear hr1 hr2 hr3
              obtain ⟨s1, s2, s3⟩ := rd_step 4 (20 + 14 * i + 4) ys (by have := HY.out; omega)
              have hbe := numAt_bd 4 ys (20 + 14 * i + 4)
              have HS1 := Lib.hid s1
              have HS2 := Lib.hid s2
              have HS3 := Lib.hid s3
              clear s1 s2 s3
              have b1 := hbd.1
              have b2 : numAt 4 ys (20 + 14 * i) < 4294967296 := hbd.2
              have b3 := hbe.1
              have b4 : numAt 4 ys (20 + 14 * i + 4) < 4294967296 := hbe.2
              have HX0 := Lib.hid (show lnUp (decLn ys (20 + 14 * i)) 0 = ⟨numAt 4 ys (20 + 14 * i), numAt 4 ys (20 + 14 * i + 4), 0, 0, 0⟩ from rfl)
              generalize numAt 4 ys (20 + 14 * i) = N1 at *
              generalize numAt 4 ys (20 + 14 * i + 4) = N2 at *
              clear hbd hbe
              go_wp2_with fail
              change Calls _ _ _ (wr.alloc (.cells #[.int .i64 0, .int .i64 0, .int .i64 0, .int .i64 0, .int .i64 0] 48)) _
              generalize wr.heap.size = L at *
              generalize wr.alloc _ = wl at *
              refine (rd_u32 g bl _ _ _ HDL.out.rd).mono ?_
              rintro e w7 ⟨rfl, hra, hfa⟩
              rw [HR1.out]
              rw [HR2.out, HR3'.out] at hra
              have HD7 := Lib.hid (HDL.out.read HDT.out hfa hra)
              have hl7 : LnBlk w7 L ⟨0, 0, 0, 0, 0⟩ := HL0.out.fr hfa HLg.out
              have HD8 := Lib.hid (HD7.out.line (L := L) (i := 0) (v := .int .i64 N1) HDT.out HNL.out HOL.out)
              have HL8 := Lib.hid (ln_st hl7 N1)
              have z0 := (hl7.cells w7 (Below.refl _ _)).1
              have zf := hl7.froz
              clear hra hfa hl7
              go_wp2_with fail
              change Calls _ _ _ (w7.setCell ⟨L, 0, none⟩ (.int .i64 N1)) _
              generalize w7.setCell _ _ = w8 at *
              clear z0 zf
              refine (rd_u32 g bl _ _ _ HD8.out.rd).mono ?_
              rintro e w9 ⟨rfl, hra, hfa⟩
              rw [HS1.out]
              rw [HS2.out, HS3.out] at hra
              have HD9 := Lib.hid (HD8.out.read HDT.out hfa hra)
              have hl9 : LnBlk w9 L ⟨N1, 0, 0, 0, 0⟩ := LnBlk.fr HL8.out hfa HLg.out
              have HDA := Lib.hid (HD9.out.line (L := L) (i := 1) (v := .int .i64 N2) HDT.out HNL.out HOL.out)
              have HLA := Lib.hid (ln_sg hl9 N2)
              have z0 := (hl9.cells w9 (Below.refl _ _)).2.1
              have zf := hl9.froz
              clear hra hfa hl9
              go_wp2_with fail
              generalize w9.setCell _ _ = wA at *
              clear z0 zf
              have HLA2 := Lib.hid (show LnBlk wA L (lnUp (decLn ys (20 + 14 * i)) 0) by rw [HX0.out]; exact HLA.out)
              go_loopw [77] (fun s77 wq => ∃ j : Nat, j ≤ 3 ∧ s77 = .int .i64 j ∧ DS w5.heap.size w3 wq w.heap.size w3.heap.size g bl A i cc T (ys.drop (28 + 14 * i + 2 * j)) (decLns ys i) ∧ LnBlk wq L (lnUp (decLn ys (20 + 14 * i)) j)) (fun s77 _ => 3 - (intOf s77).toNat)
              case atStart => exact ⟨0, by omega, rfl, by rw [show 28 + 14 * i + 2 * 0 = 20 + 14 * i + 4 + 4 by omega]; exact HDA.out, HLA2.out⟩
              case round =>
                obtain ⟨j, hj, rfl, hds, hln⟩ := hrel
                have HDJ := Lib.hid hds
                have HLJ := Lib.hid hln
                clear hds hln
                by_cases hj3 : j < 3
                · have hj3' : (j : Int) < 3 := by omega
                  obtain ⟨hr1, hr2, hr3⟩ := rd_step 2 (28 + 14 * i + 2 * j) ys (by have := HY.out; omega)
                  have hbd := numAt_bd 2 ys (28 + 14 * i + 2 * j)
                  have hsp : lnSp (decLn ys (20 + 14 * i)) j = numAt 2 ys (28 + 14 * i + 2 * j) := by
                    rcases (by omega : j = 0 ∨ j = 1 ∨ j = 2) with rfl | rfl | rfl <;> simp only [lnSp, decLn] <;> congr 1 <;> omega
                  have HSP := Lib.hid hsp
                  have HR1 := Lib.hid hr1
                  have HR2 := Lib.hid hr2
                  have HR3' := Lib.hid hr3
                  have b5 := hbd.1
                  have b6 : numAt 2 ys (28 + 14 * i + 2 * j) < 65536 := hbd.2
                  clear hr1 hr2 hr3 hbd hsp
                  generalize numAt 2 ys (28 + 14 * i + 2 * j) = N3 at *
                  go_wp2_with fail
                  refine (rd_u16 g bl _ _ _ HDJ.out.rd).mono ?_
                  rintro e w7 ⟨rfl, hra, hfa⟩
                  rw [HR1.out]
                  rw [HR2.out, HR3'.out] at hra
                  have HD7 := Lib.hid (HDJ.out.read HDT.out hfa hra)
                  have hl7 : LnBlk w7 L (lnUp (decLn ys (20 + 14 * i)) j) := LnBlk.fr HLJ.out hfa HLg.out
                  have HD8 := Lib.hid (HD7.out.line (L := L) (i := 2 + j) (v := .int .i64 N3) HDT.out HNL.out HOL.out)
                  have HL8 := Lib.hid (show LnBlk (w7.setCell ⟨L, 2 + j, none⟩ (.int .i64 N3)) L (lnUp (decLn ys (20 + 14 * i)) (j + 1)) by have h := ln_up hl7 hj3; rwa [HSP.out] at h)
                  have z0 := hl7.at hj3
                  have zf := hl7.froz
                  clear hra hfa hl7
                  go_wp2_with fail
                  exact ⟨⟨j + 1, by omega, by go_num, by rw [show 28 + 14 * i + 2 * (j + 1) = 28 + 14 * i + 2 * j + 2 by omega]; exact HD8.out, HL8.out⟩, by simp [intOf]; omega⟩
                · have hj3' : ¬ (j : Int) < 3 := by omega
                  have HDE := Lib.hid (show DS w5.heap.size w3 wr w.heap.size w3.heap.size g bl A i cc T (ys.drop (20 + 14 * (i + 1))) (decLns ys i) by have h := HDJ.out; rwa [show 28 + 14 * i + 2 * j = 20 + 14 * (i + 1) by omega] at h)
                  have hx : LnBlk wr L (decLn ys (20 + 14 * i)) := by have h := HLJ.out; rwa [show j = 3 by omega, lnUp_3] at h
                  have hds := Lib.hid (decLns_succ ys i)
                  have hdl := Lib.hid (decLns_len ys i)
                  generalize decLn ys (20 + 14 * i) = x at *
                  obtain ⟨l0, l1, l2, l3, l4⟩ := LnBlk.cells hx wr (Below.refl _ _)
                  obtain ⟨z0, _⟩ := cf_cell_all HDE.out.cfg
                  have HNEW := Lib.hid (ln_re_new wr x)
                  have HNB := Lib.hid (below_st wr (.cells #[.int .i64 x.strike, .int .i64 x.signal, .int .i64 x.s0, .int .i64 x.s1, .int .i64 x.s2] 48))
                  have HDN := Lib.hid (HDE.out.below HNB.out)
                  clear hx
                  go_wp2_with (at_builtin; go_must (refine wpList_append_fr lnT lnc_len lnc_one rfl _ _ rfl _ (decLns ys i) rfl HDN.out.own _ _ _ [x] rfl HNEW.out (by have := hdl.out; omega) (by have := hdl.out; omega) ?_); intro v' wc hown1 hg1 hf1; go_must (obtain ⟨A1, c1, rfl, hre1, _, _⟩ := hown1.re (by simp; have := hdl.out; omega); have hcf := (HDN.out.cfg.fr (Fr.ofGrown hg1) (fun e => by have := HDN.out.fre _ e.symm; have := HDT.out.lG; omega)); have HG1 := Lib.hid hg1; have HF1 := Lib.hid hf1; have HOWN := Lib.hid hown1; obtain ⟨z1, _, _, _, _, _, _, _, _, _, _, zf⟩ := cf_cell_all hcf; clear hown1 hf1 hg1 hre1 hcf z0 l0 l1 l2 l3 l4))
                  refine ⟨⟨i + 1, A1, c1, by omega, by go_num, ?_⟩, by simp [intOf]; omega⟩
                  rw [hdl.out, hds.out]
                  have hown2 := HOWN.out
                  rw [List.length_append, hdl.out] at hown2
                  exact HDN.out.push HDT.out hown2 HG1.out (fun k hk => HF1.out k (own_any hk))
            · have hin' : ¬ (i : Int) < (nn : Int) := by omega
              have HD3 := Lib.hid (show DS w5.heap.size w3 wr w.heap.size w3.heap.size g bl A i cc T (ys.drop (20 + 14 * i)) (decLns ys nn) by have h := HD2.out; rwa [show decLns ys i = decLns ys nn by rw [show i = nn by omega]] at h)
              have hll := decLns_len ys nn
              have hown3 := HD3.out.own
              have hfr3 := HD3.out.fre
              generalize decLns ys nn = ls at *
              obtain ⟨A', c', e', hre, hob, _⟩ := hown3.re (by omega)
              cases e'
              have HLL := Lib.hid hll
              clear hll
              have RL := Lib.hid hre
              have HB3 := Lib.hid (below_go HX3.out HD3.out.bel)
              obtain ⟨q0, q1, q2, q3, q4, q5, q6, q7, q8, q9, q10, _⟩ := cf_cell_all HD3.out.cfg
              have hapart : 0 < ls.length → ∀ b off, A = some ⟨b, off, none⟩ → ¬ (b = w.heap.size) := fun _ b off e e2 => by
                have h1 := hfr3 b (by rw [hob, e]; rfl)
                have h2 := HDT.out.lR
                omega
              have HAP := Lib.hid hapart
              clear HD HD2 hown3 hfr3 hre hob hapart
              go_wp2_with fail
              refine (cf_check A ls.length cc ls T _ RL.out).mono ?_
              rintro e w9 ⟨v9, rfl, hv, hb⟩
              have RL9 := Lib.hid (RL.out.below hb)
              have hrz := CfBox.below HD3.out.res hb
              have hcz := CfBox.below HD3.out.cfg hb
              have HW := Lib.hid (below_go HB3.out hb)
              have HZ := Lib.hid hrz
              clear q0 q1 q2 q3 q4 q5 q6 q7 q8 q9 q10 hb
              obtain ⟨q0, q1, q2, q3, q4, q5, q6, q7, q8, q9, q10, qf⟩ := cf_cell_all hrz
              by_cases hok : cfOk ls T = true
              · rw [cfErr_ok hok] at hv
                obtain rfl := hv.isNil
                obtain ⟨d1, d2, d3⟩ := HOK.out hok
                have D1 := Lib.hid d1
                have D2 := Lib.hid d2
                have D3 := Lib.hid d3
                obtain ⟨p0, p1, p2, p3, p4, p5, p6, p7, p8, p9, p10, _⟩ := cf_cell_all hcz
                have HS := Lib.hid (setCells_heap w.heap.size 26 (cfa A ls.length cc T).toList 0 w9 (cfa none 0 0 tm0).toList hrz (by simp))
                have HF := Lib.hid (fr_setCells (F := fun i => i = w.heap.size) w.heap.size rfl (cfa A ls.length cc T).toList 0 w9)
                clear hv hok hrz hcz d1 d2 d3
                go_wp2_with fail
                change bodyPost _ _ _ _ _ (w9.setCells w.heap.size 0 (cfa A ls.length cc T).toList)
                have hend : CfBox (w9.setCells w.heap.size 0 (cfa A ls.length cc T).toList) w.heap.size A ls.length cc T := by
                  have := HS.out
                  rwa [splice_whole (cfa none 0 0 tm0).toList (cfa A ls.length cc T).toList rfl] at this
                refine bodyPost_ret (results_cell_tmp_row rfl _ _ w.heap.size _ _ _ _ .nilIface rfl rfl hend rfl Tryd.underlying26 (by kernel_rfl)) rfl ?_
                exact ⟨A, cc, .nilIface, by rw [D2.out, D3.out] <;> rfl, by rw [D2.out]; exact RL9.out.fr HF.out HAP.out, by rw [D1.out]; exact .none _, Fr.belowIn HW.out HF.out (fun i e => e ▸ Nat.le_refl _)⟩
              · rw [cfErr_no hok] at hv
                have HV := Lib.hid hv
                obtain ⟨ty, u, rfl⟩ := hv.isErr (by decide)
                obtain ⟨d1, d2, d3⟩ := HNO.out hok
                have D1 := Lib.hid d1
                have D2 := Lib.hid d2
                have D3 := Lib.hid d3
                have HS := Lib.hid (setCells_heap w.heap.size 26 (cfa none 0 0 tm0).toList 0 w9 (cfa none 0 0 tm0).toList hrz (by simp))
                have HF := Lib.hid (fr_setCells (F := fun i => i = w.heap.size) w.heap.size rfl (cfa none 0 0 tm0).toList 0 w9)
                clear hv hok hrz hcz d1 d2 d3
                go_wp2_with fail
                change bodyPost _ _ _ _ _ (w9.setCells w.heap.size 0 (cfa none 0 0 tm0).toList)
                have hend : CfBox (w9.setCells w.heap.size 0 (cfa none 0 0 tm0).toList) w.heap.size none 0 0 tm0 := by
                  have := HS.out
                  rwa [splice_whole _ _ rfl] at this
                refine bodyPost_ret (results_cell_tmp_row rfl _ _ w.heap.size _ _ _ _ (.iface ty u) rfl rfl hend rfl Tryd.underlying26 (by kernel_rfl)) rfl ?_
                exact ⟨none, 0, .iface ty u, by rw [D2.out, D3.out] <;> rfl, by rw [D2.out]; exact RE.no _, by rw [D1.out]; exact HV.out.fr HF.out (noStep_block HZ.out (by decide)), Fr.belowIn HW.out HF.out (fun i e => e ▸ Nat.le_refl _)⟩
end Go.Proofs.YteeocmkaecoeiaaDoor
