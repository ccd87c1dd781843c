/- crossbuckref08.Decode. -/
import Derived.Test.YteeocmkaecoeiaaDoorCfgRDS
import Derived.Test.YteeocmkaecoeiaaDoorCfgDec
import Derived.Deep.DeepCutAuto
namespace Go.Proofs.YteeocmkaecoeiaaDoor
open Go.RowKit
set_option linter.unusedVariables false
set_option linter.unusedSimpArgs false

theorem rr_num2 (g bl : Nat) (xs : List UInt8) (w : World) (h : RrIs w g bl xs false) :
    Calls Tryd.prog 33 #[.pointer (some ⟨g, 0, none⟩), .int .i64 2] w fun e w' => e = .returned (.int .u32 (rdVal 2 xs)) ∧ RrIs w' g bl (rdLeft 2 xs) (rdBad 2 xs false) ∧ Fr (fun k => k = g) w w' := rr_num 2 (by omega) (by omega) g bl xs false w h (fun h => by cases h)
theorem rr_num4 (g bl : Nat) (xs : List UInt8) (w : World) (h : RrIs w g bl xs false) :
    Calls Tryd.prog 33 #[.pointer (some ⟨g, 0, none⟩), .int .i64 4] w fun e w' => e = .returned (.int .u32 (rdVal 4 xs)) ∧ RrIs w' g bl (rdLeft 4 xs) (rdBad 4 xs false) ∧ Fr (fun k => k = g) w w' := rr_num 4 (by omega) (by omega) g bl xs false w h (fun h => by cases h)
set_option maxHeartbeats 8000000 in
set_option maxRecDepth 100000 in
theorem rf_decode (A : Option Addr) (n c : Nat) (bs : List UInt8) (w : World) (rs : RS w A n c bs) (hn : n ≤ 1000000) : Calls Tryd.prog 13 #[.slice A n c] w (IsRDec (decLs bs) (decT bs) (decErr bs) w) := by
  have HR := Lib.hid (show CfBox _ w.heap.size none 0 0 tm0 from heap_alloc_new w (.cells (cfa none 0 0 tm0) 26))
  have hx := below_st w (.cells (cfa none 0 0 tm0) 26)
  have HX := Lib.hid hx
  have RS0 := Lib.hid rs
  clear rs
  go_enter Tryd.func13, Tryd.ntmps13
  go_wp2_with fail
  have hlt : w.heap.size < (w.alloc (.cells (cfa none 0 0 tm0) 26)).heap.size := by simp
  change Calls _ _ _ (w.alloc (.cells (cfa none 0 0 tm0) 26)) _
  generalize w.alloc _ = w1 at *
  refine (ref_crcOpen A n c bs _ (RS0.out.below hx) (by omega)).mono ?_
  rintro e w2 ⟨v2, rfl, hown, hb⟩
  have HX2 := Lib.hid (below_go HX.out hb)
  have HR2 := Lib.hid (CfBox.below HR.out hb)
  cases ho : crcOpen bs with
  | none =>
    obtain ⟨d1, d2, d3⟩ := dec_none ho
    have D1 := Lib.hid d1
    have D2 := Lib.hid d2
    have D3 := Lib.hid d3
    clear hx hb hown ho d1 d2 d3
    simp only [Option.isSome_none]
    obtain ⟨q0, q1, q2, q3, q4, q5, q6, q7, q8, q9, q10, qf⟩ := cf_cell_all HR2.out
    have HS := Lib.hid (setCells_heap w.heap.size 26 (cfa none 0 0 tm0).toList 0 w2 (cfa none 0 0 tm0).toList HR2.out (by simp))
    have HF := Lib.hid (fr_setCells (F := fun i => i = w.heap.size) w.heap.size rfl (cfa none 0 0 tm0).toList 0 w2)
    go_wp2_with fail
    change bodyPost _ _ _ _ _ (w2.setCells w.heap.size 0 (cfa none 0 0 tm0).toList)
    have hend : CfBox (w2.setCells w.heap.size 0 (cfa none 0 0 tm0).toList) w.heap.size none 0 0 tm0 := by
      have := HS.out
      rwa [splice_whole _ _ rfl] at this
    refine bodyPost_ret (results_cell_tmp_row rfl _ _ w.heap.size _ _ _ _ (.int .i64 3) rfl rfl hend rfl Tryd.underlying26 (by kernel_rfl)) rfl ?_
    exact ⟨none, 0, by rw [D1.out, D2.out, D3.out] <;> rfl, by rw [D2.out]; exact RE.no _, Fr.belowIn HX2.out HF.out (fun i e => e ▸ Nat.le_refl _)⟩
  | some xs =>
    rw [ho] at hown
    simp only [Option.getD_some] at hown
    have HBL := Lib.hid hown.own
    obtain ⟨A2, c2, rfl, hr2⟩ := hown.reads
    have HO := Lib.hid ho
    have RX := Lib.hid hr2
    have hxl := Lib.hid (show xs.length ≤ 1000000 by
      unfold crcOpen at ho
      split at ho
      · cases ho
        rw [List.length_take]
        have := RS0.out.len
        omega
      · cases ho)
    have HL2 := Lib.hid (show w.heap.size < w2.heap.size by have := hb.size; omega)
    clear hx hb hown ho hr2
    simp only [Option.isSome_some]
    by_cases h4 : xs.length < 4
    · have h4' : (xs.length : Int) < 4 := by omega
      obtain ⟨d1, d2, d3⟩ := dec_form HO.out (by unfold decForm; rw [show decide (4 ≤ xs.length) = false by rw [decide_eq_false_iff_not]; omega]; simp)
      have D1 := Lib.hid d1
      have D2 := Lib.hid d2
      have D3 := Lib.hid d3
      clear d1 d2 d3 h4
      obtain ⟨q0, q1, q2, q3, q4, q5, q6, q7, q8, q9, q10, qf⟩ := cf_cell_all HR2.out
      have HS := Lib.hid (setCells_heap w.heap.size 26 (cfa none 0 0 tm0).toList 0 w2 (cfa none 0 0 tm0).toList HR2.out (by simp))
      have HF := Lib.hid (fr_setCells (F := fun i => i = w.heap.size) w.heap.size rfl (cfa none 0 0 tm0).toList 0 w2)
      go_wp2_with fail
      change bodyPost _ _ _ _ _ (w2.setCells w.heap.size 0 (cfa none 0 0 tm0).toList)
      have hend : CfBox (w2.setCells w.heap.size 0 (cfa none 0 0 tm0).toList) w.heap.size none 0 0 tm0 := by
        have := HS.out
        rwa [splice_whole _ _ rfl] at this
      refine bodyPost_ret (results_cell_tmp_row rfl _ _ w.heap.size _ _ _ _ (.int .i64 2) rfl rfl hend rfl Tryd.underlying26 (by kernel_rfl)) rfl ?_
      exact ⟨none, 0, by rw [D1.out, D2.out, D3.out] <;> rfl, by rw [D2.out]; exact RE.no _, Fr.belowIn HX2.out HF.out (fun i e => e ▸ Nat.le_refl _)⟩
    have h4' : ¬ (xs.length : Int) < 4 := by omega
    have hcap := RX.out.cap
    have hs3 := fun w' => by_slice_h w' A2 xs.length c2 3 (by omega) 3 rfl
    have hst := by_string w2 A2 3 c2 (xs.take 3) (RX.out.rb.take 3 (by omega))
    obtain ⟨b, off, rfl, hbl, hcell⟩ := RX.out.rb.cells (by omega)
    have hc3 : w2.cell? ⟨b, off + 3, none⟩ = some (.int .u8 (decN xs : Int)) := by
      rw [hcell 3 (by omega)]
      simp [bv, nb, decN, List.getD_eq_getElem?_getD]
    have hN9 : decN xs ≤ 255 := by unfold decN; have := (xs.getD 3 0).toNat_lt; omega
    have HC3 := Lib.hid hc3
    clear hcell
    cases hp : pfxB xs [88, 66, 49] with
    | false =>
      have hq : ((strB (xs.take 3)).toList == [88, 66, 49]) = false := by
        rw [strB_toList, beq_eq_false_iff_ne]
        unfold pfxB at hp
        rw [decide_eq_false_iff_not] at hp
        exact hp
      obtain ⟨d1, d2, d3⟩ := dec_form HO.out (by unfold decForm; rw [hp]; rfl)
      have D1 := Lib.hid d1
      have D2 := Lib.hid d2
      have D3 := Lib.hid d3
      clear d1 d2 d3 h4 hp
      obtain ⟨q0, q1, q2, q3, q4, q5, q6, q7, q8, q9, q10, qf⟩ := cf_cell_all HR2.out
      have HS := Lib.hid (setCells_heap w.heap.size 26 (cfa none 0 0 tm0).toList 0 w2 (cfa none 0 0 tm0).toList HR2.out (by simp))
      have HF := Lib.hid (fr_setCells (F := fun i => i = w.heap.size) w.heap.size rfl (cfa none 0 0 tm0).toList 0 w2)
      go_wp2_with fail
      change bodyPost _ _ _ _ _ (w2.setCells w.heap.size 0 (cfa none 0 0 tm0).toList)
      have hend : CfBox (w2.setCells w.heap.size 0 (cfa none 0 0 tm0).toList) w.heap.size none 0 0 tm0 := by
        have := HS.out
        rwa [splice_whole _ _ rfl] at this
      refine bodyPost_ret (results_cell_tmp_row rfl _ _ w.heap.size _ _ _ _ (.int .i64 2) rfl rfl hend rfl Tryd.underlying26 (by kernel_rfl)) rfl ?_
      exact ⟨none, 0, by rw [D1.out, D2.out, D3.out] <;> rfl, by rw [D2.out]; exact RE.no _, Fr.belowIn HX2.out HF.out (fun i e => e ▸ Nat.le_refl _)⟩
    | true =>
      have HPT := Lib.hid hp
      have hq : ((strB (xs.take 3)).toList == [88, 66, 49]) = true := by
        rw [strB_toList, beq_iff_eq]
        unfold pfxB at hp
        rw [decide_eq_true_iff] at hp
        exact hp
      have hdec := Lib.hid (show decForm xs = decide (xs.length = 24 + 14 * decN xs) by
        unfold decForm; rw [hp, show decide (4 ≤ xs.length) = true by rw [decide_eq_true_iff]; omega]; simp)
      clear hp
      generalize hnn : decN xs = nn at *
      have HNN := Lib.hid hnn
      clear hnn
      by_cases hlen : xs.length = 24 + 14 * nn
      rotate_left
      · have q9 : ((xs.length : Int) != 24 + 14 * (nn : Int)) = true := by rw [bne_iff_ne]; omega
        obtain ⟨d1, d2, d3⟩ := dec_form HO.out (by rw [hdec.out]; simp [hlen])
        have D1 := Lib.hid d1
        have D2 := Lib.hid d2
        have D3 := Lib.hid d3
        clear d1 d2 d3 hlen h4
        obtain ⟨q0, q1, q2, q3, q4, q5, q6, q7, q8, q9, q10, qf⟩ := cf_cell_all HR2.out
        have HS := Lib.hid (setCells_heap w.heap.size 26 (cfa none 0 0 tm0).toList 0 w2 (cfa none 0 0 tm0).toList HR2.out (by simp))
        have HF := Lib.hid (fr_setCells (F := fun i => i = w.heap.size) w.heap.size rfl (cfa none 0 0 tm0).toList 0 w2)
        go_wp2_with fail
        change bodyPost _ _ _ _ _ (w2.setCells w.heap.size 0 (cfa none 0 0 tm0).toList)
        have hend : CfBox (w2.setCells w.heap.size 0 (cfa none 0 0 tm0).toList) w.heap.size none 0 0 tm0 := by
          have := HS.out
          rwa [splice_whole _ _ rfl] at this
        refine bodyPost_ret (results_cell_tmp_row rfl _ _ w.heap.size _ _ _ _ (.int .i64 2) rfl rfl hend rfl Tryd.underlying26 (by kernel_rfl)) rfl ?_
        exact ⟨none, 0, by rw [D1.out, D2.out, D3.out] <;> rfl, by rw [D2.out]; exact RE.no _, Fr.belowIn HX2.out HF.out (fun i e => e ▸ Nat.le_refl _)⟩
      have q9 : ((xs.length : Int) != 24 + 14 * (nn : Int)) = false := by rw [bne_eq_false_iff_eq]; omega
      have HFO := Lib.hid (show decForm xs = true by rw [hdec.out]; simp [hlen])
      have HLEN := Lib.hid hlen
      clear hlen
      have hs4 := fun w' => by_slice_l w' (some ⟨b, off, none⟩) xs.length c2 4 (by omega) 4 rfl
      have hbk := HBL.out b rfl
      have hbr := below_st w2 (.cells #[.slice (subA (some ⟨b, off, none⟩) c2 4) (xs.length - 4) (c2 - 4), .bool false] 74)
      have hrs : RS (w2.alloc (.cells #[.slice (subA (some ⟨b, off, none⟩) c2 4) (xs.length - 4) (c2 - 4), .bool false] 74)) (subA (some ⟨b, off, none⟩) c2 4) (xs.length - 4) (c2 - 4) (xs.drop 4) := by
        have h3 := RX.out.below hbr
        exact ⟨h3.rb.sub 4 (by omega) h3.cap, (fun e => by unfold subA at e; split at e <;> cases e), by have := h3.cap; omega⟩
      have hrr : RrIs (w2.alloc (.cells #[.slice (subA (some ⟨b, off, none⟩) c2 4) (xs.length - 4) (c2 - 4), .bool false] 74)) w2.heap.size b (xs.drop 4) false := ⟨_, _, _, heap_alloc_new w2 _, hrs, (fun _ => by unfold subA; split; exact ⟨off, rfl⟩; exact ⟨off + 4, by simp [Addr.add_mid]⟩), (fun _ => by omega), by have := hxl.out; omega⟩
      have hb4 : Below w2.heap.size w2 ((w2.alloc (.cells #[.slice (subA (some ⟨b, off, none⟩) c2 4) (xs.length - 4) (c2 - 4), .bool false] 74)).alloc (.cells (tma tm0) 61)) := below_go hbr (below_st _ _)
      have HD0 := Lib.hid (show D1 w2 ((w2.alloc (.cells #[.slice (subA (some ⟨b, off, none⟩) c2 4) (xs.length - 4) (c2 - 4), .bool false] 74)).alloc (.cells (tma tm0) 61)) w.heap.size (w2.heap.size + 1) w2.heap.size b (tmUp (decTm (xs.drop 4)) 0) (xs.drop 4) from ⟨hb4, CfBox.below HR2.out hb4, heap_alloc2_new w2 _ _, hrr.below (below_st _ _)⟩)
      have HY := Lib.hid (show (xs.drop 4).length = 20 + 14 * nn by rw [List.length_drop, HLEN.out]; omega)
      have HOK := Lib.hid (show cfOk (decLns (xs.drop 4) nn) (decTm (xs.drop 4)) = true → decErr bs = 0 ∧ decLs bs = decLns (xs.drop 4) nn ∧ decT bs = decTm (xs.drop 4) from fun h => by have h1 := dec_ok HO.out HFO.out (by rw [HNN.out]; exact h); rwa [HNN.out] at h1)
      have HNO := Lib.hid (show ¬ cfOk (decLns (xs.drop 4) nn) (decTm (xs.drop 4)) = true → decErr bs = 6 ∧ decLs bs = [] ∧ decT bs = tm0 from fun h => dec_range HO.out HFO.out (by rw [HNN.out]; exact h))
      clear hbr hrs hrr hb4
      go_upto_region 8 with fail
      change Code.wp _ _ _ _ ((w2.alloc (.cells #[.slice (subA (some ⟨b, off, none⟩) c2 4) (xs.length - 4) (c2 - 4), .bool false] 74)).alloc (.cells (tma tm0) 61))
      generalize xs.drop 4 = ys at *
      generalize (w2.alloc _).alloc _ = w4 at *
      clear hs3 hst hs4 hc3 q9
      have hRg : w.heap.size ≠ w2.heap.size := fun e => by have := HL2.out; omega
      have hRH : w.heap.size ≠ w2.heap.size + 1 := fun e => by have := HL2.out; omega
      have hHg : w2.heap.size + 1 ≠ w2.heap.size := by omega
      have hHb : w2.heap.size + 1 ≠ b := by omega
      have hRb : w.heap.size ≠ b := by have := hbk.1; omega
      go_wp2_with fail
      go_loopw [8] (fun s8 wr => ∃ k : Nat, k ≤ 10 ∧ s8 = .int .i64 k ∧ D1 w2 wr w.heap.size (w2.heap.size + 1) w2.heap.size b (tmUp (decTm ys) k) (ys.drop (2 * k))) (fun s8 _ => 10 - (intOf s8).toNat)
      case atStart => exact ⟨0, by omega, rfl, by simpa using HD0.out⟩
      case round =>
        obtain ⟨k, hk, rfl, hds⟩ := hrel
        have HD := Lib.hid hds
        clear hds
        by_cases hlt : k < 10
        · have hlt' : (k : Int) < 10 := by omega
          obtain ⟨hr1, hr2, hr3⟩ := rd_step 2 (2 * k) ys (by have := HY.out; omega)
          have hv := decTm_get ys k hlt
          have hbd := numAt_bd 2 ys (2 * k)
          rw [← hv] at hr1 hbd
          have hbd1 := hbd.1
          have hbd2 : (decTm ys).get k < 65536 := hbd.2
          have HR1 := Lib.hid hr1
          have HR2' := Lib.hid hr2
          have HR3' := Lib.hid hr3
          clear hr1 hr2 hr3 hv hbd
          go_wp2_with fail
          refine (rr_num2 w2.heap.size b _ _ HD.out.rd).mono ?_
          rintro e w7 ⟨rfl, hra, hfa⟩
          rw [HR1.out]
          rw [HR2'.out, HR3'.out] at hra
          have HD7 := Lib.hid (HD.out.read (Nat.le_refl _) hRg hHg hfa hra)
          have hcc := ten_cells _ _ _ _ HD7.out.arr k hlt
          have qf := HD7.out.arr.froz
          clear hra hfa
          go_wp2_with fail
          have HD8 := Lib.hid (HD7.out.tick (Nat.le_succ _) hRH hHg hHb hlt)
          exact ⟨⟨k + 1, by omega, by go_num, by rw [show 2 * (k + 1) = 2 * k + 2 by omega]; exact HD8.out⟩, by simp [intOf]; omega⟩
        · have hk10 : ¬ (k : Int) < 10 := by omega
          have HD := Lib.hid (show D1 w2 wr w.heap.size (w2.heap.size + 1) w2.heap.size b (decTm ys) (ys.drop 20) by have h := HD.out; rw [show k = 10 by omega, tmUp_10] at h; exact h)
          generalize decTm ys = T at *
          obtain ⟨t0, t1, t2, t3, t4, t5, t6, t7, t8, t9⟩ := HD.out.arr.all
          go_upto_region 13 with fail
          change Code.wp _ _ _ _ (wr.alloc (.cells (cfa none 0 0 T) 26))
          have hbn := below_st wr (.cells (cfa none 0 0 T) 26)
          have hsz := HD.out.bel.size
          have hgl := HD.out.rd.lt
          have HDT := Lib.hid (show DT (wr.alloc (.cells (cfa none 0 0 T) 26)).heap.size w2 w.heap.size wr.heap.size w2.heap.size b from by
            have h2 := HL2.out
            have h5 : (wr.alloc (.cells (cfa none 0 0 T) 26)).heap.size = wr.heap.size + 1 := by simp
            rw [h5]
            exact ⟨by omega, by omega, by omega, by omega, by omega, by omega, by omega, by omega, by omega, by omega, by omega⟩)
          have HDS := Lib.hid (show DSR (wr.alloc (.cells (cfa none 0 0 T) 26)).heap.size w2 (wr.alloc (.cells (cfa none 0 0 T) 26)) w.heap.size wr.heap.size w2.heap.size b none 0 0 T (ys.drop 20) [] from ⟨below_go HD.out.bel hbn, CfBox.below HD.out.res hbn, heap_alloc_new wr _, HD.out.rd.below hbn, OwnE.nil _ _, (fun k h => by cases h), Nat.le_refl _⟩)
          clear hbn hsz hgl t0 t1 t2 t3 t4 t5 t6 t7 t8 t9
          generalize wr.alloc _ = w5 at *
          generalize wr.heap.size = G at *
          go_wp2_with fail
          go_loopw [10] (fun s10 wq => ∃ (i : Nat) (A c : _), i ≤ nn ∧ s10 = .int .i64 i ∧ DSR w5.heap.size w2 wq w.heap.size G w2.heap.size b A i c T (ys.drop (20 + 14 * i)) (decLns ys i)) (fun s10 _ => nn - (intOf s10).toNat)
          case atStart => exact ⟨0, none, 0, Nat.zero_le _, rfl, HDS.out⟩
          case round =>
            clear hlt hk10 hk
            obtain ⟨i, A, cc, hi, rfl, hds⟩ := hrel
            have HD2 := Lib.hid hds
            clear hds
            have hc3 := (HD2.out.bel.cell (p := ⟨b, off + 3, none⟩) hbl).trans HC3.out
            by_cases hin : i < nn
            · have hin' : (i : Int) < (nn : Int) := by omega
              obtain ⟨hr1, hr2, hr3⟩ := rd_step 4 (20 + 14 * i) ys (by have := HY.out; omega)
              have hbd := numAt_bd 4 ys (20 + 14 * i)
              have HR1 := Lib.hid hr1
              have HR2' := Lib.hid hr2
              have HR3' := Lib.hid hr3
              clear hr1 hr2 hr3
              obtain ⟨s1, s2, s3⟩ := rd_step 4 (20 + 14 * i + 4) ys (by have := HY.out; omega)
              have hbe := numAt_bd 4 ys (20 + 14 * i + 4)
              have HS1 := Lib.hid s1
              have HS2 := Lib.hid s2
              have HS3 := Lib.hid s3
              clear s1 s2 s3
              have b1 := hbd.1
              have b2 : numAt 4 ys (20 + 14 * i) < 4294967296 := hbd.2
              have b3 := hbe.1
              have b4 : numAt 4 ys (20 + 14 * i + 4) < 4294967296 := hbe.2
              have HX0 := Lib.hid (show lnUp (decLn ys (20 + 14 * i)) 0 = ⟨numAt 4 ys (20 + 14 * i), numAt 4 ys (20 + 14 * i + 4), 0, 0, 0⟩ from rfl)
              generalize numAt 4 ys (20 + 14 * i) = N1 at *
              generalize numAt 4 ys (20 + 14 * i + 4) = N2 at *
              clear hbd hbe
              go_wp2_with fail
              clear hc3
              refine (rr_num4 w2.heap.size b _ _ HD2.out.rd).mono ?_
              rintro e w7 ⟨rfl, hra, hfa⟩
              rw [HR1.out]
              rw [HR2'.out, HR3'.out] at hra
              have HD7 := Lib.hid (HD2.out.read HDT.out hfa hra)
              have HL0 := Lib.hid (show LnBlk (w7.alloc (.cells #[.int .i64 N1, .int .i64 0, .int .i64 0, .int .i64 0, .int .i64 0] 48)) w7.heap.size ⟨N1, 0, 0, 0, 0⟩ from heap_alloc_new w7 _)
              have HDL := Lib.hid (HD7.out.below (below_st w7 (.cells #[.int .i64 N1, .int .i64 0, .int .i64 0, .int .i64 0, .int .i64 0] 48)))
              have HOL := Lib.hid (show ∀ k, (Value.slice A i cc).ownBlock = some k → k ≠ w7.heap.size from fun k hk e => by have := HD7.out.own.lt k hk; omega)
              have HNL := Lib.hid HD7.out.size
              have HLg := Lib.hid (show w7.heap.size ≠ w2.heap.size from fun e => by have := HD7.out.size; have := HDT.out.lg; omega)
              clear hra hfa
              go_wp2_with fail
              change Calls _ _ _ (w7.alloc (.cells #[.int .i64 N1, .int .i64 0, .int .i64 0, .int .i64 0, .int .i64 0] 48)) _
              generalize w7.heap.size = L at *
              generalize w7.alloc _ = w8 at *
              refine (rr_num4 w2.heap.size b _ _ HDL.out.rd).mono ?_
              rintro e w9 ⟨rfl, hra, hfa⟩
              rw [HS1.out]
              rw [HS2.out, HS3.out] at hra
              have HD9 := Lib.hid (HDL.out.read HDT.out hfa hra)
              have hl9 : LnBlk w9 L ⟨N1, 0, 0, 0, 0⟩ := LnBlk.fr HL0.out hfa HLg.out
              have HDA := Lib.hid (HD9.out.line (L := L) (i := 1) (v := .int .i64 N2) HDT.out HNL.out HOL.out)
              have HLA := Lib.hid (ln_sg hl9 N2)
              have z0 := (hl9.cells w9 (Below.refl _ _)).2.1
              have zf := hl9.froz
              clear hra hfa hl9
              go_wp2_with fail
              generalize w9.setCell _ _ = wA at *
              clear z0 zf
              have HLA2 := Lib.hid (show LnBlk wA L (lnUp (decLn ys (20 + 14 * i)) 0) by rw [HX0.out]; exact HLA.out)
              go_loopw [12] (fun s12 wq => ∃ j : Nat, j ≤ 3 ∧ s12 = .int .i64 j ∧ DSR w5.heap.size w2 wq w.heap.size G w2.heap.size b A i cc T (ys.drop (28 + 14 * i + 2 * j)) (decLns ys i) ∧ LnBlk wq L (lnUp (decLn ys (20 + 14 * i)) j)) (fun s12 _ => 3 - (intOf s12).toNat)
              case atStart => exact ⟨0, by omega, rfl, by rw [show 28 + 14 * i + 2 * 0 = 20 + 14 * i + 4 + 4 by omega]; exact HDA.out, HLA2.out⟩
              case round =>
                obtain ⟨j, hj, rfl, hds, hln⟩ := hrel
                have HDJ := Lib.hid hds
                have HLJ := Lib.hid hln
                clear hds hln
                by_cases hj3 : j < 3
                · have hj3' : (j : Int) < 3 := by omega
                  obtain ⟨hr1, hr2, hr3⟩ := rd_step 2 (28 + 14 * i + 2 * j) ys (by have := HY.out; omega)
                  have hbd := numAt_bd 2 ys (28 + 14 * i + 2 * j)
                  have hsp : lnSp (decLn ys (20 + 14 * i)) j = numAt 2 ys (28 + 14 * i + 2 * j) := by
                    rcases (by omega : j = 0 ∨ j = 1 ∨ j = 2) with rfl | rfl | rfl <;> simp only [lnSp, decLn] <;> congr 1 <;> omega
                  have HSP := Lib.hid hsp
                  have HR1 := Lib.hid hr1
                  have HR2' := Lib.hid hr2
                  have HR3' := Lib.hid hr3
                  have b5 := hbd.1
                  have b6 : numAt 2 ys (28 + 14 * i + 2 * j) < 65536 := hbd.2
                  clear hr1 hr2 hr3 hbd hsp
                  generalize numAt 2 ys (28 + 14 * i + 2 * j) = N3 at *
                  go_wp2_with fail
                  refine (rr_num2 w2.heap.size b _ _ HDJ.out.rd).mono ?_
                  rintro e w7 ⟨rfl, hra, hfa⟩
                  rw [HR1.out]
                  rw [HR2'.out, HR3'.out] at hra
                  have HD7 := Lib.hid (HDJ.out.read HDT.out hfa hra)
                  have hl7 : LnBlk w7 L (lnUp (decLn ys (20 + 14 * i)) j) := LnBlk.fr HLJ.out hfa HLg.out
                  have HD8 := Lib.hid (HD7.out.line (L := L) (i := 2 + j) (v := .int .i64 N3) HDT.out HNL.out HOL.out)
                  have HL8 := Lib.hid (show LnBlk (w7.setCell ⟨L, 2 + j, none⟩ (.int .i64 N3)) L (lnUp (decLn ys (20 + 14 * i)) (j + 1)) by have h := ln_up hl7 hj3; rwa [HSP.out] at h)
                  have z0 := hl7.at hj3
                  have zf := hl7.froz
                  clear hra hfa hl7
                  go_wp2_with fail
                  exact ⟨⟨j + 1, by omega, by go_num, by rw [show 28 + 14 * i + 2 * (j + 1) = 28 + 14 * i + 2 * j + 2 by omega]; exact HD8.out, HL8.out⟩, by simp [intOf]; omega⟩
                · have hj3' : ¬ (j : Int) < 3 := by omega
                  have HDE := Lib.hid (show DSR w5.heap.size w2 wr w.heap.size G w2.heap.size b A i cc T (ys.drop (20 + 14 * (i + 1))) (decLns ys i) by have h := HDJ.out; rwa [show 28 + 14 * i + 2 * j = 20 + 14 * (i + 1) by omega] at h)
                  have hx : LnBlk wr L (decLn ys (20 + 14 * i)) := by have h := HLJ.out; rwa [show j = 3 by omega, lnUp_3] at h
                  have hds := Lib.hid (decLns_succ ys i)
                  have hdl := Lib.hid (decLns_len ys i)
                  generalize decLn ys (20 + 14 * i) = x at *
                  obtain ⟨l0, l1, l2, l3, l4⟩ := LnBlk.cells hx wr (Below.refl _ _)
                  obtain ⟨z0, _⟩ := cf_cell_all HDE.out.cfg
                  have HNEW := Lib.hid (ln_re_new wr x)
                  have HNB := Lib.hid (below_st wr (.cells #[.int .i64 x.strike, .int .i64 x.signal, .int .i64 x.s0, .int .i64 x.s1, .int .i64 x.s2] 48))
                  have HDN := Lib.hid (HDE.out.below HNB.out)
                  clear hx
                  go_wp2_with (at_builtin; go_must (refine wpList_append_fr lnT lnc_len lnc_one rfl _ _ rfl _ (decLns ys i) rfl HDN.out.own _ _ _ [x] rfl HNEW.out (by have := hdl.out; omega) (by have := hdl.out; omega) ?_); intro v' wc hown1 hg1 hf1; go_must (obtain ⟨A1, c1, rfl, hre1, _, _⟩ := hown1.re (by simp; have := hdl.out; omega); have hcf := (HDN.out.cfg.fr (Fr.ofGrown hg1) (fun e => by have := HDN.out.fre _ e.symm; have := HDT.out.lG; omega)); have HG1 := Lib.hid hg1; have HF1 := Lib.hid hf1; have HOWN := Lib.hid hown1; obtain ⟨z1, _, _, _, _, _, _, _, _, _, _, zf⟩ := cf_cell_all hcf; clear hown1 hf1 hg1 hre1 hcf z0 l0 l1 l2 l3 l4))
                  refine ⟨⟨i + 1, A1, c1, by omega, by go_num, ?_⟩, by simp [intOf]; omega⟩
                  rw [hdl.out, hds.out]
                  have hown2 := HOWN.out
                  rw [List.length_append, hdl.out] at hown2
                  exact HDN.out.push HDT.out hown2 HG1.out (fun k hk => HF1.out k (own_any hk))
            · have hin' : ¬ (i : Int) < (nn : Int) := by omega
              have HD3 := Lib.hid (show DSR w5.heap.size w2 wr w.heap.size G w2.heap.size b A i cc T (ys.drop (20 + 14 * i)) (decLns ys nn) by have h := HD2.out; rwa [show decLns ys i = decLns ys nn by rw [show i = nn by omega]] at h)
              have hll := decLns_len ys nn
              have hown3 := HD3.out.own
              have hfr3 := HD3.out.fre
              generalize decLns ys nn = ls at *
              obtain ⟨A', c', e', hre, hob, _⟩ := hown3.re (by omega)
              cases e'
              have HLL := Lib.hid hll
              clear hll
              have RL := Lib.hid hre
              have HB3 := Lib.hid (below_go HX2.out HD3.out.bel)
              obtain ⟨q0, q1, q2, q3, q4, q5, q6, q7, q8, q9, q10, _⟩ := cf_cell_all HD3.out.cfg
              have hapart : 0 < ls.length → ∀ b off, A = some ⟨b, off, none⟩ → ¬ (b = w.heap.size) := fun _ b off e e2 => by
                have h1 := hfr3 b (by rw [hob, e]; rfl)
                have h2 := HDT.out.lR
                omega
              have HAP := Lib.hid hapart
              clear HD HD2 hown3 hfr3 hre hob hapart
              go_wp2_with fail
              refine (rf_check A ls.length cc ls T _ RL.out).mono ?_
              rintro e w9 ⟨rfl, hb⟩
              have RL9 := Lib.hid (RL.out.below hb)
              have hrz := CfBox.below HD3.out.res hb
              have hcz := CfBox.below HD3.out.cfg hb
              have HW := Lib.hid (below_go HB3.out hb)
              have HZ := Lib.hid hrz
              clear q0 q1 q2 q3 q4 q5 q6 q7 q8 q9 q10 hb
              by_cases hok : cfOk ls T = true
              · rw [cfErr_ok hok]
                obtain ⟨d1, d2, d3⟩ := HOK.out hok
                have D1 := Lib.hid d1
                have D2 := Lib.hid d2
                have D3 := Lib.hid d3
                obtain ⟨q0, q1, q2, q3, q4, q5, q6, q7, q8, q9, q10, qf⟩ := cf_cell_all hrz
                obtain ⟨p0, p1, p2, p3, p4, p5, p6, p7, p8, p9, p10, _⟩ := cf_cell_all hcz
                have HS := Lib.hid (setCells_heap w.heap.size 26 (cfa A ls.length cc T).toList 0 w9 (cfa none 0 0 tm0).toList hrz (by simp))
                have HF := Lib.hid (fr_setCells (F := fun i => i = w.heap.size) w.heap.size rfl (cfa A ls.length cc T).toList 0 w9)
                clear hok hrz hcz d1 d2 d3 hc3
                go_wp2_with fail
                change bodyPost _ _ _ _ _ (w9.setCells w.heap.size 0 (cfa A ls.length cc T).toList)
                have hend : CfBox (w9.setCells w.heap.size 0 (cfa A ls.length cc T).toList) w.heap.size A ls.length cc T := by
                  have := HS.out
                  rwa [splice_whole (cfa none 0 0 tm0).toList (cfa A ls.length cc T).toList rfl] at this
                refine bodyPost_ret (results_cell_tmp_row rfl _ _ w.heap.size _ _ _ _ (.int .i64 0) rfl rfl hend rfl Tryd.underlying26 (by kernel_rfl)) rfl ?_
                exact ⟨A, cc, by rw [D1.out, D2.out, D3.out] <;> rfl, by rw [D2.out]; exact RL9.out.fr HF.out HAP.out, Fr.belowIn HW.out HF.out (fun i e => e ▸ Nat.le_refl _)⟩
              · rw [cfErr_no hok]
                obtain ⟨d1, d2, d3⟩ := HNO.out hok
                have D1 := Lib.hid d1
                have D2 := Lib.hid d2
                have D3 := Lib.hid d3
                clear hok hrz hcz d1 d2 d3 hc3
                obtain ⟨q0, q1, q2, q3, q4, q5, q6, q7, q8, q9, q10, qf⟩ := cf_cell_all HZ.out
                have HS := Lib.hid (setCells_heap w.heap.size 26 (cfa none 0 0 tm0).toList 0 w9 (cfa none 0 0 tm0).toList HZ.out (by simp))
                have HF := Lib.hid (fr_setCells (F := fun i => i = w.heap.size) w.heap.size rfl (cfa none 0 0 tm0).toList 0 w9)
                go_wp2_with fail
                change bodyPost _ _ _ _ _ (w9.setCells w.heap.size 0 (cfa none 0 0 tm0).toList)
                have hend : CfBox (w9.setCells w.heap.size 0 (cfa none 0 0 tm0).toList) w.heap.size none 0 0 tm0 := by
                  have := HS.out
                  rwa [splice_whole _ _ rfl] at this
                refine bodyPost_ret (results_cell_tmp_row rfl _ _ w.heap.size _ _ _ _ (.int .i64 6) rfl rfl hend rfl Tryd.underlying26 (by kernel_rfl)) rfl ?_
                exact ⟨none, 0, by rw [D1.out, D2.out, D3.out] <;> rfl, by rw [D2.out]; exact RE.no _, Fr.belowIn HW.out HF.out (fun i e => e ▸ Nat.le_refl _)⟩
end Go.Proofs.YteeocmkaecoeiaaDoor
