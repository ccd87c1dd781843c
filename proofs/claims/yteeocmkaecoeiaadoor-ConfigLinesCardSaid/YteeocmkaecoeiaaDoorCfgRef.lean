/- The document's answer for crossings: crossbuckref08.times, Check. -/
import Derived.Test.YteeocmkaecoeiaaDoorCfgCheck
namespace Go.Proofs.YteeocmkaecoeiaaDoor
open Go.RowKit
set_option linter.unusedVariables false
set_option linter.unusedSimpArgs false

abbrev tma (t : Tm) : Array Value := #[.int .i64 t.t0, .int .i64 t.t1, .int .i64 t.t2, .int .i64 t.t3, .int .i64 t.t4, .int .i64 t.t5, .int .i64 t.t6, .int .i64 t.t7, .int .i64 t.t8, .int .i64 t.t9]
set_option maxHeartbeats 4000000 in
set_option maxRecDepth 100000 in
theorem rf_times (t : Tm) (w : World) : Calls Tryd.prog 24 #[.agg (tma t)] w fun e w' => e = .returned (.agg (tma t)) ∧ Below w.heap.size w w' := by
  have HB := Lib.hid ((below_st w (.cells (tma t) 24)).alloc (Nat.le_of_lt (by simp)) (.cells (tma t) 61))
  have H0 := Lib.hid (heap_alloc2_new w (.cells (tma t) 24) (.cells (tma t) 61))
  go_enter Tryd.func24, Tryd.ntmps24
  go_wp2_with fail
  refine bodyPost_ret (results_cell_row rfl _ _ (w.heap.size + 1) _ _ _ _ rfl H0.out Tryd.underlying61 rfl (by kernel_rfl)) rfl ?_
  exact ⟨rfl, HB.out⟩

theorem ten_cells (w0 : World) (B : Nat) (t : Tm) (ty : TypeId) (h : w0.heap[B]? = some (.cells (tma t) ty (0, 0))) (k : Nat) (hk : k < 10) : w0.cell? ⟨B, k, none⟩ = some (.int .i64 (t.get k)) := by
  rcases (by omega : k = 0 ∨ k = 1 ∨ k = 2 ∨ k = 3 ∨ k = 4 ∨ k = 5 ∨ k = 6 ∨ k = 7 ∨ k = 8 ∨ k = 9) with rfl | rfl | rfl | rfl | rfl | rfl | rfl | rfl | rfl | rfl <;> simp [World.cell?, h, Tm.get]
theorem tm_all (t : Tm) (k : Nat) (h : tmTo t k = true) (hk : btw (t.get k) 1 6000 = true) : tmTo t (k + 1) = true := by rw [tmTo_succ, h, hk]; rfl
theorem tm_no (t : Tm) (k : Nat) (hk10 : k < 10) (hk : btw (t.get k) 1 6000 = false) : tmTo t 10 = false := by
  unfold tmTo
  rw [List.all_eq_false]
  exact ⟨k, by simpa using hk10, by simp [hk]⟩
theorem cf_no_tm (ls : List Ln) (t : Tm) (h : tmTo t 10 = false) : cfErr ls t = 6 := by simp [cfErr, cfOk, h]
theorem cf_no_ln (ls : List Ln) (t : Tm) (x : Ln) (hx : x ∈ ls) (h : lnOk x = false) : cfErr ls t = 6 := by
  have : ls.all lnOk = false := by rw [List.all_eq_false]; exact ⟨x, hx, by simp [h]⟩
  simp [cfErr, cfOk, this]
theorem cf_no_len (ls : List Ln) (t : Tm) (h : ¬ (1 ≤ ls.length ∧ ls.length ≤ 8)) : cfErr ls t = 6 := by
  have : btw ls.length 1 8 = false := by unfold btw; simp; omega
  simp [cfErr, cfOk, this]
theorem cf_yes (ls : List Ln) (t : Tm) (h : tmTo t 10 = true) (h2 : ls.all lnOk = true) (h3 : 1 ≤ ls.length ∧ ls.length ≤ 8) : cfErr ls t = 0 := by
  have : btw ls.length 1 8 = true := by unfold btw; simp; omega
  simp [cfErr, cfOk, this, h, h2]
def lnGet (x : Ln) (k : Nat) : Int := match k with | 0 => x.s0 | 1 => x.s1 | _ => x.s2
def spTo (x : Ln) (k : Nat) : Bool := (List.range k).all fun i => btw (lnGet x i) 1 5000
theorem ln_ok (x : Ln) (h1 : 1 ≤ x.signal) (h2 : x.signal < x.strike) (h3 : x.strike ≤ 1000000) (h : spTo x 3 = true) : lnOk x = true := by
  simp [spTo, List.range_succ, lnGet] at h
  obtain ⟨a, b, c⟩ := h
  unfold lnOk btw at *
  simp at a b c ⊢
  omega
theorem ln_no_way (x : Ln) (h : x.signal < 1 ∨ x.strike ≤ x.signal ∨ 1000000 < x.strike) : lnOk x = false := by unfold lnOk btw; simp; omega
theorem ln_no_sp (x : Ln) (k : Nat) (hk : k < 3) (h : lnGet x k < 1 ∨ 5000 < lnGet x k) : lnOk x = false := by
  rcases (by omega : k = 0 ∨ k = 1 ∨ k = 2) with rfl | rfl | rfl <;> simp [lnGet] at h <;> unfold lnOk btw <;> simp <;> omega
theorem sp_succ (x : Ln) (k : Nat) (h : spTo x k = true) (h1 : ¬ lnGet x k < 1) (h2 : ¬ 5000 < lnGet x k) : spTo x (k + 1) = true := by
  unfold spTo at *
  simp [List.range_succ, btw] at h ⊢
  refine ⟨fun i hi => h i hi, by omega, by omega⟩

set_option maxHeartbeats 8000000 in
set_option maxRecDepth 100000 in
theorem rf_check (A : Option Addr) (n c : Nat) (ls : List Ln) (t : Tm) (w : World) (rs : RLn w A n c ls) : Calls Tryd.prog 16 #[cfv A n c t] w fun e w' => e = .returned (.int .i64 (cfErr ls t)) ∧ Below w.heap.size w w' := by
  have hl := Lib.hid rs.len
  have hmx := rs.max
  have HR := Lib.hid rs
  have h0 := heap_alloc_new w (.cells (cfa A n c t) 26)
  have hx := below_st w (.cells (cfa A n c t) 26)
  have HX := Lib.hid hx
  have hz : (w.alloc (.cells (cfa A n c t) 26)).cell? ⟨w.heap.size, 0, none⟩ = some (.slice A n c) := by simp
  clear rs hx h0
  go_enter Tryd.func16, Tryd.ntmps16
  go_wp2_with fail
  have hlt : w.heap.size < (w.alloc (.cells (cfa A n c t) 26)).heap.size := by simp
  generalize hw1 : w.alloc _ = w1 at *
  refine (rf_times t _).mono ?_
  rintro e w2 ⟨rfl, hb2⟩
  have HB := Lib.hid hb2
  have HL := Lib.hid hlt
  clear hb2 hlt
  go_wp2_with fail
  have ht := fun k hk => ten_cells _ w2.heap.size t _ (heap_alloc_new w2 (.cells (tma t) 61)) k hk
  have h3 := below_st w2 (.cells (tma t) 61)
  have hlt3 : w2.heap.size < (w2.alloc (.cells (tma t) 61)).heap.size := by simp
  generalize w2.alloc _ = w3 at *
  have HT := Lib.hid ht
  have H3 := Lib.hid (below_go HB.out h3)
  have HL3 := Lib.hid hlt3
  have hz3 := (H3.out.cell (p := ⟨w.heap.size, 0, none⟩) HL.out).trans hz
  have HZ := Lib.hid hz3
  have HW3 := Lib.hid (below_go HX.out H3.out)
  clear ht h3 hlt3 hz hz3
  go_loopw [4] (fun s4 wr => ∃ k : Nat, k ≤ 10 ∧ s4 = .int .i64 k ∧ tmTo t k = true ∧ w3 = wr) (fun s4 _ => 10 - (intOf s4).toNat)
  case atStart => exact ⟨0, by omega, rfl, rfl, rfl⟩
  case round =>
    obtain ⟨k, hk, rfl, hto, rfl⟩ := hrel
    have HTO := Lib.hid hto
    clear hto
    by_cases hlt : k < 10
    · have hlt' : (k : Int) < 10 := by omega
      have hc := HT.out k hlt
      have hk2 := Lib.hid hlt
      by_cases h1 : t.get k < 1
      · have HE := Lib.hid (cf_no_tm ls t (tm_no t k hlt (by unfold btw; simp; omega)))
        go_wp2_with fail
        go_ret
        exact ⟨by rw [HE.out] <;> rfl, HW3.out⟩
      by_cases h2 : 6000 < t.get k
      · have HE := Lib.hid (cf_no_tm ls t (tm_no t k hlt (by unfold btw; simp; omega)))
        go_wp2_with fail
        go_ret
        exact ⟨by rw [HE.out] <;> rfl, HW3.out⟩
      have HS := Lib.hid (tm_all t k HTO.out (by unfold btw; simp; omega))
      go_wp2_with fail
      exact ⟨⟨k + 1, by omega, by go_num, HS.out, by trivial⟩, by simp [intOf]; omega⟩
    · have HK : tmTo t 10 = true := by have := HTO.out; rwa [(by omega : k = 10)] at this
      have HTT := Lib.hid HK
      have hkn : ¬ (k : Int) < 10 := by omega
      clear HK
      go_wp2_with fail
      clear HTO
      go_loopw [5] (fun s5 wr => ∃ k : Nat, k ≤ n ∧ s5 = .int .i64 k ∧ (ls.take k).all lnOk = true ∧ Below w3.heap.size w3 wr) (fun s5 _ => n - (intOf s5).toNat)
      case atStart => exact ⟨0, Nat.zero_le _, rfl, rfl, Below.refl _ _⟩
      case round =>
        clear hk hkn hlt
        obtain ⟨k, hk, rfl, hall, hbr⟩ := hrel
        have HBR := Lib.hid hbr
        have hzr := (hbr.cell (p := ⟨w.heap.size, 0, none⟩) (Nat.lt_of_lt_of_le HL.out H3.out.size)).trans HZ.out
        have HWR := Lib.hid (below_go HW3.out hbr)
        have HALL := Lib.hid hall
        clear hall hbr
        by_cases hlt : k < n
        · have hlt' : (k : Int) < n := by omega
          obtain ⟨b, off, rfl, hbl, _⟩ := HR.out.cells (by omega)
          have hkl : k < ls.length := by rw [hl.out]; exact hlt
          have he := (HR.out.below HWR.out).elem lnc_len k hkl
          have hts := Lib.hid (show ls.take (k + 1) = ls.take k ++ [ls[k]] from List.take_succ_eq_append_getElem hkl)
          have hmem := Lib.hid (List.getElem_mem hkl)
          generalize ls[k] = x at he hts hmem
          obtain ⟨x0, x1, x2, x3, x4⟩ := ln_cells wr b _ x he (Nat.lt_of_lt_of_le hbl HWR.out.size) wr (Below.refl _ _)
          have HN := Lib.hid (below_st wr (.cells #[.int .i64 x.strike, .int .i64 x.signal, .int .i64 x.s0, .int .i64 x.s1, .int .i64 x.s2] 48))
          have HWN := Lib.hid (below_go HWR.out HN.out)
          have hc : ∀ j : Nat, j < 3 → (wr.alloc (.cells #[.int .i64 x.strike, .int .i64 x.signal, .int .i64 x.s0, .int .i64 x.s1, .int .i64 x.s2] 48)).cell? ⟨wr.heap.size, 2 + j, none⟩ = some (.int .i64 (lnGet x j)) := fun j hj => by
            rcases (by omega : j = 0 ∨ j = 1 ∨ j = 2) with rfl | rfl | rfl <;> simp [lnGet]
          have HC := Lib.hid hc
          clear he hc
          by_cases b1 : x.signal < 1
          · have HE := Lib.hid (cf_no_ln ls t x hmem.out (ln_no_way x (.inl b1)))
            go_wp2_with fail
            go_ret
            exact ⟨by rw [HE.out] <;> rfl, HWN.out⟩
          by_cases b2 : x.strike ≤ x.signal
          · have HE := Lib.hid (cf_no_ln ls t x hmem.out (ln_no_way x (.inr (.inl b2))))
            go_wp2_with fail
            go_ret
            exact ⟨by rw [HE.out] <;> rfl, HWN.out⟩
          by_cases b3 : 1000000 < x.strike
          · have HE := Lib.hid (cf_no_ln ls t x hmem.out (ln_no_way x (.inr (.inr b3))))
            go_wp2_with fail
            go_ret
            exact ⟨by rw [HE.out] <;> rfl, HWN.out⟩
          have HLN := Lib.hid (ln_ok x (by omega) (by omega) (by omega))
          go_wp2_with fail
          generalize wr.alloc _ = w4 at *
          clear x0 x1 x2 x3 x4 b1 b2 b3
          go_loopw [7] (fun s7 wq => ∃ j : Nat, j ≤ 3 ∧ s7 = .int .i64 j ∧ spTo x j = true ∧ w4 = wq) (fun s7 _ => 3 - (intOf s7).toNat)
          case atStart => exact ⟨0, by omega, rfl, rfl, rfl⟩
          case round =>
            obtain ⟨j, hj, rfl, hsp, rfl⟩ := hrel
            have HSP := Lib.hid hsp
            clear hsp
            by_cases hj3 : j < 3
            · have hj3' : (j : Int) < 3 := by omega
              have hc := HC.out j hj3
              by_cases b1 : lnGet x j < 1
              · have HE := Lib.hid (cf_no_ln ls t x hmem.out (ln_no_sp x j hj3 (.inl b1)))
                go_wp2_with fail
                go_ret
                exact ⟨by rw [HE.out] <;> rfl, HWN.out⟩
              by_cases b2 : 5000 < lnGet x j
              · have HE := Lib.hid (cf_no_ln ls t x hmem.out (ln_no_sp x j hj3 (.inr b2)))
                go_wp2_with fail
                go_ret
                exact ⟨by rw [HE.out] <;> rfl, HWN.out⟩
              have HS := Lib.hid (sp_succ x j HSP.out b1 b2)
              go_wp2_with fail
              exact ⟨⟨j + 1, by omega, by go_num, HS.out, by trivial⟩, by simp [intOf]; omega⟩
            · obtain rfl : j = 3 := by omega
              go_wp2_with fail
              refine ⟨⟨k + 1, by omega, by go_num, ?_, below_go HBR.out HN.out⟩, by simp [intOf]; omega⟩
              rw [hts.out, List.all_append, HALL.out]
              simp [HLN.out HSP.out]
        · obtain rfl : k = n := by omega
          have HA := Lib.hid (show ls.all lnOk = true by have := HALL.out; rwa [List.take_of_length_le (by rw [hl.out]; omega)] at this)
          by_cases b1 : (k : Int) < 1
          · have HE := Lib.hid (cf_no_len ls t (by rw [hl.out]; omega))
            go_wp2_with fail
            go_ret
            exact ⟨by rw [HE.out] <;> rfl, HWR.out⟩
          by_cases b2 : (8 : Int) < k
          · have HE := Lib.hid (cf_no_len ls t (by rw [hl.out]; omega))
            go_wp2_with fail
            go_ret
            exact ⟨by rw [HE.out] <;> rfl, HWR.out⟩
          have HE := Lib.hid (cf_yes ls t HTT.out HA.out (by rw [hl.out]; omega))
          go_wp2_with fail
          go_ret
          exact ⟨by rw [HE.out] <;> rfl, HWR.out⟩
end Go.Proofs.YteeocmkaecoeiaaDoor
