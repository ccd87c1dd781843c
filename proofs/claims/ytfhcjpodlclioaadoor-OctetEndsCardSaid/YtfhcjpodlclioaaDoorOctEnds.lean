/- The walks of OctetEnds. -/
import Derived.Test.YtfhcjpodlclioaaDoorOctSmall
namespace Go.Proofs.YtfhcjpodlclioaaDoor
open Go.RowKit
set_option linter.unusedVariables false
set_option linter.unusedSimpArgs false

theorem rep_empty (n k : Nat) : ((List.replicate n (0 : UInt8)).drop k).isEmpty = decide (n ≤ k) := by
  rw [List.drop_replicate]
  by_cases h : n ≤ k
  · simp [h, show n - k = 0 by omega]
  · simp only [h, decide_false]
    cases hh : n - k with
    | zero => omega
    | succ j => rfl

set_option maxRecDepth 100000 in
set_option maxHeartbeats 4000000 in
theorem octetEnds_walk (a0 : Int) (a1 : Int) (w : World) (w0 : (Lit.int .i64 a0).wf = true) (w1 : (Lit.int .i64 a1).wf = true) (hg : HasTy w) :
    Calls Tryd.prog 8 #[.int .i64 a0, .int .i64 a1] w fun e w' => e = .returned (.bool true) ∧ Below w.heap.size w w' := by
  clear w0 w1
  have H0 := Lib.hid hg
  by_cases hall : a0 < 0 ∨ 300 < a0 ∨ a1 < 0 ∨ 400 < a1
  · by_cases h1 : a0 < 0
    · clear hall hg
      go_enter Tryd.func8, Tryd.ntmps8
      go_wp2_with (go_at_call 9; refine (oct_small _ H0.out).mono ?_; rintro e w' ⟨rfl, hb⟩)
      go_ret
      exact ⟨rfl, hb⟩
    by_cases h2 : 300 < a0
    · clear hall hg
      go_enter Tryd.func8, Tryd.ntmps8
      go_wp2_with (go_at_call 9; refine (oct_small _ H0.out).mono ?_; rintro e w' ⟨rfl, hb⟩)
      go_ret
      exact ⟨rfl, hb⟩
    by_cases h3 : a1 < 0
    · clear hall hg
      go_enter Tryd.func8, Tryd.ntmps8
      go_wp2_with (go_at_call 9; refine (oct_small _ H0.out).mono ?_; rintro e w' ⟨rfl, hb⟩)
      go_ret
      exact ⟨rfl, hb⟩
    · have h4 : 400 < a1 := by omega
      clear hall hg
      go_enter Tryd.func8, Tryd.ntmps8
      go_wp2_with (go_at_call 9; refine (oct_small _ H0.out).mono ?_; rintro e w' ⟨rfl, hb⟩)
      go_ret
      exact ⟨rfl, hb⟩
  · obtain ⟨n, rfl⟩ := Int.eq_ofNat_of_zero_le (show 0 ≤ a0 by omega)
    obtain ⟨m, rfl⟩ := Int.eq_ofNat_of_zero_le (show 0 ≤ a1 by omega)
    have hn : n ≤ 300 := by omega
    have hm : m ≤ 400 := by omega
    have h1 : ¬ (n : Int) < 0 := by omega
    have h2 : ¬ (300 : Int) < n := by omega
    have h3 : ¬ (m : Int) < 0 := by omega
    have h4 : ¬ (400 : Int) < m := by omega
    have hmk := fun w => by_make2 w n n (Nat.le_refl _) (by omega) (n : Int) (n : Int) rfl rfl
    clear hall hg
    go_enter Tryd.func8, Tryd.ntmps8
    go_wp2_with fail
    refine (oct_small _ H0.out).mono ?_
    rintro e wa ⟨rfl, hb⟩
    have hown := by_make2_own wa wa.heap.size n n (Nat.le_refl _) (by omega) (Nat.le_refl _)
    have hbn := below_new wa (.cells (madeCells #[.int .u8 0] n) 5)
    have hrs := hown.rs
    clear hown
    go_wp2_with fail
    refine (rd_over _ _ _ _ _ hrs (by omega)).mono ?_
    rintro e wb ⟨g, bl, rfl, hr, hgg, hbl, hbls, hb2⟩
    have hwg : w.heap.size ≤ g := by have := hb.size; simp at hgg; omega
    have H := Lib.hid (below_step hb (below_step hbn hb2))
    clear hb hbn hb2 hrs hgg hbl hbls hmk
    go_wp2_with fail
    go_loopw [7] (fun i wr => ∃ k : Nat, k ≤ m ∧ i = .int .i64 k ∧ RdIs wr g bl ((List.replicate n 0).drop k) (decide (n < k)) ∧ Below w.heap.size w wr) (fun i _ => m - (intOf i).toNat)
    case atStart => exact ⟨0, Nat.zero_le _, rfl, by simpa using hr, H.out⟩
    case round =>
      obtain ⟨k, hk, rfl, hr, hbr⟩ := hrel
      clear H h1 h2 h3 h4
      by_cases hlt : k < m
      · have hlt' : (k : Int) < m := by omega
        go_wp2_with fail
        refine (rd_u8 g bl _ _ _ hr).mono ?_
        rintro e wc ⟨rfl, hr2, hf⟩
        rw [rep_empty, List.tail_drop, show (decide (n < k) || decide (n ≤ k)) = decide (n < k + 1) by (rw [← Bool.decide_or]; exact decide_eq_decide.2 (by omega))] at hr2
        have H1 := Lib.hid hr2
        have H2 := Lib.hid (below_one hbr hf hwg)
        clear hr2 hf hr hbr
        go_wp2_with fail
        exact ⟨⟨k + 1, by omega, by go_num, H1.out, H2.out⟩, by simp [intOf]; omega⟩
      · obtain rfl : k = m := by omega
        have H2 := Lib.hid hbr
        clear hbr
        go_wp2_with fail
        refine (rd_end g bl _ _ _ hr).mono ?_
        rintro e wc ⟨v, rfl, hv, hb2⟩
        replace H2 := Lib.hid (below_step H2.out hb2)
        replace hr := hr.below hb2
        rw [rep_empty] at hv
        clear hb2
        rcases Nat.lt_trichotomy n k with hc | hc | hc
        · rw [show (decide (n < k) || !decide (n ≤ k)) = true by simp; omega] at hv
          obtain ⟨t, u, rfl⟩ := ErrN.iface hv
          have e1 : ((n : Int) == (k : Int)) = false := by simp; omega
          rw [show decide (n < k) = true by simpa using hc] at hr
          clear hv
          go_wp2_with fail
          refine (rd_err g bl _ _ _ hr).mono ?_
          rintro e wd ⟨v, rfl, hv, rfl⟩
          obtain ⟨t', u', rfl⟩ := ErrN.iface hv
          have e2 : ¬ (k : Int) ≤ n := by omega
          clear hv hr hc hlt
          go_wp2_with fail
          go_ret
          exact ⟨by first | rfl | (simp; omega), H2.out⟩
        · subst hc
          rw [show (decide (n < n) || !decide (n ≤ n)) = false by simp] at hv
          obtain rfl : v = .nilIface := hv
          rw [show decide (n < n) = false by simp] at hr
          go_wp2_with fail
          refine (rd_err g bl _ _ _ hr).mono ?_
          rintro e wd ⟨v, rfl, hv, rfl⟩
          obtain rfl : v = .nilIface := hv
          clear hr hlt
          go_wp2_with fail
          go_ret
          exact ⟨by first | rfl | (simp; omega), H2.out⟩
        · rw [show (decide (n < k) || !decide (n ≤ k)) = true by simp; omega] at hv
          obtain ⟨t, u, rfl⟩ := ErrN.iface hv
          have e1 : ((n : Int) == (k : Int)) = false := by simp; omega
          rw [show decide (n < k) = false by simp; omega] at hr
          clear hv
          go_wp2_with fail
          refine (rd_err g bl _ _ _ hr).mono ?_
          rintro e wd ⟨v, rfl, hv, rfl⟩
          obtain rfl : v = .nilIface := hv
          have e2 : (k : Int) ≤ n := by omega
          clear hr hc hlt
          go_wp2_with fail
          go_ret
          exact ⟨by first | rfl | (simp; omega), H2.out⟩
end Go.Proofs.YtfhcjpodlclioaaDoor
