/- The walk of WheelAgain. -/
import Derived.Test.YtpfoocndohpbbaaDoorWhFiresW
namespace Go.Proofs.YtpfoocndohpbbaaDoor
open Go Go.RowKit
set_option linter.unusedVariables false
set_option linter.unusedSimpArgs false
def ag (n i p t : Nat) : Ab := if t ≤ n then one1 1 0 i (p + n) (i + 1) (p + t - 1) (i + 1) else none1 1 (p + n) (i + 1)
set_option maxHeartbeats 8000000 in
set_option maxRecDepth 100000 in
theorem wheelAgain_walk (a0 a1 : Int) (w : World) (w0 : (Lit.int .i64 a0).wf = true) (w1 : (Lit.int .i64 a1).wf = true) (hg : HasTy w) :
    Calls Tryd.prog 8 #[.int .i64 a0, .int .i64 a1] w fun e w' => e = .returned (.bool true) ∧ Below w.heap.size w w' := by
  have HG := Lib.hid hg
  clear w0 w1 hg
  by_cases h1 : a0 < 1
  · go_enter Tryd.func8, Tryd.ntmps8
    go_wp2_with fail
    refine (l_small05 _ HG.out).mono ?_
    rintro e wa ⟨rfl, hb⟩
    have HB := Lib.hid hb
    clear hb
    go_wp2_with fail
    refine (l5_new 1 1 (by decide) w wa HB.out).mono ?_
    rintro e wb ⟨g, rfl, h1⟩
    have HB2 := Lib.hid h1.bel
    clear h1 HB
    go_wp2_with fail
    go_ret
    exact ⟨rfl, HB2.out⟩
  by_cases h2 : 5000 < a0
  · go_enter Tryd.func8, Tryd.ntmps8
    go_wp2_with fail
    refine (l_small05 _ HG.out).mono ?_
    rintro e wa ⟨rfl, hb⟩
    have HB := Lib.hid hb
    clear hb
    go_wp2_with fail
    refine (l5_new 1 1 (by decide) w wa HB.out).mono ?_
    rintro e wb ⟨g, rfl, h1⟩
    have HB2 := Lib.hid h1.bel
    clear h1 HB
    go_wp2_with fail
    go_ret
    exact ⟨rfl, HB2.out⟩
  by_cases h3 : a1 < 0
  · go_enter Tryd.func8, Tryd.ntmps8
    go_wp2_with fail
    refine (l_small05 _ HG.out).mono ?_
    rintro e wa ⟨rfl, hb⟩
    have HB := Lib.hid hb
    clear hb
    go_wp2_with fail
    refine (l5_new 1 1 (by decide) w wa HB.out).mono ?_
    rintro e wb ⟨g, rfl, h1⟩
    have HB2 := Lib.hid h1.bel
    clear h1 HB
    go_wp2_with fail
    go_ret
    exact ⟨rfl, HB2.out⟩
  by_cases h4 : 8 < a1
  · go_enter Tryd.func8, Tryd.ntmps8
    go_wp2_with fail
    refine (l_small05 _ HG.out).mono ?_
    rintro e wa ⟨rfl, hb⟩
    have HB := Lib.hid hb
    clear hb
    go_wp2_with fail
    refine (l5_new 1 1 (by decide) w wa HB.out).mono ?_
    rintro e wb ⟨g, rfl, h1⟩
    have HB2 := Lib.hid h1.bel
    clear h1 HB
    go_wp2_with fail
    go_ret
    exact ⟨rfl, HB2.out⟩
  obtain ⟨n, rfl⟩ : ∃ n : Nat, a0 = (n : Int) := ⟨a0.toNat, by omega⟩
  obtain ⟨K, rfl⟩ : ∃ K : Nat, a1 = (K : Int) := ⟨a1.toNat, by omega⟩
  have HN := Lib.hid (show 1 ≤ n ∧ n ≤ 5000 ∧ K ≤ 8 by omega)
  go_enter Tryd.func8, Tryd.ntmps8
  go_wp2_with fail
  refine (l_small05 _ HG.out).mono ?_
  rintro e wa ⟨rfl, hb⟩
  have HB := Lib.hid hb
  clear hb
  go_wp2_with fail
  refine (l5_new 1 1 (by decide) w wa HB.out).mono ?_
  rintro e wb ⟨g, rfl, h1⟩
  have H1 := Lib.hid h1
  clear h1 HB
  go_wp2_with fail
  go_loopw [7] (fun s7 wr => ∃ i : Nat, i ≤ K ∧ s7 = .int .i64 i ∧ WL5 w g (none1 1 (i * n) i) (fun _ => False) wr) (fun s7 _ => K - (intOf s7).toNat)
  case atStart => exact ⟨0, Nat.zero_le _, rfl, by rw [Nat.zero_mul]; exact H1.out⟩
  case round =>
    obtain ⟨i, hi, rfl, hw⟩ := hrel
    by_cases hlt : i < K
    · have hlt' : (i : Int) < K := by omega
      have HI := Lib.hid hlt
      obtain ⟨p, hp⟩ : ∃ p, p = i * n := ⟨_, rfl⟩
      rw [← hp] at hw
      have hpb : p ≤ 40000 := by rw [hp]; exact Nat.le_trans (Nat.mul_le_mul (show i ≤ 8 by have := HN.out; omega) HN.out.2.1) (by decide)
      have HP := Lib.hid (show (i + 1) * n = p + n by rw [hp, Nat.succ_mul])
      have HPB := Lib.hid hpb
      have HW := Lib.hid hw
      clear hw hlt hi hp hpb H1
      go_wp2_with fail
      refine (l5_armed HW.out (by have := HPB.out; show p ≤ _; omega) (by have := HN.out; have := HI.out; show i ≤ _; omega) n i (by have := HN.out; omega) (by have := HN.out; omega) (by show 0 < 1; omega) 0 (none1_fst _ _ _)).mono ?_
      rintro e wc ⟨rfl, h2, _⟩
      rw [none1_arm 1 p i 0 i n (p + n) (i + 1) rfl rfl] at h2
      have H2 := Lib.hid h2
      clear h2 HW
      go_wp2_with fail
      go_loopw [10] (fun s10 wr => ∃ t : Nat, 1 ≤ t ∧ t ≤ n + 1 ∧ s10 = .int .i64 t ∧ WL5 w g (ag n i p t) (fun _ => False) wr) (fun s10 _ => n + 1 - (intOf s10).toNat)
      case atStart => exact ⟨1, by omega, by omega, rfl, by have := H2.out; unfold ag; rw [if_pos (by have := HN.out; omega), show p + 1 - 1 = p by omega]; exact this⟩
      case round =>
        obtain ⟨t, ht1, ht, rfl, hw⟩ := hrel
        have HT := Lib.hid (show 1 ≤ t ∧ t ≤ n + 1 from ⟨ht1, ht⟩)
        rcases Nat.lt_trichotomy t n with hlt | heq | hgt
        · have hl1 : (t : Int) ≤ n := by omega
          have hl2 : ¬ (t : Int) = n := by omega
          have hag : ag n i p t = one1 1 0 i (p + n) (i + 1) (p + t - 1) (i + 1) := if_pos (by omega)
          have hag2 : ag n i p (t + 1) = one1 1 0 i (p + n) (i + 1) (p + (t + 1) - 1) (i + 1) := if_pos (by omega)
          rw [hag] at hw
          have HA := Lib.hid hag2
          have HW := Lib.hid hw
          have HL := Lib.hid hlt
          clear hw hlt ht1 ht hag hag2 H2
          go_wp2_with fail
          refine (l5_fire HW.out (by have := HN.out; have := HPB.out; have := HL.out; show p + t - 1 ≤ _; omega) (by have := HN.out; have := HI.out; show i + 1 ≤ _; omega) [] (one1_not _ _ _ _ _ _ _ (by have := HL.out; have := HT.out; omega)) _ (one1_tick _ _ _ _ _ _ _ (p + (t + 1) - 1) (by have := HL.out; have := HT.out; omega) (by have := HT.out; omega)) 0 rfl (by omega)).mono ?_
          rintro e we ⟨Ac, cc, rfl, _, h2, _⟩
          have H4 := Lib.hid h2
          clear h2 HW
          go_wp2_with fail
          exact ⟨⟨t + 1, by omega, by have := HL.out; omega, by go_num, by rw [HA.out]; exact H4.out⟩, by have := HL.out; simp [intOf]; omega⟩
        · subst heq
          have hag : ag t i p t = one1 1 0 i (p + t) (i + 1) (p + t - 1) (i + 1) := if_pos (by omega)
          have hag2 : ag t i p (t + 1) = none1 1 (p + t) (i + 1) := if_neg (by omega)
          rw [hag] at hw
          have HA := Lib.hid hag2
          have HW := Lib.hid hw
          clear hw ht1 ht hag hag2 H2
          go_wp2_with fail
          refine (l5_fire HW.out (by have := HN.out; have := HPB.out; show p + t - 1 ≤ _; omega) (by have := HN.out; have := HI.out; show i + 1 ≤ _; omega) [(i : Int)] (one1_due _ _ _ _ _ _ _ (by have := HT.out; omega)) _ (one1_last _ _ _ _ _ _ _ (by have := HT.out; omega)) 1 rfl (by omega)).mono ?_
          rintro e we ⟨Ac, cc, rfl, hre, h2, _⟩
          obtain ⟨b, off, rfl, hbl, _⟩ := hre.cells (by omega)
          have q0 := hre.elem ki_len 0 (by simp) 0 _ rfl
          rw [show off + 0 * 1 + 0 = off by omega] at q0
          simp only [List.getElem_cons_zero] at q0
          have H4 := Lib.hid h2
          clear h2 HW hre
          go_wp2_with fail
          exact ⟨⟨t + 1, by omega, by omega, by go_num, by rw [HA.out]; exact H4.out⟩, by simp [intOf]⟩
        · obtain rfl : t = n + 1 := by omega
          have hl1 : ¬ ((n + 1 : Nat) : Int) ≤ n := by omega
          have hag : ag n i p (n + 1) = none1 1 (p + n) (i + 1) := if_neg (by omega)
          rw [hag] at hw
          have HW := Lib.hid hw
          clear hw hgt ht1 ht hag H2
          go_wp2_with fail
          refine ⟨⟨i + 1, by have := HI.out; omega, by go_num, by rw [HP.out]; exact HW.out⟩, by have := HI.out; simp [intOf]; omega⟩
    · obtain rfl : i = K := by omega
      have HW := Lib.hid hw
      clear hw hlt hi H1
      go_wp2_with fail
      refine (l5_free HW.out).mono ?_
      rintro e wf ⟨rfl, h2, _⟩
      have H2 := Lib.hid h2.bel
      rw [show (((none1 1 (i * n) i).P - (none1 1 (i * n) i).L.length : Nat) : Int) = 1 from rfl]
      clear h2 HW
      go_wp2_with fail
      go_ret
      exact ⟨rfl, H2.out⟩
end Go.Proofs.YtpfoocndohpbbaaDoor
