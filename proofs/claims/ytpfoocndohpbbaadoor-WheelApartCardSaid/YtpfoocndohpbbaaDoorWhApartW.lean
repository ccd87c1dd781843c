/- The walk of WheelApart. -/
import Derived.Test.YtpfoocndohpbbaaDoorWhFiresW
namespace Go.Proofs.YtpfoocndohpbbaaDoor
open Go Go.RowKit
set_option linter.unusedVariables false
set_option linter.unusedSimpArgs false
def apS (n m : Nat) (x y : Bool) (now : Nat) : Ab := ⟨2, (if x = true then [⟨0, 1, n, 1⟩] else []) ++ (if y = true then [⟨1, 2, m, 2⟩] else []), now, 2⟩
theorem ap_has (n m : Nat) (y : Bool) (now : Nat) : abHas (apS n m true y now) 0 = true := by cases y <;> simp [abHas, apS]
theorem ap_drop (n m : Nat) (y : Bool) (now : Nat) : abDrop (apS n m true y now) 0 = apS n m false y now := by cases y <;> simp [abDrop, apS]
theorem ap_no (n m : Nat) (x y : Bool) (now : Nat) (hx : x = true → n ≠ now + 1) (hy : y = true → m ≠ now + 1) : (abDue (apS n m x y now)).map (·.tag) = [] := by
  cases x <;> cases y <;> simp_all [abDue, apS]
theorem ap_noT (n m : Nat) (x y : Bool) (now k : Nat) (hx : x = true → n ≠ now + 1) (hy : y = true → m ≠ now + 1) (hk : now + 1 = k) : abTick (apS n m x y now) = apS n m x y k := by
  subst hk
  cases x <;> cases y <;> simp_all [abTick, apS]
theorem ap_hit (n m : Nat) (x : Bool) (now : Nat) (hx : x = true → n ≠ now + 1) (hy : m = now + 1) : (abDue (apS n m x true now)).map (·.tag) = [2] := by
  cases x <;> simp_all [abDue, apS]
theorem ap_hitT (n m : Nat) (x : Bool) (now k : Nat) (hx : x = true → n ≠ now + 1) (hy : m = now + 1) (hk : now + 1 = k) : abTick (apS n m x true now) = apS n m x false k := by
  subst hk
  cases x <;> simp_all [abTick, apS]
theorem ap_arm (n m : Nat) : abArm (one1 2 0 1 n 1 0 1) 1 2 m = apS n m true true 0 := by simp [abArm, one1, apS]
theorem ap_fst (P : Nat) (tag : Int) (at_ ord now cnt : Nat) : ∀ j, abFst (one1 2 0 tag at_ ord now cnt) j → j = 1 := by
  rintro j ⟨h1, h2, _⟩
  have h3 : (0 : Nat) ≠ j := h2 ⟨0, tag, at_, ord⟩ (by simp [one1])
  have h4 : j < 2 := h1
  omega
set_option maxHeartbeats 8000000 in
set_option maxRecDepth 100000 in
theorem wheelApart_walk (a0 a1 a2 : Int) (w : World) (w0 : (Lit.int .i64 a0).wf = true) (w1 : (Lit.int .i64 a1).wf = true) (w2 : (Lit.int .i64 a2).wf = true) (hg : HasTy w) :
    Calls Tryd.prog 7 #[.int .i64 a0, .int .i64 a1, .int .i64 a2] w fun e w' => e = .returned (.bool true) ∧ Below w.heap.size w w' := by
  have HG := Lib.hid hg
  clear w0 w1 w2 hg
  by_cases h1 : a0 < 1
  · go_enter Tryd.func7, Tryd.ntmps7
    go_wp2_with fail
    refine (l_small05 _ HG.out).mono ?_
    rintro e wa ⟨rfl, hb⟩
    have HB := Lib.hid hb
    clear hb
    go_wp2_with fail
    refine (l5_new 2 2 (by decide) w wa HB.out).mono ?_
    rintro e wb ⟨g, rfl, h1⟩
    have HB2 := Lib.hid h1.bel
    clear h1 HB
    go_wp2_with fail
    go_ret
    exact ⟨rfl, HB2.out⟩
  by_cases h2 : 20000 < a0
  · go_enter Tryd.func7, Tryd.ntmps7
    go_wp2_with fail
    refine (l_small05 _ HG.out).mono ?_
    rintro e wa ⟨rfl, hb⟩
    have HB := Lib.hid hb
    clear hb
    go_wp2_with fail
    refine (l5_new 2 2 (by decide) w wa HB.out).mono ?_
    rintro e wb ⟨g, rfl, h1⟩
    have HB2 := Lib.hid h1.bel
    clear h1 HB
    go_wp2_with fail
    go_ret
    exact ⟨rfl, HB2.out⟩
  by_cases h3 : a1 < 1
  · go_enter Tryd.func7, Tryd.ntmps7
    go_wp2_with fail
    refine (l_small05 _ HG.out).mono ?_
    rintro e wa ⟨rfl, hb⟩
    have HB := Lib.hid hb
    clear hb
    go_wp2_with fail
    refine (l5_new 2 2 (by decide) w wa HB.out).mono ?_
    rintro e wb ⟨g, rfl, h1⟩
    have HB2 := Lib.hid h1.bel
    clear h1 HB
    go_wp2_with fail
    go_ret
    exact ⟨rfl, HB2.out⟩
  by_cases h4 : 20000 < a1
  · go_enter Tryd.func7, Tryd.ntmps7
    go_wp2_with fail
    refine (l_small05 _ HG.out).mono ?_
    rintro e wa ⟨rfl, hb⟩
    have HB := Lib.hid hb
    clear hb
    go_wp2_with fail
    refine (l5_new 2 2 (by decide) w wa HB.out).mono ?_
    rintro e wb ⟨g, rfl, h1⟩
    have HB2 := Lib.hid h1.bel
    clear h1 HB
    go_wp2_with fail
    go_ret
    exact ⟨rfl, HB2.out⟩
  by_cases h5 : a2 < 0
  · go_enter Tryd.func7, Tryd.ntmps7
    go_wp2_with fail
    refine (l_small05 _ HG.out).mono ?_
    rintro e wa ⟨rfl, hb⟩
    have HB := Lib.hid hb
    clear hb
    go_wp2_with fail
    refine (l5_new 2 2 (by decide) w wa HB.out).mono ?_
    rintro e wb ⟨g, rfl, h1⟩
    have HB2 := Lib.hid h1.bel
    clear h1 HB
    go_wp2_with fail
    go_ret
    exact ⟨rfl, HB2.out⟩
  by_cases h6 : a0 ≤ a2
  · go_enter Tryd.func7, Tryd.ntmps7
    go_wp2_with fail
    refine (l_small05 _ HG.out).mono ?_
    rintro e wa ⟨rfl, hb⟩
    have HB := Lib.hid hb
    clear hb
    go_wp2_with fail
    refine (l5_new 2 2 (by decide) w wa HB.out).mono ?_
    rintro e wb ⟨g, rfl, h1⟩
    have HB2 := Lib.hid h1.bel
    clear h1 HB
    go_wp2_with fail
    go_ret
    exact ⟨rfl, HB2.out⟩
  obtain ⟨n, rfl⟩ : ∃ n : Nat, a0 = (n : Int) := ⟨a0.toNat, by omega⟩
  obtain ⟨m, rfl⟩ : ∃ m : Nat, a1 = (m : Int) := ⟨a1.toNat, by omega⟩
  obtain ⟨c, rfl⟩ : ∃ c : Nat, a2 = (c : Int) := ⟨a2.toNat, by omega⟩
  have HN := Lib.hid (show 1 ≤ n ∧ n ≤ 20000 ∧ 1 ≤ m ∧ m ≤ 20000 ∧ c < n by omega)
  go_enter Tryd.func7, Tryd.ntmps7
  go_wp2_with fail
  refine (l_small05 _ HG.out).mono ?_
  rintro e wa ⟨rfl, hb⟩
  have HB := Lib.hid hb
  clear hb
  go_wp2_with fail
  refine (l5_new 2 2 (by decide) w wa HB.out).mono ?_
  rintro e wb ⟨g, rfl, h1⟩
  have H1 := Lib.hid h1
  clear h1 HB
  go_wp2_with fail
  refine (l5_armed H1.out (by show 0 ≤ _; omega) (by show 0 ≤ _; omega) n 1 (by have := HN.out; omega) (by have := HN.out; omega) (by show 0 < 2; omega) 0 (none1_fst 2 0 0)).mono ?_
  rintro e wc ⟨rfl, h9, _⟩
  rw [show abNew 2 = none1 2 0 0 from rfl, none1_arm 2 0 0 0 1 n n 1 (by omega) rfl] at h9
  have H2 := Lib.hid h9
  clear h9 H1
  go_wp2_with fail
  refine (l5_armed H2.out (by show 0 ≤ _; omega) (by show 1 ≤ _; omega) m 2 (by have := HN.out; omega) (by have := HN.out; omega) (by show 1 < 2; omega) 1 (ap_fst 2 _ _ _ _ _)).mono ?_
  rintro e wd ⟨rfl, h9, _⟩
  rw [ap_arm] at h9
  have H3 := Lib.hid h9
  clear h9 H2
  go_wp2_with fail
  go_loopw [13] (fun s13 wr => ∃ t : Nat, 1 ≤ t ∧ t ≤ 20001 ∧ s13 = .int .i64 t ∧ WL5 w g (apS n m (decide (t ≤ c + 1)) (decide (t ≤ m)) (t - 1)) (fun _ => False) wr) (fun s13 _ => 20001 - (intOf s13).toNat)
  case atStart => exact ⟨1, by omega, by omega, rfl, by rw [decide_eq_true (show 1 ≤ c + 1 by omega), decide_eq_true (show 1 ≤ m by have := HN.out; omega)]; exact H3.out⟩
  case round =>
    obtain ⟨t, ht1, ht, rfl, hw⟩ := hrel
    have HW := Lib.hid hw
    by_cases hend : t = 20001
    · have hl1 : ¬ (t : Int) ≤ 20000 := by omega
      have hx : decide (t ≤ c + 1) = false := decide_eq_false (by have := HN.out; omega)
      have hy : decide (t ≤ m) = false := decide_eq_false (by have := HN.out; omega)
      rw [hx, hy] at HW
      clear hw hx hy H3
      go_wp2_with fail
      refine (l5_free HW.out).mono ?_
      rintro e wf ⟨rfl, h9, _⟩
      have H2 := Lib.hid h9.bel
      rw [show (((apS n m false false (t - 1)).P - (apS n m false false (t - 1)).L.length : Nat) : Int) = 2 from rfl]
      clear h9 HW
      go_wp2_with fail
      go_ret
      exact ⟨rfl, H2.out⟩
    · have hl1 : (t : Int) ≤ 20000 := by omega
      have HT := Lib.hid (show 1 ≤ t ∧ t ≤ 20000 by omega)
      rcases Nat.lt_trichotomy t (c + 1) with hlt | heq | hgt
      · have hq : ((t : Int) == (c : Int) + 1) = false := by simp; omega
        have HX := Lib.hid (show decide (t + 1 ≤ c + 1) = true from decide_eq_true (by omega))
        have HC := Lib.hid (show t ≤ c by omega)
        rw [decide_eq_true (show t ≤ c + 1 by omega)] at HW
        clear hw hlt ht1 ht hend H3
        go_wp2_with fail
        by_cases heq : t = m
        · have hq2 : ((t : Int) == (m : Int)) = true := by simp [heq]
          have HQ := Lib.hid heq
          have hy : decide (t ≤ m) = true := decide_eq_true (by omega)
          have hy2 : decide (t + 1 ≤ m) = false := decide_eq_false (by omega)
          rw [hy] at HW
          have HY2 := Lib.hid hy2
          clear heq hy hy2
          refine (l5_fire HW.out (by show t - 1 ≤ _; omega) (by show 2 ≤ _; omega) [2] (ap_hit n m true (t - 1) (fun _ => by have := HN.out; have := HC.out; have := HT.out; omega) (by have := HQ.out; have := HT.out; omega)) _ (ap_hitT n m true (t - 1) t (fun _ => by have := HN.out; have := HC.out; have := HT.out; omega) (by have := HQ.out; have := HT.out; omega) (by have := HT.out; omega)) 1 rfl (by omega)).mono ?_
          rintro e we ⟨Ac, cc, rfl, hre, h2, _⟩
          obtain ⟨b, off, rfl, hbl, _⟩ := hre.cells (by omega)
          have q0 := hre.elem ki_len 0 (by simp) 0 _ rfl
          rw [show off + 0 * 1 + 0 = off by omega] at q0
          simp only [List.getElem_cons_zero] at q0
          have H4 := Lib.hid h2
          clear h2 HW hre
          go_wp2_with fail
          exact ⟨⟨t + 1, by omega, by have := HT.out; omega, by go_num, by rw [HX.out, HY2.out]; exact H4.out⟩, by have := HT.out; simp [intOf]; omega⟩
        · have hq2 : ((t : Int) == (m : Int)) = false := by simp; omega
          have HQ := Lib.hid heq
          have hy2 : decide (t + 1 ≤ m) = decide (t ≤ m) := by rw [decide_eq_decide]; omega
          have HY2 := Lib.hid hy2
          clear heq hy2
          refine (l5_fire HW.out (by show t - 1 ≤ _; omega) (by show 2 ≤ _; omega) [] (ap_no n m true (decide (t ≤ m)) (t - 1) (fun _ => by have := HN.out; have := HC.out; have := HT.out; omega) (fun h => by have := HQ.out; have := HT.out; omega)) _ (ap_noT n m true (decide (t ≤ m)) (t - 1) t (fun _ => by have := HN.out; have := HC.out; have := HT.out; omega) (fun h => by have := HQ.out; have := HT.out; omega) (by have := HT.out; omega)) 0 rfl (by omega)).mono ?_
          rintro e we ⟨Ac, cc, rfl, _, h2, _⟩
          have H4 := Lib.hid h2
          clear h2 HW
          go_wp2_with fail
          exact ⟨⟨t + 1, by omega, by have := HT.out; omega, by go_num, by rw [HX.out, HY2.out]; exact H4.out⟩, by have := HT.out; simp [intOf]; omega⟩
      · have hq : ((t : Int) == (c : Int) + 1) = true := by simp; omega
        have HX := Lib.hid (show decide (t + 1 ≤ c + 1) = false from decide_eq_false (by omega))
        rw [decide_eq_true (show t ≤ c + 1 by omega)] at HW
        clear hw heq ht1 ht hend H3
        go_wp2_with fail
        refine (l5_cancel HW.out (by show t - 1 ≤ _; omega) 0).mono ?_
        rintro e wk ⟨rfl, h9, _⟩
        rw [ap_has]
        rw [ap_drop] at h9
        replace HW := Lib.hid h9
        clear h9
        go_wp2_with fail
        by_cases heq : t = m
        · have hq2 : ((t : Int) == (m : Int)) = true := by simp [heq]
          have HQ := Lib.hid heq
          have hy : decide (t ≤ m) = true := decide_eq_true (by omega)
          have hy2 : decide (t + 1 ≤ m) = false := decide_eq_false (by omega)
          rw [hy] at HW
          have HY2 := Lib.hid hy2
          clear heq hy hy2
          refine (l5_fire HW.out (by show t - 1 ≤ _; omega) (by show 2 ≤ _; omega) [2] (ap_hit n m false (t - 1) (fun h => by cases h) (by have := HQ.out; have := HT.out; omega)) _ (ap_hitT n m false (t - 1) t (fun h => by cases h) (by have := HQ.out; have := HT.out; omega) (by have := HT.out; omega)) 1 rfl (by omega)).mono ?_
          rintro e we ⟨Ac, cc, rfl, hre, h2, _⟩
          obtain ⟨b, off, rfl, hbl, _⟩ := hre.cells (by omega)
          have q0 := hre.elem ki_len 0 (by simp) 0 _ rfl
          rw [show off + 0 * 1 + 0 = off by omega] at q0
          simp only [List.getElem_cons_zero] at q0
          have H4 := Lib.hid h2
          clear h2 HW hre
          go_wp2_with fail
          exact ⟨⟨t + 1, by omega, by have := HT.out; omega, by go_num, by rw [HX.out, HY2.out]; exact H4.out⟩, by have := HT.out; simp [intOf]; omega⟩
        · have hq2 : ((t : Int) == (m : Int)) = false := by simp; omega
          have HQ := Lib.hid heq
          have hy2 : decide (t + 1 ≤ m) = decide (t ≤ m) := by rw [decide_eq_decide]; omega
          have HY2 := Lib.hid hy2
          clear heq hy2
          refine (l5_fire HW.out (by show t - 1 ≤ _; omega) (by show 2 ≤ _; omega) [] (ap_no n m false (decide (t ≤ m)) (t - 1) (fun h => by cases h) (fun h => by have := HQ.out; have := HT.out; omega)) _ (ap_noT n m false (decide (t ≤ m)) (t - 1) t (fun h => by cases h) (fun h => by have := HQ.out; have := HT.out; omega) (by have := HT.out; omega)) 0 rfl (by omega)).mono ?_
          rintro e we ⟨Ac, cc, rfl, _, h2, _⟩
          have H4 := Lib.hid h2
          clear h2 HW
          go_wp2_with fail
          exact ⟨⟨t + 1, by omega, by have := HT.out; omega, by go_num, by rw [HX.out, HY2.out]; exact H4.out⟩, by have := HT.out; simp [intOf]; omega⟩
      · have hq : ((t : Int) == (c : Int) + 1) = false := by simp; omega
        have HX := Lib.hid (show decide (t + 1 ≤ c + 1) = false from decide_eq_false (by omega))
        rw [decide_eq_false (show ¬ t ≤ c + 1 by omega)] at HW
        clear hw hgt ht1 ht hend H3
        go_wp2_with fail
        by_cases heq : t = m
        · have hq2 : ((t : Int) == (m : Int)) = true := by simp [heq]
          have HQ := Lib.hid heq
          have hy : decide (t ≤ m) = true := decide_eq_true (by omega)
          have hy2 : decide (t + 1 ≤ m) = false := decide_eq_false (by omega)
          rw [hy] at HW
          have HY2 := Lib.hid hy2
          clear heq hy hy2
          refine (l5_fire HW.out (by show t - 1 ≤ _; omega) (by show 2 ≤ _; omega) [2] (ap_hit n m false (t - 1) (fun h => by cases h) (by have := HQ.out; have := HT.out; omega)) _ (ap_hitT n m false (t - 1) t (fun h => by cases h) (by have := HQ.out; have := HT.out; omega) (by have := HT.out; omega)) 1 rfl (by omega)).mono ?_
          rintro e we ⟨Ac, cc, rfl, hre, h2, _⟩
          obtain ⟨b, off, rfl, hbl, _⟩ := hre.cells (by omega)
          have q0 := hre.elem ki_len 0 (by simp) 0 _ rfl
          rw [show off + 0 * 1 + 0 = off by omega] at q0
          simp only [List.getElem_cons_zero] at q0
          have H4 := Lib.hid h2
          clear h2 HW hre
          go_wp2_with fail
          exact ⟨⟨t + 1, by omega, by have := HT.out; omega, by go_num, by rw [HX.out, HY2.out]; exact H4.out⟩, by have := HT.out; simp [intOf]; omega⟩
        · have hq2 : ((t : Int) == (m : Int)) = false := by simp; omega
          have HQ := Lib.hid heq
          have hy2 : decide (t + 1 ≤ m) = decide (t ≤ m) := by rw [decide_eq_decide]; omega
          have HY2 := Lib.hid hy2
          clear heq hy2
          refine (l5_fire HW.out (by show t - 1 ≤ _; omega) (by show 2 ≤ _; omega) [] (ap_no n m false (decide (t ≤ m)) (t - 1) (fun h => by cases h) (fun h => by have := HQ.out; have := HT.out; omega)) _ (ap_noT n m false (decide (t ≤ m)) (t - 1) t (fun h => by cases h) (fun h => by have := HQ.out; have := HT.out; omega) (by have := HT.out; omega)) 0 rfl (by omega)).mono ?_
          rintro e we ⟨Ac, cc, rfl, _, h2, _⟩
          have H4 := Lib.hid h2
          clear h2 HW
          go_wp2_with fail
          exact ⟨⟨t + 1, by omega, by have := HT.out; omega, by go_num, by rw [HX.out, HY2.out]; exact H4.out⟩, by have := HT.out; simp [intOf]; omega⟩
end Go.Proofs.YtpfoocndohpbbaaDoor
