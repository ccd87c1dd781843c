/- The walk of WheelFires. -/
import Derived.Test.YtpfoocndohpbbaaDoorWhSm
namespace Go.Proofs.YtpfoocndohpbbaaDoor
open Go Go.RowKit
set_option linter.unusedVariables false
set_option linter.unusedSimpArgs false
theorem WL5.sub {w wr : World} {g : Nat} {a : Ab} {X Y : Nat → Prop} (h : WL5 w g a X wr) (hy : ∀ b, Y b → X b) : WL5 w g a Y wr := by
  obtain ⟨⟨F, h1, h2⟩, h3, h4⟩ := h
  exact ⟨⟨F, h1, fun b hb => ⟨(h2 b hb).1, fun h => (h2 b hb).2 (hy b h)⟩⟩, h3, fun b h => h4 b (hy b h)⟩
/-- A Tick whose row is only read. -/
theorem l5_fire {w0 w : World} {g : Nat} {a : Ab} {X : Nat → Prop} (h : WL5 w0 g a X w) (hn : a.now ≤ 900000000) (hc : a.cnt ≤ 900000000) (ts : List Int) (hd : (abDue a).map (·.tag) = ts) (a' : Ab) (ha : abTick a = a') (m : Nat) (hm : ts.length = m) (hm2 : m ≤ 64) :
    Calls Tryd.prog 17 #[.pointer (some ⟨g, 0, none⟩)] w fun e w' => ∃ A c, e = .returned (.slice A m c) ∧ RE ki w' A m c ts ∧ WL5 w0 g a' X w' ∧ KX X w w' := by
  refine (l5_tick h hn hc).mono ?_
  rintro e w' ⟨⟨v, rfl, hown, hw, _⟩, hk⟩
  rw [hd] at hown
  obtain ⟨A, c, rfl, hre, _⟩ := hown.re (by omega)
  rw [hm] at hre ⊢
  rw [ha] at hw
  exact ⟨A, c, rfl, hre, hw.sub (fun b h => .inl h), hk⟩
def one1 (P k : Nat) (tag : Int) (at_ ord now cnt : Nat) : Ab := ⟨P, [⟨k, tag, at_, ord⟩], now, cnt⟩
def none1 (P now cnt : Nat) : Ab := ⟨P, [], now, cnt⟩
theorem one1_due (P k : Nat) (tag : Int) (at_ ord now cnt : Nat) (h : at_ = now + 1) : (abDue (one1 P k tag at_ ord now cnt)).map (·.tag) = [tag] := by
  unfold abDue one1
  simp [h]
theorem one1_not (P k : Nat) (tag : Int) (at_ ord now cnt : Nat) (h : at_ ≠ now + 1) : (abDue (one1 P k tag at_ ord now cnt)).map (·.tag) = [] := by
  unfold abDue one1
  simp [h]
theorem one1_tick (P k : Nat) (tag : Int) (at_ ord now cnt n : Nat) (h : at_ ≠ now + 1) (hn : now + 1 = n) : abTick (one1 P k tag at_ ord now cnt) = one1 P k tag at_ ord n cnt := by
  subst hn
  unfold abTick one1
  simp [h]
theorem one1_last (P k : Nat) (tag : Int) (at_ ord now cnt : Nat) (h : at_ = now + 1) : abTick (one1 P k tag at_ ord now cnt) = none1 P at_ cnt := by
  unfold abTick one1 none1
  simp [h]
theorem one1_left (P k : Nat) (tag : Int) (at_ ord now cnt : Nat) : abLeft (one1 P k tag at_ ord now cnt) k = (at_ : Int) - now := by
  unfold abLeft abAt one1
  simp
theorem one1_left0 (P : Nat) (tag : Int) (at_ ord now cnt : Nat) : abLeft (one1 P 0 tag at_ ord now cnt) 0 = (at_ : Int) - now := one1_left P 0 tag at_ ord now cnt
theorem none1_left (P now cnt : Nat) (k : Int) : abLeft (none1 P now cnt) k = 0 := rfl
theorem none1_due (P now cnt : Nat) : (abDue (none1 P now cnt)).map (·.tag) = [] := rfl
theorem none1_tick (P now cnt n : Nat) (hn : now + 1 = n) : abTick (none1 P now cnt) = none1 P n cnt := by subst hn; rfl
theorem none1_arm (P now cnt k : Nat) (tag : Int) (m at_ c : Nat) (h : now + m = at_) (hc : cnt + 1 = c) : abArm (none1 P now cnt) k tag m = one1 P k tag at_ c now c := by subst h hc; rfl
theorem none1_fst (P now cnt : Nat) : ∀ j, abFst (none1 P now cnt) j → j = 0 := by
  rintro j ⟨_, _, h⟩
  rcases Nat.eq_zero_or_pos j with h0 | h0
  · exact h0
  · obtain ⟨e, he, _⟩ := h 0 h0
    cases he
set_option maxHeartbeats 8000000 in
set_option maxRecDepth 100000 in
theorem wheelFires_walk (a0 a1 a2 : Int) (w : World) (w0 : (Lit.int .i64 a0).wf = true) (w1 : (Lit.int .i64 a1).wf = true) (w2 : (Lit.int .i64 a2).wf = true) (hg : HasTy w) :
    Calls Tryd.prog 4 #[.int .i64 a0, .int .i64 a1, .int .i64 a2] w fun e w' => e = .returned (.bool true) ∧ Below w.heap.size w w' := by
  have HG := Lib.hid hg
  clear w0 w1 w2 hg
  by_cases h1 : a0 < 0
  · go_enter Tryd.func4, Tryd.ntmps4
    go_wp2_with fail
    refine (l_small05 _ HG.out).mono ?_
    rintro e wa ⟨rfl, hb⟩
    have HB := Lib.hid hb
    clear hb
    go_wp2_with fail
    refine (l5_new 3 3 (by decide) w wa HB.out).mono ?_
    rintro e wb ⟨g, rfl, h1⟩
    have HB2 := Lib.hid h1.bel
    clear h1 HB
    go_wp2_with fail
    go_ret
    exact ⟨rfl, HB2.out⟩
  by_cases h2 : 100000 < a0
  · go_enter Tryd.func4, Tryd.ntmps4
    go_wp2_with fail
    refine (l_small05 _ HG.out).mono ?_
    rintro e wa ⟨rfl, hb⟩
    have HB := Lib.hid hb
    clear hb
    go_wp2_with fail
    refine (l5_new 3 3 (by decide) w wa HB.out).mono ?_
    rintro e wb ⟨g, rfl, h1⟩
    have HB2 := Lib.hid h1.bel
    clear h1 HB
    go_wp2_with fail
    go_ret
    exact ⟨rfl, HB2.out⟩
  by_cases h3 : a1 < 1
  · go_enter Tryd.func4, Tryd.ntmps4
    go_wp2_with fail
    refine (l_small05 _ HG.out).mono ?_
    rintro e wa ⟨rfl, hb⟩
    have HB := Lib.hid hb
    clear hb
    go_wp2_with fail
    refine (l5_new 3 3 (by decide) w wa HB.out).mono ?_
    rintro e wb ⟨g, rfl, h1⟩
    have HB2 := Lib.hid h1.bel
    clear h1 HB
    go_wp2_with fail
    go_ret
    exact ⟨rfl, HB2.out⟩
  by_cases h4 : 300000 < a1
  · go_enter Tryd.func4, Tryd.ntmps4
    go_wp2_with fail
    refine (l_small05 _ HG.out).mono ?_
    rintro e wa ⟨rfl, hb⟩
    have HB := Lib.hid hb
    clear hb
    go_wp2_with fail
    refine (l5_new 3 3 (by decide) w wa HB.out).mono ?_
    rintro e wb ⟨g, rfl, h1⟩
    have HB2 := Lib.hid h1.bel
    clear h1 HB
    go_wp2_with fail
    go_ret
    exact ⟨rfl, HB2.out⟩
  obtain ⟨A, rfl⟩ : ∃ A : Nat, a0 = (A : Int) := ⟨a0.toNat, by omega⟩
  obtain ⟨N, rfl⟩ : ∃ N : Nat, a1 = (N : Int) := ⟨a1.toNat, by omega⟩
  have HN := Lib.hid (show A ≤ 100000 ∧ 1 ≤ N ∧ N ≤ 300000 by omega)
  go_enter Tryd.func4, Tryd.ntmps4
  go_wp2_with fail
  refine (l_small05 _ HG.out).mono ?_
  rintro e wa ⟨rfl, hb⟩
  have HB := Lib.hid hb
  clear hb
  go_wp2_with fail
  refine (l5_new 3 3 (by decide) w wa HB.out).mono ?_
  rintro e wb ⟨g, rfl, h1⟩
  have H1 := Lib.hid h1
  clear h1 HB
  go_wp2_with fail
  go_loopw [9] (fun s9 wr => ∃ i : Nat, i ≤ A ∧ s9 = .int .i64 i ∧ WL5 w g (none1 3 i 0) (fun _ => False) wr) (fun s9 _ => A - (intOf s9).toNat)
  case atStart => exact ⟨0, Nat.zero_le _, rfl, H1.out⟩
  case round =>
    obtain ⟨i, hi, rfl, hw⟩ := hrel
    have HW := Lib.hid hw
    by_cases hlt : i < A
    · have hlt' : (i : Int) < A := by omega
      have HI := Lib.hid hlt
      clear hw hlt hi
      go_wp2_with fail
      refine (l5_fire HW.out (by have := HN.out; have := HI.out; show i ≤ _; omega) (by show 0 ≤ _; omega) [] (none1_due _ _ _) _ (none1_tick _ _ _ (i + 1) rfl) 0 rfl (by omega)).mono ?_
      rintro e wc ⟨Ac, cc, rfl, _, h2, _⟩
      have H2 := Lib.hid h2
      clear h2 HW
      go_wp2_with fail
      exact ⟨⟨i + 1, by have := HI.out; omega, by go_num, H2.out⟩, by have := HI.out; simp [intOf]; omega⟩
    · obtain rfl : i = A := by omega
      clear hw hlt hi
      go_wp2_with fail
      refine (l5_armed HW.out (by have := HN.out; show i ≤ _; omega) (by show 0 ≤ _; omega) N a2 (by have := HN.out; omega) (by have := HN.out; omega) (by show 0 < 3; omega) 0 (none1_fst _ _ _)).mono ?_
      rintro e wc ⟨rfl, h2, _⟩
      rw [none1_arm 3 i 0 0 a2 N (i + N) 1 rfl rfl] at h2
      have H2 := Lib.hid h2
      clear h2 HW
      go_wp2_with fail
      go_loopw [12] (fun s12 wr => ∃ j : Nat, 1 ≤ j ∧ j ≤ N ∧ s12 = .int .i64 j ∧ WL5 w g (one1 3 0 a2 (i + N) 1 (i + j - 1) 1) (fun _ => False) wr) (fun s12 _ => N - (intOf s12).toNat)
      case atStart => exact ⟨1, by omega, by have := HN.out; omega, rfl, by have := H2.out; rwa [show i + 1 - 1 = i by omega]⟩
      case round =>
        obtain ⟨j, hj1, hj, rfl, hw⟩ := hrel
        have HW := Lib.hid hw
        have HJ1 := Lib.hid hj1
        by_cases hlt : j < N
        · have hlt' : (j : Int) < N := by omega
          have HJ := Lib.hid hlt
          clear hw hlt hj hj1
          go_wp2_with fail
          refine (l5_left HW.out (by have := HN.out; have := HJ.out; show i + j - 1 ≤ _; omega) _).mono ?_
          rintro e wd ⟨rfl, h3, _⟩
          have hle : abLeft (one1 3 0 a2 (i + N) 1 (i + j - 1) 1) 0 = (N : Int) - j + 1 := by rw [one1_left0]; have := HJ1.out; omega
          have hw1 : IntKind.i64.wrap ((N : Int) - j) = (N : Int) - j := by have := HN.out; have := HJ.out; rw [IntKind.wrap_i64]; omega
          have hw2 : IntKind.i64.wrap ((N : Int) - j + 1) = (N : Int) - j + 1 := by have := HN.out; have := HJ.out; rw [IntKind.wrap_i64]; omega
          have H3 := Lib.hid h3
          rw [hle]
          clear h3 HW hle
          go_wp2_with fail
          refine (l5_fire H3.out (by have := HN.out; have := HJ.out; show i + j - 1 ≤ _; omega) (by show 1 ≤ _; omega) [] (one1_not _ _ _ _ _ _ _ (by have := HJ.out; have := HJ1.out; omega)) _ (one1_tick _ _ _ _ _ _ _ (i + (j + 1) - 1) (by have := HJ.out; have := HJ1.out; omega) (by have := HJ1.out; omega)) 0 rfl (by omega)).mono ?_
          rintro e we ⟨Ac, cc, rfl, _, h2, _⟩
          have H4 := Lib.hid h2
          clear h2 H3
          go_wp2_with fail
          exact ⟨⟨j + 1, by have := HJ1.out; omega, by have := HJ.out; omega, by go_num, H4.out⟩, by have := HJ.out; simp [intOf]; omega⟩
        · obtain rfl : j = N := by omega
          clear hw hlt hj hj1
          go_wp2_with fail
          refine (l5_left HW.out (by have := HN.out; show i + j - 1 ≤ _; omega) _).mono ?_
          rintro e wd ⟨rfl, h3, _⟩
          have hle : abLeft (one1 3 0 a2 (i + j) 1 (i + j - 1) 1) 0 = 1 := by rw [one1_left0]; have := HJ1.out; omega
          rw [hle]
          have H3 := Lib.hid h3
          clear h3 HW hle
          go_wp2_with fail
          refine (l5_fire H3.out (by have := HN.out; show i + j - 1 ≤ _; omega) (by show 1 ≤ _; omega) [a2] (one1_due _ _ _ _ _ _ _ (by have := HJ1.out; omega)) _ (one1_last _ _ _ _ _ _ _ (by have := HJ1.out; omega)) 1 rfl (by omega)).mono ?_
          rintro e we ⟨Ac, cc, rfl, hre, h2, _⟩
          have hbn := below_new we (.cells #[.int .i64 a2] 3)
          have HRE := Lib.hid (hre.below hbn)
          have HLT := Lib.hid (show RE ki (we.alloc (.cells #[.int .i64 a2] 3)) (some ⟨we.heap.size, 0, none⟩) 1 1 [a2] from re_lit (f := ki) (e := 3) ki_len we [a2] (by simp))
          have H4 := Lib.hid (h2.below hbn)
          clear h2 H3 hre hbn
          go_wp2_with fail
          refine (w_same _ _ _ _ _ [a2] _ HRE.out HLT.out).mono ?_
          rintro e wf ⟨rfl, hb⟩
          replace H4 := Lib.hid (H4.out.below hb)
          clear hb HRE HLT
          go_wp2_with fail
          refine (l5_left H4.out (by have := HN.out; show i + j ≤ _; omega) _).mono ?_
          rintro e wi ⟨rfl, h3, _⟩
          rw [none1_left]
          have H5 := Lib.hid h3
          clear h3 H4
          go_wp2_with fail
          refine (l5_fire H5.out (by have := HN.out; show i + j ≤ _; omega) (by show 1 ≤ _; omega) [] (none1_due _ _ _) _ (none1_tick _ _ _ _ rfl) 0 rfl (by omega)).mono ?_
          rintro e wj ⟨Ac, cc, rfl, _, h2, _⟩
          have H6 := Lib.hid h2.bel
          clear h2 H5
          go_wp2_with fail
          go_ret
          exact ⟨rfl, H6.out⟩
end Go.Proofs.YtpfoocndohpbbaaDoor
