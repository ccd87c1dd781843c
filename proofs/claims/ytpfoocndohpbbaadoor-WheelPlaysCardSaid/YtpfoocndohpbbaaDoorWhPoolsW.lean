/- The walk of WheelPools. -/
import Derived.Test.YtpfoocndohpbbaaDoorWhFiresW
namespace Go.Proofs.YtpfoocndohpbbaaDoor
open Go Go.RowKit
set_option linter.unusedVariables false
set_option linter.unusedSimpArgs false
def poE (j : Nat) : En := ⟨j, (j : Int), 9, j + 1⟩
def poS (P i : Nat) : Ab := ⟨P, (List.range i).map poE, 0, i⟩
theorem po_mem (P i : Nat) (e : En) : e ∈ (poS P i).L ↔ ∃ j, j < i ∧ e = poE j := by
  unfold poS
  simp only [List.mem_map, List.mem_range]
  exact ⟨fun ⟨j, h, e⟩ => ⟨j, h, e.symm⟩, fun ⟨j, h, e⟩ => ⟨j, h, e.symm⟩⟩
theorem po_len (P i : Nat) : (poS P i).L.length = i := by simp [poS]
theorem po_fst (P i : Nat) : ∀ j, abFst (poS P i) j → j = i := by
  rintro j ⟨_, h2, h3⟩
  rcases Nat.lt_trichotomy j i with h | h | h
  · exact absurd rfl (h2 (poE j) ((po_mem P i _).2 ⟨j, h, rfl⟩))
  · exact h
  · obtain ⟨e, he, hn⟩ := h3 i h
    obtain ⟨j', hj', rfl⟩ := (po_mem P i e).1 he
    exact absurd hn (by show j' ≠ i; omega)
theorem po_arm (P i : Nat) : abArm (poS P i) i (i : Int) 9 = poS P (i + 1) := by
  unfold abArm poS
  simp [List.range_succ, poE]
theorem po_has (P i : Nat) (k : Int) : abHas (poS P i) k = true ↔ 0 ≤ k ∧ k < i := by
  rw [abHas_iff]
  constructor
  · rintro ⟨e, he, rfl⟩
    obtain ⟨j, hj, rfl⟩ := (po_mem P i e).1 he
    show (0 : Int) ≤ (j : Int) ∧ (j : Int) < i
    omega
  · rintro ⟨h1, h2⟩
    exact ⟨poE k.toNat, (po_mem P i _).2 ⟨k.toNat, by omega, rfl⟩, by show ((k.toNat : Nat) : Int) = k; omega⟩
theorem po_drop_len (P q : Nat) (hq : q < P) : (abDrop (poS P P) q).L.length < (abDrop (poS P P) q).P := by
  have h1 := List.length_filter_lt_length_iff_exists (p := fun e : En => decide ((e.num : Int) ≠ (q : Int))) (l := (poS P P).L)
  have h2 := h1.2 ⟨poE q, (po_mem P P _).2 ⟨q, hq, rfl⟩, by simp [poE]⟩
  rw [po_len] at h2
  exact h2
theorem po_drop_fst (P q : Nat) (hq : q < P) : ∀ j, abFst (abDrop (poS P P) q) j → j = q := by
  rintro j ⟨h1, h2, _⟩
  by_cases h : j = q
  · exact h
  · exact absurd rfl (h2 (poE j) (List.mem_filter.2 ⟨(po_mem P P _).2 ⟨j, h1, rfl⟩, decide_eq_true (by show (j : Int) ≠ q; omega)⟩))
theorem arm_left {a : Ab} {k : Nat} {tag : Int} {m : Nat} (ho : WOk (abArm a k tag m)) : abLeft (abArm a k tag m) k = m := by
  have h := abAt_some ho (e := ⟨k, tag, a.now + m, a.cnt + 1⟩) (List.mem_append_right _ (List.mem_singleton.2 rfl))
  unfold abLeft
  rw [show ((k : Nat) : Int) = (((⟨k, tag, a.now + m, a.cnt + 1⟩ : En).num : Nat) : Int) from rfl, h]
  show (((a.now + m : Nat) : Int) - (a.now : Int)) = m
  omega
theorem WL5.ok {w wr : World} {g : Nat} {a : Ab} {X : Nat → Prop} (h : WL5 w g a X wr) : WOk a := by
  obtain ⟨⟨F, h1, _⟩, _⟩ := h
  exact h1.ok
set_option maxHeartbeats 8000000 in
set_option maxRecDepth 100000 in
theorem wheelPools_walk (a0 a1 : Int) (w : World) (w0 : (Lit.int .i64 a0).wf = true) (w1 : (Lit.int .i64 a1).wf = true) (hg : HasTy w) :
    Calls Tryd.prog 6 #[.int .i64 a0, .int .i64 a1] w fun e w' => e = .returned (.bool true) ∧ Below w.heap.size w w' := by
  have HG := Lib.hid hg
  clear w0 w1 hg
  obtain ⟨P, hP⟩ : ∃ P : Nat, (P : Int) = max 0 (min a0 64) := ⟨(max 0 (min a0 64)).toNat, by omega⟩
  have HP := Lib.hid hP
  have hmx : min (max a0 0) 64 = (P : Int) := by omega
  have hP64 : (P : Int) ≤ 64 := by omega
  clear hP
  go_enter Tryd.func6, Tryd.ntmps6
  go_wp2_with fail
  refine (l_small05 _ HG.out).mono ?_
  rintro e wa ⟨rfl, hb⟩
  have HB := Lib.hid hb
  clear hb
  go_wp2_with fail
  refine (l5_new P a0 HP.out w wa HB.out).mono ?_
  rintro e wb ⟨g, rfl, h1⟩
  have H1 := Lib.hid h1
  clear h1 HB
  go_wp2_with fail
  go_loopw [8] (fun s8 wr => ∃ i : Nat, i ≤ P ∧ s8 = .int .i64 i ∧ WL5 w g (poS P i) (fun _ => False) wr) (fun s8 _ => P - (intOf s8).toNat)
  case atStart => exact ⟨0, Nat.zero_le _, rfl, H1.out⟩
  case round =>
    obtain ⟨i, hi, rfl, hw⟩ := hrel
    have HW := Lib.hid hw
    by_cases hlt : i < P
    · have hlt' : (i : Int) < P := by omega
      have HI := Lib.hid hlt
      clear hw hlt hi H1
      go_wp2_with fail
      refine (l5_armed HW.out (by show 0 ≤ _; omega) (by show i ≤ _; omega) 9 (i : Int) (by decide) (by decide) (by rw [po_len]; exact HI.out) i (po_fst P i)).mono ?_
      rintro e wc ⟨rfl, h2, _⟩
      rw [po_arm] at h2
      have H2 := Lib.hid h2
      clear h2 HW
      go_wp2_with fail
      refine (l5_free H2.out).mono ?_
      rintro e wd ⟨rfl, h2, _⟩
      have H3 := Lib.hid h2
      have hf : (((poS P (i + 1)).P - (poS P (i + 1)).L.length : Nat) : Int) = (P : Int) - i - 1 := by rw [po_len]; show ((P - (i + 1) : Nat) : Int) = _; have := HI.out; omega
      rw [hf]
      clear h2 H2 hf
      go_wp2_with fail
      exact ⟨⟨i + 1, by have := HI.out; omega, by go_num, H3.out⟩, by have := HI.out; simp [intOf]; omega⟩
    · obtain rfl : i = P := by omega
      clear hw hlt hi H1
      go_wp2_with fail
      refine (l5_no HW.out (by show 0 ≤ _; omega) (by show i ≤ _; omega) 9 0 5 (.inr ⟨rfl, by decide, by decide, by rw [po_len]; exact Nat.le_refl _⟩)).mono ?_
      rintro e wc ⟨v5, rfl, he5, h2, _⟩
      have H2 := Lib.hid h2
      have HE5 := Lib.hid he5
      clear h2 HW he5
      go_wp2_with fail
      refine (code_is _ _ _ (below_ty H2.out.bel HG.out) HE5.out).mono ?_
      rintro e wd ⟨rfl, hb⟩
      replace H2 := Lib.hid (H2.out.below hb)
      clear hb HE5
      go_wp2_with fail
      refine (l5_free H2.out).mono ?_
      rintro e we ⟨rfl, h2, _⟩
      have H3 := Lib.hid h2
      have hf : (((poS i i).P - (poS i i).L.length : Nat) : Int) = 0 := by rw [po_len]; show ((i - i : Nat) : Int) = _; omega
      rw [hf]
      clear h2 H2 hf
      by_cases hin : 0 ≤ a1 ∧ a1 < i
      · have hp1 : ¬ a1 < 0 := by omega
        have hp2 : ¬ (i : Int) ≤ a1 := by omega
        obtain ⟨q, rfl⟩ : ∃ q : Nat, a1 = (q : Int) := ⟨a1.toNat, by omega⟩
        have HQ := Lib.hid (show q < i by omega)
        have hhas := (po_has i i q).2 hin
        clear hin
        go_wp2_with fail
        refine (l5_cancel H3.out (by show 0 ≤ _; omega) q).mono ?_
        rintro e wf ⟨rfl, h2, _⟩
        rw [hhas]
        have H4 := Lib.hid h2
        clear h2 H3 hhas
        go_wp2_with fail
        refine (l5_armed H4.out (by show 0 ≤ _; omega) (by show i ≤ _; omega) 5 1 (by decide) (by decide) (po_drop_len i q HQ.out) q (po_drop_fst i q HQ.out)).mono ?_
        rintro e wi ⟨rfl, h2, _⟩
        have H5 := Lib.hid h2
        clear h2 H4
        go_wp2_with fail
        refine (l5_left H5.out (by show 0 ≤ _; omega) q).mono ?_
        rintro e wj ⟨rfl, h2, _⟩
        rw [arm_left h2.ok]
        have H6 := Lib.hid h2.bel
        clear h2 H5
        go_wp2_with fail
        go_ret
        exact ⟨rfl, H6.out⟩
      · have hhas : abHas (poS i i) a1 = false := by
          cases h9 : abHas (poS i i) a1 with
          | false => rfl
          | true => exact absurd ((po_has i i a1).1 h9) hin
        by_cases hp1 : a1 < 0
        · clear hin
          go_wp2_with fail
          refine (l5_cancel H3.out (by show 0 ≤ _; omega) a1).mono ?_
          rintro e wf ⟨rfl, h2, _⟩
          rw [hhas]
          have H6 := Lib.hid h2.bel
          clear h2 H3 hhas
          go_wp2_with fail
          go_ret
          exact ⟨rfl, H6.out⟩
        · have hp2 : (i : Int) ≤ a1 := by omega
          clear hin
          go_wp2_with fail
          refine (l5_cancel H3.out (by show 0 ≤ _; omega) a1).mono ?_
          rintro e wf ⟨rfl, h2, _⟩
          rw [hhas]
          have H6 := Lib.hid h2.bel
          clear h2 H3 hhas
          go_wp2_with fail
          go_ret
          exact ⟨rfl, H6.out⟩
end Go.Proofs.YtpfoocndohpbbaaDoor
