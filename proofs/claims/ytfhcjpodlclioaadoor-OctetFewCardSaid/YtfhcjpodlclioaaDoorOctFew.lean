/- The walk of OctetFew. -/
import Derived.Test.YtfhcjpodlclioaaDoorOctSmall
import Derived.Test.YtfhcjpodlclioaaDoorArgs
namespace Go.Proofs.YtfhcjpodlclioaaDoor
open Go.RowKit
set_option linter.unusedVariables false
set_option linter.unusedSimpArgs false

theorem drop_empty (xs : List UInt8) (k : Nat) : (xs.drop k).isEmpty = decide (xs.length ≤ k) := by
  by_cases h : xs.length ≤ k
  · simp [List.drop_of_length_le h, h]
  · simp only [h, decide_false]
    cases hh : xs.drop k with
    | nil => have := congrArg List.length hh; simp at this; omega
    | cons _ _ => rfl

set_option maxRecDepth 100000 in
set_option maxHeartbeats 8000000 in
theorem octetFew_walk (a0 : Option Addr) (len0 cap0 : Nat) (z0 : List Int) (a1 : Option Addr) (len1 cap1 : Nat) (z1 : List Int) (w : World) (w0 : IsRow .u8 w a0 len0 cap0 z0) (w1 : IsRow .i64 w a1 len1 cap1 z1) (s0 : cap0 * 1 ≤ 140737488351232) (hg : HasTy w) :
    Calls Tryd.prog 6 #[.slice a0 len0 cap0, .slice a1 len1 cap1] w fun e w' => e = .returned (.bool true) ∧ Below w.heap.size w w' := by
  obtain ⟨xs, hrs⟩ := w0.bytes
  obtain ⟨ys, hri, hlc, hcm, _⟩ := w1.ints
  have hcap := hrs.cap
  have HA := Lib.hid hri
  have H0 := Lib.hid hg
  have hl := Lib.hid hrs.len
  clear w0 w1 hg hri
  go_enter Tryd.func6, Tryd.ntmps6
  go_wp2_with fail
  refine (oct_small _ H0.out).mono ?_
  rintro e wa ⟨rfl, hb⟩
  replace hrs := hrs.below hb
  go_wp2_with fail
  refine (rd_over _ _ _ _ _ hrs (by omega)).mono ?_
  rintro e wb ⟨g, bl, rfl, hr, hgg, hbl, hbls, hb2⟩
  have hwg : w.heap.size ≤ g := by have := hb.size; omega
  have H := Lib.hid (below_step hb hb2)
  clear hb hb2 hgg hbl hbls hrs
  by_cases h1 : 300 < len0
  · have h1' : (300 : Int) < len0 := by omega
    clear hr
    go_wp2_with fail
    go_ret
    exact ⟨rfl, H.out⟩
  have h1' : ¬ (300 : Int) < len0 := by omega
  by_cases h2 : 60 < len1
  · have h2' : (60 : Int) < len1 := by omega
    clear hr
    go_wp2_with fail
    go_ret
    exact ⟨rfl, H.out⟩
  have h2' : ¬ (60 : Int) < len1 := by omega
  go_wp2_with fail
  clear h1' h2'
  go_loopw [7] (fun i wr => ∃ k : Nat, k ≤ len0 + 1 ∧ i = .int .i64 k ∧ RdIs wr g bl (xs.drop k) (decide (len0 < k)) ∧ Below w.heap.size w wr) (fun i _ => len0 + 1 - (intOf i).toNat)
  case atStart => exact ⟨0, Nat.zero_le _, rfl, by simpa using hr, H.out⟩
  case round =>
    obtain ⟨k, hk, rfl, hr, hbr⟩ := hrel
    clear H
    by_cases hlt : k < len0 + 1
    · have hlt' : (k : Int) < len0 + 1 := by omega
      go_wp2_with fail
      refine (rd_u8 g bl _ _ _ hr).mono ?_
      rintro e wc ⟨rfl, hr2, hf⟩
      rw [drop_empty, hl.out, List.tail_drop, show (decide (len0 < k) || decide (len0 ≤ k)) = decide (len0 < k + 1) by (rw [← Bool.decide_or]; exact decide_eq_decide.2 (by omega))] at hr2
      have H1 := Lib.hid hr2
      have H2 := Lib.hid (below_one hbr hf hwg)
      clear hr2 hf hr hbr
      go_wp2_with fail
      exact ⟨⟨k + 1, by omega, by go_num, H1.out, H2.out⟩, by simp [intOf]; omega⟩
    · have hkl : ¬ (k : Int) < len0 + 1 := by omega
      rw [List.drop_of_length_le (by rw [hl.out]; omega), show decide (len0 < k) = true by simp; omega] at hr
      obtain ⟨wo, rfl⟩ : ∃ wo : World, wo = wr := ⟨_, rfl⟩
      clear hl
      go_wp2_with fail
      clear hlt hk hkl
      rename_i k0
      go_loopw [8] (fun i wr => ∃ k : Nat, k ≤ len1 ∧ i = .int .i64 k ∧ RdIs wr g bl [] true ∧ Below w.heap.size w wr) (fun i _ => len1 - (intOf i).toNat)
      case atStart => exact ⟨0, Nat.zero_le _, rfl, hr, hbr⟩
      case round =>
        obtain ⟨k, hk, rfl, hr, hbr2⟩ := hrel
        clear hbr
        have hbr := Lib.hid hbr2
        clear hbr2
        by_cases hlt : k < len1
        · have hlt' : (k : Int) < len1 := by omega
          obtain ⟨b, off, rfl, hbl2, hc⟩ := HA.out.2.2.2 (by omega)
          have x0 := (hbr.out.cell (p := ⟨b, off + k, none⟩) hbl2).trans (hc k hlt)
          clear hc
          generalize ys.getD k 0 = z at x0
          by_cases h0 : z.tmod 3 = 0
          · go_wp2_with fail
            refine (rd_u8 g bl _ _ _ hr).mono ?_
            rintro e wd ⟨rfl, hr2, hf⟩
            replace hbr := Lib.hid (below_one hbr.out hf hwg)
            rw [show nb (([] : List UInt8).headD 0) = 0 from rfl]
            replace hr : RdIs wd g bl [] true := hr2
            clear hr2 hf
            go_wp2_with fail
            refine (rd_err g bl _ _ _ hr).mono ?_
            rintro e we ⟨v, rfl, hv, rfl⟩
            obtain ⟨t, u, rfl⟩ := ErrN.iface hv
            clear hv
            go_wp2_with fail
            refine (rd_end g bl _ _ _ hr).mono ?_
            rintro e we2 ⟨v, rfl, hv, hb2⟩
            obtain ⟨t, u, rfl⟩ := ErrN.iface hv
            replace hr := hr.below hb2
            replace hbr := Lib.hid (below_step hbr.out hb2)
            clear hv hb2
            go_wp2_with fail
            refine (rd_rest g bl _ _ _ hr).mono ?_
            rintro e wf ⟨Ax, cx, rfl, _, _, hr2, hf⟩
            replace hbr := Lib.hid (below_one hbr.out hf hwg)
            have HR := Lib.hid hr2
            clear hr2 hf hr
            go_wp2_with fail
            exact ⟨⟨k + 1, by omega, by go_num, HR.out, hbr.out⟩, by simp [intOf]; omega⟩
          have h0' : (z.tmod 3 == 0) = false := by simpa using h0
          clear h0
          by_cases h1 : z.tmod 3 = 1
          · go_wp2_with fail
            refine (rd_u16 g bl _ _ _ hr).mono ?_
            rintro e wd ⟨rfl, hr2, hf⟩
            replace hbr := Lib.hid (below_one hbr.out hf hwg)
            rw [show (rdVal 2 [] : Int) = 0 from rfl]
            replace hr : RdIs wd g bl [] true := hr2
            clear hr2 hf
            go_wp2_with fail
            refine (rd_err g bl _ _ _ hr).mono ?_
            rintro e we ⟨v, rfl, hv, rfl⟩
            obtain ⟨t, u, rfl⟩ := ErrN.iface hv
            clear hv
            go_wp2_with fail
            refine (rd_end g bl _ _ _ hr).mono ?_
            rintro e we2 ⟨v, rfl, hv, hb2⟩
            obtain ⟨t, u, rfl⟩ := ErrN.iface hv
            replace hr := hr.below hb2
            replace hbr := Lib.hid (below_step hbr.out hb2)
            clear hv hb2
            go_wp2_with fail
            refine (rd_rest g bl _ _ _ hr).mono ?_
            rintro e wf ⟨Ax, cx, rfl, _, _, hr2, hf⟩
            replace hbr := Lib.hid (below_one hbr.out hf hwg)
            have HR := Lib.hid hr2
            clear hr2 hf hr
            go_wp2_with fail
            exact ⟨⟨k + 1, by omega, by go_num, HR.out, hbr.out⟩, by simp [intOf]; omega⟩
          have h1' : (z.tmod 3 == 1) = false := by simpa using h1
          clear h1
          by_cases h2 : z.tmod 3 = 2
          · go_wp2_with fail
            refine (rd_u32 g bl _ _ _ hr).mono ?_
            rintro e wd ⟨rfl, hr2, hf⟩
            replace hbr := Lib.hid (below_one hbr.out hf hwg)
            rw [show (rdVal 4 [] : Int) = 0 from rfl]
            replace hr : RdIs wd g bl [] true := hr2
            clear hr2 hf
            go_wp2_with fail
            refine (rd_err g bl _ _ _ hr).mono ?_
            rintro e we ⟨v, rfl, hv, rfl⟩
            obtain ⟨t, u, rfl⟩ := ErrN.iface hv
            clear hv
            go_wp2_with fail
            refine (rd_end g bl _ _ _ hr).mono ?_
            rintro e we2 ⟨v, rfl, hv, hb2⟩
            obtain ⟨t, u, rfl⟩ := ErrN.iface hv
            replace hr := hr.below hb2
            replace hbr := Lib.hid (below_step hbr.out hb2)
            clear hv hb2
            go_wp2_with fail
            refine (rd_rest g bl _ _ _ hr).mono ?_
            rintro e wf ⟨Ax, cx, rfl, _, _, hr2, hf⟩
            replace hbr := Lib.hid (below_one hbr.out hf hwg)
            have HR := Lib.hid hr2
            clear hr2 hf hr
            go_wp2_with fail
            exact ⟨⟨k + 1, by omega, by go_num, HR.out, hbr.out⟩, by simp [intOf]; omega⟩
          have h2' : (z.tmod 3 == 2) = false := by simpa using h2
          clear h2
          go_wp2_with fail
          refine (rd_err g bl _ _ _ hr).mono ?_
          rintro e we ⟨v, rfl, hv, rfl⟩
          obtain ⟨t, u, rfl⟩ := ErrN.iface hv
          clear hv
          go_wp2_with fail
          refine (rd_end g bl _ _ _ hr).mono ?_
          rintro e we2 ⟨v, rfl, hv, hb2⟩
          obtain ⟨t, u, rfl⟩ := ErrN.iface hv
          replace hr := hr.below hb2
          replace hbr := Lib.hid (below_step hbr.out hb2)
          clear hv hb2
          go_wp2_with fail
          refine (rd_rest g bl _ _ _ hr).mono ?_
          rintro e wf ⟨Ax, cx, rfl, _, _, hr2, hf⟩
          replace hbr := Lib.hid (below_one hbr.out hf hwg)
          have HR := Lib.hid hr2
          clear hr2 hf hr
          go_wp2_with fail
          exact ⟨⟨k + 1, by omega, by go_num, HR.out, hbr.out⟩, by simp [intOf]; omega⟩
        · obtain rfl : k = len1 := by omega
          go_wp2_with fail
          refine (rd_err g bl _ _ _ hr).mono ?_
          rintro e we ⟨v, rfl, hv, rfl⟩
          have hv2 : ErrN wr 1 v 2 := hv
          obtain ⟨t, u, rfl⟩ := hv2.iface
          have HT := H0.out.below hbr.out
          clear hv hr
          go_wp2_with fail
          refine (fault_code 1 _ 2 _ HT hv2).mono ?_
          rintro e wf ⟨rfl, hb2⟩
          replace hbr := Lib.hid (below_step hbr.out hb2)
          clear hb2 hv2 HT
          go_wp2_with fail
          go_ret
          exact ⟨rfl, hbr.out⟩
end Go.Proofs.YtfhcjpodlclioaaDoor
