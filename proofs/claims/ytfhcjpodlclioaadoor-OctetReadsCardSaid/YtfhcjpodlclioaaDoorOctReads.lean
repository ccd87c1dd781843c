/- The walk of OctetReads. -/
import Derived.Test.YtfhcjpodlclioaaDoorOctSmall
import Derived.Test.YtfhcjpodlclioaaDoorRr
import Derived.Test.YtfhcjpodlclioaaDoorArgs
import Derived.Deep.DeepCutAuto
import Derived.Deep.CutBlock
import Derived.Outline
namespace Go.Proofs.YtfhcjpodlclioaaDoor
open Go.RowKit
set_option linter.unusedVariables false
set_option linter.unusedSimpArgs false

theorem OwnB.noStep {w : World} {base g n c : Nat} {xs : List UInt8} (h : OwnB w base (.slice (some ⟨g, 0, Option.none⟩) n c) xs) : NoStep w (fun k => k = g) := by
  rcases h.2 with ⟨e, _⟩ | ⟨g', cap, cur, e, hb, hh, _⟩
  · cases e
  · cases e
    exact noStep_block hh (by decide)
theorem one_val (xs : List UInt8) : nb (xs.headD 0) = (rdVal 1 xs : Int) := by
  cases xs with
  | nil => rfl
  | cons x r => simp [rdVal, beVal, nb]
theorem one_left (xs : List UInt8) : xs.tail = rdLeft 1 xs := by cases xs <;> simp [rdLeft]
theorem one_bad (xs : List UInt8) (bad : Bool) : (bad || xs.isEmpty) = rdBad 1 xs bad := by cases xs <;> simp [rdBad]
theorem rd_inv (k : Nat) (xs : List UInt8) (bad : Bool) (h : bad = true → xs = []) : rdBad k xs bad = true → rdLeft k xs = [] := by
  unfold rdBad rdLeft
  split
  · exact fun _ => rfl
  · intro e; rw [h e]; simp
theorem noStep_fr {F : Nat → Prop} {w w' : World} {g : Nat} (h : NoStep w (fun k => k = g)) (hf : Fr F w w') (hg : ¬ F g) (hl : g < w.heap.size) : NoStep w' (fun k => k = g) := by
  intro k cs m e h1
  have e' : k = g := e
  rw [e', hf.block g hl hg] at h1
  exact h g cs m rfl h1

theorem OwnB.noStepF {w : World} {base : Nat} {v : Value} {xs : List UInt8} (h : OwnB w base v xs) : NoStep w (fun k => v.ownBlock = some k) := by
  rcases h.2 with ⟨rfl, _⟩ | ⟨g', cap, cur, rfl, hb, hh, _⟩
  · intro k cs m e; cases e
  · intro k cs m e
    cases e
    exact noStep_block hh (by decide) _ cs m rfl
theorem RdIs.frGood {w w' : World} {g bl : Nat} {xs : List UInt8} (h : RdIs w g bl xs false) {F : Nat → Prop} (hf : Fr F w w') (hg : ¬ F g) (hb : xs ≠ [] → ¬ F bl) : RdIs w' g bl xs false := by
  obtain ⟨A, n, c, ev, h⟩ := h
  have hne : 0 < n → xs ≠ [] := fun h0 e => by have := h.rs.len; rw [e] at this; simp at this; omega
  refine ⟨A, n, c, ev, (hf.block g h.lt hg).trans h.heap, h.rs.fr hf (fun h0 b off e => ?_), h.blk, h.apart, fun h0 i => ?_, h.small, h.err⟩
  · obtain ⟨o, e2⟩ := h.blk h0
    rw [e2] at e; cases e; exact hb (hne h0)
  · obtain ⟨o, rfl⟩ := h.blk h0
    obtain ⟨b', o', e, hlt, _⟩ := h.rs.rb.cells h0
    cases e
    exact (hf.frozen (p := ⟨bl, i, none⟩) hlt (hb (hne h0))).trans (h.free h0 i)

set_option maxRecDepth 100000 in
set_option maxHeartbeats 16000000 in
theorem octetReads_walk (a0 : Option Addr) (len0 cap0 : Nat) (z0 : List Int) (a1 : Option Addr) (len1 cap1 : Nat) (z1 : List Int) (w : World) (w0 : IsRow .u8 w a0 len0 cap0 z0) (w1 : IsRow .i64 w a1 len1 cap1 z1) (s0 : cap0 * 1 ≤ 140737488351232) (hg : HasTy w) :
    Calls Tryd.prog 3 #[.slice a0 len0 cap0, .slice a1 len1 cap1] w fun e w' => e = .returned (.bool true) ∧ Below w.heap.size w w' := by
  obtain ⟨xs, hrs⟩ := w0.bytes
  obtain ⟨ys, hri, hlc, hcm, _⟩ := w1.ints
  have hcap := hrs.cap
  have HA := Lib.hid hri
  have HX := Lib.hid hrs
  have H0 := Lib.hid hg
  have hl := Lib.hid hrs.len
  have hnil := hrs.nil
  clear w0 w1 hg hri
  go_enter Tryd.func3, Tryd.ntmps3
  go_wp2_with fail
  refine (oct_small _ H0.out).mono ?_
  rintro e wa ⟨rfl, hb⟩
  replace hrs := hrs.below hb
  have hb0 : Below wa.heap.size wa (wa.alloc (.cells #[] 5)) := below_new _ _
  have hown := by_lit0 wa wa.heap.size (Nat.le_refl _)
  have hrb := hrs.rb.below hb0
  have hlen0 : ([] : List UInt8).length + len0 ≤ 140737488355328 := by simp; omega
  go_wp2_with (at_builtin; go_must (refine wpList_append_by rfl _ _ rfl wa hb0 _ [] rfl hown _ _ _ xs rfl hnil hrb hlen0 ?_; intro v1 w1 hown1 hb1 _))
  rw [List.nil_append] at hown1
  clear hown hrb hb0 hlen0 hrs
  have hsa := hb.size
  replace hb := Lib.hid (below_step hb hb1)
  obtain ⟨A1, c1, rfl, hr1⟩ := hown1.reads
  rw [hl.out] at hown1 hr1 ⊢
  clear hb1
  refine (rd_over _ _ _ _ _ hr1 (by omega)).mono ?_
  rintro e wb ⟨g, bl, rfl, hr, hgg, hbl, hbls, hb2⟩
  have hsb := hb.out.size
  have hwg : w.heap.size ≤ g := by omega
  have hF : ∀ k, (Value.slice A1 len0 c1).ownBlock = some k → wa.heap.size ≤ k ∧ k < w1.heap.size := fun k hk => hown1.own k hk
  replace hown1 := hown1.below hb2
  replace hb := Lib.hid (below_step hb.out hb2)
  clear hb2 hr1
  by_cases h1 : 300 < len0
  · have h1' : (300 : Int) < len0 := by omega
    clear hr hown1 hF
    go_wp2_with fail
    go_ret
    exact ⟨rfl, hb.out⟩
  have h1' : ¬ (300 : Int) < len0 := by omega
  by_cases h2 : 60 < len1
  · have h2' : (60 : Int) < len1 := by omega
    clear hr hown1 hF
    go_wp2_with fail
    go_ret
    exact ⟨rfl, hb.out⟩
  have h2' : ¬ (60 : Int) < len1 := by omega
  have hbn := below_new wb (.cells #[.slice a0 len0 cap0, .bool false] 29)
  have hnew := heap_alloc_new wb (.cells #[.slice a0 len0 cap0, .bool false] 29)
  have hgl := hr.lt
  have hr3 := hr.below hbn
  have hb3 := Lib.hid (below_step hb.out hbn)
  have hwb := hb.out.size
  have hown3 := hown1.below hbn
  obtain ⟨bl2, hs3, hbl2⟩ : ∃ bl2, RrIs (wb.alloc (.cells #[.slice a0 len0 cap0, .bool false] 29)) wb.heap.size bl2 xs false ∧ (bl2 < w.heap.size ∨ bl2 = wb.heap.size) := by
    rcases Nat.eq_zero_or_pos len0 with h0 | h0
    · exact ⟨wb.heap.size, ⟨_, _, _, hnew, HX.out.below hb3.out, fun h => absurd h (by omega), fun h => absurd h (by omega), by omega⟩, .inr rfl⟩
    · obtain ⟨b, off, rfl, hlt, _⟩ := HX.out.rb.cells h0
      exact ⟨b, ⟨_, _, _, hnew, HX.out.below hb3.out, fun _ => ⟨off, rfl⟩, fun _ => by omega, by omega⟩, .inl hlt⟩
  clear hown1 hr hnew hbn hb
  go_wp2_with fail
  clear h1' h2'
  generalize wb.alloc (.cells #[.slice a0 len0 cap0, .bool false] 29) = w3 at hr3 hb3 hown3 hs3 ⊢
  generalize wb.heap.size = g2 at *
  have hfr3 : Fr (fun b => (Value.slice A1 len0 c1).ownBlock = some b) w3 w3 := Fr.refl _ _
  go_loopw [9] (fun i wr => ∃ (k : Nat) (zs : List UInt8), k ≤ len0 ∧ zs.length = len0 ∧ i = .int .i64 k ∧ OwnB wr wa.heap.size (.slice A1 len0 c1) zs ∧ Fr (fun b => (Value.slice A1 len0 c1).ownBlock = some b) w3 wr) (fun i _ => len0 - (intOf i).toNat)
  case atStart => exact ⟨0, xs, Nat.zero_le _, hl.out, rfl, hown3, hfr3⟩
  case round =>
    obtain ⟨k, zs, hk, hzs, rfl, hor, hfr⟩ := hrel
    have HN := Lib.hid hown3.noStepF
    clear hown3 hfr3
    by_cases hlt : k < len0
    · have hlt' : (k : Int) < len0 := by omega
      rcases hor.form with ⟨_, h0⟩ | ⟨gi, ci, he, _, _, hfz, hri⟩
      · rw [h0] at hzs; simp at hzs; omega
      · rw [hzs] at he
        cases he
        have x2 : wr.cell? ⟨gi, k, none⟩ = some (bv (zs.getD k 0)) := by
          obtain ⟨b9, o9, e8, _, hc9⟩ := hri.rb.cells (by omega)
          cases e8
          have := hc9 k (by omega)
          rwa [Nat.zero_add] at this
        have x3 : wr.frozen? ⟨gi, k, none⟩ = false := hfz _
        have hset := Lib.hid (hor.set k (by omega) 7)
        have hfs := Lib.hid (fr_same hfr (fr_setCell (F := fun b => (Value.slice (some ⟨gi, 0, none⟩) len0 c1).ownBlock = some b) (w := wr) ⟨gi, k, none⟩ (bv 7) rfl))
        unfold bv at x2
        clear hr3 hs3 hor hri hfr hfz hF
        go_wp2_with fail
        exact ⟨⟨k + 1, zs.set k 7, by omega, by simp [hzs], by go_num, hset.out, hfs.out⟩, by simp [intOf]; omega⟩
    · have hkl : ¬ (k : Int) < len0 := by omega
      have hr := hr3.fr hfr (fun h => by have := hF g h; omega) (fun _ h => by have := hF bl h; omega) HN.out
      have hs := hs3.fr hfr (fun h => by have := hF _ h; omega) (fun _ h => by have := hF _ h; omega)
      have hb := Lib.hid (hb3.out.trans (hfr.below w.heap.size (by have := hb3.out.size; omega) (fun i h => by have := hF i h; omega)))
      obtain ⟨wo, rfl⟩ : ∃ wo : World, wo = wr := ⟨_, rfl⟩
      clear hr3 hs3 hor hfr hF
      go_wp2_with fail
      clear hlt hk hkl hzs
      rename_i k0
      go_loopw [10] (fun i wr => ∃ (k : Nat) (zs : List UInt8) (bad : Bool), k ≤ len1 ∧ i = .int .i64 k ∧ (bad = true → zs = []) ∧ RdIs wr g bl zs bad ∧ RrIs wr g2 bl2 zs bad ∧ Below w.heap.size w wr) (fun i _ => len1 - (intOf i).toNat)
      case atStart => exact ⟨0, xs, false, Nat.zero_le _, rfl, (fun h => by cases h), hr, hs, hb.out⟩
      case round =>
        obtain ⟨k, zs, bad, hk, rfl, hinv, hr, hs, hbr⟩ := hrel
        clear hb
        by_cases hlt : k < len1
        · have hlt' : (k : Int) < len1 := by omega
          obtain ⟨b, off, rfl, hbA, hc⟩ := HA.out.2.2.2 (by omega)
          have x0 := (hbr.cell (p := ⟨b, off + k, none⟩) hbA).trans (hc k hlt)
          clear hc
          generalize ys.getD k 0 = z at x0
          obtain ⟨wo, rfl⟩ : ∃ wo : World, wo = wr := ⟨_, rfl⟩
          have HI := Lib.hid hinv
          have HB := Lib.hid hbr
          clear hinv hbr
          go_upto_block 4 with fail
          go_cut [11, 60] (fun s11 s60 wx => s11 = .bool true ∧ ∃ (zs' : List UInt8) (bad' : Bool), (bad' = true → zs' = []) ∧ RdIs wx g bl zs' bad' ∧ RrIs wx g2 bl2 zs' bad' ∧ Below w.heap.size w wx)
          case first =>
            by_cases h0 : z.tmod 4 = 0
            · go_wp2_with fail
              refine (rd_u8 g bl _ _ _ hr).mono ?_
              rintro e wx ⟨rfl, hr2, hf⟩
              rw [one_val, one_left, one_bad] at *
              have hs2 := hs.fr hf (by omega) (fun _ => by omega)
              replace HB := Lib.hid (below_one HB.out hf hwg)
              have HR := Lib.hid hr2
              clear hr hs hf hr2
              have hq : ((rdVal 1 zs : Nat) : Int) ≤ 4294967295 := by have := rdVal_lt 1 zs; omega
              go_wp2_with fail
              refine (rr_num 1 (by omega) (by omega) g2 bl2 _ _ _ hs2 HI.out).mono ?_
              rintro e wy ⟨rfl, hs3, hf⟩
              have hr3 := HR.out.fr hf (by omega) (fun _ => by omega) hs2.noStep
              replace HB := Lib.hid (below_one HB.out hf (by omega))
              have HS := Lib.hid hs3
              have HR3 := Lib.hid hr3
              clear hs2 hs3 hr3 hf
              go_wp2_with fail
              go_meet
              exact ⟨rfl, _, _, rd_inv 1 _ _ HI.out, HR3.out, HS.out, HB.out⟩
            have h0' : (z.tmod 4 == 0) = false := by simpa using h0
            clear h0
            by_cases h1 : z.tmod 4 = 1
            · go_wp2_with fail
              refine (rd_u16 g bl _ _ _ hr).mono ?_
              rintro e wx ⟨rfl, hr2, hf⟩
              skip
              have hs2 := hs.fr hf (by omega) (fun _ => by omega)
              replace HB := Lib.hid (below_one HB.out hf hwg)
              have HR := Lib.hid hr2
              clear hr hs hf hr2
              have hq : ((rdVal 2 zs : Nat) : Int) ≤ 4294967295 := by have := rdVal_lt 2 zs; omega
              go_wp2_with fail
              refine (rr_num 2 (by omega) (by omega) g2 bl2 _ _ _ hs2 HI.out).mono ?_
              rintro e wy ⟨rfl, hs3, hf⟩
              have hr3 := HR.out.fr hf (by omega) (fun _ => by omega) hs2.noStep
              replace HB := Lib.hid (below_one HB.out hf (by omega))
              have HS := Lib.hid hs3
              have HR3 := Lib.hid hr3
              clear hs2 hs3 hr3 hf
              go_wp2_with fail
              go_meet
              exact ⟨rfl, _, _, rd_inv 2 _ _ HI.out, HR3.out, HS.out, HB.out⟩
            have h1' : (z.tmod 4 == 1) = false := by simpa using h1
            clear h1
            by_cases h2 : z.tmod 4 = 2
            · go_wp2_with fail
              refine (rd_u32 g bl _ _ _ hr).mono ?_
              rintro e wx ⟨rfl, hr2, hf⟩
              skip
              have hs2 := hs.fr hf (by omega) (fun _ => by omega)
              replace HB := Lib.hid (below_one HB.out hf hwg)
              have HR := Lib.hid hr2
              clear hr hs hf hr2
              have hq : ((rdVal 4 zs : Nat) : Int) ≤ 4294967295 := by have := rdVal_lt 4 zs; omega
              go_wp2_with fail
              refine (rr_num 4 (by omega) (by omega) g2 bl2 _ _ _ hs2 HI.out).mono ?_
              rintro e wy ⟨rfl, hs3, hf⟩
              have hr3 := HR.out.fr hf (by omega) (fun _ => by omega) hs2.noStep
              replace HB := Lib.hid (below_one HB.out hf (by omega))
              have HS := Lib.hid hs3
              have HR3 := Lib.hid hr3
              clear hs2 hs3 hr3 hf
              go_wp2_with fail
              go_meet
              exact ⟨rfl, _, _, rd_inv 4 _ _ HI.out, HR3.out, HS.out, HB.out⟩
            have h2' : (z.tmod 4 == 2) = false := by simpa using h2
            clear h2
            by_cases h3 : z.tmod 4 = 3
            · have hwx : w1.heap.size ≤ bl := hbl
              have hlz := hr.len
              go_wp2_with fail
              refine (rd_rest g bl _ _ _ hr).mono ?_
              rintro e wx ⟨Ax, cx, rfl, hrx, hblk, hr2, hf⟩
              have hs2 := hs.fr hf (by omega) (fun _ => by omega)
              replace HB := Lib.hid (below_one HB.out hf hwg)
              have HR := Lib.hid hr2
              have HK := Lib.hid hblk
              have HX0 := Lib.hid hrx
              clear hr hs hf hr2 hblk
              go_wp2_with fail
              refine (rr_rest g2 bl2 _ _ _ hs2).mono ?_
              rintro e wy ⟨v, rfl, hown, hs3, hf⟩
              have hr3 := HR.out.fr hf (by omega) (fun h => absurd rfl h) hs2.noStep
              replace HB := Lib.hid (below_one HB.out hf (by omega))
              have HS := Lib.hid hs3
              have HR3 := Lib.hid hr3
              replace hrx := hrx.fr hf (fun h0 b off e => by
                obtain ⟨o, e2⟩ := (HK.out h0).1
                rw [e2] at e; cases e; omega)
              obtain ⟨Av, cv, rfl, hrv⟩ := hown.reads
              have k1 := by_string wy _ _ cx _ hrx.rb
              have k2 := by_string wy _ _ cv _ hrv.rb
              have HF := Lib.hid hf
              clear hs2 hs3 hr3 hf hown hrv
              rcases Nat.eq_zero_or_pos zs.length with hz | hz
              · clear k1 k2
                have hzs : zs = [] := List.eq_nil_of_length_eq_zero hz
                subst hzs
                have k1 := by_string wy _ _ cx _ hrx.rb
                have k2 := by_string wy Av 0 cv [] (RB.nil _ _)
                rw [show ([] : List UInt8).length = 0 from rfl] at k1 ⊢
                clear hrx hz
                go_wp2_with fail
                clear k1 k2
                refine wp_loop_rounds 1 ?_
                rw [rounds_succ]
                go_wp2_with fail
                go_meet
                exact ⟨rfl, _, _, (fun _ => rfl), HR3.out, HS.out, HB.out⟩
              · obtain ⟨⟨o, rfl⟩, hblg, hfz0⟩ := HK.out hz
                obtain ⟨b', o', e, hltx, hcx⟩ := hrx.rb.cells hz
                cases e
                have hwf : bad = false := by
                  cases bad with
                  | false => rfl
                  | true => have := HI.out rfl; rw [this] at hz; simp at hz
                subst hwf
                have HC := Lib.hid (show ∀ i, i < zs.length → ∃ u, wy.cell? ⟨bl, o + i, none⟩ = some u from fun i hi => ⟨_, hcx i hi⟩)
                have HZ := Lib.hid (show ∀ i, wx.frozen? ⟨bl, i, none⟩ = false from hfz0)
                have hblx : bl < wx.heap.size := by
                  obtain ⟨b', o', e, hlt9, _⟩ := HX0.out.rb.cells hz
                  cases e
                  exact hlt9
                clear HX0
                have HZ2 := Lib.hid (show ∀ i, wy.frozen? ⟨bl, i, none⟩ = false from fun i => (HF.out.frozen (p := ⟨bl, i, none⟩) hblx (by show ¬ bl = g2; omega)).trans (HZ.out i))
                clear hrx hcx hfz0
                generalize hL : zs.length = L at *
                clear hL
                go_wp2_with fail
                clear k1 k2
                go_loopw [14] (fun s14 wr => ∃ k : Nat, k ≤ L ∧ s14 = .int .i64 k ∧ Fr (fun b => b = bl) wy wr ∧ (∀ i, i < L → ∃ u, wr.cell? ⟨bl, o + i, none⟩ = some u) ∧ ∀ i, wr.frozen? ⟨bl, i, none⟩ = false) (fun s14 _ => L - (intOf s14).toNat)
                case atStart => exact ⟨0, Nat.zero_le _, rfl, Fr.refl _ _, HC.out, HZ2.out⟩
                case round =>
                  obtain ⟨j, hj, rfl, hfr, hcr, hzr⟩ := hrel
                  by_cases hjl : j < L
                  · have hjl' : (j : Int) < L := by omega
                    obtain ⟨u, x2⟩ := hcr j hjl
                    have x3 := hzr (o + j)
                    have hfs := Lib.hid (fr_same hfr (fr_setCell (F := fun b => b = bl) (w := wr) ⟨bl, o + j, none⟩ (.int .u8 9) rfl))
                    have hcs := Lib.hid (show ∀ i, i < L → ∃ u, (wr.setCell ⟨bl, o + j, none⟩ (.int .u8 9)).cell? ⟨bl, o + i, none⟩ = some u from fun i hi => by
                      by_cases e : (⟨bl, o + j, none⟩ : Addr) = ⟨bl, o + i, none⟩
                      · rw [e]; obtain ⟨u', h'⟩ := hcr i hi; exact ⟨_, World.cell?_setCell_same wr _ _ h'⟩
                      · obtain ⟨u', h'⟩ := hcr i hi; exact ⟨u', (World.cell?_setCell_other wr _ _ _ e).trans h'⟩)
                    have hzs := Lib.hid (show ∀ i, (wr.setCell ⟨bl, o + j, none⟩ (.int .u8 9)).frozen? ⟨bl, i, none⟩ = false from fun i => by rw [World.frozen?_setCell]; exact hzr i)
                    clear hfr hcr hzr
                    go_wp2_with fail
                    exact ⟨⟨j + 1, by omega, by go_num, hfs.out, hcs.out, hzs.out⟩, by simp [intOf]; omega⟩
                  · have hjl' : ¬ (j : Int) < L := by omega
                    have HB2 := Lib.hid (below_one HB.out hfr (by omega))
                    have HR4 := Lib.hid (HR3.out.frGood hfr (fun e => hblg e.symm) (fun h => absurd rfl h))
                    have HS4 := Lib.hid (HS.out.fr hfr (fun (e : g2 = bl) => by omega) (fun h => absurd rfl h))
                    clear hfr hcr hzr
                    go_wp2_with fail
                    go_meet
                    exact ⟨rfl, _, _, (fun _ => rfl), HR4.out, HS4.out, HB2.out⟩
            have h3' : (z.tmod 4 == 3) = false := by simpa using h3
            clear h3
            go_wp2_with fail
            go_meet
            exact ⟨rfl, _, _, HI.out, hr, hs, HB.out⟩
          case rest =>
            obtain ⟨rfl, zs', bad', hinv', hr, hs, hbr⟩ := hcut
            have HB := Lib.hid hbr
            have HI2 := Lib.hid hinv'
            have hS0 := below_drew1 wc
            have hy : ∀ w', Below wc.heap.size wc w' → w'.cell? ⟨g2, 1, none⟩ = some (.bool bad') := fun w' hb => by
              obtain ⟨A9, n9, c9, h9⟩ := hs.below hb
              exact h9.cell.2.1
            clear hbr hinv' HI
            cases bad' with
            | true =>
              obtain rfl := HI2.out rfl
              go_wp2_with fail
              refine wp_region_held (S := fun w' => Below wc.heap.size wc w') (by kernel_rfl) ?_
              change wpAnyH _ _ _ _ _ _ _ _ wc.drew
              change wpAnyH _ _ _ _ _ 31 (Array.replicate 31 false) _ _
              refine wpAnyH_take (i := 0) (oi := ?_) (v := ?_) ?_ (by kernel_rfl) (by kernel_rfl) (by kernel_rfl) ?_ ?_ (by assumption) ?_
              rotate_left 2; (simp only [List.getElem?_toArray, List.getElem?_cons_succ, List.getElem?_cons_zero]; rfl)
              rotate_left; (first | (refine .inl ⟨by rfl, ?_⟩; intro w9 hS9; go_simp; try with_reducible rfl) | (refine .inr ⟨by rfl, ?_⟩; with_reducible rfl))
              rotate_left; (intro _ _ _ h9; exact h9)
              try simp only [Act.put, List.setIfInBounds_toArray, List.set_cons_zero, List.set_cons_succ]
              refine wpAnyH_take (i := 1) (oi := ?_) (v := ?_) ?_ (by kernel_rfl) (by kernel_rfl) (by kernel_rfl) ?_ ?_ (by assumption) ?_
              rotate_left 2; (simp only [List.getElem?_toArray, List.getElem?_cons_succ, List.getElem?_cons_zero]; rfl)
              rotate_left; (first | (refine .inl ⟨by rfl, ?_⟩; intro w9 hS9; go_simp; try with_reducible rfl) | (refine .inr ⟨by rfl, ?_⟩; with_reducible rfl))
              rotate_left; (intro _ _ _ h9; exact h9)
              try simp only [Act.put, List.setIfInBounds_toArray, List.set_cons_zero, List.set_cons_succ]
              refine wpAnyH_take (i := 2) (oi := ?_) (v := ?_) ?_ (by kernel_rfl) (by kernel_rfl) (by kernel_rfl) ?_ ?_ (by assumption) ?_
              rotate_left 2; (simp only [List.getElem?_toArray, List.getElem?_cons_succ, List.getElem?_cons_zero]; rfl)
              rotate_left; (first | (refine .inl ⟨by rfl, ?_⟩; intro w9 hS9; go_simp; try with_reducible rfl) | (refine .inr ⟨by rfl, ?_⟩; with_reducible rfl))
              rotate_left; (intro _ _ _ h9; exact h9)
              try simp only [Act.put, List.setIfInBounds_toArray, List.set_cons_zero, List.set_cons_succ]
              refine wpAnyH_take (i := 3) (oi := ?_) (v := ?_) ?_ (by kernel_rfl) (by kernel_rfl) (by kernel_rfl) ?_ ?_ (by assumption) ?_
              rotate_left 2; (simp only [List.getElem?_toArray, List.getElem?_cons_succ, List.getElem?_cons_zero]; rfl)
              rotate_left; (first | (refine .inl ⟨by rfl, ?_⟩; intro w9 hS9; go_simp; try with_reducible rfl) | (refine .inr ⟨by rfl, ?_⟩; with_reducible rfl))
              rotate_left; (intro _ _ _ h9; exact h9)
              try simp only [Act.put, List.setIfInBounds_toArray, List.set_cons_zero, List.set_cons_succ]
              refine wpAnyH_take (i := 6) (oi := ?_) (v := ?_) ?_ (by kernel_rfl) (by kernel_rfl) (by kernel_rfl) ?_ ?_ (by assumption) ?_
              rotate_left 2; (simp only [List.getElem?_toArray, List.getElem?_cons_succ, List.getElem?_cons_zero]; rfl)
              rotate_left; (first | (refine .inl ⟨by rfl, ?_⟩; intro w9 hS9; go_simp; try with_reducible rfl) | (refine .inr ⟨by rfl, ?_⟩; with_reducible rfl))
              rotate_left; (intro _ _ _ h9; exact h9)
              try simp only [Act.put, List.setIfInBounds_toArray, List.set_cons_zero, List.set_cons_succ]
              refine wpAnyH_take (i := 7) (oi := ?_) (v := ?_) ?_ (by kernel_rfl) (by kernel_rfl) (by kernel_rfl) ?_ ?_ (by assumption) ?_
              rotate_left 2; (simp only [List.getElem?_toArray, List.getElem?_cons_succ, List.getElem?_cons_zero]; rfl)
              rotate_left; (first | (refine .inl ⟨by rfl, ?_⟩; intro w9 hS9; go_simp; try with_reducible rfl) | (refine .inr ⟨by rfl, ?_⟩; with_reducible rfl))
              rotate_left; (intro _ _ _ h9; exact h9)
              try simp only [Act.put, List.setIfInBounds_toArray, List.set_cons_zero, List.set_cons_succ]
              refine wpAnyH_take (i := 8) (oi := ?_) (v := ?_) ?_ (by kernel_rfl) (by kernel_rfl) (by kernel_rfl) ?_ ?_ (by assumption) ?_
              rotate_left 2; (simp only [List.getElem?_toArray, List.getElem?_cons_succ, List.getElem?_cons_zero]; rfl)
              rotate_left; (first | (refine .inl ⟨by rfl, ?_⟩; intro w9 hS9; go_simp; try with_reducible rfl) | (refine .inr ⟨by rfl, ?_⟩; with_reducible rfl))
              rotate_left; (intro _ _ _ h9; exact h9)
              try simp only [Act.put, List.setIfInBounds_toArray, List.set_cons_zero, List.set_cons_succ]
              refine wpAnyH_take (i := 9) (oi := ?_) (v := ?_) ?_ (by kernel_rfl) (by kernel_rfl) (by kernel_rfl) ?_ ?_ (by assumption) ?_
              rotate_left 2; (simp only [List.getElem?_toArray, List.getElem?_cons_succ, List.getElem?_cons_zero]; rfl)
              rotate_left; (first | (refine .inl ⟨by rfl, ?_⟩; intro w9 hS9; go_simp; try with_reducible rfl) | (refine .inr ⟨by rfl, ?_⟩; with_reducible rfl))
              rotate_left; (intro _ _ _ h9; exact h9)
              try simp only [Act.put, List.setIfInBounds_toArray, List.set_cons_zero, List.set_cons_succ]
              refine wpAnyH_ready (rs := [4]) (by kernel_rfl) (by simp) (AllReadyH.cons rfl (fun K9 hK9 => ?_) AllReadyH.nil)
              go_simp
              go_must (refine (rd_err g bl _ _ _ (hr.below hS0)).mono ?_)
              rintro e we ⟨v, rfl, hv, rfl⟩
              obtain ⟨t, u, rfl⟩ := ErrN.iface hv
              refine hK9.out _ _ hS0 (fun _ => ?_)
              clear hK9
              refine wpAnyH_take (i := 5) (oi := ?_) (v := ?_) ?_ (by kernel_rfl) (by kernel_rfl) (by kernel_rfl) ?_ ?_ (by assumption) ?_
              rotate_left 2; (simp only [List.getElem?_toArray, List.getElem?_cons_succ, List.getElem?_cons_zero]; rfl)
              rotate_left; (first | (refine .inl ⟨by rfl, ?_⟩; intro w9 hS9; go_simp; try with_reducible rfl) | (refine .inr ⟨by rfl, ?_⟩; with_reducible rfl))
              rotate_left; (intro _ _ _ h9; exact h9)
              try simp only [Act.put, List.setIfInBounds_toArray, List.set_cons_zero, List.set_cons_succ]
              refine wpAnyH_take (i := 10) (oi := ?_) (v := ?_) ?_ (by kernel_rfl) (by kernel_rfl) (by kernel_rfl) ?_ ?_ (by assumption) ?_
              rotate_left 2; (simp only [List.getElem?_toArray, List.getElem?_cons_succ, List.getElem?_cons_zero]; rfl)
              rotate_left; (first | (refine .inl ⟨by rfl, ?_⟩; intro w9 hS9; go_simp; try with_reducible rfl) | (refine .inr ⟨by rfl, ?_⟩; with_reducible rfl))
              rotate_left; (intro _ _ _ h9; exact h9)
              try simp only [Act.put, List.setIfInBounds_toArray, List.set_cons_zero, List.set_cons_succ]
              refine wpAnyH_take (i := 11) (oi := ?_) (v := ?_) ?_ (by kernel_rfl) (by kernel_rfl) (by kernel_rfl) ?_ ?_ (by assumption) ?_
              rotate_left 2; (simp only [List.getElem?_toArray, List.getElem?_cons_succ, List.getElem?_cons_zero]; rfl)
              rotate_left; (first | (refine .inl ⟨by rfl, ?_⟩; intro w9 hS9; go_simp; try with_reducible rfl) | (refine .inr ⟨by rfl, ?_⟩; with_reducible rfl))
              rotate_left; (intro _ _ _ h9; exact h9)
              try simp only [Act.put, List.setIfInBounds_toArray, List.set_cons_zero, List.set_cons_succ]
              refine wpAnyH_take (i := 12) (oi := ?_) (v := ?_) ?_ (by kernel_rfl) (by kernel_rfl) (by kernel_rfl) ?_ ?_ (by assumption) ?_
              rotate_left 2; (simp only [List.getElem?_toArray, List.getElem?_cons_succ, List.getElem?_cons_zero]; rfl)
              rotate_left; (first | (refine .inl ⟨by rfl, ?_⟩; intro w9 hS9; go_simp; try with_reducible rfl) | (refine .inr ⟨by rfl, ?_⟩; with_reducible rfl))
              rotate_left; (intro _ _ _ h9; exact h9)
              try simp only [Act.put, List.setIfInBounds_toArray, List.set_cons_zero, List.set_cons_succ]
              refine wpAnyH_take (i := 13) (oi := ?_) (v := ?_) ?_ (by kernel_rfl) (by kernel_rfl) (by kernel_rfl) ?_ ?_ (by assumption) ?_
              rotate_left 2; (simp only [List.getElem?_toArray, List.getElem?_cons_succ, List.getElem?_cons_zero]; rfl)
              rotate_left; (first | (refine .inl ⟨by rfl, ?_⟩; intro w9 hS9; go_simp; try with_reducible rfl) | (refine .inr ⟨by rfl, ?_⟩; with_reducible rfl))
              rotate_left; (intro _ _ _ h9; exact h9)
              try simp only [Act.put, List.setIfInBounds_toArray, List.set_cons_zero, List.set_cons_succ]
              refine wpAnyH_take (i := 16) (oi := ?_) (v := ?_) ?_ (by kernel_rfl) (by kernel_rfl) (by kernel_rfl) ?_ ?_ (by assumption) ?_
              rotate_left 2; (simp only [List.getElem?_toArray, List.getElem?_cons_succ, List.getElem?_cons_zero]; rfl)
              rotate_left; (first | (refine .inl ⟨by rfl, ?_⟩; intro w9 hS9; go_simp; try with_reducible rfl) | (refine .inr ⟨by rfl, ?_⟩; with_reducible rfl))
              rotate_left; (intro _ _ _ h9; exact h9)
              try simp only [Act.put, List.setIfInBounds_toArray, List.set_cons_zero, List.set_cons_succ]
              refine wpAnyH_ready (rs := [14]) (by kernel_rfl) (by simp) (AllReadyH.cons rfl (fun K9 hK9 => ?_) AllReadyH.nil)
              go_simp
              go_must (refine (rd_end g bl _ _ _ (hr.below hS0)).mono ?_)
              rintro e we ⟨v, rfl, hv, hb2⟩
              obtain ⟨t, u, rfl⟩ := ErrN.iface hv
              have hS1 := below_step hS0 hb2
              refine hK9.out _ _ hS1 (fun _ => ?_)
              clear hK9
              refine wpAnyH_take (i := 15) (oi := ?_) (v := ?_) ?_ (by kernel_rfl) (by kernel_rfl) (by kernel_rfl) ?_ ?_ (by assumption) ?_
              rotate_left 2; (simp only [List.getElem?_toArray, List.getElem?_cons_succ, List.getElem?_cons_zero]; rfl)
              rotate_left; (first | (refine .inl ⟨by rfl, ?_⟩; intro w9 hS9; go_simp; try with_reducible rfl) | (refine .inr ⟨by rfl, ?_⟩; with_reducible rfl))
              rotate_left; (intro _ _ _ h9; exact h9)
              try simp only [Act.put, List.setIfInBounds_toArray, List.set_cons_zero, List.set_cons_succ]
              refine wpAnyH_ready (rs := [17]) (by kernel_rfl) (by simp) (AllReadyH.cons rfl (fun K9 hK9 => ?_) AllReadyH.nil)
              go_simp
              go_must (refine (rr_fine g2 bl2 _ _ _ (hs.below hS1)).mono ?_)
              rintro e we2 ⟨rfl, rfl⟩
              refine hK9.out _ _ hS1 (fun _ => ?_)
              clear hK9
              refine wpAnyH_take (i := 18) (oi := ?_) (v := ?_) ?_ (by kernel_rfl) (by kernel_rfl) (by kernel_rfl) ?_ ?_ (by assumption) ?_
              rotate_left 2; (simp only [List.getElem?_toArray, List.getElem?_cons_succ, List.getElem?_cons_zero]; rfl)
              rotate_left; (first | (refine .inl ⟨by rfl, ?_⟩; intro w9 hS9; go_simp; try with_reducible rfl) | (refine .inr ⟨by rfl, ?_⟩; with_reducible rfl))
              rotate_left; (intro _ _ _ h9; exact h9)
              try simp only [Act.put, List.setIfInBounds_toArray, List.set_cons_zero, List.set_cons_succ]
              refine wpAnyH_take (i := 19) (oi := ?_) (v := ?_) ?_ (by kernel_rfl) (by kernel_rfl) (by kernel_rfl) ?_ ?_ (by assumption) ?_
              rotate_left 2; (simp only [List.getElem?_toArray, List.getElem?_cons_succ, List.getElem?_cons_zero]; rfl)
              rotate_left; (first | (refine .inl ⟨by rfl, ?_⟩; intro w9 hS9; go_simp; try with_reducible rfl) | (refine .inr ⟨by rfl, ?_⟩; with_reducible rfl))
              rotate_left; (intro _ _ _ h9; exact h9)
              try simp only [Act.put, List.setIfInBounds_toArray, List.set_cons_zero, List.set_cons_succ]
              refine wpAnyH_take (i := 20) (oi := ?_) (v := ?_) ?_ (by kernel_rfl) (by kernel_rfl) (by kernel_rfl) ?_ ?_ (by assumption) ?_
              rotate_left 2; (simp only [List.getElem?_toArray, List.getElem?_cons_succ, List.getElem?_cons_zero]; rfl)
              rotate_left; (first | (refine .inl ⟨by rfl, ?_⟩; intro w9 hS9; go_simp; try with_reducible rfl) | (refine .inr ⟨by rfl, ?_⟩; with_reducible rfl))
              rotate_left; (intro _ _ _ h9; exact h9)
              try simp only [Act.put, List.setIfInBounds_toArray, List.set_cons_zero, List.set_cons_succ]
              refine wpAnyH_take (i := 21) (oi := ?_) (v := ?_) ?_ (by kernel_rfl) (by kernel_rfl) (by kernel_rfl) ?_ ?_ (by assumption) ?_
              rotate_left 2; (simp only [List.getElem?_toArray, List.getElem?_cons_succ, List.getElem?_cons_zero]; rfl)
              rotate_left; (first | (refine .inl ⟨by rfl, ?_⟩; intro w9 hS9; go_simp; try with_reducible rfl) | (refine .inr ⟨by rfl, ?_⟩; with_reducible rfl))
              rotate_left; (intro _ _ _ h9; exact h9)
              try simp only [Act.put, List.setIfInBounds_toArray, List.set_cons_zero, List.set_cons_succ]
              refine wpAnyH_ready (rs := [22]) (by kernel_rfl) (by simp) (AllReadyH.cons rfl (fun K9 hK9 => ?_) AllReadyH.nil)
              go_simp
              go_must (refine (rd_end g bl _ _ _ (hr.below hS1)).mono ?_)
              rintro e we2 ⟨v, rfl, hv, hb3⟩
              obtain ⟨t, u, rfl⟩ := ErrN.iface hv
              have hS2 := below_step hS1 hb3
              refine hK9.out _ _ hS2 (fun _ => ?_)
              clear hK9
              refine wpAnyH_take (i := 23) (oi := ?_) (v := ?_) ?_ (by kernel_rfl) (by kernel_rfl) (by kernel_rfl) ?_ ?_ (by assumption) ?_
              rotate_left 2; (simp only [List.getElem?_toArray, List.getElem?_cons_succ, List.getElem?_cons_zero]; rfl)
              rotate_left; (first | (refine .inl ⟨by rfl, ?_⟩; intro w9 hS9; go_simp; try with_reducible rfl) | (refine .inr ⟨by rfl, ?_⟩; with_reducible rfl))
              rotate_left; (intro _ _ _ h9; exact h9)
              try simp only [Act.put, List.setIfInBounds_toArray, List.set_cons_zero, List.set_cons_succ]
              refine wpAnyH_take (i := 24) (oi := ?_) (v := ?_) ?_ (by kernel_rfl) (by kernel_rfl) (by kernel_rfl) ?_ ?_ (by assumption) ?_
              rotate_left 2; (simp only [List.getElem?_toArray, List.getElem?_cons_succ, List.getElem?_cons_zero]; rfl)
              rotate_left; (first | (refine .inl ⟨by rfl, ?_⟩; intro w9 hS9; go_simp; try with_reducible rfl) | (refine .inr ⟨by rfl, ?_⟩; with_reducible rfl))
              rotate_left; (intro _ _ _ h9; exact h9)
              try simp only [Act.put, List.setIfInBounds_toArray, List.set_cons_zero, List.set_cons_succ]
              refine wpAnyH_take (i := 25) (oi := ?_) (v := ?_) ?_ (by kernel_rfl) (by kernel_rfl) (by kernel_rfl) ?_ ?_ (by assumption) ?_
              rotate_left 2; (simp only [List.getElem?_toArray, List.getElem?_cons_succ, List.getElem?_cons_zero]; rfl)
              rotate_left; (first | (refine .inl ⟨by rfl, ?_⟩; intro w9 hS9; go_simp; try with_reducible rfl) | (refine .inr ⟨by rfl, ?_⟩; with_reducible rfl))
              rotate_left; (intro _ _ _ h9; exact h9)
              try simp only [Act.put, List.setIfInBounds_toArray, List.set_cons_zero, List.set_cons_succ]
              refine wpAnyH_ready (rs := [26]) (by kernel_rfl) (by simp) (AllReadyH.cons rfl (fun K9 hK9 => ?_) AllReadyH.nil)
              go_simp
              go_must (refine (rd_end g bl _ _ _ (hr.below hS2)).mono ?_)
              rintro e we3 ⟨v, rfl, hv4, hb4⟩
              have hv5 : ErrN we3 1 v 2 := hv4
              obtain ⟨t, u, rfl⟩ := ErrN.iface hv5
              have hS3 := below_step hS2 hb4
              refine hK9.out _ _ hS3 (fun _ => ?_)
              clear hK9
              refine wpAnyH_ready (rs := [27]) (by kernel_rfl) (by simp) (AllReadyH.cons rfl (fun K9 hK9 => ?_) AllReadyH.nil)
              go_simp
              go_must (refine (fault_code 1 _ 2 _ ((H0.out.below HB.out).below hS3) hv5).mono ?_)
              rintro e we4 ⟨rfl, hb5⟩
              have hS4 := below_step hS3 hb5
              refine hK9.out _ _ hS4 (fun _ => ?_)
              clear hK9
              refine wpAnyH_take (i := 28) (oi := ?_) (v := ?_) ?_ (by kernel_rfl) (by kernel_rfl) (by kernel_rfl) ?_ ?_ (by assumption) ?_
              rotate_left 2; (simp only [List.getElem?_toArray, List.getElem?_cons_succ, List.getElem?_cons_zero]; rfl)
              rotate_left; (first | (refine .inl ⟨by rfl, ?_⟩; intro w9 hS9; go_simp; try with_reducible rfl) | (refine .inr ⟨by rfl, ?_⟩; with_reducible rfl))
              rotate_left; (intro _ _ _ h9; exact h9)
              try simp only [Act.put, List.setIfInBounds_toArray, List.set_cons_zero, List.set_cons_succ]
              refine wpAnyH_take (i := 29) (oi := ?_) (v := ?_) ?_ (by kernel_rfl) (by kernel_rfl) (by kernel_rfl) ?_ ?_ (by assumption) ?_
              rotate_left 2; (simp only [List.getElem?_toArray, List.getElem?_cons_succ, List.getElem?_cons_zero]; rfl)
              rotate_left; (first | (refine .inl ⟨by rfl, ?_⟩; intro w9 hS9; go_simp; try with_reducible rfl) | (refine .inr ⟨by rfl, ?_⟩; with_reducible rfl))
              rotate_left; (intro _ _ _ h9; exact h9)
              try simp only [Act.put, List.setIfInBounds_toArray, List.set_cons_zero, List.set_cons_succ]
              refine wpAnyH_take (i := 30) (oi := ?_) (v := ?_) ?_ (by kernel_rfl) (by kernel_rfl) (by kernel_rfl) ?_ ?_ (by assumption) ?_
              rotate_left 2; (simp only [List.getElem?_toArray, List.getElem?_cons_succ, List.getElem?_cons_zero]; rfl)
              rotate_left; (first | (refine .inl ⟨by rfl, ?_⟩; intro w9 hS9; go_simp; try with_reducible rfl) | (refine .inr ⟨by rfl, ?_⟩; with_reducible rfl))
              rotate_left; (intro _ _ _ h9; exact h9)
              try simp only [Act.put, List.setIfInBounds_toArray, List.set_cons_zero, List.set_cons_succ]
              refine wpAnyH_done (by kernel_rfl) ?_ _
              have HB5 := Lib.hid (below_step HB.out hS4)
              have HR5 := Lib.hid (hr.below hS4)
              have HS5 := Lib.hid (hs.below hS4)
              clear hr hs hS0 hS1 hS2 hS3 hS4 hb2 hb3 hb4 hb5 hv hv4 hv5 hy
              go_wp2_with fail
              exact ⟨⟨k + 1, _, _, by omega, by go_num, (by intro h; first | rfl | cases h), HR5.out, HS5.out, HB5.out⟩, by simp [intOf]; omega⟩
            | false =>
              cases zs' with
              | nil =>
                go_wp2_with fail
                refine wp_region_held (S := fun w' => Below wc.heap.size wc w') (by kernel_rfl) ?_
                change wpAnyH _ _ _ _ _ _ _ _ wc.drew
                change wpAnyH _ _ _ _ _ 31 (Array.replicate 31 false) _ _
                refine wpAnyH_take (i := 0) (oi := ?_) (v := ?_) ?_ (by kernel_rfl) (by kernel_rfl) (by kernel_rfl) ?_ ?_ (by assumption) ?_
                rotate_left 2; (simp only [List.getElem?_toArray, List.getElem?_cons_succ, List.getElem?_cons_zero]; rfl)
                rotate_left; (first | (refine .inl ⟨by rfl, ?_⟩; intro w9 hS9; go_simp; try with_reducible rfl) | (refine .inr ⟨by rfl, ?_⟩; with_reducible rfl))
                rotate_left; (intro _ _ _ h9; exact h9)
                try simp only [Act.put, List.setIfInBounds_toArray, List.set_cons_zero, List.set_cons_succ]
                refine wpAnyH_take (i := 1) (oi := ?_) (v := ?_) ?_ (by kernel_rfl) (by kernel_rfl) (by kernel_rfl) ?_ ?_ (by assumption) ?_
                rotate_left 2; (simp only [List.getElem?_toArray, List.getElem?_cons_succ, List.getElem?_cons_zero]; rfl)
                rotate_left; (first | (refine .inl ⟨by rfl, ?_⟩; intro w9 hS9; go_simp; try with_reducible rfl) | (refine .inr ⟨by rfl, ?_⟩; with_reducible rfl))
                rotate_left; (intro _ _ _ h9; exact h9)
                try simp only [Act.put, List.setIfInBounds_toArray, List.set_cons_zero, List.set_cons_succ]
                refine wpAnyH_take (i := 2) (oi := ?_) (v := ?_) ?_ (by kernel_rfl) (by kernel_rfl) (by kernel_rfl) ?_ ?_ (by assumption) ?_
                rotate_left 2; (simp only [List.getElem?_toArray, List.getElem?_cons_succ, List.getElem?_cons_zero]; rfl)
                rotate_left; (first | (refine .inl ⟨by rfl, ?_⟩; intro w9 hS9; go_simp; try with_reducible rfl) | (refine .inr ⟨by rfl, ?_⟩; with_reducible rfl))
                rotate_left; (intro _ _ _ h9; exact h9)
                try simp only [Act.put, List.setIfInBounds_toArray, List.set_cons_zero, List.set_cons_succ]
                refine wpAnyH_take (i := 3) (oi := ?_) (v := ?_) ?_ (by kernel_rfl) (by kernel_rfl) (by kernel_rfl) ?_ ?_ (by assumption) ?_
                rotate_left 2; (simp only [List.getElem?_toArray, List.getElem?_cons_succ, List.getElem?_cons_zero]; rfl)
                rotate_left; (first | (refine .inl ⟨by rfl, ?_⟩; intro w9 hS9; go_simp; try with_reducible rfl) | (refine .inr ⟨by rfl, ?_⟩; with_reducible rfl))
                rotate_left; (intro _ _ _ h9; exact h9)
                try simp only [Act.put, List.setIfInBounds_toArray, List.set_cons_zero, List.set_cons_succ]
                refine wpAnyH_take (i := 6) (oi := ?_) (v := ?_) ?_ (by kernel_rfl) (by kernel_rfl) (by kernel_rfl) ?_ ?_ (by assumption) ?_
                rotate_left 2; (simp only [List.getElem?_toArray, List.getElem?_cons_succ, List.getElem?_cons_zero]; rfl)
                rotate_left; (first | (refine .inl ⟨by rfl, ?_⟩; intro w9 hS9; go_simp; try with_reducible rfl) | (refine .inr ⟨by rfl, ?_⟩; with_reducible rfl))
                rotate_left; (intro _ _ _ h9; exact h9)
                try simp only [Act.put, List.setIfInBounds_toArray, List.set_cons_zero, List.set_cons_succ]
                refine wpAnyH_take (i := 7) (oi := ?_) (v := ?_) ?_ (by kernel_rfl) (by kernel_rfl) (by kernel_rfl) ?_ ?_ (by assumption) ?_
                rotate_left 2; (simp only [List.getElem?_toArray, List.getElem?_cons_succ, List.getElem?_cons_zero]; rfl)
                rotate_left; (first | (refine .inl ⟨by rfl, ?_⟩; intro w9 hS9; go_simp; try with_reducible rfl) | (refine .inr ⟨by rfl, ?_⟩; with_reducible rfl))
                rotate_left; (intro _ _ _ h9; exact h9)
                try simp only [Act.put, List.setIfInBounds_toArray, List.set_cons_zero, List.set_cons_succ]
                refine wpAnyH_take (i := 8) (oi := ?_) (v := ?_) ?_ (by kernel_rfl) (by kernel_rfl) (by kernel_rfl) ?_ ?_ (by assumption) ?_
                rotate_left 2; (simp only [List.getElem?_toArray, List.getElem?_cons_succ, List.getElem?_cons_zero]; rfl)
                rotate_left; (first | (refine .inl ⟨by rfl, ?_⟩; intro w9 hS9; go_simp; try with_reducible rfl) | (refine .inr ⟨by rfl, ?_⟩; with_reducible rfl))
                rotate_left; (intro _ _ _ h9; exact h9)
                try simp only [Act.put, List.setIfInBounds_toArray, List.set_cons_zero, List.set_cons_succ]
                refine wpAnyH_take (i := 9) (oi := ?_) (v := ?_) ?_ (by kernel_rfl) (by kernel_rfl) (by kernel_rfl) ?_ ?_ (by assumption) ?_
                rotate_left 2; (simp only [List.getElem?_toArray, List.getElem?_cons_succ, List.getElem?_cons_zero]; rfl)
                rotate_left; (first | (refine .inl ⟨by rfl, ?_⟩; intro w9 hS9; go_simp; try with_reducible rfl) | (refine .inr ⟨by rfl, ?_⟩; with_reducible rfl))
                rotate_left; (intro _ _ _ h9; exact h9)
                try simp only [Act.put, List.setIfInBounds_toArray, List.set_cons_zero, List.set_cons_succ]
                refine wpAnyH_ready (rs := [4]) (by kernel_rfl) (by simp) (AllReadyH.cons rfl (fun K9 hK9 => ?_) AllReadyH.nil)
                go_simp
                go_must (refine (rd_err g bl _ _ _ (hr.below hS0)).mono ?_)
                rintro e we ⟨v, rfl, hv, rfl⟩
                obtain rfl : v = .nilIface := hv
                refine hK9.out _ _ hS0 (fun _ => ?_)
                clear hK9
                refine wpAnyH_take (i := 5) (oi := ?_) (v := ?_) ?_ (by kernel_rfl) (by kernel_rfl) (by kernel_rfl) ?_ ?_ (by assumption) ?_
                rotate_left 2; (simp only [List.getElem?_toArray, List.getElem?_cons_succ, List.getElem?_cons_zero]; rfl)
                rotate_left; (first | (refine .inl ⟨by rfl, ?_⟩; intro w9 hS9; go_simp; try with_reducible rfl) | (refine .inr ⟨by rfl, ?_⟩; with_reducible rfl))
                rotate_left; (intro _ _ _ h9; exact h9)
                try simp only [Act.put, List.setIfInBounds_toArray, List.set_cons_zero, List.set_cons_succ]
                refine wpAnyH_take (i := 10) (oi := ?_) (v := ?_) ?_ (by kernel_rfl) (by kernel_rfl) (by kernel_rfl) ?_ ?_ (by assumption) ?_
                rotate_left 2; (simp only [List.getElem?_toArray, List.getElem?_cons_succ, List.getElem?_cons_zero]; rfl)
                rotate_left; (first | (refine .inl ⟨by rfl, ?_⟩; intro w9 hS9; go_simp; try with_reducible rfl) | (refine .inr ⟨by rfl, ?_⟩; with_reducible rfl))
                rotate_left; (intro _ _ _ h9; exact h9)
                try simp only [Act.put, List.setIfInBounds_toArray, List.set_cons_zero, List.set_cons_succ]
                refine wpAnyH_take (i := 11) (oi := ?_) (v := ?_) ?_ (by kernel_rfl) (by kernel_rfl) (by kernel_rfl) ?_ ?_ (by assumption) ?_
                rotate_left 2; (simp only [List.getElem?_toArray, List.getElem?_cons_succ, List.getElem?_cons_zero]; rfl)
                rotate_left; (first | (refine .inl ⟨by rfl, ?_⟩; intro w9 hS9; go_simp; try with_reducible rfl) | (refine .inr ⟨by rfl, ?_⟩; with_reducible rfl))
                rotate_left; (intro _ _ _ h9; exact h9)
                try simp only [Act.put, List.setIfInBounds_toArray, List.set_cons_zero, List.set_cons_succ]
                refine wpAnyH_take (i := 12) (oi := ?_) (v := ?_) ?_ (by kernel_rfl) (by kernel_rfl) (by kernel_rfl) ?_ ?_ (by assumption) ?_
                rotate_left 2; (simp only [List.getElem?_toArray, List.getElem?_cons_succ, List.getElem?_cons_zero]; rfl)
                rotate_left; (first | (refine .inl ⟨by rfl, ?_⟩; intro w9 hS9; go_simp; try with_reducible rfl) | (refine .inr ⟨by rfl, ?_⟩; with_reducible rfl))
                rotate_left; (intro _ _ _ h9; exact h9)
                try simp only [Act.put, List.setIfInBounds_toArray, List.set_cons_zero, List.set_cons_succ]
                refine wpAnyH_take (i := 13) (oi := ?_) (v := ?_) ?_ (by kernel_rfl) (by kernel_rfl) (by kernel_rfl) ?_ ?_ (by assumption) ?_
                rotate_left 2; (simp only [List.getElem?_toArray, List.getElem?_cons_succ, List.getElem?_cons_zero]; rfl)
                rotate_left; (first | (refine .inl ⟨by rfl, ?_⟩; intro w9 hS9; go_simp; try with_reducible rfl) | (refine .inr ⟨by rfl, ?_⟩; with_reducible rfl))
                rotate_left; (intro _ _ _ h9; exact h9)
                try simp only [Act.put, List.setIfInBounds_toArray, List.set_cons_zero, List.set_cons_succ]
                refine wpAnyH_take (i := 16) (oi := ?_) (v := ?_) ?_ (by kernel_rfl) (by kernel_rfl) (by kernel_rfl) ?_ ?_ (by assumption) ?_
                rotate_left 2; (simp only [List.getElem?_toArray, List.getElem?_cons_succ, List.getElem?_cons_zero]; rfl)
                rotate_left; (first | (refine .inl ⟨by rfl, ?_⟩; intro w9 hS9; go_simp; try with_reducible rfl) | (refine .inr ⟨by rfl, ?_⟩; with_reducible rfl))
                rotate_left; (intro _ _ _ h9; exact h9)
                try simp only [Act.put, List.setIfInBounds_toArray, List.set_cons_zero, List.set_cons_succ]
                refine wpAnyH_ready (rs := [14]) (by kernel_rfl) (by simp) (AllReadyH.cons rfl (fun K9 hK9 => ?_) AllReadyH.nil)
                go_simp
                go_must (refine (rd_end g bl _ _ _ (hr.below hS0)).mono ?_)
                rintro e we ⟨v, rfl, hv, hb2⟩
                obtain rfl : v = .nilIface := hv
                have hS1 := below_step hS0 hb2
                refine hK9.out _ _ hS1 (fun _ => ?_)
                clear hK9
                refine wpAnyH_take (i := 15) (oi := ?_) (v := ?_) ?_ (by kernel_rfl) (by kernel_rfl) (by kernel_rfl) ?_ ?_ (by assumption) ?_
                rotate_left 2; (simp only [List.getElem?_toArray, List.getElem?_cons_succ, List.getElem?_cons_zero]; rfl)
                rotate_left; (first | (refine .inl ⟨by rfl, ?_⟩; intro w9 hS9; go_simp; try with_reducible rfl) | (refine .inr ⟨by rfl, ?_⟩; with_reducible rfl))
                rotate_left; (intro _ _ _ h9; exact h9)
                try simp only [Act.put, List.setIfInBounds_toArray, List.set_cons_zero, List.set_cons_succ]
                refine wpAnyH_ready (rs := [17]) (by kernel_rfl) (by simp) (AllReadyH.cons rfl (fun K9 hK9 => ?_) AllReadyH.nil)
                go_simp
                go_must (refine (rr_fine g2 bl2 _ _ _ (hs.below hS1)).mono ?_)
                rintro e we2 ⟨rfl, rfl⟩
                refine hK9.out _ _ hS1 (fun _ => ?_)
                clear hK9
                refine wpAnyH_take (i := 18) (oi := ?_) (v := ?_) ?_ (by kernel_rfl) (by kernel_rfl) (by kernel_rfl) ?_ ?_ (by assumption) ?_
                rotate_left 2; (simp only [List.getElem?_toArray, List.getElem?_cons_succ, List.getElem?_cons_zero]; rfl)
                rotate_left; (first | (refine .inl ⟨by rfl, ?_⟩; intro w9 hS9; go_simp; try with_reducible rfl) | (refine .inr ⟨by rfl, ?_⟩; with_reducible rfl))
                rotate_left; (intro _ _ _ h9; exact h9)
                try simp only [Act.put, List.setIfInBounds_toArray, List.set_cons_zero, List.set_cons_succ]
                refine wpAnyH_take (i := 19) (oi := ?_) (v := ?_) ?_ (by kernel_rfl) (by kernel_rfl) (by kernel_rfl) ?_ ?_ (by assumption) ?_
                rotate_left 2; (simp only [List.getElem?_toArray, List.getElem?_cons_succ, List.getElem?_cons_zero]; rfl)
                rotate_left; (first | (refine .inl ⟨by rfl, ?_⟩; intro w9 hS9; go_simp; try with_reducible rfl) | (refine .inr ⟨by rfl, ?_⟩; with_reducible rfl))
                rotate_left; (intro _ _ _ h9; exact h9)
                try simp only [Act.put, List.setIfInBounds_toArray, List.set_cons_zero, List.set_cons_succ]
                refine wpAnyH_take (i := 20) (oi := ?_) (v := ?_) ?_ (by kernel_rfl) (by kernel_rfl) (by kernel_rfl) ?_ ?_ (by assumption) ?_
                rotate_left 2; (simp only [List.getElem?_toArray, List.getElem?_cons_succ, List.getElem?_cons_zero]; rfl)
                rotate_left; (first | (refine .inl ⟨by rfl, ?_⟩; intro w9 hS9; go_simp; try with_reducible rfl) | (refine .inr ⟨by rfl, ?_⟩; with_reducible rfl))
                rotate_left; (intro _ _ _ h9; exact h9)
                try simp only [Act.put, List.setIfInBounds_toArray, List.set_cons_zero, List.set_cons_succ]
                refine wpAnyH_take (i := 21) (oi := ?_) (v := ?_) ?_ (by kernel_rfl) (by kernel_rfl) (by kernel_rfl) ?_ ?_ (by assumption) ?_
                rotate_left 2; (simp only [List.getElem?_toArray, List.getElem?_cons_succ, List.getElem?_cons_zero]; rfl)
                rotate_left; (first | (refine .inl ⟨by rfl, ?_⟩; intro w9 hS9; go_simp; try with_reducible rfl) | (refine .inr ⟨by rfl, ?_⟩; with_reducible rfl))
                rotate_left; (intro _ _ _ h9; exact h9)
                try simp only [Act.put, List.setIfInBounds_toArray, List.set_cons_zero, List.set_cons_succ]
                refine wpAnyH_ready (rs := [22]) (by kernel_rfl) (by simp) (AllReadyH.cons rfl (fun K9 hK9 => ?_) AllReadyH.nil)
                go_simp
                go_must (refine (rd_end g bl _ _ _ (hr.below hS1)).mono ?_)
                rintro e we2 ⟨v, rfl, hv, hb3⟩
                obtain rfl : v = .nilIface := hv
                have hS2 := below_step hS1 hb3
                refine hK9.out _ _ hS2 (fun _ => ?_)
                clear hK9
                refine wpAnyH_take (i := 23) (oi := ?_) (v := ?_) ?_ (by kernel_rfl) (by kernel_rfl) (by kernel_rfl) ?_ ?_ (by assumption) ?_
                rotate_left 2; (simp only [List.getElem?_toArray, List.getElem?_cons_succ, List.getElem?_cons_zero]; rfl)
                rotate_left; (first | (refine .inl ⟨by rfl, ?_⟩; intro w9 hS9; go_simp; try with_reducible rfl) | (refine .inr ⟨by rfl, ?_⟩; with_reducible rfl))
                rotate_left; (intro _ _ _ h9; exact h9)
                try simp only [Act.put, List.setIfInBounds_toArray, List.set_cons_zero, List.set_cons_succ]
                refine wpAnyH_take (i := 24) (oi := ?_) (v := ?_) ?_ (by kernel_rfl) (by kernel_rfl) (by kernel_rfl) ?_ ?_ (by assumption) ?_
                rotate_left 2; (simp only [List.getElem?_toArray, List.getElem?_cons_succ, List.getElem?_cons_zero]; rfl)
                rotate_left; (first | (refine .inl ⟨by rfl, ?_⟩; intro w9 hS9; go_simp; try with_reducible rfl) | (refine .inr ⟨by rfl, ?_⟩; with_reducible rfl))
                rotate_left; (intro _ _ _ h9; exact h9)
                try simp only [Act.put, List.setIfInBounds_toArray, List.set_cons_zero, List.set_cons_succ]
                refine wpAnyH_take (i := 25) (oi := ?_) (v := ?_) ?_ (by kernel_rfl) (by kernel_rfl) (by kernel_rfl) ?_ ?_ (by assumption) ?_
                rotate_left 2; (simp only [List.getElem?_toArray, List.getElem?_cons_succ, List.getElem?_cons_zero]; rfl)
                rotate_left; (first | (refine .inl ⟨by rfl, ?_⟩; intro w9 hS9; go_simp; try with_reducible rfl) | (refine .inr ⟨by rfl, ?_⟩; with_reducible rfl))
                rotate_left; (intro _ _ _ h9; exact h9)
                try simp only [Act.put, List.setIfInBounds_toArray, List.set_cons_zero, List.set_cons_succ]
                refine wpAnyH_take (i := 26) (oi := ?_) (v := ?_) ?_ (by kernel_rfl) (by kernel_rfl) (by kernel_rfl) ?_ ?_ (by assumption) ?_
                rotate_left 2; (simp only [List.getElem?_toArray, List.getElem?_cons_succ, List.getElem?_cons_zero]; rfl)
                rotate_left; (first | (refine .inl ⟨by rfl, ?_⟩; intro w9 hS9; go_simp; try with_reducible rfl) | (refine .inr ⟨by rfl, ?_⟩; with_reducible rfl))
                rotate_left; (intro _ _ _ h9; exact h9)
                try simp only [Act.put, List.setIfInBounds_toArray, List.set_cons_zero, List.set_cons_succ]
                refine wpAnyH_take (i := 27) (oi := ?_) (v := ?_) ?_ (by kernel_rfl) (by kernel_rfl) (by kernel_rfl) ?_ ?_ (by assumption) ?_
                rotate_left 2; (simp only [List.getElem?_toArray, List.getElem?_cons_succ, List.getElem?_cons_zero]; rfl)
                rotate_left; (first | (refine .inl ⟨by rfl, ?_⟩; intro w9 hS9; go_simp; try with_reducible rfl) | (refine .inr ⟨by rfl, ?_⟩; with_reducible rfl))
                rotate_left; (intro _ _ _ h9; exact h9)
                try simp only [Act.put, List.setIfInBounds_toArray, List.set_cons_zero, List.set_cons_succ]
                refine wpAnyH_take (i := 28) (oi := ?_) (v := ?_) ?_ (by kernel_rfl) (by kernel_rfl) (by kernel_rfl) ?_ ?_ (by assumption) ?_
                rotate_left 2; (simp only [List.getElem?_toArray, List.getElem?_cons_succ, List.getElem?_cons_zero]; rfl)
                rotate_left; (first | (refine .inl ⟨by rfl, ?_⟩; intro w9 hS9; go_simp; try with_reducible rfl) | (refine .inr ⟨by rfl, ?_⟩; with_reducible rfl))
                rotate_left; (intro _ _ _ h9; exact h9)
                try simp only [Act.put, List.setIfInBounds_toArray, List.set_cons_zero, List.set_cons_succ]
                refine wpAnyH_take (i := 29) (oi := ?_) (v := ?_) ?_ (by kernel_rfl) (by kernel_rfl) (by kernel_rfl) ?_ ?_ (by assumption) ?_
                rotate_left 2; (simp only [List.getElem?_toArray, List.getElem?_cons_succ, List.getElem?_cons_zero]; rfl)
                rotate_left; (first | (refine .inl ⟨by rfl, ?_⟩; intro w9 hS9; go_simp; try with_reducible rfl) | (refine .inr ⟨by rfl, ?_⟩; with_reducible rfl))
                rotate_left; (intro _ _ _ h9; exact h9)
                try simp only [Act.put, List.setIfInBounds_toArray, List.set_cons_zero, List.set_cons_succ]
                refine wpAnyH_take (i := 30) (oi := ?_) (v := ?_) ?_ (by kernel_rfl) (by kernel_rfl) (by kernel_rfl) ?_ ?_ (by assumption) ?_
                rotate_left 2; (simp only [List.getElem?_toArray, List.getElem?_cons_succ, List.getElem?_cons_zero]; rfl)
                rotate_left; (first | (refine .inl ⟨by rfl, ?_⟩; intro w9 hS9; go_simp; try with_reducible rfl) | (refine .inr ⟨by rfl, ?_⟩; with_reducible rfl))
                rotate_left; (intro _ _ _ h9; exact h9)
                try simp only [Act.put, List.setIfInBounds_toArray, List.set_cons_zero, List.set_cons_succ]
                refine wpAnyH_done (by kernel_rfl) ?_ _
                have HB5 := Lib.hid (below_step HB.out hS2)
                have HR5 := Lib.hid (hr.below hS2)
                have HS5 := Lib.hid (hs.below hS2)
                clear hr hs hS0 hS1 hS2 hb2 hb3 hy
                go_wp2_with fail
                exact ⟨⟨k + 1, _, _, by omega, by go_num, (by intro h; first | rfl | cases h), HR5.out, HS5.out, HB5.out⟩, by simp [intOf]; omega⟩
              | cons x9 r9 =>
                go_wp2_with fail
                refine wp_region_held (S := fun w' => Below wc.heap.size wc w') (by kernel_rfl) ?_
                change wpAnyH _ _ _ _ _ _ _ _ wc.drew
                change wpAnyH _ _ _ _ _ 31 (Array.replicate 31 false) _ _
                refine wpAnyH_take (i := 0) (oi := ?_) (v := ?_) ?_ (by kernel_rfl) (by kernel_rfl) (by kernel_rfl) ?_ ?_ (by assumption) ?_
                rotate_left 2; (simp only [List.getElem?_toArray, List.getElem?_cons_succ, List.getElem?_cons_zero]; rfl)
                rotate_left; (first | (refine .inl ⟨by rfl, ?_⟩; intro w9 hS9; go_simp; try with_reducible rfl) | (refine .inr ⟨by rfl, ?_⟩; with_reducible rfl))
                rotate_left; (intro _ _ _ h9; exact h9)
                try simp only [Act.put, List.setIfInBounds_toArray, List.set_cons_zero, List.set_cons_succ]
                refine wpAnyH_take (i := 1) (oi := ?_) (v := ?_) ?_ (by kernel_rfl) (by kernel_rfl) (by kernel_rfl) ?_ ?_ (by assumption) ?_
                rotate_left 2; (simp only [List.getElem?_toArray, List.getElem?_cons_succ, List.getElem?_cons_zero]; rfl)
                rotate_left; (first | (refine .inl ⟨by rfl, ?_⟩; intro w9 hS9; go_simp; try with_reducible rfl) | (refine .inr ⟨by rfl, ?_⟩; with_reducible rfl))
                rotate_left; (intro _ _ _ h9; exact h9)
                try simp only [Act.put, List.setIfInBounds_toArray, List.set_cons_zero, List.set_cons_succ]
                refine wpAnyH_take (i := 2) (oi := ?_) (v := ?_) ?_ (by kernel_rfl) (by kernel_rfl) (by kernel_rfl) ?_ ?_ (by assumption) ?_
                rotate_left 2; (simp only [List.getElem?_toArray, List.getElem?_cons_succ, List.getElem?_cons_zero]; rfl)
                rotate_left; (first | (refine .inl ⟨by rfl, ?_⟩; intro w9 hS9; go_simp; try with_reducible rfl) | (refine .inr ⟨by rfl, ?_⟩; with_reducible rfl))
                rotate_left; (intro _ _ _ h9; exact h9)
                try simp only [Act.put, List.setIfInBounds_toArray, List.set_cons_zero, List.set_cons_succ]
                refine wpAnyH_take (i := 3) (oi := ?_) (v := ?_) ?_ (by kernel_rfl) (by kernel_rfl) (by kernel_rfl) ?_ ?_ (by assumption) ?_
                rotate_left 2; (simp only [List.getElem?_toArray, List.getElem?_cons_succ, List.getElem?_cons_zero]; rfl)
                rotate_left; (first | (refine .inl ⟨by rfl, ?_⟩; intro w9 hS9; go_simp; try with_reducible rfl) | (refine .inr ⟨by rfl, ?_⟩; with_reducible rfl))
                rotate_left; (intro _ _ _ h9; exact h9)
                try simp only [Act.put, List.setIfInBounds_toArray, List.set_cons_zero, List.set_cons_succ]
                refine wpAnyH_take (i := 6) (oi := ?_) (v := ?_) ?_ (by kernel_rfl) (by kernel_rfl) (by kernel_rfl) ?_ ?_ (by assumption) ?_
                rotate_left 2; (simp only [List.getElem?_toArray, List.getElem?_cons_succ, List.getElem?_cons_zero]; rfl)
                rotate_left; (first | (refine .inl ⟨by rfl, ?_⟩; intro w9 hS9; go_simp; try with_reducible rfl) | (refine .inr ⟨by rfl, ?_⟩; with_reducible rfl))
                rotate_left; (intro _ _ _ h9; exact h9)
                try simp only [Act.put, List.setIfInBounds_toArray, List.set_cons_zero, List.set_cons_succ]
                refine wpAnyH_take (i := 7) (oi := ?_) (v := ?_) ?_ (by kernel_rfl) (by kernel_rfl) (by kernel_rfl) ?_ ?_ (by assumption) ?_
                rotate_left 2; (simp only [List.getElem?_toArray, List.getElem?_cons_succ, List.getElem?_cons_zero]; rfl)
                rotate_left; (first | (refine .inl ⟨by rfl, ?_⟩; intro w9 hS9; go_simp; try with_reducible rfl) | (refine .inr ⟨by rfl, ?_⟩; with_reducible rfl))
                rotate_left; (intro _ _ _ h9; exact h9)
                try simp only [Act.put, List.setIfInBounds_toArray, List.set_cons_zero, List.set_cons_succ]
                refine wpAnyH_take (i := 8) (oi := ?_) (v := ?_) ?_ (by kernel_rfl) (by kernel_rfl) (by kernel_rfl) ?_ ?_ (by assumption) ?_
                rotate_left 2; (simp only [List.getElem?_toArray, List.getElem?_cons_succ, List.getElem?_cons_zero]; rfl)
                rotate_left; (first | (refine .inl ⟨by rfl, ?_⟩; intro w9 hS9; go_simp; try with_reducible rfl) | (refine .inr ⟨by rfl, ?_⟩; with_reducible rfl))
                rotate_left; (intro _ _ _ h9; exact h9)
                try simp only [Act.put, List.setIfInBounds_toArray, List.set_cons_zero, List.set_cons_succ]
                refine wpAnyH_take (i := 9) (oi := ?_) (v := ?_) ?_ (by kernel_rfl) (by kernel_rfl) (by kernel_rfl) ?_ ?_ (by assumption) ?_
                rotate_left 2; (simp only [List.getElem?_toArray, List.getElem?_cons_succ, List.getElem?_cons_zero]; rfl)
                rotate_left; (first | (refine .inl ⟨by rfl, ?_⟩; intro w9 hS9; go_simp; try with_reducible rfl) | (refine .inr ⟨by rfl, ?_⟩; with_reducible rfl))
                rotate_left; (intro _ _ _ h9; exact h9)
                try simp only [Act.put, List.setIfInBounds_toArray, List.set_cons_zero, List.set_cons_succ]
                refine wpAnyH_ready (rs := [4]) (by kernel_rfl) (by simp) (AllReadyH.cons rfl (fun K9 hK9 => ?_) AllReadyH.nil)
                go_simp
                go_must (refine (rd_err g bl _ _ _ (hr.below hS0)).mono ?_)
                rintro e we ⟨v, rfl, hv, rfl⟩
                obtain rfl : v = .nilIface := hv
                refine hK9.out _ _ hS0 (fun _ => ?_)
                clear hK9
                refine wpAnyH_take (i := 5) (oi := ?_) (v := ?_) ?_ (by kernel_rfl) (by kernel_rfl) (by kernel_rfl) ?_ ?_ (by assumption) ?_
                rotate_left 2; (simp only [List.getElem?_toArray, List.getElem?_cons_succ, List.getElem?_cons_zero]; rfl)
                rotate_left; (first | (refine .inl ⟨by rfl, ?_⟩; intro w9 hS9; go_simp; try with_reducible rfl) | (refine .inr ⟨by rfl, ?_⟩; with_reducible rfl))
                rotate_left; (intro _ _ _ h9; exact h9)
                try simp only [Act.put, List.setIfInBounds_toArray, List.set_cons_zero, List.set_cons_succ]
                refine wpAnyH_take (i := 10) (oi := ?_) (v := ?_) ?_ (by kernel_rfl) (by kernel_rfl) (by kernel_rfl) ?_ ?_ (by assumption) ?_
                rotate_left 2; (simp only [List.getElem?_toArray, List.getElem?_cons_succ, List.getElem?_cons_zero]; rfl)
                rotate_left; (first | (refine .inl ⟨by rfl, ?_⟩; intro w9 hS9; go_simp; try with_reducible rfl) | (refine .inr ⟨by rfl, ?_⟩; with_reducible rfl))
                rotate_left; (intro _ _ _ h9; exact h9)
                try simp only [Act.put, List.setIfInBounds_toArray, List.set_cons_zero, List.set_cons_succ]
                refine wpAnyH_take (i := 11) (oi := ?_) (v := ?_) ?_ (by kernel_rfl) (by kernel_rfl) (by kernel_rfl) ?_ ?_ (by assumption) ?_
                rotate_left 2; (simp only [List.getElem?_toArray, List.getElem?_cons_succ, List.getElem?_cons_zero]; rfl)
                rotate_left; (first | (refine .inl ⟨by rfl, ?_⟩; intro w9 hS9; go_simp; try with_reducible rfl) | (refine .inr ⟨by rfl, ?_⟩; with_reducible rfl))
                rotate_left; (intro _ _ _ h9; exact h9)
                try simp only [Act.put, List.setIfInBounds_toArray, List.set_cons_zero, List.set_cons_succ]
                refine wpAnyH_take (i := 12) (oi := ?_) (v := ?_) ?_ (by kernel_rfl) (by kernel_rfl) (by kernel_rfl) ?_ ?_ (by assumption) ?_
                rotate_left 2; (simp only [List.getElem?_toArray, List.getElem?_cons_succ, List.getElem?_cons_zero]; rfl)
                rotate_left; (first | (refine .inl ⟨by rfl, ?_⟩; intro w9 hS9; go_simp; try with_reducible rfl) | (refine .inr ⟨by rfl, ?_⟩; with_reducible rfl))
                rotate_left; (intro _ _ _ h9; exact h9)
                try simp only [Act.put, List.setIfInBounds_toArray, List.set_cons_zero, List.set_cons_succ]
                refine wpAnyH_take (i := 13) (oi := ?_) (v := ?_) ?_ (by kernel_rfl) (by kernel_rfl) (by kernel_rfl) ?_ ?_ (by assumption) ?_
                rotate_left 2; (simp only [List.getElem?_toArray, List.getElem?_cons_succ, List.getElem?_cons_zero]; rfl)
                rotate_left; (first | (refine .inl ⟨by rfl, ?_⟩; intro w9 hS9; go_simp; try with_reducible rfl) | (refine .inr ⟨by rfl, ?_⟩; with_reducible rfl))
                rotate_left; (intro _ _ _ h9; exact h9)
                try simp only [Act.put, List.setIfInBounds_toArray, List.set_cons_zero, List.set_cons_succ]
                refine wpAnyH_take (i := 16) (oi := ?_) (v := ?_) ?_ (by kernel_rfl) (by kernel_rfl) (by kernel_rfl) ?_ ?_ (by assumption) ?_
                rotate_left 2; (simp only [List.getElem?_toArray, List.getElem?_cons_succ, List.getElem?_cons_zero]; rfl)
                rotate_left; (first | (refine .inl ⟨by rfl, ?_⟩; intro w9 hS9; go_simp; try with_reducible rfl) | (refine .inr ⟨by rfl, ?_⟩; with_reducible rfl))
                rotate_left; (intro _ _ _ h9; exact h9)
                try simp only [Act.put, List.setIfInBounds_toArray, List.set_cons_zero, List.set_cons_succ]
                refine wpAnyH_ready (rs := [14]) (by kernel_rfl) (by simp) (AllReadyH.cons rfl (fun K9 hK9 => ?_) AllReadyH.nil)
                go_simp
                go_must (refine (rd_end g bl _ _ _ (hr.below hS0)).mono ?_)
                rintro e we ⟨v, rfl, hv, hb2⟩
                obtain ⟨t, u, rfl⟩ := ErrN.iface hv
                have hS1 := below_step hS0 hb2
                refine hK9.out _ _ hS1 (fun _ => ?_)
                clear hK9
                refine wpAnyH_take (i := 15) (oi := ?_) (v := ?_) ?_ (by kernel_rfl) (by kernel_rfl) (by kernel_rfl) ?_ ?_ (by assumption) ?_
                rotate_left 2; (simp only [List.getElem?_toArray, List.getElem?_cons_succ, List.getElem?_cons_zero]; rfl)
                rotate_left; (first | (refine .inl ⟨by rfl, ?_⟩; intro w9 hS9; go_simp; try with_reducible rfl) | (refine .inr ⟨by rfl, ?_⟩; with_reducible rfl))
                rotate_left; (intro _ _ _ h9; exact h9)
                try simp only [Act.put, List.setIfInBounds_toArray, List.set_cons_zero, List.set_cons_succ]
                refine wpAnyH_ready (rs := [17]) (by kernel_rfl) (by simp) (AllReadyH.cons rfl (fun K9 hK9 => ?_) AllReadyH.nil)
                go_simp
                go_must (refine (rr_fine g2 bl2 _ _ _ (hs.below hS1)).mono ?_)
                rintro e we2 ⟨rfl, rfl⟩
                refine hK9.out _ _ hS1 (fun _ => ?_)
                clear hK9
                refine wpAnyH_take (i := 18) (oi := ?_) (v := ?_) ?_ (by kernel_rfl) (by kernel_rfl) (by kernel_rfl) ?_ ?_ (by assumption) ?_
                rotate_left 2; (simp only [List.getElem?_toArray, List.getElem?_cons_succ, List.getElem?_cons_zero]; rfl)
                rotate_left; (first | (refine .inl ⟨by rfl, ?_⟩; intro w9 hS9; go_simp; try with_reducible rfl) | (refine .inr ⟨by rfl, ?_⟩; with_reducible rfl))
                rotate_left; (intro _ _ _ h9; exact h9)
                try simp only [Act.put, List.setIfInBounds_toArray, List.set_cons_zero, List.set_cons_succ]
                refine wpAnyH_take (i := 19) (oi := ?_) (v := ?_) ?_ (by kernel_rfl) (by kernel_rfl) (by kernel_rfl) ?_ ?_ (by assumption) ?_
                rotate_left 2; (simp only [List.getElem?_toArray, List.getElem?_cons_succ, List.getElem?_cons_zero]; rfl)
                rotate_left; (first | (refine .inl ⟨by rfl, ?_⟩; intro w9 hS9; go_simp; try with_reducible rfl) | (refine .inr ⟨by rfl, ?_⟩; with_reducible rfl))
                rotate_left; (intro _ _ _ h9; exact h9)
                try simp only [Act.put, List.setIfInBounds_toArray, List.set_cons_zero, List.set_cons_succ]
                refine wpAnyH_take (i := 20) (oi := ?_) (v := ?_) ?_ (by kernel_rfl) (by kernel_rfl) (by kernel_rfl) ?_ ?_ (by assumption) ?_
                rotate_left 2; (simp only [List.getElem?_toArray, List.getElem?_cons_succ, List.getElem?_cons_zero]; rfl)
                rotate_left; (first | (refine .inl ⟨by rfl, ?_⟩; intro w9 hS9; go_simp; try with_reducible rfl) | (refine .inr ⟨by rfl, ?_⟩; with_reducible rfl))
                rotate_left; (intro _ _ _ h9; exact h9)
                try simp only [Act.put, List.setIfInBounds_toArray, List.set_cons_zero, List.set_cons_succ]
                refine wpAnyH_take (i := 21) (oi := ?_) (v := ?_) ?_ (by kernel_rfl) (by kernel_rfl) (by kernel_rfl) ?_ ?_ (by assumption) ?_
                rotate_left 2; (simp only [List.getElem?_toArray, List.getElem?_cons_succ, List.getElem?_cons_zero]; rfl)
                rotate_left; (first | (refine .inl ⟨by rfl, ?_⟩; intro w9 hS9; go_simp; try with_reducible rfl) | (refine .inr ⟨by rfl, ?_⟩; with_reducible rfl))
                rotate_left; (intro _ _ _ h9; exact h9)
                try simp only [Act.put, List.setIfInBounds_toArray, List.set_cons_zero, List.set_cons_succ]
                refine wpAnyH_ready (rs := [22]) (by kernel_rfl) (by simp) (AllReadyH.cons rfl (fun K9 hK9 => ?_) AllReadyH.nil)
                go_simp
                go_must (refine (rd_end g bl _ _ _ (hr.below hS1)).mono ?_)
                rintro e we2 ⟨v, rfl, hv, hb3⟩
                obtain ⟨t, u, rfl⟩ := ErrN.iface hv
                have hS2 := below_step hS1 hb3
                refine hK9.out _ _ hS2 (fun _ => ?_)
                clear hK9
                refine wpAnyH_take (i := 23) (oi := ?_) (v := ?_) ?_ (by kernel_rfl) (by kernel_rfl) (by kernel_rfl) ?_ ?_ (by assumption) ?_
                rotate_left 2; (simp only [List.getElem?_toArray, List.getElem?_cons_succ, List.getElem?_cons_zero]; rfl)
                rotate_left; (first | (refine .inl ⟨by rfl, ?_⟩; intro w9 hS9; go_simp; try with_reducible rfl) | (refine .inr ⟨by rfl, ?_⟩; with_reducible rfl))
                rotate_left; (intro _ _ _ h9; exact h9)
                try simp only [Act.put, List.setIfInBounds_toArray, List.set_cons_zero, List.set_cons_succ]
                refine wpAnyH_take (i := 24) (oi := ?_) (v := ?_) ?_ (by kernel_rfl) (by kernel_rfl) (by kernel_rfl) ?_ ?_ (by assumption) ?_
                rotate_left 2; (simp only [List.getElem?_toArray, List.getElem?_cons_succ, List.getElem?_cons_zero]; rfl)
                rotate_left; (first | (refine .inl ⟨by rfl, ?_⟩; intro w9 hS9; go_simp; try with_reducible rfl) | (refine .inr ⟨by rfl, ?_⟩; with_reducible rfl))
                rotate_left; (intro _ _ _ h9; exact h9)
                try simp only [Act.put, List.setIfInBounds_toArray, List.set_cons_zero, List.set_cons_succ]
                refine wpAnyH_take (i := 25) (oi := ?_) (v := ?_) ?_ (by kernel_rfl) (by kernel_rfl) (by kernel_rfl) ?_ ?_ (by assumption) ?_
                rotate_left 2; (simp only [List.getElem?_toArray, List.getElem?_cons_succ, List.getElem?_cons_zero]; rfl)
                rotate_left; (first | (refine .inl ⟨by rfl, ?_⟩; intro w9 hS9; go_simp; try with_reducible rfl) | (refine .inr ⟨by rfl, ?_⟩; with_reducible rfl))
                rotate_left; (intro _ _ _ h9; exact h9)
                try simp only [Act.put, List.setIfInBounds_toArray, List.set_cons_zero, List.set_cons_succ]
                refine wpAnyH_ready (rs := [26]) (by kernel_rfl) (by simp) (AllReadyH.cons rfl (fun K9 hK9 => ?_) AllReadyH.nil)
                go_simp
                go_must (refine (rd_end g bl _ _ _ (hr.below hS2)).mono ?_)
                rintro e we3 ⟨v, rfl, hv4, hb4⟩
                have hv5 : ErrN we3 1 v 2 := hv4
                obtain ⟨t, u, rfl⟩ := ErrN.iface hv5
                have hS3 := below_step hS2 hb4
                refine hK9.out _ _ hS3 (fun _ => ?_)
                clear hK9
                refine wpAnyH_ready (rs := [27]) (by kernel_rfl) (by simp) (AllReadyH.cons rfl (fun K9 hK9 => ?_) AllReadyH.nil)
                go_simp
                go_must (refine (fault_code 1 _ 2 _ ((H0.out.below HB.out).below hS3) hv5).mono ?_)
                rintro e we4 ⟨rfl, hb5⟩
                have hS4 := below_step hS3 hb5
                refine hK9.out _ _ hS4 (fun _ => ?_)
                clear hK9
                refine wpAnyH_take (i := 28) (oi := ?_) (v := ?_) ?_ (by kernel_rfl) (by kernel_rfl) (by kernel_rfl) ?_ ?_ (by assumption) ?_
                rotate_left 2; (simp only [List.getElem?_toArray, List.getElem?_cons_succ, List.getElem?_cons_zero]; rfl)
                rotate_left; (first | (refine .inl ⟨by rfl, ?_⟩; intro w9 hS9; go_simp; try with_reducible rfl) | (refine .inr ⟨by rfl, ?_⟩; with_reducible rfl))
                rotate_left; (intro _ _ _ h9; exact h9)
                try simp only [Act.put, List.setIfInBounds_toArray, List.set_cons_zero, List.set_cons_succ]
                refine wpAnyH_take (i := 29) (oi := ?_) (v := ?_) ?_ (by kernel_rfl) (by kernel_rfl) (by kernel_rfl) ?_ ?_ (by assumption) ?_
                rotate_left 2; (simp only [List.getElem?_toArray, List.getElem?_cons_succ, List.getElem?_cons_zero]; rfl)
                rotate_left; (first | (refine .inl ⟨by rfl, ?_⟩; intro w9 hS9; go_simp; try with_reducible rfl) | (refine .inr ⟨by rfl, ?_⟩; with_reducible rfl))
                rotate_left; (intro _ _ _ h9; exact h9)
                try simp only [Act.put, List.setIfInBounds_toArray, List.set_cons_zero, List.set_cons_succ]
                refine wpAnyH_take (i := 30) (oi := ?_) (v := ?_) ?_ (by kernel_rfl) (by kernel_rfl) (by kernel_rfl) ?_ ?_ (by assumption) ?_
                rotate_left 2; (simp only [List.getElem?_toArray, List.getElem?_cons_succ, List.getElem?_cons_zero]; rfl)
                rotate_left; (first | (refine .inl ⟨by rfl, ?_⟩; intro w9 hS9; go_simp; try with_reducible rfl) | (refine .inr ⟨by rfl, ?_⟩; with_reducible rfl))
                rotate_left; (intro _ _ _ h9; exact h9)
                try simp only [Act.put, List.setIfInBounds_toArray, List.set_cons_zero, List.set_cons_succ]
                refine wpAnyH_done (by kernel_rfl) ?_ _
                have HB5 := Lib.hid (below_step HB.out hS4)
                have HR5 := Lib.hid (hr.below hS4)
                have HS5 := Lib.hid (hs.below hS4)
                clear hr hs hS0 hS1 hS2 hS3 hS4 hb2 hb3 hb4 hb5 hv hv4 hv5 hy
                go_wp2_with fail
                exact ⟨⟨k + 1, _, _, by omega, by go_num, (by intro h; first | rfl | cases h), HR5.out, HS5.out, HB5.out⟩, by simp [intOf]; omega⟩
        · have hkl : ¬ (k : Int) < len1 := by omega
          have HB := Lib.hid hbr
          clear hinv hr hs hbr
          go_wp2_with fail
          go_ret
          exact ⟨rfl, HB.out⟩
end Go.Proofs.YtfhcjpodlclioaaDoor
