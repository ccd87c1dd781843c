/- The walk of WheelOnce. -/
import Derived.Test.YtpfoocndohpbbaaDoorWhOnceP
namespace Go.Proofs.YtpfoocndohpbbaaDoor
open Go Go.RowKit
set_option linter.unusedVariables false
set_option linter.unusedSimpArgs false
theorem ki_made (c : Nat) : madeCells #[.int .i64 0] (c * 1) = ((List.replicate c (0 : Int)).flatMap ki).toArray := by
  apply Array.ext
  · simp [madeCells, flat_len ki_len]
  · intro i h1 h2
    have := flat_get (f := ki) ki_len (List.replicate c (0 : Int)) i (by simp [madeCells] at h1; simpa using h1) 0 (by omega)
    rw [Nat.mul_one, Nat.add_zero] at this
    have h3 : ((List.replicate c (0 : Int)).flatMap ki)[i]? = some (.int .i64 0) := by rw [this]; simp [ki]
    rw [List.getElem?_eq_getElem (by simpa using h2)] at h3
    show _ = ((List.replicate c (0 : Int)).flatMap ki)[i]
    rw [Option.some.inj h3]
    simp [madeCells, Nat.mod_one]
theorem ki_make (w : World) (n : Nat) (hn : n ≤ 64) : (Instr.makeSlice 39 (.int .i64 (n : Int)) (.int .i64 (n : Int))).run Tryd.prog w = .ok (.slice (some ⟨w.heap.size, 0, none⟩) n n) (w.alloc (.cells ((List.replicate n (0 : Int)).flatMap ki).toArray 3)) := by
  obtain ⟨i, hi, hz, hs, hb⟩ := info_parts kiT.info
  have := run_make (P := Tryd.prog) w 39 3 i _ Tryd.underlying39 hi hz .i64 .i64 (n : Int) (n : Int) (by omega) (by omega) (by rw [hb]; omega) (by omega)
  rw [hs] at this
  simp only [Int.toNat_natCast] at this
  rw [← ki_made]
  exact this
/-- Between two timers that fired: the wheel behind T ticks, and which fired. -/
structure OnR (w : World) (g gf : Nat) (l fs : List Int) (T t i : Nat) (wr : World) : Prop where
  w5 : WL5 w g (onT l T) (fun b => b = gf) wr
  own : OwnE ki 1 3 wr (.slice (some ⟨gf, 0, none⟩) l.length l.length) fs
  fs_ : OnF l fs t i
  new : w.heap.size ≤ gf
theorem OnR.below {w wr w' : World} {g gf : Nat} {l fs : List Int} {T t i : Nat} (h : OnR w g gf l fs T t i wr) (hb : Below wr.heap.size wr w') : OnR w g gf l fs T t i w' :=
  ⟨h.w5.below hb, h.own.fr (Fr.ofBelow hb (fun _ => False)) (fun _ _ h => h), h.fs_, h.new⟩
theorem OnR.cell {w wr : World} {g gf : Nat} {l fs : List Int} {T t i d : Nat} (h : OnR w g gf l fs T t i wr) (hd : d < l.length) (x : Int) (hx : fs[d]? = some x) : wr.cell? ⟨gf, d, none⟩ = some (.int .i64 x) ∧ wr.frozen? ⟨gf, d, none⟩ = false := by
  have hl := h.fs_.1
  have ho := h.own
  rw [← hl] at ho
  have h1 := World.ownsRow.cellAt ho d (by omega)
  have h2 := flat_get (f := ki) ki_len fs d (by omega) 0 (by omega)
  rw [Nat.mul_one, Nat.add_zero] at h2
  rw [List.getElem?_eq_getElem (by omega)] at hx
  rw [h2, Option.some.inj hx] at h1
  exact ⟨h1, World.ownsRow.frozenAt ho _⟩
theorem OnR.fire {w wr : World} {g gf : Nat} {l fs : List Int} {T t i : Nat} (hi : i < (onD l t).length) (h : OnR w g gf l fs T t i wr) : OnR w g gf l (fs.set (onD l t)[i] 1) T t (i + 1) (wr.setCell ⟨gf, (onD l t)[i], none⟩ (.int .i64 1)) := by
  have hm := (onD_mem l t _).1 (List.getElem_mem hi)
  have hl := h.fs_.1
  have hs := h.own.set ki_len (onD l t)[i] (by omega) 1
  rw [Nat.mul_one] at hs
  have hf : Fr (fun b => b = gf) wr (wr.setCell ⟨gf, (onD l t)[i], none⟩ (.int .i64 1)) := fr_setCell _ _ rfl
  have h4 := h.w5.lt gf rfl
  refine ⟨h.w5.fr hf (fun b hb => by rw [hb]; exact h.new) (fun b hb => .inl hb) (fun b hb => by rw [hb]; have := hf.size; omega), hs, (onF_step l fs t i hi h.fs_).2, h.new⟩
/-- A Tick whose row is read while the row gf is written. -/
theorem on_fires {w0 w : World} {g gf : Nat} {l fs : List Int} {T i : Nat} (h : OnR w0 g gf l fs T (T + 1) i w) (hn : T ≤ 20000) (hl : l.length ≤ 64) (m : Nat) (hm : (onD l (T + 1)).length = m) :
    Calls Tryd.prog 17 #[.pointer (some ⟨g, 0, none⟩)] w fun e w' => ∃ A c, e = .returned (.slice A m c) ∧ RE ki w' A m c ((onD l (T + 1)).map (fun j : Nat => (j : Int))) ∧ OnR w0 g gf l fs (T + 1) (T + 1) i w' ∧ ∀ b o, A = some ⟨b, o, none⟩ → b ≠ gf := by
  have hml := onD_len l (T + 1)
  refine (l5_tick h.w5 (by show T ≤ _; omega) (by show l.length ≤ _; omega)).mono ?_
  rintro e w' ⟨⟨v, rfl, hown, hw, hnb⟩, hk⟩
  rw [on_due] at hown
  obtain ⟨A, c, rfl, hre, hob, _⟩ := hown.re (by simp; omega)
  simp only [List.length_map] at hre hob hw hnb ⊢
  rw [hm] at hre hob hw hnb ⊢
  rw [on_tick] at hw
  have h4 := h.w5.lt gf rfl
  have hne : ∀ b o, A = some ⟨b, o, none⟩ → b ≠ gf := fun b o e hb => by
    subst e
    exact (hnb b rfl).2 hb
  refine ⟨A, c, rfl, hre, ⟨hw.sub (fun b h => .inl h), h.own.fr hk.fr (fun b hb hq => hq (by cases hb; rfl)), h.fs_, h.new⟩, hne⟩
set_option maxHeartbeats 8000000 in
set_option maxRecDepth 100000 in
theorem wheelOnce_walk (a0 : Option Addr) (len0 cap0 : Nat) (z0 : List Int) (w : World) (w0 : IsRow .i64 w a0 len0 cap0 z0) (hg : HasTy w) :
    Calls Tryd.prog 5 #[.slice a0 len0 cap0] w fun e w' => e = .returned (.bool true) ∧ Below w.heap.size w w' := by
  have HG := Lib.hid hg
  clear hg
  by_cases hn : 64 < len0
  · have hn2 : (64 : Int) < len0 := by omega
    clear w0
    go_enter Tryd.func5, Tryd.ntmps5
    go_wp2_with fail
    refine (l_small05 _ HG.out).mono ?_
    rintro e wa ⟨rfl, hb⟩
    have HB := Lib.hid hb
    clear hb
    go_wp2_with fail
    refine (l5_new 64 64 (by decide) w wa HB.out).mono ?_
    rintro e wb ⟨g, rfl, h1⟩
    have HB2 := Lib.hid h1.bel
    clear h1 HB
    go_wp2_with fail
    go_ret
    exact ⟨rfl, HB2.out⟩
  have hn2 : ¬ (64 : Int) < len0 := by omega
  obtain ⟨l, hl⟩ := row_ki w0 (by omega)
  have HL := Lib.hid hl
  have HN := Lib.hid (show len0 ≤ 64 by omega)
  have hll := Lib.hid hl.len
  clear w0 hl hn
  go_enter Tryd.func5, Tryd.ntmps5
  go_wp2_with fail
  refine (l_small05 _ HG.out).mono ?_
  rintro e wa ⟨rfl, hb⟩
  have HB := Lib.hid hb
  clear hb
  go_wp2_with fail
  refine (l5_new 64 64 (by decide) w wa HB.out).mono ?_
  rintro e wb ⟨g, rfl, h1⟩
  have H1 := Lib.hid h1
  clear h1 HB
  go_wp2_with fail
  go_loopw [5, 6] (fun s5 s6 wr => ∃ i mx : Nat, i ≤ len0 ∧ s6 = .int .i64 i ∧ s5 = .int .i64 mx ∧ mx ≤ 20000 ∧ (∀ j, j < i → 1 ≤ onA l j ∧ onA l j ≤ mx) ∧ WL5 w g (onS l i) (fun _ => False) wr) (fun _ s6 _ => len0 - (intOf s6).toNat)
  case atStart => exact ⟨0, 0, Nat.zero_le _, rfl, rfl, Nat.zero_le _, (fun j hj => by omega), H1.out⟩
  case round =>
    obtain ⟨i, mx, hi, rfl, rfl, hmx, hall, hw⟩ := hrel
    have HW := Lib.hid hw
    have HALL := Lib.hid hall
    have HMX := Lib.hid hmx
    by_cases hlt : i < len0
    · have hlt' : (i : Int) < len0 := by omega
      have HI := Lib.hid hlt
      obtain ⟨b, off, rfl, hbl, _⟩ := HL.out.cells (by omega)
      have hkl : i < l.length := by rw [hll.out]; exact hlt
      have he := HL.out.elem ki_len i hkl 0 _ rfl
      rw [show off + i * 1 + 0 = off + i by omega] at he
      have x0 : wr.cell? ⟨b, off + i, none⟩ = some (.int .i64 l[i]) := (hw.bel.cell (p := ⟨b, off + i, none⟩) hbl).trans he
      have hxi := Lib.hid (show onA l i = (l[i]).toNat by unfold onA; rw [List.getD_eq_getElem?_getD, List.getElem?_eq_getElem hkl]; rfl)
      generalize l[i] = x at x0 hxi
      clear he hw hlt hi hkl hall hmx H1
      by_cases hx1 : x < 1
      · go_wp2_with fail
        go_ret
        exact ⟨rfl, HW.out.bel⟩
      by_cases hx2 : 20000 < x
      · go_wp2_with fail
        go_ret
        exact ⟨rfl, HW.out.bel⟩
      obtain ⟨m, rfl⟩ : ∃ m : Nat, x = (m : Int) := ⟨x.toNat, by omega⟩
      have HM := Lib.hid (show 1 ≤ m ∧ m ≤ 20000 by omega)
      have hxm := Lib.hid (show onA l i = m by rw [hxi.out]; exact Int.toNat_natCast m)
      clear hxi hx2 hx1
      have hm1 : ¬ (m : Int) < 1 := by have := HM.out; omega
      have hm2 : ¬ (20000 : Int) < m := by have := HM.out; omega
      by_cases hc : (mx : Int) < m
      · have hmax : max (mx : Int) m = ((max mx m : Nat) : Int) := by omega
        go_wp2_with fail
        refine (l5_armed HW.out (by show 0 ≤ _; omega) (by show i ≤ _; have := HN.out; have := HI.out; omega) m (i : Int) HM.out.1 (by have := HM.out; omega) (by rw [on_len]; show i < 64; have := HN.out; have := HI.out; omega) i (on_fst l i)).mono ?_
        rintro e wc ⟨rfl, h2, _⟩
        have har := on_arm l i
        rw [hxm.out] at har
        rw [har] at h2
        have H2 := Lib.hid h2
        clear h2 HW har
        go_wp2_with fail
        exact ⟨⟨i + 1, m, by have := HI.out; omega, by go_num, by first | rfl | (congr 1; omega), HM.out.2, fun j hj => by
          by_cases hj2 : j = i
          · rw [hj2, hxm.out]; exact ⟨HM.out.1, Nat.le_refl _⟩
          · have := HALL.out j (by omega); omega, H2.out⟩, by have := HI.out; simp [intOf]; omega⟩
      · go_wp2_with fail
        refine (l5_armed HW.out (by show 0 ≤ _; omega) (by show i ≤ _; have := HN.out; have := HI.out; omega) m (i : Int) HM.out.1 (by have := HM.out; omega) (by rw [on_len]; show i < 64; have := HN.out; have := HI.out; omega) i (on_fst l i)).mono ?_
        rintro e wc ⟨rfl, h2, _⟩
        have har := on_arm l i
        rw [hxm.out] at har
        rw [har] at h2
        have H2 := Lib.hid h2
        clear h2 HW har
        go_wp2_with fail
        exact ⟨⟨i + 1, mx, by have := HI.out; omega, by go_num, by first | rfl | (congr 1; omega), HMX.out, fun j hj => by
          by_cases hj2 : j = i
          · rw [hj2, hxm.out]; exact ⟨HM.out.1, by omega⟩
          · exact HALL.out j (by omega), H2.out⟩, by have := HI.out; simp [intOf]; omega⟩
    · obtain rfl : i = len0 := by omega
      have hmk := fun w => ki_make w i HN.out
      have hbn := below_new wr (.cells ((List.replicate i (0 : Int)).flatMap ki).toArray 3)
      have hll2 : l.length = i := hll.out
      have HON := Lib.hid (show OnR w g wr.heap.size l (List.replicate l.length 0) 0 1 0 (wr.alloc (.cells ((List.replicate i (0 : Int)).flatMap ki).toArray 3)) from by
        have ho := own_lit (f := ki) (e := 3) ki_len wr (List.replicate i (0 : Int)) (by simp; have := HN.out; omega)
        rw [List.length_replicate] at ho
        rw [hll2]
        have hw' := hw
        rw [← hll2, on_begin l (fun j hj => (hall j (by omega)).1)] at hw'
        refine ⟨hw'.fr (Fr.ofBelow hbn _) (fun b h => h.elim) (fun b hb => .inr (by rw [hb]; exact Nat.le_refl _)) (fun b hb => by rw [hb]; simp), by rw [hll2]; exact ho, ?_, hw.bel.size⟩
        have := onF_zero l (fun j hj => (hall j (by omega)).1)
        rwa [hll2] at this)
      clear hlt hi hw hall hmx H1 hbn HW hll2
      go_wp2_with fail
      clear hmk
      generalize wr.heap.size = gf at *
      generalize wr.alloc _ = wa at *
      go_loopw [10] (fun s10 wr => ∃ t : Nat, 1 ≤ t ∧ t ≤ mx + 1 ∧ s10 = .int .i64 t ∧ ∃ fs, OnR w g gf l fs (t - 1) t 0 wr) (fun s10 _ => mx + 1 - (intOf s10).toNat)
      case atStart => exact ⟨1, by omega, by omega, rfl, _, HON.out⟩
      case round =>
        obtain ⟨t, ht1, ht, rfl, fs, hon⟩ := hrel
        have HR := Lib.hid hon
        have HT1 := Lib.hid ht1
        clear hon ht1
        by_cases hlt : t ≤ mx
        · have hlt' : (t : Int) ≤ mx := by omega
          have HT := Lib.hid hlt
          have hmx9 : (mx : Int) ≤ 20000 := by have := HMX.out; omega
          clear hlt ht
          go_wp2_with fail
          obtain ⟨T, hT⟩ : ∃ T, t = T + 1 := ⟨t - 1, by have := HT1.out; omega⟩
          have HTT := Lib.hid hT
          obtain ⟨m, hm⟩ : ∃ m, (onD l t).length = m := ⟨_, rfl⟩
          have HM := Lib.hid hm
          have hon := HR.out
          rw [show t - 1 = T by omega] at hon
          rw [hT] at hon hm
          refine (on_fires hon (by have := HT.out; have := HMX.out; omega) (by have := hll.out; have := HN.out; omega) m hm).mono ?_
          rintro e wc ⟨Ac, cc, rfl, hre, hon2, hne⟩
          rw [← hT] at hre hon2
          have HRE := Lib.hid hre
          have hm9 : (m : Int) ≤ 64 := by have := onD_len l t; have := HM.out; have := hll.out; have := HN.out; omega
          have HON2 := Lib.hid hon2
          have HNE := Lib.hid hne
          clear hre hon2 hne hon hm hT HR
          go_wp2_with fail
          go_loopw [12] (fun s12 wr => ∃ k : Nat, k ≤ m ∧ s12 = .int .i64 k ∧ (∃ fs, OnR w g gf l fs t t k wr) ∧ RE ki wr Ac m cc ((onD l t).map (fun j : Nat => (j : Int)))) (fun s12 _ => m - (intOf s12).toNat)
          case atStart => exact ⟨0, Nat.zero_le _, rfl, ⟨_, HON2.out⟩, HRE.out⟩
          case round =>
            obtain ⟨k, hk, rfl, ⟨fs2, hon⟩, hre⟩ := hrel
            have HR2 := Lib.hid hon
            have HRE2 := Lib.hid hre
            by_cases hlt : k < m
            · have hlt' : (k : Int) < m := by omega
              obtain ⟨b, off, rfl, hbl, _⟩ := hre.cells (by omega)
              have hkd : k < (onD l t).length := by have := HM.out; omega
              have hkl : k < ((onD l t).map (fun j : Nat => (j : Int))).length := by simpa using hkd
              have he := hre.elem ki_len k hkl 0 _ rfl
              rw [show off + k * 1 + 0 = off + k by omega, List.getElem_map] at he
              have hmem := (onD_mem l t _).1 (List.getElem_mem hkd)
              have hstep := onF_step l fs2 t k hkd hon.fs_
              have hcell := hon.cell hmem.1 0 hstep.1
              have hfire := hon.fire hkd
              obtain ⟨bl, ofl, hA, hbll, _⟩ := HL.out.cells (by have := hll.out; omega)
              subst hA
              have hl0 := HL.out.elem ki_len (onD l t)[k] hmem.1 0 _ rfl
              rw [show ofl + (onD l t)[k] * 1 + 0 = ofl + (onD l t)[k] by omega] at hl0
              have hlt2 : l[(onD l t)[k]]'hmem.1 = (t : Int) := by
                have h1 := hmem.2
                unfold onA at h1
                rw [List.getD_eq_getElem?_getD, List.getElem?_eq_getElem hmem.1] at h1
                simp only [Option.getD_some] at h1
                have := HT1.out
                omega
              rw [hlt2] at hl0
              have hpr : 0 < k → ∃ dp : Nat, dp < (onD l t)[k] ∧ wr.cell? ⟨b, off + (k - 1), none⟩ = some (.int .i64 (dp : Int)) := fun h0 => by
                have hk1 : k - 1 < (onD l t).length := by omega
                have he1 := hre.elem ki_len (k - 1) (by simpa using hk1) 0 _ rfl
                rw [show off + (k - 1) * 1 + 0 = off + (k - 1) by omega, List.getElem_map] at he1
                have h2 := onD_lt l t (k - 1) (by omega)
                simp only [show k - 1 + 1 = k by omega] at h2
                exact ⟨_, h2, he1⟩
              have hw5 := hon.w5.bel
              have hd := hmem.1
              generalize (onD l t)[k] = d at *
              have hdl : ¬ (i : Int) ≤ (d : Int) := by have := hll.out; omega
              have hdl2 : ¬ i ≤ d := by have := hll.out; omega
              have hdl3 : d < i := by have := hll.out; omega
              have hdl4 : (d : Int) < i := by omega
              have x0 : ∀ w', Below wr.heap.size wr w' → w'.cell? ⟨b, off + k, none⟩ = some (.int .i64 (d : Int)) := fun w' h => (h.cell (p := ⟨b, off + k, none⟩) hbl).trans he
              have y0 : ∀ w', Below wr.heap.size wr w' → w'.cell? ⟨bl, ofl + d, none⟩ = some (.int .i64 (t : Int)) := fun w' h => (h.cell (p := ⟨bl, ofl + d, none⟩) (Nat.lt_of_lt_of_le hbll hw5.size)).trans ((hw5.cell (p := ⟨bl, ofl + d, none⟩) hbll).trans hl0)
              have HK := Lib.hid hlt
              have HCELL := Lib.hid hcell
              have HFIRE := Lib.hid hfire
              have HE := Lib.hid (x0 wr.drew ⟨rfl, rfl, rfl, Nat.le_refl _, fun _ _ => rfl⟩)
              have HBB := Lib.hid (HNE.out b off rfl)
              have HPR := Lib.hid hpr
              clear hlt hk he hl0 hlt2 hmem hstep hcell hfire hpr hkl hkd hon hre hw5 hbl hbll hd HON2 HRE
              by_cases hk0 : k = 0
              · have hk1 : ¬ (0 : Int) < k := by omega
                have hk2 : ¬ 0 < k := by omega
                clear hk0 HPR
                go_wp2_with fail
                have hS0 : Below wr.heap.size wr wr.drew := ⟨rfl, rfl, rfl, Nat.le_refl _, fun _ _ => rfl⟩
                refine wp_region_held (S := fun w' => Below wr.heap.size wr w') (by kernel_rfl) ?_
                change wpAnyH _ _ _ _ _ _ _ _ wr.drew
                change wpAnyH _ _ _ _ _ 41 (Array.replicate 41 false) _ _
                refine wpAnyH_take (i := 0) (oi := ?_) (v := ?_) ?_ (by kernel_rfl) (by kernel_rfl) (by kernel_rfl) ?_ ?_ (by assumption) ?_
                rotate_left 2; (simp only [List.getElem?_toArray, List.getElem?_cons_succ, List.getElem?_cons_zero]; rfl)
                rotate_left; (first | (refine .inl ⟨by rfl, ?_⟩; intro w9 hS9; go_simp; try with_reducible rfl) | (refine .inr ⟨by rfl, ?_⟩; with_reducible rfl))
                rotate_left; (intro _ _ _ h9; exact h9)
                try simp only [Act.put, List.setIfInBounds_toArray, List.set_cons_zero, List.set_cons_succ]
                refine wpAnyH_take (i := 1) (oi := ?_) (v := ?_) ?_ (by kernel_rfl) (by kernel_rfl) (by kernel_rfl) ?_ ?_ (by assumption) ?_
                rotate_left 2; (simp only [List.getElem?_toArray, List.getElem?_cons_succ, List.getElem?_cons_zero]; rfl)
                rotate_left; (first | (refine .inl ⟨by rfl, ?_⟩; intro w9 hS9; go_simp; try with_reducible rfl) | (refine .inr ⟨by rfl, ?_⟩; with_reducible rfl))
                rotate_left; (intro _ _ _ h9; exact h9)
                try simp only [Act.put, List.setIfInBounds_toArray, List.set_cons_zero, List.set_cons_succ]
                refine wpAnyH_take (i := 2) (oi := ?_) (v := ?_) ?_ (by kernel_rfl) (by kernel_rfl) (by kernel_rfl) ?_ ?_ (by assumption) ?_
                rotate_left 2; (simp only [List.getElem?_toArray, List.getElem?_cons_succ, List.getElem?_cons_zero]; rfl)
                rotate_left; (first | (refine .inl ⟨by rfl, ?_⟩; intro w9 hS9; go_simp; try with_reducible rfl) | (refine .inr ⟨by rfl, ?_⟩; with_reducible rfl))
                rotate_left; (intro _ _ _ h9; exact h9)
                try simp only [Act.put, List.setIfInBounds_toArray, List.set_cons_zero, List.set_cons_succ]
                refine wpAnyH_take (i := 3) (oi := ?_) (v := ?_) ?_ (by kernel_rfl) (by kernel_rfl) (by kernel_rfl) ?_ ?_ (by assumption) ?_
                rotate_left 2; (simp only [List.getElem?_toArray, List.getElem?_cons_succ, List.getElem?_cons_zero]; rfl)
                rotate_left; (first | (refine .inl ⟨by rfl, ?_⟩; intro w9 hS9; go_simp; try with_reducible rfl) | (refine .inr ⟨by rfl, ?_⟩; with_reducible rfl))
                rotate_left; (intro _ _ _ h9; exact h9)
                try simp only [Act.put, List.setIfInBounds_toArray, List.set_cons_zero, List.set_cons_succ]
                refine wpAnyH_take (i := 4) (oi := ?_) (v := ?_) ?_ (by kernel_rfl) (by kernel_rfl) (by kernel_rfl) ?_ ?_ (by assumption) ?_
                rotate_left 2; (simp only [List.getElem?_toArray, List.getElem?_cons_succ, List.getElem?_cons_zero]; rfl)
                rotate_left; (first | (refine .inl ⟨by rfl, ?_⟩; intro w9 hS9; go_simp; try with_reducible rfl) | (refine .inr ⟨by rfl, ?_⟩; with_reducible rfl))
                rotate_left; (intro _ _ _ h9; exact h9)
                try simp only [Act.put, List.setIfInBounds_toArray, List.set_cons_zero, List.set_cons_succ]
                refine wpAnyH_take (i := 5) (oi := ?_) (v := ?_) ?_ (by kernel_rfl) (by kernel_rfl) (by kernel_rfl) ?_ ?_ (by assumption) ?_
                rotate_left 2; (simp only [List.getElem?_toArray, List.getElem?_cons_succ, List.getElem?_cons_zero]; rfl)
                rotate_left; (first | (refine .inl ⟨by rfl, ?_⟩; intro w9 hS9; go_simp; try with_reducible rfl) | (refine .inr ⟨by rfl, ?_⟩; with_reducible rfl))
                rotate_left; (intro _ _ _ h9; exact h9)
                try simp only [Act.put, List.setIfInBounds_toArray, List.set_cons_zero, List.set_cons_succ]
                refine wpAnyH_take (i := 6) (oi := ?_) (v := ?_) ?_ (by kernel_rfl) (by kernel_rfl) (by kernel_rfl) ?_ ?_ (by assumption) ?_
                rotate_left 2; (simp only [List.getElem?_toArray, List.getElem?_cons_succ, List.getElem?_cons_zero]; rfl)
                rotate_left; (first | (refine .inl ⟨by rfl, ?_⟩; intro w9 hS9; go_simp; try with_reducible rfl) | (refine .inr ⟨by rfl, ?_⟩; with_reducible rfl))
                rotate_left; (intro _ _ _ h9; exact h9)
                try simp only [Act.put, List.setIfInBounds_toArray, List.set_cons_zero, List.set_cons_succ]
                refine wpAnyH_take (i := 7) (oi := ?_) (v := ?_) ?_ (by kernel_rfl) (by kernel_rfl) (by kernel_rfl) ?_ ?_ (by assumption) ?_
                rotate_left 2; (simp only [List.getElem?_toArray, List.getElem?_cons_succ, List.getElem?_cons_zero]; rfl)
                rotate_left; (first | (refine .inl ⟨by rfl, ?_⟩; intro w9 hS9; go_simp; try with_reducible rfl) | (refine .inr ⟨by rfl, ?_⟩; with_reducible rfl))
                rotate_left; (intro _ _ _ h9; exact h9)
                try simp only [Act.put, List.setIfInBounds_toArray, List.set_cons_zero, List.set_cons_succ]
                refine wpAnyH_take (i := 8) (oi := ?_) (v := ?_) ?_ (by kernel_rfl) (by kernel_rfl) (by kernel_rfl) ?_ ?_ (by assumption) ?_
                rotate_left 2; (simp only [List.getElem?_toArray, List.getElem?_cons_succ, List.getElem?_cons_zero]; rfl)
                rotate_left; (first | (refine .inl ⟨by rfl, ?_⟩; intro w9 hS9; go_simp; try with_reducible rfl) | (refine .inr ⟨by rfl, ?_⟩; with_reducible rfl))
                rotate_left; (intro _ _ _ h9; exact h9)
                try simp only [Act.put, List.setIfInBounds_toArray, List.set_cons_zero, List.set_cons_succ]
                refine wpAnyH_take (i := 9) (oi := ?_) (v := ?_) ?_ (by kernel_rfl) (by kernel_rfl) (by kernel_rfl) ?_ ?_ (by assumption) ?_
                rotate_left 2; (simp only [List.getElem?_toArray, List.getElem?_cons_succ, List.getElem?_cons_zero]; rfl)
                rotate_left; (first | (refine .inl ⟨by rfl, ?_⟩; intro w9 hS9; go_simp; try with_reducible rfl) | (refine .inr ⟨by rfl, ?_⟩; with_reducible rfl))
                rotate_left; (intro _ _ _ h9; exact h9)
                try simp only [Act.put, List.setIfInBounds_toArray, List.set_cons_zero, List.set_cons_succ]
                refine wpAnyH_take (i := 10) (oi := ?_) (v := ?_) ?_ (by kernel_rfl) (by kernel_rfl) (by kernel_rfl) ?_ ?_ (by assumption) ?_
                rotate_left 2; (simp only [List.getElem?_toArray, List.getElem?_cons_succ, List.getElem?_cons_zero]; rfl)
                rotate_left; (first | (refine .inl ⟨by rfl, ?_⟩; intro w9 hS9; go_simp; try with_reducible rfl) | (refine .inr ⟨by rfl, ?_⟩; with_reducible rfl))
                rotate_left; (intro _ _ _ h9; exact h9)
                try simp only [Act.put, List.setIfInBounds_toArray, List.set_cons_zero, List.set_cons_succ]
                refine wpAnyH_take (i := 11) (oi := ?_) (v := ?_) ?_ (by kernel_rfl) (by kernel_rfl) (by kernel_rfl) ?_ ?_ (by assumption) ?_
                rotate_left 2; (simp only [List.getElem?_toArray, List.getElem?_cons_succ, List.getElem?_cons_zero]; rfl)
                rotate_left; (first | (refine .inl ⟨by rfl, ?_⟩; intro w9 hS9; go_simp; try with_reducible rfl) | (refine .inr ⟨by rfl, ?_⟩; with_reducible rfl))
                rotate_left; (intro _ _ _ h9; exact h9)
                try simp only [Act.put, List.setIfInBounds_toArray, List.set_cons_zero, List.set_cons_succ]
                refine wpAnyH_take (i := 12) (oi := ?_) (v := ?_) ?_ (by kernel_rfl) (by kernel_rfl) (by kernel_rfl) ?_ ?_ (by assumption) ?_
                rotate_left 2; (simp only [List.getElem?_toArray, List.getElem?_cons_succ, List.getElem?_cons_zero]; rfl)
                rotate_left; (first | (refine .inl ⟨by rfl, ?_⟩; intro w9 hS9; go_simp; try with_reducible rfl) | (refine .inr ⟨by rfl, ?_⟩; with_reducible rfl))
                rotate_left; (intro _ _ _ h9; exact h9)
                try simp only [Act.put, List.setIfInBounds_toArray, List.set_cons_zero, List.set_cons_succ]
                refine wpAnyH_take (i := 13) (oi := ?_) (v := ?_) ?_ (by kernel_rfl) (by kernel_rfl) (by kernel_rfl) ?_ ?_ (by assumption) ?_
                rotate_left 2; (simp only [List.getElem?_toArray, List.getElem?_cons_succ, List.getElem?_cons_zero]; rfl)
                rotate_left; (first | (refine .inl ⟨by rfl, ?_⟩; intro w9 hS9; go_simp; try with_reducible rfl) | (refine .inr ⟨by rfl, ?_⟩; with_reducible rfl))
                rotate_left; (intro _ _ _ h9; exact h9)
                try simp only [Act.put, List.setIfInBounds_toArray, List.set_cons_zero, List.set_cons_succ]
                refine wpAnyH_take (i := 14) (oi := ?_) (v := ?_) ?_ (by kernel_rfl) (by kernel_rfl) (by kernel_rfl) ?_ ?_ (by assumption) ?_
                rotate_left 2; (simp only [List.getElem?_toArray, List.getElem?_cons_succ, List.getElem?_cons_zero]; rfl)
                rotate_left; (first | (refine .inl ⟨by rfl, ?_⟩; intro w9 hS9; go_simp; try with_reducible rfl) | (refine .inr ⟨by rfl, ?_⟩; with_reducible rfl))
                rotate_left; (intro _ _ _ h9; exact h9)
                try simp only [Act.put, List.setIfInBounds_toArray, List.set_cons_zero, List.set_cons_succ]
                refine wpAnyH_take (i := 15) (oi := ?_) (v := ?_) ?_ (by kernel_rfl) (by kernel_rfl) (by kernel_rfl) ?_ ?_ (by assumption) ?_
                rotate_left 2; (simp only [List.getElem?_toArray, List.getElem?_cons_succ, List.getElem?_cons_zero]; rfl)
                rotate_left; (first | (refine .inl ⟨by rfl, ?_⟩; intro w9 hS9; go_simp; try with_reducible rfl) | (refine .inr ⟨by rfl, ?_⟩; with_reducible rfl))
                rotate_left; (intro _ _ _ h9; exact h9)
                try simp only [Act.put, List.setIfInBounds_toArray, List.set_cons_zero, List.set_cons_succ]
                refine wpAnyH_take (i := 16) (oi := ?_) (v := ?_) ?_ (by kernel_rfl) (by kernel_rfl) (by kernel_rfl) ?_ ?_ (by assumption) ?_
                rotate_left 2; (simp only [List.getElem?_toArray, List.getElem?_cons_succ, List.getElem?_cons_zero]; rfl)
                rotate_left; (first | (refine .inl ⟨by rfl, ?_⟩; intro w9 hS9; go_simp; try with_reducible rfl) | (refine .inr ⟨by rfl, ?_⟩; with_reducible rfl))
                rotate_left; (intro _ _ _ h9; exact h9)
                try simp only [Act.put, List.setIfInBounds_toArray, List.set_cons_zero, List.set_cons_succ]
                refine wpAnyH_take (i := 17) (oi := ?_) (v := ?_) ?_ (by kernel_rfl) (by kernel_rfl) (by kernel_rfl) ?_ ?_ (by assumption) ?_
                rotate_left 2; (simp only [List.getElem?_toArray, List.getElem?_cons_succ, List.getElem?_cons_zero]; rfl)
                rotate_left; (first | (refine .inl ⟨by rfl, ?_⟩; intro w9 hS9; go_simp; try with_reducible rfl) | (refine .inr ⟨by rfl, ?_⟩; with_reducible rfl))
                rotate_left; (intro _ _ _ h9; exact h9)
                try simp only [Act.put, List.setIfInBounds_toArray, List.set_cons_zero, List.set_cons_succ]
                refine wpAnyH_take (i := 18) (oi := ?_) (v := ?_) ?_ (by kernel_rfl) (by kernel_rfl) (by kernel_rfl) ?_ ?_ (by assumption) ?_
                rotate_left 2; (simp only [List.getElem?_toArray, List.getElem?_cons_succ, List.getElem?_cons_zero]; rfl)
                rotate_left; (first | (refine .inl ⟨by rfl, ?_⟩; intro w9 hS9; go_simp; try with_reducible rfl) | (refine .inr ⟨by rfl, ?_⟩; with_reducible rfl))
                rotate_left; (intro _ _ _ h9; exact h9)
                try simp only [Act.put, List.setIfInBounds_toArray, List.set_cons_zero, List.set_cons_succ]
                refine wpAnyH_take (i := 19) (oi := ?_) (v := ?_) ?_ (by kernel_rfl) (by kernel_rfl) (by kernel_rfl) ?_ ?_ (by assumption) ?_
                rotate_left 2; (simp only [List.getElem?_toArray, List.getElem?_cons_succ, List.getElem?_cons_zero]; rfl)
                rotate_left; (first | (refine .inl ⟨by rfl, ?_⟩; intro w9 hS9; go_simp; try with_reducible rfl) | (refine .inr ⟨by rfl, ?_⟩; with_reducible rfl))
                rotate_left; (intro _ _ _ h9; exact h9)
                try simp only [Act.put, List.setIfInBounds_toArray, List.set_cons_zero, List.set_cons_succ]
                refine wpAnyH_take (i := 20) (oi := ?_) (v := ?_) ?_ (by kernel_rfl) (by kernel_rfl) (by kernel_rfl) ?_ ?_ (by assumption) ?_
                rotate_left 2; (simp only [List.getElem?_toArray, List.getElem?_cons_succ, List.getElem?_cons_zero]; rfl)
                rotate_left; (first | (refine .inl ⟨by rfl, ?_⟩; intro w9 hS9; go_simp; try with_reducible rfl) | (refine .inr ⟨by rfl, ?_⟩; with_reducible rfl))
                rotate_left; (intro _ _ _ h9; exact h9)
                try simp only [Act.put, List.setIfInBounds_toArray, List.set_cons_zero, List.set_cons_succ]
                refine wpAnyH_take (i := 21) (oi := ?_) (v := ?_) ?_ (by kernel_rfl) (by kernel_rfl) (by kernel_rfl) ?_ ?_ (by assumption) ?_
                rotate_left 2; (simp only [List.getElem?_toArray, List.getElem?_cons_succ, List.getElem?_cons_zero]; rfl)
                rotate_left; (first | (refine .inl ⟨by rfl, ?_⟩; intro w9 hS9; go_simp; try with_reducible rfl) | (refine .inr ⟨by rfl, ?_⟩; with_reducible rfl))
                rotate_left; (intro _ _ _ h9; exact h9)
                try simp only [Act.put, List.setIfInBounds_toArray, List.set_cons_zero, List.set_cons_succ]
                refine wpAnyH_take (i := 22) (oi := ?_) (v := ?_) ?_ (by kernel_rfl) (by kernel_rfl) (by kernel_rfl) ?_ ?_ (by assumption) ?_
                rotate_left 2; (simp only [List.getElem?_toArray, List.getElem?_cons_succ, List.getElem?_cons_zero]; rfl)
                rotate_left; (first | (refine .inl ⟨by rfl, ?_⟩; intro w9 hS9; go_simp; try with_reducible rfl) | (refine .inr ⟨by rfl, ?_⟩; with_reducible rfl))
                rotate_left; (intro _ _ _ h9; exact h9)
                try simp only [Act.put, List.setIfInBounds_toArray, List.set_cons_zero, List.set_cons_succ]
                refine wpAnyH_take (i := 23) (oi := ?_) (v := ?_) ?_ (by kernel_rfl) (by kernel_rfl) (by kernel_rfl) ?_ ?_ (by assumption) ?_
                rotate_left 2; (simp only [List.getElem?_toArray, List.getElem?_cons_succ, List.getElem?_cons_zero]; rfl)
                rotate_left; (first | (refine .inl ⟨by rfl, ?_⟩; intro w9 hS9; go_simp; try with_reducible rfl) | (refine .inr ⟨by rfl, ?_⟩; with_reducible rfl))
                rotate_left; (intro _ _ _ h9; exact h9)
                try simp only [Act.put, List.setIfInBounds_toArray, List.set_cons_zero, List.set_cons_succ]
                refine wpAnyH_take (i := 24) (oi := ?_) (v := ?_) ?_ (by kernel_rfl) (by kernel_rfl) (by kernel_rfl) ?_ ?_ (by assumption) ?_
                rotate_left 2; (simp only [List.getElem?_toArray, List.getElem?_cons_succ, List.getElem?_cons_zero]; rfl)
                rotate_left; (first | (refine .inl ⟨by rfl, ?_⟩; intro w9 hS9; go_simp; try with_reducible rfl) | (refine .inr ⟨by rfl, ?_⟩; with_reducible rfl))
                rotate_left; (intro _ _ _ h9; exact h9)
                try simp only [Act.put, List.setIfInBounds_toArray, List.set_cons_zero, List.set_cons_succ]
                refine wpAnyH_take (i := 25) (oi := ?_) (v := ?_) ?_ (by kernel_rfl) (by kernel_rfl) (by kernel_rfl) ?_ ?_ (by assumption) ?_
                rotate_left 2; (simp only [List.getElem?_toArray, List.getElem?_cons_succ, List.getElem?_cons_zero]; rfl)
                rotate_left; (first | (refine .inl ⟨by rfl, ?_⟩; intro w9 hS9; go_simp; try with_reducible rfl) | (refine .inr ⟨by rfl, ?_⟩; with_reducible rfl))
                rotate_left; (intro _ _ _ h9; exact h9)
                try simp only [Act.put, List.setIfInBounds_toArray, List.set_cons_zero, List.set_cons_succ]
                refine wpAnyH_take (i := 26) (oi := ?_) (v := ?_) ?_ (by kernel_rfl) (by kernel_rfl) (by kernel_rfl) ?_ ?_ (by assumption) ?_
                rotate_left 2; (simp only [List.getElem?_toArray, List.getElem?_cons_succ, List.getElem?_cons_zero]; rfl)
                rotate_left; (first | (refine .inl ⟨by rfl, ?_⟩; intro w9 hS9; go_simp; try with_reducible rfl) | (refine .inr ⟨by rfl, ?_⟩; with_reducible rfl))
                rotate_left; (intro _ _ _ h9; exact h9)
                try simp only [Act.put, List.setIfInBounds_toArray, List.set_cons_zero, List.set_cons_succ]
                refine wpAnyH_take (i := 27) (oi := ?_) (v := ?_) ?_ (by kernel_rfl) (by kernel_rfl) (by kernel_rfl) ?_ ?_ (by assumption) ?_
                rotate_left 2; (simp only [List.getElem?_toArray, List.getElem?_cons_succ, List.getElem?_cons_zero]; rfl)
                rotate_left; (first | (refine .inl ⟨by rfl, ?_⟩; intro w9 hS9; go_simp; try with_reducible rfl) | (refine .inr ⟨by rfl, ?_⟩; with_reducible rfl))
                rotate_left; (intro _ _ _ h9; exact h9)
                try simp only [Act.put, List.setIfInBounds_toArray, List.set_cons_zero, List.set_cons_succ]
                refine wpAnyH_take (i := 28) (oi := ?_) (v := ?_) ?_ (by kernel_rfl) (by kernel_rfl) (by kernel_rfl) ?_ ?_ (by assumption) ?_
                rotate_left 2; (simp only [List.getElem?_toArray, List.getElem?_cons_succ, List.getElem?_cons_zero]; rfl)
                rotate_left; (first | (refine .inl ⟨by rfl, ?_⟩; intro w9 hS9; go_simp; try with_reducible rfl) | (refine .inr ⟨by rfl, ?_⟩; with_reducible rfl))
                rotate_left; (intro _ _ _ h9; exact h9)
                try simp only [Act.put, List.setIfInBounds_toArray, List.set_cons_zero, List.set_cons_succ]
                refine wpAnyH_take (i := 29) (oi := ?_) (v := ?_) ?_ (by kernel_rfl) (by kernel_rfl) (by kernel_rfl) ?_ ?_ (by assumption) ?_
                rotate_left 2; (simp only [List.getElem?_toArray, List.getElem?_cons_succ, List.getElem?_cons_zero]; rfl)
                rotate_left; (first | (refine .inl ⟨by rfl, ?_⟩; intro w9 hS9; go_simp; try with_reducible rfl) | (refine .inr ⟨by rfl, ?_⟩; with_reducible rfl))
                rotate_left; (intro _ _ _ h9; exact h9)
                try simp only [Act.put, List.setIfInBounds_toArray, List.set_cons_zero, List.set_cons_succ]
                refine wpAnyH_take (i := 30) (oi := ?_) (v := ?_) ?_ (by kernel_rfl) (by kernel_rfl) (by kernel_rfl) ?_ ?_ (by assumption) ?_
                rotate_left 2; (simp only [List.getElem?_toArray, List.getElem?_cons_succ, List.getElem?_cons_zero]; rfl)
                rotate_left; (first | (refine .inl ⟨by rfl, ?_⟩; intro w9 hS9; go_simp; try with_reducible rfl) | (refine .inr ⟨by rfl, ?_⟩; with_reducible rfl))
                rotate_left; (intro _ _ _ h9; exact h9)
                try simp only [Act.put, List.setIfInBounds_toArray, List.set_cons_zero, List.set_cons_succ]
                refine wpAnyH_take (i := 31) (oi := ?_) (v := ?_) ?_ (by kernel_rfl) (by kernel_rfl) (by kernel_rfl) ?_ ?_ (by assumption) ?_
                rotate_left 2; (simp only [List.getElem?_toArray, List.getElem?_cons_succ, List.getElem?_cons_zero]; rfl)
                rotate_left; (first | (refine .inl ⟨by rfl, ?_⟩; intro w9 hS9; go_simp; try with_reducible rfl) | (refine .inr ⟨by rfl, ?_⟩; with_reducible rfl))
                rotate_left; (intro _ _ _ h9; exact h9)
                try simp only [Act.put, List.setIfInBounds_toArray, List.set_cons_zero, List.set_cons_succ]
                refine wpAnyH_take (i := 32) (oi := ?_) (v := ?_) ?_ (by kernel_rfl) (by kernel_rfl) (by kernel_rfl) ?_ ?_ (by assumption) ?_
                rotate_left 2; (simp only [List.getElem?_toArray, List.getElem?_cons_succ, List.getElem?_cons_zero]; rfl)
                rotate_left; (first | (refine .inl ⟨by rfl, ?_⟩; intro w9 hS9; go_simp; try with_reducible rfl) | (refine .inr ⟨by rfl, ?_⟩; with_reducible rfl))
                rotate_left; (intro _ _ _ h9; exact h9)
                try simp only [Act.put, List.setIfInBounds_toArray, List.set_cons_zero, List.set_cons_succ]
                refine wpAnyH_take (i := 33) (oi := ?_) (v := ?_) ?_ (by kernel_rfl) (by kernel_rfl) (by kernel_rfl) ?_ ?_ (by assumption) ?_
                rotate_left 2; (simp only [List.getElem?_toArray, List.getElem?_cons_succ, List.getElem?_cons_zero]; rfl)
                rotate_left; (first | (refine .inl ⟨by rfl, ?_⟩; intro w9 hS9; go_simp; try with_reducible rfl) | (refine .inr ⟨by rfl, ?_⟩; with_reducible rfl))
                rotate_left; (intro _ _ _ h9; exact h9)
                try simp only [Act.put, List.setIfInBounds_toArray, List.set_cons_zero, List.set_cons_succ]
                refine wpAnyH_take (i := 34) (oi := ?_) (v := ?_) ?_ (by kernel_rfl) (by kernel_rfl) (by kernel_rfl) ?_ ?_ (by assumption) ?_
                rotate_left 2; (simp only [List.getElem?_toArray, List.getElem?_cons_succ, List.getElem?_cons_zero]; rfl)
                rotate_left; (first | (refine .inl ⟨by rfl, ?_⟩; intro w9 hS9; go_simp; try with_reducible rfl) | (refine .inr ⟨by rfl, ?_⟩; with_reducible rfl))
                rotate_left; (intro _ _ _ h9; exact h9)
                try simp only [Act.put, List.setIfInBounds_toArray, List.set_cons_zero, List.set_cons_succ]
                refine wpAnyH_take (i := 35) (oi := ?_) (v := ?_) ?_ (by kernel_rfl) (by kernel_rfl) (by kernel_rfl) ?_ ?_ (by assumption) ?_
                rotate_left 2; (simp only [List.getElem?_toArray, List.getElem?_cons_succ, List.getElem?_cons_zero]; rfl)
                rotate_left; (first | (refine .inl ⟨by rfl, ?_⟩; intro w9 hS9; go_simp; try with_reducible rfl) | (refine .inr ⟨by rfl, ?_⟩; with_reducible rfl))
                rotate_left; (intro _ _ _ h9; exact h9)
                try simp only [Act.put, List.setIfInBounds_toArray, List.set_cons_zero, List.set_cons_succ]
                refine wpAnyH_take (i := 36) (oi := ?_) (v := ?_) ?_ (by kernel_rfl) (by kernel_rfl) (by kernel_rfl) ?_ ?_ (by assumption) ?_
                rotate_left 2; (simp only [List.getElem?_toArray, List.getElem?_cons_succ, List.getElem?_cons_zero]; rfl)
                rotate_left; (first | (refine .inl ⟨by rfl, ?_⟩; intro w9 hS9; go_simp; try with_reducible rfl) | (refine .inr ⟨by rfl, ?_⟩; with_reducible rfl))
                rotate_left; (intro _ _ _ h9; exact h9)
                try simp only [Act.put, List.setIfInBounds_toArray, List.set_cons_zero, List.set_cons_succ]
                refine wpAnyH_take (i := 37) (oi := ?_) (v := ?_) ?_ (by kernel_rfl) (by kernel_rfl) (by kernel_rfl) ?_ ?_ (by assumption) ?_
                rotate_left 2; (simp only [List.getElem?_toArray, List.getElem?_cons_succ, List.getElem?_cons_zero]; rfl)
                rotate_left; (first | (refine .inl ⟨by rfl, ?_⟩; intro w9 hS9; go_simp; try with_reducible rfl) | (refine .inr ⟨by rfl, ?_⟩; with_reducible rfl))
                rotate_left; (intro _ _ _ h9; exact h9)
                try simp only [Act.put, List.setIfInBounds_toArray, List.set_cons_zero, List.set_cons_succ]
                refine wpAnyH_take (i := 38) (oi := ?_) (v := ?_) ?_ (by kernel_rfl) (by kernel_rfl) (by kernel_rfl) ?_ ?_ (by assumption) ?_
                rotate_left 2; (simp only [List.getElem?_toArray, List.getElem?_cons_succ, List.getElem?_cons_zero]; rfl)
                rotate_left; (first | (refine .inl ⟨by rfl, ?_⟩; intro w9 hS9; go_simp; try with_reducible rfl) | (refine .inr ⟨by rfl, ?_⟩; with_reducible rfl))
                rotate_left; (intro _ _ _ h9; exact h9)
                try simp only [Act.put, List.setIfInBounds_toArray, List.set_cons_zero, List.set_cons_succ]
                refine wpAnyH_take (i := 39) (oi := ?_) (v := ?_) ?_ (by kernel_rfl) (by kernel_rfl) (by kernel_rfl) ?_ ?_ (by assumption) ?_
                rotate_left 2; (simp only [List.getElem?_toArray, List.getElem?_cons_succ, List.getElem?_cons_zero]; rfl)
                rotate_left; (first | (refine .inl ⟨by rfl, ?_⟩; intro w9 hS9; go_simp; try with_reducible rfl) | (refine .inr ⟨by rfl, ?_⟩; with_reducible rfl))
                rotate_left; (intro _ _ _ h9; exact h9)
                try simp only [Act.put, List.setIfInBounds_toArray, List.set_cons_zero, List.set_cons_succ]
                refine wpAnyH_take (i := 40) (oi := ?_) (v := ?_) ?_ (by kernel_rfl) (by kernel_rfl) (by kernel_rfl) ?_ ?_ (by assumption) ?_
                rotate_left 2; (simp only [List.getElem?_toArray, List.getElem?_cons_succ, List.getElem?_cons_zero]; rfl)
                rotate_left; (first | (refine .inl ⟨by rfl, ?_⟩; intro w9 hS9; go_simp; try with_reducible rfl) | (refine .inr ⟨by rfl, ?_⟩; with_reducible rfl))
                rotate_left; (intro _ _ _ h9; exact h9)
                try simp only [Act.put, List.setIfInBounds_toArray, List.set_cons_zero, List.set_cons_succ]
                refine wpAnyH_done (by kernel_rfl) ?_ _
                clear x0 y0
                try simp only [bne_self_eq_false, decide_true, Bool.not_true]
                have hx0 := HE.out
                obtain ⟨hc0, hf0⟩ := HCELL.out
                have hb9 : Below wr.heap.size wr wr.drew := hS0
                clear hS0
                have hc1 : wr.drew.cell? ⟨gf, d, none⟩ = some (.int .i64 0) := hc0
                have hf1 : wr.drew.frozen? ⟨gf, d, none⟩ = false := hf0
                have HFI := Lib.hid (show OnR w g gf l _ t t (k + 1) (wr.drew.setCell ⟨gf, d, none⟩ (.int .i64 1)) from HFIRE.out.below ⟨rfl, rfl, rfl, Nat.le_refl _, fun _ _ => rfl⟩)
                have HRE4 := Lib.hid ((HRE2.out.below hb9).fr (fr_setCell (F := fun b => b = gf) (w := wr.drew) ⟨gf, d, none⟩ (.int .i64 1) rfl) (fun _ b' o' e hb => by cases e; exact HBB.out hb))
                clear hc0 hf0 hb9
                generalize wr.drew = wd at *
                go_wp2_with fail
                exact ⟨⟨k + 1, by have := HK.out; omega, by go_num, ⟨_, HFI.out⟩, HRE4.out⟩, by have := HK.out; simp [intOf]; omega⟩
              · have hk1 : (0 : Int) < k := by omega
                have hk2 : 0 < k := by omega
                obtain ⟨dp, hdp, hcp⟩ := HPR.out hk2
                have hsub : IntKind.i64.wrap ((k : Int) - 1) = ((k - 1 : Nat) : Int) := by rw [IntKind.wrap_i64]; have := HK.out; have := HRE2.out.max; omega
                have hdp1 : ¬ (d : Int) ≤ (dp : Int) := by omega
                have hdp2 : ¬ d ≤ dp := by omega
                have hi1 : ((k - 1 : Nat) : Int) < m := by have := HK.out; omega
                have hi2 : k - 1 < m := by have := HK.out; omega
                have HBL := Lib.hid HRE2.out
                have z0 : ∀ w', Below wr.heap.size wr w' → w'.cell? ⟨b, off + (k - 1), none⟩ = some (.int .i64 (dp : Int)) := fun w' h => (h.cell (p := ⟨b, off + (k - 1), none⟩) (World.block_lt_of_cell? _ _ hcp)).trans hcp
                clear hk0 HPR hcp HBL
                generalize k - 1 = k1 at *
                go_wp2_with fail
                have hS0 : Below wr.heap.size wr wr.drew := ⟨rfl, rfl, rfl, Nat.le_refl _, fun _ _ => rfl⟩
                refine wp_region_held (S := fun w' => Below wr.heap.size wr w') (by kernel_rfl) ?_
                change wpAnyH _ _ _ _ _ _ _ _ wr.drew
                change wpAnyH _ _ _ _ _ 41 (Array.replicate 41 false) _ _
                refine wpAnyH_take (i := 0) (oi := ?_) (v := ?_) ?_ (by kernel_rfl) (by kernel_rfl) (by kernel_rfl) ?_ ?_ (by assumption) ?_
                rotate_left 2; (simp only [List.getElem?_toArray, List.getElem?_cons_succ, List.getElem?_cons_zero]; rfl)
                rotate_left; (first | (refine .inl ⟨by rfl, ?_⟩; intro w9 hS9; go_simp; try with_reducible rfl) | (refine .inr ⟨by rfl, ?_⟩; with_reducible rfl))
                rotate_left; (intro _ _ _ h9; exact h9)
                try simp only [Act.put, List.setIfInBounds_toArray, List.set_cons_zero, List.set_cons_succ]
                refine wpAnyH_take (i := 1) (oi := ?_) (v := ?_) ?_ (by kernel_rfl) (by kernel_rfl) (by kernel_rfl) ?_ ?_ (by assumption) ?_
                rotate_left 2; (simp only [List.getElem?_toArray, List.getElem?_cons_succ, List.getElem?_cons_zero]; rfl)
                rotate_left; (first | (refine .inl ⟨by rfl, ?_⟩; intro w9 hS9; go_simp; try with_reducible rfl) | (refine .inr ⟨by rfl, ?_⟩; with_reducible rfl))
                rotate_left; (intro _ _ _ h9; exact h9)
                try simp only [Act.put, List.setIfInBounds_toArray, List.set_cons_zero, List.set_cons_succ]
                refine wpAnyH_take (i := 2) (oi := ?_) (v := ?_) ?_ (by kernel_rfl) (by kernel_rfl) (by kernel_rfl) ?_ ?_ (by assumption) ?_
                rotate_left 2; (simp only [List.getElem?_toArray, List.getElem?_cons_succ, List.getElem?_cons_zero]; rfl)
                rotate_left; (first | (refine .inl ⟨by rfl, ?_⟩; intro w9 hS9; go_simp; try with_reducible rfl) | (refine .inr ⟨by rfl, ?_⟩; with_reducible rfl))
                rotate_left; (intro _ _ _ h9; exact h9)
                try simp only [Act.put, List.setIfInBounds_toArray, List.set_cons_zero, List.set_cons_succ]
                refine wpAnyH_take (i := 3) (oi := ?_) (v := ?_) ?_ (by kernel_rfl) (by kernel_rfl) (by kernel_rfl) ?_ ?_ (by assumption) ?_
                rotate_left 2; (simp only [List.getElem?_toArray, List.getElem?_cons_succ, List.getElem?_cons_zero]; rfl)
                rotate_left; (first | (refine .inl ⟨by rfl, ?_⟩; intro w9 hS9; go_simp; try with_reducible rfl) | (refine .inr ⟨by rfl, ?_⟩; with_reducible rfl))
                rotate_left; (intro _ _ _ h9; exact h9)
                try simp only [Act.put, List.setIfInBounds_toArray, List.set_cons_zero, List.set_cons_succ]
                refine wpAnyH_take (i := 4) (oi := ?_) (v := ?_) ?_ (by kernel_rfl) (by kernel_rfl) (by kernel_rfl) ?_ ?_ (by assumption) ?_
                rotate_left 2; (simp only [List.getElem?_toArray, List.getElem?_cons_succ, List.getElem?_cons_zero]; rfl)
                rotate_left; (first | (refine .inl ⟨by rfl, ?_⟩; intro w9 hS9; go_simp; try with_reducible rfl) | (refine .inr ⟨by rfl, ?_⟩; with_reducible rfl))
                rotate_left; (intro _ _ _ h9; exact h9)
                try simp only [Act.put, List.setIfInBounds_toArray, List.set_cons_zero, List.set_cons_succ]
                refine wpAnyH_take (i := 5) (oi := ?_) (v := ?_) ?_ (by kernel_rfl) (by kernel_rfl) (by kernel_rfl) ?_ ?_ (by assumption) ?_
                rotate_left 2; (simp only [List.getElem?_toArray, List.getElem?_cons_succ, List.getElem?_cons_zero]; rfl)
                rotate_left; (first | (refine .inl ⟨by rfl, ?_⟩; intro w9 hS9; go_simp; try with_reducible rfl) | (refine .inr ⟨by rfl, ?_⟩; with_reducible rfl))
                rotate_left; (intro _ _ _ h9; exact h9)
                try simp only [Act.put, List.setIfInBounds_toArray, List.set_cons_zero, List.set_cons_succ]
                refine wpAnyH_take (i := 6) (oi := ?_) (v := ?_) ?_ (by kernel_rfl) (by kernel_rfl) (by kernel_rfl) ?_ ?_ (by assumption) ?_
                rotate_left 2; (simp only [List.getElem?_toArray, List.getElem?_cons_succ, List.getElem?_cons_zero]; rfl)
                rotate_left; (first | (refine .inl ⟨by rfl, ?_⟩; intro w9 hS9; go_simp; try with_reducible rfl) | (refine .inr ⟨by rfl, ?_⟩; with_reducible rfl))
                rotate_left; (intro _ _ _ h9; exact h9)
                try simp only [Act.put, List.setIfInBounds_toArray, List.set_cons_zero, List.set_cons_succ]
                refine wpAnyH_take (i := 7) (oi := ?_) (v := ?_) ?_ (by kernel_rfl) (by kernel_rfl) (by kernel_rfl) ?_ ?_ (by assumption) ?_
                rotate_left 2; (simp only [List.getElem?_toArray, List.getElem?_cons_succ, List.getElem?_cons_zero]; rfl)
                rotate_left; (first | (refine .inl ⟨by rfl, ?_⟩; intro w9 hS9; go_simp; try with_reducible rfl) | (refine .inr ⟨by rfl, ?_⟩; with_reducible rfl))
                rotate_left; (intro _ _ _ h9; exact h9)
                try simp only [Act.put, List.setIfInBounds_toArray, List.set_cons_zero, List.set_cons_succ]
                refine wpAnyH_take (i := 8) (oi := ?_) (v := ?_) ?_ (by kernel_rfl) (by kernel_rfl) (by kernel_rfl) ?_ ?_ (by assumption) ?_
                rotate_left 2; (simp only [List.getElem?_toArray, List.getElem?_cons_succ, List.getElem?_cons_zero]; rfl)
                rotate_left; (first | (refine .inl ⟨by rfl, ?_⟩; intro w9 hS9; go_simp; try with_reducible rfl) | (refine .inr ⟨by rfl, ?_⟩; with_reducible rfl))
                rotate_left; (intro _ _ _ h9; exact h9)
                try simp only [Act.put, List.setIfInBounds_toArray, List.set_cons_zero, List.set_cons_succ]
                refine wpAnyH_take (i := 9) (oi := ?_) (v := ?_) ?_ (by kernel_rfl) (by kernel_rfl) (by kernel_rfl) ?_ ?_ (by assumption) ?_
                rotate_left 2; (simp only [List.getElem?_toArray, List.getElem?_cons_succ, List.getElem?_cons_zero]; rfl)
                rotate_left; (first | (refine .inl ⟨by rfl, ?_⟩; intro w9 hS9; go_simp; try with_reducible rfl) | (refine .inr ⟨by rfl, ?_⟩; with_reducible rfl))
                rotate_left; (intro _ _ _ h9; exact h9)
                try simp only [Act.put, List.setIfInBounds_toArray, List.set_cons_zero, List.set_cons_succ]
                refine wpAnyH_take (i := 10) (oi := ?_) (v := ?_) ?_ (by kernel_rfl) (by kernel_rfl) (by kernel_rfl) ?_ ?_ (by assumption) ?_
                rotate_left 2; (simp only [List.getElem?_toArray, List.getElem?_cons_succ, List.getElem?_cons_zero]; rfl)
                rotate_left; (first | (refine .inl ⟨by rfl, ?_⟩; intro w9 hS9; go_simp; try with_reducible rfl) | (refine .inr ⟨by rfl, ?_⟩; with_reducible rfl))
                rotate_left; (intro _ _ _ h9; exact h9)
                try simp only [Act.put, List.setIfInBounds_toArray, List.set_cons_zero, List.set_cons_succ]
                refine wpAnyH_take (i := 11) (oi := ?_) (v := ?_) ?_ (by kernel_rfl) (by kernel_rfl) (by kernel_rfl) ?_ ?_ (by assumption) ?_
                rotate_left 2; (simp only [List.getElem?_toArray, List.getElem?_cons_succ, List.getElem?_cons_zero]; rfl)
                rotate_left; (first | (refine .inl ⟨by rfl, ?_⟩; intro w9 hS9; go_simp; try with_reducible rfl) | (refine .inr ⟨by rfl, ?_⟩; with_reducible rfl))
                rotate_left; (intro _ _ _ h9; exact h9)
                try simp only [Act.put, List.setIfInBounds_toArray, List.set_cons_zero, List.set_cons_succ]
                refine wpAnyH_take (i := 12) (oi := ?_) (v := ?_) ?_ (by kernel_rfl) (by kernel_rfl) (by kernel_rfl) ?_ ?_ (by assumption) ?_
                rotate_left 2; (simp only [List.getElem?_toArray, List.getElem?_cons_succ, List.getElem?_cons_zero]; rfl)
                rotate_left; (first | (refine .inl ⟨by rfl, ?_⟩; intro w9 hS9; go_simp; try with_reducible rfl) | (refine .inr ⟨by rfl, ?_⟩; with_reducible rfl))
                rotate_left; (intro _ _ _ h9; exact h9)
                try simp only [Act.put, List.setIfInBounds_toArray, List.set_cons_zero, List.set_cons_succ]
                refine wpAnyH_take (i := 13) (oi := ?_) (v := ?_) ?_ (by kernel_rfl) (by kernel_rfl) (by kernel_rfl) ?_ ?_ (by assumption) ?_
                rotate_left 2; (simp only [List.getElem?_toArray, List.getElem?_cons_succ, List.getElem?_cons_zero]; rfl)
                rotate_left; (first | (refine .inl ⟨by rfl, ?_⟩; intro w9 hS9; go_simp; try with_reducible rfl) | (refine .inr ⟨by rfl, ?_⟩; with_reducible rfl))
                rotate_left; (intro _ _ _ h9; exact h9)
                try simp only [Act.put, List.setIfInBounds_toArray, List.set_cons_zero, List.set_cons_succ]
                refine wpAnyH_take (i := 14) (oi := ?_) (v := ?_) ?_ (by kernel_rfl) (by kernel_rfl) (by kernel_rfl) ?_ ?_ (by assumption) ?_
                rotate_left 2; (simp only [List.getElem?_toArray, List.getElem?_cons_succ, List.getElem?_cons_zero]; rfl)
                rotate_left; (first | (refine .inl ⟨by rfl, ?_⟩; intro w9 hS9; go_simp; try with_reducible rfl) | (refine .inr ⟨by rfl, ?_⟩; with_reducible rfl))
                rotate_left; (intro _ _ _ h9; exact h9)
                try simp only [Act.put, List.setIfInBounds_toArray, List.set_cons_zero, List.set_cons_succ]
                refine wpAnyH_take (i := 15) (oi := ?_) (v := ?_) ?_ (by kernel_rfl) (by kernel_rfl) (by kernel_rfl) ?_ ?_ (by assumption) ?_
                rotate_left 2; (simp only [List.getElem?_toArray, List.getElem?_cons_succ, List.getElem?_cons_zero]; rfl)
                rotate_left; (first | (refine .inl ⟨by rfl, ?_⟩; intro w9 hS9; go_simp; try with_reducible rfl) | (refine .inr ⟨by rfl, ?_⟩; with_reducible rfl))
                rotate_left; (intro _ _ _ h9; exact h9)
                try simp only [Act.put, List.setIfInBounds_toArray, List.set_cons_zero, List.set_cons_succ]
                refine wpAnyH_take (i := 16) (oi := ?_) (v := ?_) ?_ (by kernel_rfl) (by kernel_rfl) (by kernel_rfl) ?_ ?_ (by assumption) ?_
                rotate_left 2; (simp only [List.getElem?_toArray, List.getElem?_cons_succ, List.getElem?_cons_zero]; rfl)
                rotate_left; (first | (refine .inl ⟨by rfl, ?_⟩; intro w9 hS9; go_simp; try with_reducible rfl) | (refine .inr ⟨by rfl, ?_⟩; with_reducible rfl))
                rotate_left; (intro _ _ _ h9; exact h9)
                try simp only [Act.put, List.setIfInBounds_toArray, List.set_cons_zero, List.set_cons_succ]
                refine wpAnyH_take (i := 17) (oi := ?_) (v := ?_) ?_ (by kernel_rfl) (by kernel_rfl) (by kernel_rfl) ?_ ?_ (by assumption) ?_
                rotate_left 2; (simp only [List.getElem?_toArray, List.getElem?_cons_succ, List.getElem?_cons_zero]; rfl)
                rotate_left; (first | (refine .inl ⟨by rfl, ?_⟩; intro w9 hS9; go_simp; try with_reducible rfl) | (refine .inr ⟨by rfl, ?_⟩; with_reducible rfl))
                rotate_left; (intro _ _ _ h9; exact h9)
                try simp only [Act.put, List.setIfInBounds_toArray, List.set_cons_zero, List.set_cons_succ]
                refine wpAnyH_take (i := 18) (oi := ?_) (v := ?_) ?_ (by kernel_rfl) (by kernel_rfl) (by kernel_rfl) ?_ ?_ (by assumption) ?_
                rotate_left 2; (simp only [List.getElem?_toArray, List.getElem?_cons_succ, List.getElem?_cons_zero]; rfl)
                rotate_left; (first | (refine .inl ⟨by rfl, ?_⟩; intro w9 hS9; go_simp; try with_reducible rfl) | (refine .inr ⟨by rfl, ?_⟩; with_reducible rfl))
                rotate_left; (intro _ _ _ h9; exact h9)
                try simp only [Act.put, List.setIfInBounds_toArray, List.set_cons_zero, List.set_cons_succ]
                refine wpAnyH_take (i := 19) (oi := ?_) (v := ?_) ?_ (by kernel_rfl) (by kernel_rfl) (by kernel_rfl) ?_ ?_ (by assumption) ?_
                rotate_left 2; (simp only [List.getElem?_toArray, List.getElem?_cons_succ, List.getElem?_cons_zero]; rfl)
                rotate_left; (first | (refine .inl ⟨by rfl, ?_⟩; intro w9 hS9; go_simp; try with_reducible rfl) | (refine .inr ⟨by rfl, ?_⟩; with_reducible rfl))
                rotate_left; (intro _ _ _ h9; exact h9)
                try simp only [Act.put, List.setIfInBounds_toArray, List.set_cons_zero, List.set_cons_succ]
                refine wpAnyH_take (i := 20) (oi := ?_) (v := ?_) ?_ (by kernel_rfl) (by kernel_rfl) (by kernel_rfl) ?_ ?_ (by assumption) ?_
                rotate_left 2; (simp only [List.getElem?_toArray, List.getElem?_cons_succ, List.getElem?_cons_zero]; rfl)
                rotate_left; (first | (refine .inl ⟨by rfl, ?_⟩; intro w9 hS9; go_simp; try with_reducible rfl) | (refine .inr ⟨by rfl, ?_⟩; with_reducible rfl))
                rotate_left; (intro _ _ _ h9; exact h9)
                try simp only [Act.put, List.setIfInBounds_toArray, List.set_cons_zero, List.set_cons_succ]
                refine wpAnyH_take (i := 21) (oi := ?_) (v := ?_) ?_ (by kernel_rfl) (by kernel_rfl) (by kernel_rfl) ?_ ?_ (by assumption) ?_
                rotate_left 2; (simp only [List.getElem?_toArray, List.getElem?_cons_succ, List.getElem?_cons_zero]; rfl)
                rotate_left; (first | (refine .inl ⟨by rfl, ?_⟩; intro w9 hS9; go_simp; try with_reducible rfl) | (refine .inr ⟨by rfl, ?_⟩; with_reducible rfl))
                rotate_left; (intro _ _ _ h9; exact h9)
                try simp only [Act.put, List.setIfInBounds_toArray, List.set_cons_zero, List.set_cons_succ]
                refine wpAnyH_take (i := 22) (oi := ?_) (v := ?_) ?_ (by kernel_rfl) (by kernel_rfl) (by kernel_rfl) ?_ ?_ (by assumption) ?_
                rotate_left 2; (simp only [List.getElem?_toArray, List.getElem?_cons_succ, List.getElem?_cons_zero]; rfl)
                rotate_left; (first | (refine .inl ⟨by rfl, ?_⟩; intro w9 hS9; go_simp; try with_reducible rfl) | (refine .inr ⟨by rfl, ?_⟩; with_reducible rfl))
                rotate_left; (intro _ _ _ h9; exact h9)
                try simp only [Act.put, List.setIfInBounds_toArray, List.set_cons_zero, List.set_cons_succ]
                refine wpAnyH_take (i := 23) (oi := ?_) (v := ?_) ?_ (by kernel_rfl) (by kernel_rfl) (by kernel_rfl) ?_ ?_ (by assumption) ?_
                rotate_left 2; (simp only [List.getElem?_toArray, List.getElem?_cons_succ, List.getElem?_cons_zero]; rfl)
                rotate_left; (first | (refine .inl ⟨by rfl, ?_⟩; intro w9 hS9; go_simp; try with_reducible rfl) | (refine .inr ⟨by rfl, ?_⟩; with_reducible rfl))
                rotate_left; (intro _ _ _ h9; exact h9)
                try simp only [Act.put, List.setIfInBounds_toArray, List.set_cons_zero, List.set_cons_succ]
                refine wpAnyH_take (i := 24) (oi := ?_) (v := ?_) ?_ (by kernel_rfl) (by kernel_rfl) (by kernel_rfl) ?_ ?_ (by assumption) ?_
                rotate_left 2; (simp only [List.getElem?_toArray, List.getElem?_cons_succ, List.getElem?_cons_zero]; rfl)
                rotate_left; (first | (refine .inl ⟨by rfl, ?_⟩; intro w9 hS9; go_simp; try with_reducible rfl) | (refine .inr ⟨by rfl, ?_⟩; with_reducible rfl))
                rotate_left; (intro _ _ _ h9; exact h9)
                try simp only [Act.put, List.setIfInBounds_toArray, List.set_cons_zero, List.set_cons_succ]
                refine wpAnyH_take (i := 25) (oi := ?_) (v := ?_) ?_ (by kernel_rfl) (by kernel_rfl) (by kernel_rfl) ?_ ?_ (by assumption) ?_
                rotate_left 2; (simp only [List.getElem?_toArray, List.getElem?_cons_succ, List.getElem?_cons_zero]; rfl)
                rotate_left; (first | (refine .inl ⟨by rfl, ?_⟩; intro w9 hS9; go_simp; try with_reducible rfl) | (refine .inr ⟨by rfl, ?_⟩; with_reducible rfl))
                rotate_left; (intro _ _ _ h9; exact h9)
                try simp only [Act.put, List.setIfInBounds_toArray, List.set_cons_zero, List.set_cons_succ]
                refine wpAnyH_take (i := 26) (oi := ?_) (v := ?_) ?_ (by kernel_rfl) (by kernel_rfl) (by kernel_rfl) ?_ ?_ (by assumption) ?_
                rotate_left 2; (simp only [List.getElem?_toArray, List.getElem?_cons_succ, List.getElem?_cons_zero]; rfl)
                rotate_left; (first | (refine .inl ⟨by rfl, ?_⟩; intro w9 hS9; go_simp; try with_reducible rfl) | (refine .inr ⟨by rfl, ?_⟩; with_reducible rfl))
                rotate_left; (intro _ _ _ h9; exact h9)
                try simp only [Act.put, List.setIfInBounds_toArray, List.set_cons_zero, List.set_cons_succ]
                refine wpAnyH_take (i := 27) (oi := ?_) (v := ?_) ?_ (by kernel_rfl) (by kernel_rfl) (by kernel_rfl) ?_ ?_ (by assumption) ?_
                rotate_left 2; (simp only [List.getElem?_toArray, List.getElem?_cons_succ, List.getElem?_cons_zero]; rfl)
                rotate_left; (first | (refine .inl ⟨by rfl, ?_⟩; intro w9 hS9; go_simp; try with_reducible rfl) | (refine .inr ⟨by rfl, ?_⟩; with_reducible rfl))
                rotate_left; (intro _ _ _ h9; exact h9)
                try simp only [Act.put, List.setIfInBounds_toArray, List.set_cons_zero, List.set_cons_succ]
                refine wpAnyH_take (i := 28) (oi := ?_) (v := ?_) ?_ (by kernel_rfl) (by kernel_rfl) (by kernel_rfl) ?_ ?_ (by assumption) ?_
                rotate_left 2; (simp only [List.getElem?_toArray, List.getElem?_cons_succ, List.getElem?_cons_zero]; rfl)
                rotate_left; (first | (refine .inl ⟨by rfl, ?_⟩; intro w9 hS9; go_simp; try with_reducible rfl) | (refine .inr ⟨by rfl, ?_⟩; with_reducible rfl))
                rotate_left; (intro _ _ _ h9; exact h9)
                try simp only [Act.put, List.setIfInBounds_toArray, List.set_cons_zero, List.set_cons_succ]
                refine wpAnyH_take (i := 29) (oi := ?_) (v := ?_) ?_ (by kernel_rfl) (by kernel_rfl) (by kernel_rfl) ?_ ?_ (by assumption) ?_
                rotate_left 2; (simp only [List.getElem?_toArray, List.getElem?_cons_succ, List.getElem?_cons_zero]; rfl)
                rotate_left; (first | (refine .inl ⟨by rfl, ?_⟩; intro w9 hS9; go_simp; try with_reducible rfl) | (refine .inr ⟨by rfl, ?_⟩; with_reducible rfl))
                rotate_left; (intro _ _ _ h9; exact h9)
                try simp only [Act.put, List.setIfInBounds_toArray, List.set_cons_zero, List.set_cons_succ]
                refine wpAnyH_take (i := 30) (oi := ?_) (v := ?_) ?_ (by kernel_rfl) (by kernel_rfl) (by kernel_rfl) ?_ ?_ (by assumption) ?_
                rotate_left 2; (simp only [List.getElem?_toArray, List.getElem?_cons_succ, List.getElem?_cons_zero]; rfl)
                rotate_left; (first | (refine .inl ⟨by rfl, ?_⟩; intro w9 hS9; go_simp; try with_reducible rfl) | (refine .inr ⟨by rfl, ?_⟩; with_reducible rfl))
                rotate_left; (intro _ _ _ h9; exact h9)
                try simp only [Act.put, List.setIfInBounds_toArray, List.set_cons_zero, List.set_cons_succ]
                refine wpAnyH_take (i := 31) (oi := ?_) (v := ?_) ?_ (by kernel_rfl) (by kernel_rfl) (by kernel_rfl) ?_ ?_ (by assumption) ?_
                rotate_left 2; (simp only [List.getElem?_toArray, List.getElem?_cons_succ, List.getElem?_cons_zero]; rfl)
                rotate_left; (first | (refine .inl ⟨by rfl, ?_⟩; intro w9 hS9; go_simp; try with_reducible rfl) | (refine .inr ⟨by rfl, ?_⟩; with_reducible rfl))
                rotate_left; (intro _ _ _ h9; exact h9)
                try simp only [Act.put, List.setIfInBounds_toArray, List.set_cons_zero, List.set_cons_succ]
                refine wpAnyH_take (i := 32) (oi := ?_) (v := ?_) ?_ (by kernel_rfl) (by kernel_rfl) (by kernel_rfl) ?_ ?_ (by assumption) ?_
                rotate_left 2; (simp only [List.getElem?_toArray, List.getElem?_cons_succ, List.getElem?_cons_zero]; rfl)
                rotate_left; (first | (refine .inl ⟨by rfl, ?_⟩; intro w9 hS9; go_simp; try with_reducible rfl) | (refine .inr ⟨by rfl, ?_⟩; with_reducible rfl))
                rotate_left; (intro _ _ _ h9; exact h9)
                try simp only [Act.put, List.setIfInBounds_toArray, List.set_cons_zero, List.set_cons_succ]
                refine wpAnyH_take (i := 33) (oi := ?_) (v := ?_) ?_ (by kernel_rfl) (by kernel_rfl) (by kernel_rfl) ?_ ?_ (by assumption) ?_
                rotate_left 2; (simp only [List.getElem?_toArray, List.getElem?_cons_succ, List.getElem?_cons_zero]; rfl)
                rotate_left; (first | (refine .inl ⟨by rfl, ?_⟩; intro w9 hS9; go_simp; try with_reducible rfl) | (refine .inr ⟨by rfl, ?_⟩; with_reducible rfl))
                rotate_left; (intro _ _ _ h9; exact h9)
                try simp only [Act.put, List.setIfInBounds_toArray, List.set_cons_zero, List.set_cons_succ]
                refine wpAnyH_take (i := 34) (oi := ?_) (v := ?_) ?_ (by kernel_rfl) (by kernel_rfl) (by kernel_rfl) ?_ ?_ (by assumption) ?_
                rotate_left 2; (simp only [List.getElem?_toArray, List.getElem?_cons_succ, List.getElem?_cons_zero]; rfl)
                rotate_left; (first | (refine .inl ⟨by rfl, ?_⟩; intro w9 hS9; go_simp; try with_reducible rfl) | (refine .inr ⟨by rfl, ?_⟩; with_reducible rfl))
                rotate_left; (intro _ _ _ h9; exact h9)
                try simp only [Act.put, List.setIfInBounds_toArray, List.set_cons_zero, List.set_cons_succ]
                refine wpAnyH_take (i := 35) (oi := ?_) (v := ?_) ?_ (by kernel_rfl) (by kernel_rfl) (by kernel_rfl) ?_ ?_ (by assumption) ?_
                rotate_left 2; (simp only [List.getElem?_toArray, List.getElem?_cons_succ, List.getElem?_cons_zero]; rfl)
                rotate_left; (first | (refine .inl ⟨by rfl, ?_⟩; intro w9 hS9; go_simp; try with_reducible rfl) | (refine .inr ⟨by rfl, ?_⟩; with_reducible rfl))
                rotate_left; (intro _ _ _ h9; exact h9)
                try simp only [Act.put, List.setIfInBounds_toArray, List.set_cons_zero, List.set_cons_succ]
                refine wpAnyH_take (i := 36) (oi := ?_) (v := ?_) ?_ (by kernel_rfl) (by kernel_rfl) (by kernel_rfl) ?_ ?_ (by assumption) ?_
                rotate_left 2; (simp only [List.getElem?_toArray, List.getElem?_cons_succ, List.getElem?_cons_zero]; rfl)
                rotate_left; (first | (refine .inl ⟨by rfl, ?_⟩; intro w9 hS9; go_simp; try with_reducible rfl) | (refine .inr ⟨by rfl, ?_⟩; with_reducible rfl))
                rotate_left; (intro _ _ _ h9; exact h9)
                try simp only [Act.put, List.setIfInBounds_toArray, List.set_cons_zero, List.set_cons_succ]
                refine wpAnyH_take (i := 37) (oi := ?_) (v := ?_) ?_ (by kernel_rfl) (by kernel_rfl) (by kernel_rfl) ?_ ?_ (by assumption) ?_
                rotate_left 2; (simp only [List.getElem?_toArray, List.getElem?_cons_succ, List.getElem?_cons_zero]; rfl)
                rotate_left; (first | (refine .inl ⟨by rfl, ?_⟩; intro w9 hS9; go_simp; try with_reducible rfl) | (refine .inr ⟨by rfl, ?_⟩; with_reducible rfl))
                rotate_left; (intro _ _ _ h9; exact h9)
                try simp only [Act.put, List.setIfInBounds_toArray, List.set_cons_zero, List.set_cons_succ]
                refine wpAnyH_take (i := 38) (oi := ?_) (v := ?_) ?_ (by kernel_rfl) (by kernel_rfl) (by kernel_rfl) ?_ ?_ (by assumption) ?_
                rotate_left 2; (simp only [List.getElem?_toArray, List.getElem?_cons_succ, List.getElem?_cons_zero]; rfl)
                rotate_left; (first | (refine .inl ⟨by rfl, ?_⟩; intro w9 hS9; go_simp; try with_reducible rfl) | (refine .inr ⟨by rfl, ?_⟩; with_reducible rfl))
                rotate_left; (intro _ _ _ h9; exact h9)
                try simp only [Act.put, List.setIfInBounds_toArray, List.set_cons_zero, List.set_cons_succ]
                refine wpAnyH_take (i := 39) (oi := ?_) (v := ?_) ?_ (by kernel_rfl) (by kernel_rfl) (by kernel_rfl) ?_ ?_ (by assumption) ?_
                rotate_left 2; (simp only [List.getElem?_toArray, List.getElem?_cons_succ, List.getElem?_cons_zero]; rfl)
                rotate_left; (first | (refine .inl ⟨by rfl, ?_⟩; intro w9 hS9; go_simp; try with_reducible rfl) | (refine .inr ⟨by rfl, ?_⟩; with_reducible rfl))
                rotate_left; (intro _ _ _ h9; exact h9)
                try simp only [Act.put, List.setIfInBounds_toArray, List.set_cons_zero, List.set_cons_succ]
                refine wpAnyH_take (i := 40) (oi := ?_) (v := ?_) ?_ (by kernel_rfl) (by kernel_rfl) (by kernel_rfl) ?_ ?_ (by assumption) ?_
                rotate_left 2; (simp only [List.getElem?_toArray, List.getElem?_cons_succ, List.getElem?_cons_zero]; rfl)
                rotate_left; (first | (refine .inl ⟨by rfl, ?_⟩; intro w9 hS9; go_simp; try with_reducible rfl) | (refine .inr ⟨by rfl, ?_⟩; with_reducible rfl))
                rotate_left; (intro _ _ _ h9; exact h9)
                try simp only [Act.put, List.setIfInBounds_toArray, List.set_cons_zero, List.set_cons_succ]
                refine wpAnyH_done (by kernel_rfl) ?_ _
                clear z0
                clear x0 y0
                try simp only [bne_self_eq_false, decide_true, Bool.not_true]
                have hx0 := HE.out
                obtain ⟨hc0, hf0⟩ := HCELL.out
                have hb9 : Below wr.heap.size wr wr.drew := hS0
                clear hS0
                have hc1 : wr.drew.cell? ⟨gf, d, none⟩ = some (.int .i64 0) := hc0
                have hf1 : wr.drew.frozen? ⟨gf, d, none⟩ = false := hf0
                have HFI := Lib.hid (show OnR w g gf l _ t t (k + 1) (wr.drew.setCell ⟨gf, d, none⟩ (.int .i64 1)) from HFIRE.out.below ⟨rfl, rfl, rfl, Nat.le_refl _, fun _ _ => rfl⟩)
                have HRE4 := Lib.hid ((HRE2.out.below hb9).fr (fr_setCell (F := fun b => b = gf) (w := wr.drew) ⟨gf, d, none⟩ (.int .i64 1) rfl) (fun _ b' o' e hb => by cases e; exact HBB.out hb))
                clear hc0 hf0 hb9
                generalize wr.drew = wd at *
                go_wp2_with fail
                exact ⟨⟨k + 1, by have := HK.out; omega, by go_num, ⟨_, HFI.out⟩, HRE4.out⟩, by have := HK.out; simp [intOf]; omega⟩
            · obtain rfl : k = m := by omega
              clear hlt hk hon hre
              go_wp2_with fail
              exact ⟨⟨t + 1, by omega, by have := HT.out; omega, by go_num, fs2, ⟨HR2.out.w5, HR2.out.own, by have := HR2.out.fs_; rw [← HM.out] at this; exact onF_next l fs2 t this, HR2.out.new⟩⟩, by have := HT.out; simp [intOf]; omega⟩
        · obtain rfl : t = mx + 1 := by omega
          clear hlt ht
          have hlt' : ¬ ((mx + 1 : Nat) : Int) ≤ mx := by omega
          have hon := HR.out
          rw [show mx + 1 - 1 = mx by omega] at hon
          have HO := Lib.hid hon
          have HNL := Lib.hid (on_end l mx (fun j hj => (HALL.out j (by have := hll.out; omega)).2))
          clear hon HR HON
          go_wp2_with fail
          go_loopw [13] (fun s13 wx => wx = wr ∧ ∃ k : Nat, k ≤ i ∧ s13 = .int .i64 k) (fun s13 _ => i - (intOf s13).toNat)
          case atStart => exact ⟨rfl, 0, Nat.zero_le _, rfl⟩
          case round =>
            obtain ⟨rfl, k, hk, rfl⟩ := hrel
            by_cases hlt : k < i
            · have hlt' : (k : Int) < i := by omega
              have hc := HO.out.cell (d := k) (by have := hll.out; omega) 1 (onF_all l fs mx k HO.out.fs_ (by have := hll.out; omega) (HALL.out k hlt).2)
              have HC := Lib.hid hc.2
              have x0 := hc.1
              have HK := Lib.hid hlt
              have hi9 : (i : Int) ≤ 64 := by have := HN.out; omega
              clear hc hlt hk
              go_wp2_with fail
              exact ⟨⟨trivial, k + 1, by have := HK.out; omega, by go_num⟩, by have := HK.out; simp [intOf]; omega⟩
            · obtain rfl : k = i := by omega
              clear hlt hk
              go_wp2_with fail
              refine (l5_free HO.out.w5).mono ?_
              rintro e wf ⟨rfl, h9, _⟩
              have H2 := Lib.hid h9.bel
              have hfr : (((onT l mx).P - (onT l mx).L.length : Nat) : Int) = 64 := by rw [HNL.out]; rfl
              rw [hfr]
              clear h9 HO hfr
              go_wp2_with fail
              go_ret
              exact ⟨rfl, H2.out⟩
end Go.Proofs.YtpfoocndohpbbaaDoor
