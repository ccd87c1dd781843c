/- The walk of EventsMore. -/
import Derived.Test.YtdhkfdaajkehhaaEvLastW
namespace Go.Proofs.Ytdhkfdaajkehhaa
open Go.RowKit
set_option linter.unusedVariables false
set_option linter.unusedSimpArgs false

set_option maxRecDepth 100000 in
set_option maxHeartbeats 4000000 in
theorem eventsMore_walk (a0 : Int) (a1 : Int) (a2 : Option Addr) (len2 cap2 : Nat) (w : World) (w0 : (Lit.int .i64 a0).wf = true) (w1 : (Lit.int .i64 a1).wf = true) (w2 : IsEvs w a2 len2 cap2) :
    Calls Try.prog 5 #[.int .i64 a0, .int .i64 a1, .slice a2 len2 cap2] w fun e w' => e = .returned (.bool true) ∧ Below w.heap.size w w' := by
  have hbd := w2.bd
  clear w0 w1
  go_enter Try.func5, Try.ntmps5
  go_wp2_with fail
  refine (ev_small _).mono ?_
  rintro e wa ⟨rfl, hb⟩
  go_wp2_with fail
  refine (logis_new a0 _).mono ?_
  rintro e wb ⟨rfl, hl, hb2⟩
  have hsz := hb.size
  replace hb := hb.trans (hb2.mono hb.size)
  generalize wa.heap.size = g at hl hsz ⊢
  clear hb2
  go_wp2_with fail
  refine (logis_new a1 _).mono ?_
  rintro e wc ⟨rfl, hm, hb2⟩
  have hgh := hl.lt
  replace hl := hl.below hb2
  have hsh := hb.size
  replace hb := hb.trans (hb2.mono hb.size)
  generalize wb.heap.size = h at hm hsh hgh ⊢
  clear hb2
  have hrm := room_bd a0
  have hrn := room_bd a1
  by_cases h2 : 2000 < len2
  · have h2' : (2000 : Int) < len2 := by omega
    clear hl hm w2
    go_wp2_with fail
    go_ret
    exact ⟨rfl, hb⟩
  obtain ⟨es, hr⟩ := w2.re (by omega)
  have h2' : ¬ (2000 : Int) < len2 := by omega
  by_cases h3 : a1 < a0
  · clear hl hm hr
    go_wp2_with fail
    go_ret
    exact ⟨rfl, hb⟩
  have hlen := Lib.hid hr.len
  clear w2
  go_wp2_with fail
  go_loopw [10] (fun i wr => ∃ (k : Nat) (v u : Value), k ≤ len2 ∧ i = .int .i64 k ∧ LogIs wr g v (room a0) (es.take k) ∧ LogIs wr h u (room a1) (es.take k) ∧ Below w.heap.size w wr ∧ (∀ b, v.ownBlock = some b → w.heap.size ≤ b) ∧ (∀ b, u.ownBlock = some b → w.heap.size ≤ b ∧ b ≠ g ∧ v.ownBlock ≠ some b) ∧ v.ownBlock ≠ some h) (fun i _ => len2 - (intOf i).toNat)
  case atStart => exact ⟨0, .slice none 0 0, .slice none 0 0, Nat.zero_le _, rfl, hl, hm, hb, (fun b h => by cases h), (fun b h => by cases h), (fun h => by cases h)⟩
  case round =>
    obtain ⟨k, v, u, hk, rfl, hlr, hmr, hbr, hvr, hur, hvh⟩ := hrel
    clear hl hm hb
    by_cases hlt : k < len2
    · have hlt' : (k : Int) < len2 := by omega
      have hke : k < es.length := by rw [hlen.out]; exact hlt
      obtain ⟨b, o, rfl, hbl, _⟩ := hr.cells (by omega)
      have he := (hr.below hbr).elem evc_len k hke
      have hsn := Lib.hid (take_snoc es k hke)
      generalize es[k] = x at he hsn
      obtain ⟨x0, x1, x2⟩ := ev_cells wr b _ x he (Nat.lt_of_lt_of_le hbl hbr.size)
      have y0 := x0 _ (Below.refl _ _)
      have y1 := x1 _ (Below.refl _ _)
      have y2 := x2 _ (Below.refl _ _)
      clear x0 x1 x2 hr
      go_wp2_with fail
      refine (logis_add _ _ _ _ x _ hlr hrm.1 hrm.2 (by rw [List.length_take]; omega)).mono ?_
      rintro e wd ⟨v3, rfl, hl3, hf3, hr3⟩
      have hb3 := fr_over hbr hr3 (fun i h => by rcases h with rfl | h; exact hsz; exact hvr _ h)
      have hm3 := hmr.fr hr3 (fun h => by rcases h with e | h; omega; exact hvh h) (fun i hi h => by rcases h with rfl | h; exact (hur _ hi).2.1 rfl; exact (hur _ hi).2.2 h)
      have hul : ∀ i, u.ownBlock = some i → i < wr.heap.size := hmr.ownlt
      have hv3 : v3.ownBlock ≠ some h := fun e => (hf3 _ e).elim hvh (fun q => by have := hmr.lt; omega)
      have hu3 : ∀ i, u.ownBlock = some i → v3.ownBlock ≠ some i := fun i hi e => (hf3 _ e).elim (hur i hi).2.2 (fun q => by have := hul i hi; omega)
      have hnF : ¬ (b = g ∨ v.ownBlock = some b) := fun q => by rcases q with q | q; omega; (have := hvr _ q; omega)
      replace y0 := (hr3.cell (p := ⟨b, o + k * 3, none⟩) (Nat.lt_of_lt_of_le hbl hbr.size) hnF).trans y0
      replace y1 := (hr3.cell (p := ⟨b, o + k * 3 + 1, none⟩) (Nat.lt_of_lt_of_le hbl hbr.size) hnF).trans y1
      replace y2 := (hr3.cell (p := ⟨b, o + k * 3 + 2, none⟩) (Nat.lt_of_lt_of_le hbl hbr.size) hnF).trans y2
      replace hvr : ∀ b, v3.ownBlock = some b → w.heap.size ≤ b := fun b h => (hf3 b h).elim (hvr b) (fun h => Nat.le_trans hbr.size h)
      clear he hlr hmr hr3 hf3
      go_wp2_with fail
      refine (logis_add _ _ _ _ x _ hm3 hrn.1 hrn.2 (by rw [List.length_take]; omega)).mono ?_
      rintro e we ⟨u4, rfl, hm4, hf4, hr4⟩
      have hb4 := fr_over hb3 hr4 (fun i h => by rcases h with rfl | h; exact hsh; exact (hur _ h).1)
      have hl4 := hl3.fr hr4 (fun e => by rcases e with e | e; omega; exact (hur _ e).2.1 rfl) (fun i hi e => by rcases e with rfl | e; exact hv3 hi; exact hu3 _ e hi)
      rw [← hsn.out] at hl4 hm4
      have hu4 : ∀ b, u4.ownBlock = some b → w.heap.size ≤ b ∧ b ≠ g ∧ v3.ownBlock ≠ some b := fun b hb => (hf4 b hb).elim (fun q => ⟨(hur b q).1, (hur b q).2.1, hu3 b q⟩) (fun q => ⟨Nat.le_trans hb3.size q, fun e => by have := hl3.lt; omega, fun e => by have := hl3.ownlt b e; omega⟩)
      clear hl3 hm3 hr4 hur
      go_wp2_with fail
      exact ⟨⟨k + 1, v3, u4, by omega, by go_num, hl4, hm4, hb4, hvr, hu4, hv3⟩, by simp [intOf]; omega⟩
    · obtain rfl : k = len2 := by omega
      rw [List.take_of_length_le (by rw [hlen.out]; omega)] at hlr hmr
      obtain ⟨wo, rfl⟩ : ∃ wo : World, wo = wr := ⟨_, rfl⟩
      clear hr hur hvh hvr
      go_wp2_with fail
      refine (logis_all _ _ _ _ _ hlr hrm.1 hrm.2 (by rw [hlen.out]; omega)).mono ?_
      rintro e w4 ⟨v4, rfl, ho4, hf4, hb4⟩
      replace hlr := hlr.below hb4
      replace hmr := hmr.below hb4
      replace hbr := hbr.trans (hb4.mono hbr.size)
      obtain ⟨A4, c4, rfl, hr4, _, _⟩ := ho4.re (by rw [List.length_drop, hlen.out]; omega)
      rw [List.length_drop, hlen.out] at hr4 ⊢
      clear ho4 hf4 hb4
      have hq1 : k - (k - room a0) = min k (room a0) := by omega
      rw [hq1] at hr4 ⊢
      go_wp2_with fail
      refine (logis_all _ _ _ _ _ hmr hrn.1 hrn.2 (by rw [hlen.out]; omega)).mono ?_
      rintro e w5 ⟨v5, rfl, ho5, hf5, hb5⟩
      replace hlr := hlr.below hb5
      replace hmr := hmr.below hb5
      replace hbr := hbr.trans (hb5.mono hbr.size)
      replace hr4 := hr4.below hb5
      obtain ⟨A5, c5, rfl, hr5, _, _⟩ := ho5.re (by rw [List.length_drop, hlen.out]; omega)
      rw [List.length_drop, hlen.out] at hr5 ⊢
      clear ho5 hf5 hb5
      have hq2 : k - (k - room a1) = min k (room a1) := by omega
      rw [hq2] at hr5 ⊢
      have hlost1 := fun w' (hb : Below w5.heap.size w5 w') => logis_lost _ _ _ _ _ (hlr.below hb) (by rw [hlen.out]; omega)
      have hlost2 := fun w' (hb : Below w5.heap.size w5 w') => logis_lost _ _ _ _ _ (hmr.below hb) (by rw [hlen.out]; omega)
      rw [hlen.out] at hlost1 hlost2
      have hrr : room a0 ≤ room a1 := by unfold room; omega
      have hd1 : (es.drop (k - room a1)).drop (min k (room a1) - min k (room a0)) = es.drop (k - room a0) := by rw [List.drop_drop, show k - room a1 + (min k (room a1) - min k (room a0)) = k - room a0 by omega]
      have hs1 : min k (room a0) + (k - room a0) = k := by omega
      have hs2 : min k (room a1) + (k - room a1) = k := by omega
      have hle : min k (room a0) ≤ min k (room a1) := by omega
      have hk2 : k ≤ 2000 := by omega
      generalize min k (room a0) = m0 at *
      generalize min k (room a1) = m1 at *
      generalize k - room a0 = q0 at *
      generalize k - room a1 = q1 at *
      obtain ⟨d, rfl⟩ : ∃ d, m1 = m0 + d := ⟨m1 - m0, by omega⟩
      rw [show m0 + d - m0 = d by omega] at hd1
      have sl1 := fun w => run_slice_lo evT w A5 (m0 + d) c5 d (by omega) (d : Int) rfl
      rw [show m0 + d - d = m0 by omega] at sl1
      have hr6 := hr5.sub evc_len d (by omega)
      rw [show m0 + d - d = m0 by omega, hd1] at hr6
      have e1 : IntKind.i64.wrap ((m0 : Int) + (d : Int) - (m0 : Int)) = (d : Int) := by rw [IntKind.wrap_i64]; omega
      have e2 : (m0 : Int) + (q0 : Int) = k := by omega
      have e3 : (m0 : Int) + (d : Int) + (q1 : Int) = k := by omega
      have hle' : (m0 : Int) ≤ (m0 : Int) + (d : Int) := by omega
      clear hlr hmr hr5 hrm hrn hq1 hq2 hrr hd1 hs1 hs2 hlt hle
      go_wp2_with fail
      refine (ref_same_eq _ _ _ _ _ _ _ _ _ hr6 hr4 rfl).mono ?_
      rintro e w6 ⟨rfl, hb6⟩
      clear hr6 hr4
      go_wp2_with fail
      refine (hlost1 _ hb6).mono ?_
      rintro e w7 ⟨rfl, hb7⟩
      replace hb7 := hb6.trans (hb7.mono hb6.size)
      clear hb6
      go_wp2_with fail
      refine (hlost2 _ hb7).mono ?_
      rintro e w8 ⟨rfl, hb8⟩
      replace hb8 := hb7.trans (hb8.mono hb7.size)
      clear hb7
      go_wp2_with fail
      go_ret
      exact ⟨rfl, hbr.trans (hb8.mono hbr.size)⟩
end Go.Proofs.Ytdhkfdaajkehhaa
