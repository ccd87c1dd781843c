/- The walk of EventsKeep. -/
import Derived.Test.YtdhkfdaajkehhaaEvLastW
namespace Go.Proofs.Ytdhkfdaajkehhaa
open Go.RowKit
set_option linter.unusedVariables false
set_option linter.unusedSimpArgs false

set_option maxRecDepth 100000 in
set_option maxHeartbeats 4000000 in
theorem eventsKeep_walk (a0 : Int) (a2 : Option Addr) (len2 cap2 : Nat) (w : World) (w0 : (Lit.int .i64 a0).wf = true) (w2 : IsEvs w a2 len2 cap2) :
    Calls Try.prog 3 #[.int .i64 a0, .slice a2 len2 cap2] w fun e w' => e = .returned (.bool true) ∧ Below w.heap.size w w' := by
  have hbd := w2.bd
  clear w0
  go_enter Try.func3, Try.ntmps3
  go_wp2_with fail
  refine (ev_small _).mono ?_
  rintro e wa ⟨rfl, hb⟩
  go_wp2_with fail
  refine (logis_new a0 _).mono ?_
  rintro e wb ⟨rfl, hl, hb2⟩
  have hsz := hb.size
  replace hb := hb.trans (hb2.mono hb.size)
  generalize wa.heap.size = g at hl hsz ⊢
  clear hb2
  have hrm := room_bd a0
  by_cases h2 : 300 < len2
  · have h2' : (300 : Int) < len2 := by omega
    clear hl w2
    go_wp2_with fail
    go_ret
    exact ⟨rfl, hb⟩
  obtain ⟨es, hr⟩ := w2.re (by omega)
  have h2' : ¬ (300 : Int) < len2 := by omega
  go_wp2_with fail
  refine (ref_new a0 _).mono ?_
  rintro e wc ⟨rfl, hm, hb2⟩
  have hgh := hl.lt
  replace hl := hl.below hb2
  have hsh := hb.size
  replace hb := hb.trans (hb2.mono hb.size)
  generalize wb.heap.size = h at hm hsh hgh ⊢
  clear hb2
  have hlen := Lib.hid hr.len
  clear w2
  go_wp2_with fail
  go_loopw [8, 9, 10] (fun i s9 s10 wr => ∃ (k : Nat) (v u : Value), k ≤ len2 ∧ i = .int .i64 k ∧ LogIs wr g v (room a0) (es.take k) ∧ RefAt wr h u (room a0) (es.take k) ∧ Below w.heap.size w wr ∧ (∀ b, v.ownBlock = some b → w.heap.size ≤ b) ∧ (∀ b, u.ownBlock = some b → w.heap.size ≤ b ∧ b ≠ g ∧ v.ownBlock ≠ some b) ∧ v.ownBlock ≠ some h) (fun i _ _ _ => len2 - (intOf i).toNat)
  case atStart => exact ⟨0, .slice none 0 0, .slice none 0 0, Nat.zero_le _, rfl, hl, hm, hb, (fun b h => by cases h), (fun b h => by cases h), (fun h => by cases h)⟩
  case round =>
    obtain ⟨k, v, u, hk, rfl, hlr, hmr, hbr, hvr, hur, hvh⟩ := hrel
    clear hl hm hb
    by_cases hlt : k < len2
    · have hlt' : (k : Int) < len2 := by omega
      have hke : k < es.length := by rw [hlen.out]; exact hlt
      have hr00 := hr
      obtain ⟨b, o, rfl, hbl, _⟩ := hr.cells (by omega)
      have he := (hr.below hbr).elem evc_len k hke
      have hsn := Lib.hid (take_snoc es k hke)
      generalize es[k] = x at he hsn
      obtain ⟨x0, x1, x2⟩ := ev_cells wr b _ x he (Nat.lt_of_lt_of_le hbl hbr.size)
      have y0 := x0 _ (Below.refl _ _)
      have y1 := x1 _ (Below.refl _ _)
      have y2 := x2 _ (Below.refl _ _)
      clear x0 x1 x2 hr
      go_wp2_with fail
      refine (logis_add _ _ _ _ x _ hlr hrm.1 hrm.2 (by rw [List.length_take]; omega)).mono ?_
      rintro e wd ⟨v3, rfl, hl3, hf3, hr3⟩
      have hb3 := fr_over hbr hr3 (fun i h => by rcases h with rfl | h; exact hsz; exact hvr _ h)
      have hm3 := hmr.fr hr3 (fun h => by rcases h with e | h; omega; exact hvh h) (fun i hi h => by rcases h with rfl | h; exact (hur _ hi).2.1 rfl; exact (hur _ hi).2.2 h)
      have hul : ∀ i, u.ownBlock = some i → i < wr.heap.size := fun i hi => hmr.own.lt i hi
      have hv3 : v3.ownBlock ≠ some h := fun e => (hf3 _ e).elim hvh (fun q => by have := hmr.lt; omega)
      have hu3 : ∀ i, u.ownBlock = some i → v3.ownBlock ≠ some i := fun i hi e => (hf3 _ e).elim (hur i hi).2.2 (fun q => by have := hul i hi; omega)
      have hnF : ¬ (b = g ∨ v.ownBlock = some b) := fun q => by rcases q with q | q; omega; (have := hvr _ q; omega)
      replace y0 := (hr3.cell (p := ⟨b, o + k * 3, none⟩) (Nat.lt_of_lt_of_le hbl hbr.size) hnF).trans y0
      replace y1 := (hr3.cell (p := ⟨b, o + k * 3 + 1, none⟩) (Nat.lt_of_lt_of_le hbl hbr.size) hnF).trans y1
      replace y2 := (hr3.cell (p := ⟨b, o + k * 3 + 2, none⟩) (Nat.lt_of_lt_of_le hbl hbr.size) hnF).trans y2
      replace hvr : ∀ b, v3.ownBlock = some b → w.heap.size ≤ b := fun b h => (hf3 b h).elim (hvr b) (fun h => Nat.le_trans hbr.size h)
      clear he hlr hmr hr3 hf3
      go_wp2_with fail
      refine (ref_add _ _ _ _ x _ hm3 (by rw [List.length_take]; omega)).mono ?_
      rintro e we ⟨u4, rfl, hm4, hf4, hr4⟩
      have hb4 := fr_over hb3 hr4 (fun i h => by rcases h with rfl | h; exact hsh; exact (hur _ h).1)
      have hl4 := hl3.fr hr4 (fun e => by rcases e with e | e; omega; exact (hur _ e).2.1 rfl) (fun i hi e => by rcases e with rfl | e; exact hv3 hi; exact hu3 _ e hi)
      rw [← hsn.out] at hl4 hm4
      have hu4 : ∀ b, u4.ownBlock = some b → w.heap.size ≤ b ∧ b ≠ g ∧ v3.ownBlock ≠ some b := fun b hb => (hf4 b hb).elim (fun q => ⟨(hur b q).1, (hur b q).2.1, hu3 b q⟩) (fun q => ⟨Nat.le_trans hb3.size q, fun e => by have := hl3.lt; omega, fun e => by have := hl3.ownlt b e; omega⟩)
      clear hl3 hm3 hr4 hur y0 y1 y2
      have hk1 : (es.take (k + 1)).length = k + 1 := by rw [List.length_take]; omega
      generalize hlsE : es.take (k + 1) = ls at hl4 hm4 hk1
      replace hlsE := Lib.hid hlsE
      have hlt4 : g < we.heap.size ∧ h < we.heap.size ∧ (∀ i, v3.ownBlock = some i → i < we.heap.size) ∧ (∀ i, u4.ownBlock = some i → i < we.heap.size) := ⟨hl4.lt, hm4.lt, hl4.ownlt, fun i hi => hm4.own.lt i hi⟩
      go_wp2_with fail
      refine (logis_all _ _ _ _ _ hl4 hrm.1 hrm.2 (by omega)).mono ?_
      rintro e w5 ⟨v5, rfl, ho5, hf5, hb5⟩
      replace hl4 := hl4.below hb5
      replace hm4 := hm4.below hb5
      have hb6 := hb4.trans (hb5.mono hb4.size)
      have hgl := Lib.hid (show g < we.heap.size ∧ h < we.heap.size ∧ (∀ i, v3.ownBlock = some i → i < we.heap.size) ∧ (∀ i, u4.ownBlock = some i → i < we.heap.size) from hlt4)
      have hls : (ls.drop (ls.length - room a0)).length ≤ 2000 := by rw [List.length_drop]; omega
      have hra := fun w' (hb : Below w5.heap.size w5 w') => ref_all _ _ _ _ _ (hm4.below hb) hrm.2 (by omega)
      generalize ls.drop (ls.length - room a0) = zs5 at ho5 hls hra
      obtain ⟨A5, c5, rfl, hr5, hob5, ha5⟩ := ho5.re (by omega)
      generalize hnn : zs5.length = n5 at hls ho5 hob5 hf5 hr5 ⊢
      clear hb5
      go_wp2_with fail
      refine (hra _ (Below.refl _ _)).mono ?_
      rintro e w6 ⟨A6, n6, c6, rfl, hr6, hb7⟩
      replace hr5 := hr5.below hb7
      have hS := hb7
      clear hb7
      go_wp2_with fail
      refine (ref_same_eq _ _ _ _ _ _ _ _ _ hr5 hr6 rfl).mono ?_
      rintro e w7 ⟨rfl, hb7⟩
      replace hS := hS.trans (hb7.mono hS.size)
      clear hr5 hr6 hb7
      go_wp2_with fail
      refine (logis_lost _ _ _ _ _ (hl4.below hS) (by omega)).mono ?_
      rintro e w8 ⟨rfl, hb7⟩
      replace hS := hS.trans (hb7.mono hS.size)
      clear hb7
      go_wp2_with fail
      refine (ref_lost _ _ _ _ _ (hm4.below hS) hrm.2 (by omega)).mono ?_
      rintro e w9 ⟨rfl, hb7⟩
      replace hS := hS.trans (hb7.mono hS.size)
      clear hb7
      replace hl4 := hl4.below hS
      replace hm4 := hm4.below hS
      replace ho5 := ho5.fr (Fr.ofBelow hS (fun _ => False)) (fun _ _ h => h)
      replace hb6 := Lib.hid (hb6.trans (hS.mono hb6.size))
      clear hS
      go_wp2_with fail
      go_loopw [10] (fun i wr => ∃ (j : Nat) (ys : List Ev), j ≤ n5 ∧ ys.length = n5 ∧ i = .int .i64 j ∧ OwnEv wr (.slice A5 n5 c5) ys ∧ Fr (fun i => (Value.slice A5 n5 c5).ownBlock = some i) w9 wr) (fun i _ => n5 - (intOf i).toNat)
      case atStart => exact ⟨0, zs5, Nat.zero_le _, hnn, rfl, ho5, Fr.refl _ _⟩
      case round =>
        obtain ⟨j, ys, hj, hys, rfl, hoj, hfj⟩ := hrel
        by_cases hjn : j < n5
        · have hjn' : (j : Int) < n5 := by omega
          have hjy : j < ys.length := by omega
          obtain ⟨gb, rfl⟩ : ∃ gb, A5 = some ⟨gb, 0, none⟩ := by
            obtain ⟨A7, c7, e7, h7, _, ha7⟩ := hoj.re (by omega)
            cases e7
            obtain ⟨b7, o7, e8, _⟩ := h7.cells (by omega)
            exact ⟨b7, by rw [e8, (ha7 _ e8).1.symm]⟩
          have hth := hoj.there evc_len j hjy
          have hset := Lib.hid (hoj.set evc_len j hjy ⟨0, -7, 0⟩)
          have hfr := Lib.hid (hfj.trans (fr_setCells (F := fun i => (Value.slice (some ⟨gb, 0, none⟩) n5 c5).ownBlock = some i) gb rfl (evc ⟨0, -7, 0⟩) (j * 3) wr) (fun _ h => .inl h))
          clear hoj hfj hl4 hm4 hb6 ho5
          go_wp2_with ((with_reducible show wpList _ _ _ (Oper.mk _ (Op.store _ _ _) _ _ _ _ :: _) _ _); go_must (refine wpList_store_mid rfl 31 _ _ rfl gb (j * 3) #[.int .u64 0, .int .i64 (-7), .int .i64 0] rfl rfl hth evT.size (all_oneCell_toArray (evc_one ⟨0, -7, 0⟩)) ?_))
          exact ⟨⟨j + 1, ys.set j ⟨0, -7, 0⟩, by omega, by simp [hys], by go_num, hset.out, hfr.out⟩, by simp [intOf]; omega⟩
        · obtain rfl : j = n5 := by omega
          have hl9 := hl4.fr hfj (fun e => by have := hf5 _ e; have := hgl.out.1; omega) (fun i hi e => by have := hf5 _ e; have := hgl.out.2.2.1 i hi; omega)
          have hm9 := hm4.fr hfj (fun e => by have := hf5 _ e; have := hgl.out.2.1; omega) (fun i hi e => by have := hf5 _ e; have := hgl.out.2.2.2 i hi; omega)
          have hb9 := fr_over hb6.out hfj (fun i e => Nat.le_trans hb4.size (hf5 _ e))
          clear hl4 hm4 hb6 hfj hoj ho5
          go_wp2_with fail
          rw [← hlsE.out] at hl9 hm9
          exact ⟨⟨k + 1, v3, u4, by omega, by go_num, hl9, hm9, hb9, hvr, hu4, hv3⟩, by simp [intOf]; omega⟩
    · obtain rfl : k = len2 := by omega
      have hk1 : (es.take k).length = k := by rw [List.length_take, hlen.out]; omega
      generalize es.take k = ls at hlr hmr hk1
      clear hr hur hvh hvr
      obtain ⟨wo, rfl⟩ : ∃ wo : World, wo = wr := ⟨_, rfl⟩
      go_wp2_with fail
      refine (logis_all _ _ _ _ _ hlr hrm.1 hrm.2 (by omega)).mono ?_
      rintro e w5 ⟨v5, rfl, ho5, hf5, hb5⟩
      have hra := fun w' (hb : Below w5.heap.size w5 w') => ref_all _ _ _ _ _ ((hmr.below hb5).below hb) hrm.2 (by omega)
      have hls : (ls.drop (ls.length - room a0)).length ≤ 2000 := by rw [List.length_drop]; omega
      replace hbr := hbr.trans (hb5.mono hbr.size)
      generalize ls.drop (ls.length - room a0) = zs5 at ho5 hls hra
      obtain ⟨A5, c5, rfl, hr5, hob5, ha5⟩ := ho5.re (by omega)
      generalize hnn : zs5.length = n5 at hls ho5 hob5 hf5 hr5 ⊢
      clear hb5 hlr hmr
      go_wp2_with fail
      refine (hra _ (Below.refl _ _)).mono ?_
      rintro e w6 ⟨A6, n6, c6, rfl, hr6, hb7⟩
      replace hr5 := hr5.below hb7
      have hS := hb7
      clear hb7 hra
      go_wp2_with fail
      refine (ref_same_eq _ _ _ _ _ _ _ _ _ hr5 hr6 rfl).mono ?_
      rintro e w7 ⟨rfl, hb7⟩
      replace hS := hS.trans (hb7.mono hS.size)
      clear hr5 hr6 hb7
      go_wp2_with fail
      go_ret
      exact ⟨rfl, hbr.trans (hS.mono hbr.size)⟩
end Go.Proofs.Ytdhkfdaajkehhaa
