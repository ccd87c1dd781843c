/- crossbuckref05.Wheel: Tick. -/
import Derived.Test.YtpfoocndohpbbaaDoorWhRef2
namespace Go.Proofs.YtpfoocndohpbbaaDoor
open Go Go.RowKit
set_option linter.unusedVariables false
set_option linter.unusedSimpArgs false
def rDec (t : Rt) : Rt := ⟨t.num, t.tag, t.left - 1⟩
def rFired (L : List Rt) : List Int := (L.filter (fun t => t.left - 1 == 0)).map (·.tag)
def rRest (L : List Rt) : List Rt := (L.filter (fun t => !(t.left - 1 == 0))).map rDec
theorem rFired_snoc (L : List Rt) (x : Rt) : rFired (L ++ [x]) = rFired L ++ if (x.left - 1 == 0) = true then [x.tag] else [] := by
  unfold rFired
  rw [List.filter_append, List.map_append]
  congr 1
  simp only [List.filter_cons, List.filter_nil]
  split <;> rfl
theorem rRest_snoc (L : List Rt) (x : Rt) : rRest (L ++ [x]) = rRest L ++ if (x.left - 1 == 0) = true then [] else [rDec x] := by
  unfold rRest
  rw [List.filter_append, List.map_append]
  congr 1
  simp only [List.filter_cons, List.filter_nil]
  cases (x.left - 1 == 0) <;> rfl
theorem rFired_len (L : List Rt) : (rFired L).length ≤ L.length := by unfold rFired; rw [List.length_map]; exact List.length_filter_le _ _
theorem rRest_len (L : List Rt) : (rRest L).length ≤ L.length := by unfold rRest; rw [List.length_map]; exact List.length_filter_le _ _
structure RTk (w wr : World) (v3 v4 : Value) (L : List Rt) (i : Nat) : Prop where
  fi : OwnE ki 1 3 wr v3 (rFired (L.take i))
  re : ORt wr v4 (rRest (L.take i))
  n3 : ∀ b, v3.ownBlock = some b → w.heap.size ≤ b
  n4 : ∀ b, v4.ownBlock = some b → w.heap.size ≤ b
  ne : ∀ b, v3.ownBlock = some b → v4.ownBlock ≠ some b
  bel : Below w.heap.size w wr
/-- What the document's Tick answers. -/
structure IsRTick (g : Nat) (v : Value) (P : Nat) (L : List Rt) (w : World) (e : Ending) (w' : World) : Prop where
  ex : ∃ A n c, e = .returned (.slice A n c) ∧ RE ki w' A n c (rFired L) ∧ RfTo w w' g v P (rRest L)
set_option maxHeartbeats 4000000 in
set_option maxRecDepth 100000 in
theorem rw_tick (g : Nat) (v : Value) (P : Nat) (L : List Rt) (w : World) (h : RfW w g v P L) (hb : ∀ x ∈ L, -1000000000 ≤ x.left ∧ x.left ≤ 1000000000) :
    Calls Tryd.prog 19 #[.pointer (some ⟨g, 0, none⟩)] w (IsRTick g v P L w) := by
  have H := Lib.hid h
  have hfew := h.few
  have hgl := h.lt
  obtain ⟨A0, c0, rfl, hre, hob, ha0⟩ := h.own.re (by omega)
  have HRE := Lib.hid hre
  have HF := Lib.hid hfew
  have HBB := Lib.hid hb
  generalize hm : L.length = m at *
  have HM := Lib.hid hm
  clear h hre hob ha0 hfew hm hb
  go_enter Tryd.func19, Tryd.ntmps19
  go_wp2_with fail
  go_loopw [3, 4, 5] (fun s3 s4 s5 wr => ∃ i : Nat, i ≤ m ∧ s5 = .int .i64 i ∧ RTk w wr s3 s4 L i) (fun _ _ s5 _ => m - (intOf s5).toNat)
  case atStart => exact ⟨0, Nat.zero_le _, rfl, OwnE.nil _ _, OwnE.nil _ _, (fun b h => by cases h), (fun b h => by cases h), (fun b h => by cases h), Below.refl _ _⟩
  case round =>
    obtain ⟨i, hi, rfl, hk⟩ := hrel
    have HK := Lib.hid hk
    have y1 := (H.out.below hk.bel).cells.2 wr (Below.refl _ _)
    by_cases hlt : i < m
    · have hlt' : (i : Int) < m := by omega
      have HI := Lib.hid hlt
      have hm9 : (m : Int) ≤ 64 := by have := HF.out; omega
      obtain ⟨b, off, rfl, hbl, _⟩ := HRE.out.cells (by omega)
      have hkl : i < L.length := by rw [HM.out]; exact hlt
      have hx3 := rt_cells w b _ _ (HRE.out.elem rtc_len i hkl) hbl wr hk.bel
      have x0 := hx3.1
      have x1 := hx3.2.1
      have x2 := hx3.2.2
      have HX := Lib.hid (List.getElem?_eq_getElem hkl)
      have hbx := HBB.out _ (List.getElem_mem hkl)
      have HT := Lib.hid (show L.take (i + 1) = L.take i ++ [L[i]] from List.take_succ_eq_append_getElem hkl)
      clear hx3
      generalize L[i] = x at x0 x1 x2 HX hbx HT
      have hw1 : IntKind.i64.wrap (x.left - 1) = x.left - 1 := by rw [IntKind.wrap_i64]; omega
      have HL1 := Lib.hid (show (rFired (L.take i)).length ≤ 64 by have := rFired_len (L.take i); rw [List.length_take] at this; have := HF.out; omega)
      have HL2 := Lib.hid (show (rRest (L.take i)).length ≤ 64 by have := rRest_len (L.take i); rw [List.length_take] at this; have := HF.out; omega)
      clear hlt hi hkl hbx hk
      have hb1 := below_new wr (.cells #[.int .i64 x.num, .int .i64 x.tag, .int .i64 (x.left - 1)] 63)
      generalize hwb : wr.alloc (.cells #[.int .i64 x.num, .int .i64 x.tag, .int .i64 (x.left - 1)] 63) = wb at hb1
      have hsz : wb.heap.size = wr.heap.size + 1 := by rw [← hwb]; simp
      by_cases hz : x.left - 1 = 0
      · have hz2 : (x.left - 1 == 0) = true := by simpa using hz
        have HZ := Lib.hid hz2
        have hb2 := below_new wb (.cells #[.int .i64 x.tag] 3)
        have HN := Lib.hid (show RE ki (wb.alloc (.cells #[.int .i64 x.tag] 3)) (some ⟨wr.heap.size + 1, 0, none⟩) 1 1 [x.tag] from by rw [← hsz]; exact re_lit (f := ki) (e := 3) ki_len wb [x.tag] (by simp))
        have HB3 := Lib.hid (below_step hb1 hb2)
        have HO := Lib.hid (HK.out.fi.fr (Fr.ofBelow HB3.out (fun _ => False)) (fun _ _ h => h))
        subst hwb
        clear hz hb1 hb2 hsz
        go_wp2_with (at_builtin; go_must (refine wpList_append_fr kiT ki_len ki_one rfl _ _ rfl _ (rFired (L.take i)) rfl HO.out _ _ _ [x.tag] rfl HN.out (by have := HL1.out; simp; omega) (by have := HL1.out; simp; omega) ?_); intro v7 w7 hown7 hg7 hf7; have HOWN7 := Lib.hid hown7; have HG7 := Lib.hid hg7; have HF7 := Lib.hid hf7; clear hown7 hg7 hf7)
        refine ⟨⟨i + 1, by have := HI.out; omega, by go_num, ⟨?_, ?_, ?_, HK.out.n4, ?_, ?_⟩⟩, by have := HI.out; simp [intOf]; omega⟩
        · rw [HT.out, rFired_snoc, HZ.out]; exact HOWN7.out
        · rw [HT.out, rRest_snoc, HZ.out, if_pos rfl, List.append_nil]
          exact (HK.out.re.fr (Fr.ofBelow HB3.out (fun _ => False)) (fun _ _ h => h)).fr (Fr.ofGrown HG7.out) (fun b hb hq => HK.out.ne b hq.symm hb)
        · exact fun b hb => (HF7.out b hb).elim (HK.out.n3 b) (fun h => by have := HK.out.bel.size; have := HB3.out.size; omega)
        · exact fun b hb hq => (HF7.out b hb).elim (fun h => HK.out.ne b h hq) (fun h => by have := HK.out.re.lt b hq; have := HB3.out.size; omega)
        · exact (below_step HK.out.bel HB3.out).grown HG7.out (below_step HK.out.bel HB3.out).size HK.out.n3
      · have hz2 : (x.left - 1 == 0) = false := by simpa using hz
        have HZ := Lib.hid hz2
        have hb2 := below_new wb (.cells #[.int .i64 x.num, .int .i64 x.tag, .int .i64 (x.left - 1)] 63)
        have HN := Lib.hid (show RE rtc (wb.alloc (.cells #[.int .i64 x.num, .int .i64 x.tag, .int .i64 (x.left - 1)] 63)) (some ⟨wr.heap.size + 1, 0, none⟩) 1 1 [rDec x] from by rw [← hsz]; exact re_lit (f := rtc) (e := 63) rtc_len wb [rDec x] (by simp))
        have HB3 := Lib.hid (below_step hb1 hb2)
        have HO := Lib.hid (HK.out.re.fr (Fr.ofBelow HB3.out (fun _ => False)) (fun _ _ h => h))
        subst hwb
        clear hz hb1 hb2 hsz
        go_wp2_with (at_builtin; go_must (refine wpList_append_fr rtT rtc_len rtc_one rfl _ _ rfl _ (rRest (L.take i)) rfl HO.out _ _ _ [rDec x] rfl HN.out (by have := HL2.out; simp; omega) (by have := HL2.out; simp; omega) ?_); intro v7 w7 hown7 hg7 hf7; have HOWN7 := Lib.hid hown7; have HG7 := Lib.hid hg7; have HF7 := Lib.hid hf7; clear hown7 hg7 hf7)
        refine ⟨⟨i + 1, by have := HI.out; omega, by go_num, ⟨?_, ?_, HK.out.n3, ?_, ?_, ?_⟩⟩, by have := HI.out; simp [intOf]; omega⟩
        · rw [HT.out, rFired_snoc, HZ.out, if_neg (by decide), List.append_nil]
          exact (HK.out.fi.fr (Fr.ofBelow HB3.out (fun _ => False)) (fun _ _ h => h)).fr (Fr.ofGrown HG7.out) (fun b hb hq => HK.out.ne b hb hq.symm)
        · rw [HT.out, rRest_snoc, HZ.out, if_neg (by decide)]; exact HOWN7.out
        · exact fun b hb => (HF7.out b hb).elim (HK.out.n4 b) (fun h => by have := HK.out.bel.size; have := HB3.out.size; omega)
        · exact fun b hb hq => (HF7.out b hq).elim (fun h => HK.out.ne b hb h) (fun h => by have := HK.out.fi.lt b hb; have := HB3.out.size; omega)
        · exact (below_step HK.out.bel HB3.out).grown HG7.out (below_step HK.out.bel HB3.out).size HK.out.n4
    · obtain rfl : i = m := by omega
      have ht : L.take i = L := List.take_of_length_le (by rw [HM.out]; exact Nat.le_refl _)
      have hfi := hk.fi
      have hre := hk.re
      rw [ht] at hfi hre
      have hl1 := rFired_len L
      have hl2 := rRest_len L
      have hh := (H.out.below hk.bel).heap
      obtain ⟨A3, c3, e3, hre3, hob3, _⟩ := hfi.re (by have := HF.out; have := HM.out; omega)
      obtain ⟨A4, c4, e4, _⟩ := hre.re (by have := HF.out; have := HM.out; omega)
      have hne4 : u4.ownBlock ≠ some g := fun e => by have := hk.n4 g e; omega
      have hgl2 : g < wr.heap.size := Nat.lt_of_lt_of_le hgl hk.bel.size
      have z0 : wr.cell? ⟨g, 1, none⟩ = some (.slice A0 i c0) := y1
      have z1 : wr.frozen? ⟨g, 1, none⟩ = false := by simp [World.frozen?, hh]
      have HX := Lib.hid (RfW.setRow hh hre hne4 (by have := HF.out; have := HM.out; omega) H.out.pool)
      have f8 := fr_setCell (F := fun b => b = g) (w := wr) ⟨g, 1, none⟩ u4 rfl
      have HR3 := Lib.hid (hre3.fr f8 (fun _ b o e hb => by
        have h3 := hk.n3 b (by rw [hob3, e]; rfl)
        omega))
      have HFR := Lib.hid (((Fr.ofBelow hk.bel (fun b => b = g ∨ (Value.slice A0 i c0).ownBlock = some b)).trans f8 (fun b hb => .inl (.inl hb))))
      have HN4 := Lib.hid hk.n4
      subst e3 e4
      clear hlt hi ht hfi hre hl1 hl2 hh hre3 hob3 hne4 f8 hk y1
      go_wp2_with fail
      go_ret
      exact ⟨_, _, _, rfl, HR3.out, ⟨⟨_, HX.out, fun b hb => .inr (HN4.out b hb)⟩, HFR.out⟩⟩
end Go.Proofs.YtpfoocndohpbbaaDoor
