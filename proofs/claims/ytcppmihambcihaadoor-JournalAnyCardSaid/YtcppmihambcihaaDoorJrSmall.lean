/- Several texts in one. -/
import Derived.Test.YtcppmihambcihaaDoorJrApp
/- journal: its calls, over what a journal and its store hold. -/
namespace Go.Proofs.YtcppmihambcihaaDoor
open Go Go.RowKit Go.Shelf
set_option linter.unusedVariables false
set_option linter.unusedSimpArgs false
/-- A store that lives on. -/
def Lv (t : Sto) (n : Nat) : Prop := t.lim = none ∧ t.dead = false ∧ t.xs.length = n
theorem jOpen_blank (n : Nat) : jOpen (List.replicate n 255) = jNone := by
  have h : ∀ k, jLast (List.replicate n 255) k = none := by
    intro k
    unfold jLast half
    rw [List.drop_replicate, List.take_replicate, bkNotes, bkAll_blank]
    rfl
  rw [jOpen_pick, h 0, h 1]
  rfl
theorem JI.noStep {w : World} {j g gb : Nat} {s : Jn} {t : Sto} (h : JI w j g gb s t) : NoStep w (fun k => k = j ∨ k = g ∨ k = gb) := by
  obtain ⟨⟨A, c, hj⟩, hst, _, _⟩ := h
  intro k cs m hk
  rcases hk with rfl | hk
  · exact noStep_block hj.heap (by decide) _ cs m rfl
  · exact hst.noStep k cs m hk
theorem JI.below {w w' : World} {j g gb : Nat} {s : Jn} {t : Sto} (h : JI w j g gb s t) (hb : Below w.heap.size w w') : JI w' j g gb s t := by
  obtain ⟨⟨A, c, hj⟩, hst, he, hn⟩ := h
  exact ⟨⟨A, c, hj.below hb⟩, StIs.below hst hb, he, hn⟩
theorem JI.lt {w : World} {j g gb : Nat} {s : Jn} {t : Sto} (h : JI w j g gb s t) : j < w.heap.size ∧ g < w.heap.size ∧ gb < w.heap.size := by
  obtain ⟨⟨A, c, hj⟩, hst, he, hn⟩ := h
  exact ⟨hj.lt, hst.lt.1, hst.lt.2.1⟩
theorem below_three {w w1 w2 : World} {j g gb : Nat} (hb : Below w.heap.size w w1) (hf : Fr (fun i => i = j ∨ i = g ∨ i = gb) w1 w2) (hj : w.heap.size ≤ j) (hg : w.heap.size ≤ g) (hgb : w.heap.size ≤ gb) : Below w.heap.size w w2 := hb.trans (hf.below w.heap.size hb.size (fun i e => by rcases e with rfl | rfl | rfl <;> assumption))
theorem RS.three {w w' : World} {j g gb : Nat} {A : Option Addr} {n c : Nat} {xs : List UInt8} (h : RS w A n c xs) (hf : Fr (fun i => i = j ∨ i = g ∨ i = gb) w w') (ha : 0 < n → ∀ b o, A = some ⟨b, o, Option.none⟩ → b ≠ j ∧ b ≠ g ∧ b ≠ gb) : RS w' A n c xs :=
  h.fr hf (fun h0 b o e hF => by have := ha h0 b o e; rcases hF with h | h | h <;> omega)
theorem op_open (g gb : Nat) (t : Sto) (w : World) (h : StOf w g gb t) :
    Calls Tryd.prog 10 #[.pointer (some ⟨g, 0, none⟩)] w fun e w' => ∃ j, e = .returned (.pointer (some ⟨j, 0, none⟩)) ∧ JI w' j g gb (jOpen t.xs) t ∧ Below w.heap.size w w' ∧ w.heap.size ≤ j := by
  refine (jr_open g gb t.xs t.lim t.dead w h).mono ?_
  rintro e w' ⟨rfl, ⟨⟨A, c, hj, _⟩, hb⟩⟩
  have := StIs.lt h
  exact ⟨_, rfl, ⟨⟨A, c, hj⟩, StIs.below h hb, rfl, by omega, by omega⟩, hb, Nat.le_refl _⟩
theorem ji_last (j g gb : Nat) (s : Jn) (t : Sto) (w : World) (h : JI w j g gb s t) :
    Calls Tryd.prog 12 #[.pointer (some ⟨j, 0, none⟩)] w fun e w' => ∃ A c, e = .returned (.tuple #[.slice A s.nt.dat.length c, .bool s.has]) ∧ RS w' A s.nt.dat.length c s.nt.dat ∧ OwnB w' w.heap.size (.slice A s.nt.dat.length c) s.nt.dat ∧ Below w.heap.size w w' := by
  obtain ⟨⟨A, c, hj⟩, _⟩ := h
  refine (jr_last j g gb s.bank s.nt A c s.has w hj).mono ?_
  rintro e w' ⟨v, rfl, hown, hb⟩
  obtain ⟨A1, c1, rfl, hr⟩ := hown.reads
  exact ⟨A1, c1, rfl, hr, hown, hb⟩
theorem own_far {w' : World} {B n c : Nat} {A : Option Addr} {xs : List UInt8} (h : OwnB w' B (.slice A n c) xs) : ∀ b o, A = some ⟨b, o, none⟩ → B ≤ b := by
  rintro b o rfl
  exact (h.free rfl).2.1
theorem ji_seq (j g gb : Nat) (s : Jn) (t : Sto) (w : World) (h : JI w j g gb s t) :
    Calls Tryd.prog 13 #[.pointer (some ⟨j, 0, none⟩)] w fun e w' => e = .returned (.int .u32 s.nt.seq) ∧ w = w' := by
  obtain ⟨⟨A, c, hj⟩, _⟩ := h
  exact jr_seq j g gb s.bank s.nt A c s.has w hj
theorem ji_append (j g gb : Nat) (s : Jn) (t : Sto) (A1 : Option Addr) (n1 c1 : Nat) (d : List UInt8) (w : World) (h : JI w j g gb s t) (hr : RS w A1 n1 c1 d) (ha : 0 < n1 → ∀ b o, A1 = some ⟨b, o, none⟩ → b ≠ j ∧ b ≠ g ∧ b ≠ gb) :
    Calls Tryd.prog 11 #[.pointer (some ⟨j, 0, none⟩), .slice A1 n1 c1] w fun e w' => ∃ v, e = .returned v ∧ ErrIs w' v (jAppend s t d).1 ∧ JI w' j g gb (jAppend s t d).2.1 (jAppend s t d).2.2 ∧ Fr (fun k => k = j ∨ k = g ∨ k = gb) w w' := by
  have hl := jAppend_law s t d h.eq
  have hn := h.ne
  obtain ⟨⟨A, c, hj0⟩, hst, heq, hne⟩ := h
  refine (jr_append j g gb s t A1 n1 c1 d w A c hj0 hst heq hne hr ha).mono ?_
  rintro e w' ⟨⟨v, rfl, he⟩, ⟨A', c', hj, _⟩, hs, hf⟩
  exact ⟨v, rfl, he, ⟨⟨A', c', hj⟩, hs, hl.opens, hn⟩, hf⟩
/-- An Append over a store that lives on. -/
structure IsLv (w : World) (j g gb : Nat) (s : Jn) (t : Sto) (d : List UInt8) (n c : Nat) (e : Ending) (w' : World) : Prop where
  ex : ∃ v, e = .returned v ∧ ErrIs w' v c
  st : ∃ s' t', JI w' j g gb s' t' ∧ Lv t' n ∧ (c = 0 → s'.nt.seq = s.nt.seq + 1 ∧ s'.nt.dat = d ∧ s'.has = true) ∧ (c ≠ 0 → s' = s ∧ t' = t)
  fr : Fr (fun k => k = j ∨ k = g ∨ k = gb) w w'
theorem ap_live (j g gb n : Nat) (s : Jn) (t : Sto) (A1 : Option Addr) (n1 c1 : Nat) (d : List UInt8) (c : Nat) (w : World) (h : JI w j g gb s t) (hl : Lv t n) (hr : RS w A1 n1 c1 d) (ha : 0 < n1 → ∀ b o, A1 = some ⟨b, o, none⟩ → b ≠ j ∧ b ≠ g ∧ b ≠ gb) (hc : c = jCode (n / 2) s.nt.seq d) :
    Calls Tryd.prog 11 #[.pointer (some ⟨j, 0, none⟩), .slice A1 n1 c1] w (IsLv w j g gb s t d n c) := by
  have hlaw := jAppend_law s t d h.eq
  have hlv := jAppend_live s t d h.eq hl.1 hl.2.1
  rw [hl.2.2, ← hc] at hlv
  refine (ji_append j g gb s t A1 n1 c1 d w h hr ha).mono ?_
  rintro e w' ⟨v, rfl, he, hj, hf⟩
  rw [hlv.1] at he
  refine ⟨⟨v, rfl, he⟩, ⟨_, _, hj, ⟨hlv.2.1, hlv.2.2.1, hlaw.len.trans hl.2.2⟩, fun h0 => ?_, fun h0 => ⟨hlaw.no (by rw [hlv.1]; exact h0), hlv.2.2.2 h0⟩⟩, hf⟩
  obtain ⟨b, f, hq⟩ := hlaw.yes (by rw [hlv.1]; exact h0)
  rw [hq]
  exact ⟨rfl, rfl, rfl⟩
theorem ErrIs.zero {w : World} {v : Value} (h : ErrIs w v ((0 : Nat) : Int)) : v = .nilIface := by
  rcases h with ⟨_, h⟩ | ⟨h, _⟩
  · exact h
  · exact absurd h (by decide)
theorem ErrIs.some {w : World} {v : Value} {c : Nat} (h : ErrIs w v (c : Int)) (hc : c ≠ 0) : ∃ t u, v = .iface t u := by
  rcases h with ⟨h, _⟩ | ⟨_, d, h⟩
  · omega
  · exact h.iface
theorem ErrIs.fr {F : Nat → Prop} {w w' : World} {v : Value} {c : Int} (h : ErrIs w v c) (hf : Fr F w w') (hF : NoStep w F) : ErrIs w' v c := h.imp id (fun ⟨a, d, b⟩ => ⟨a, d, b.fr hf hF⟩)
end Go.Proofs.YtcppmihambcihaaDoor
/- crossbucklaw17.small. -/
namespace Go.Proofs.YtcppmihambcihaaDoor
open Go Go.RowKit Go.Shelf
set_option linter.unusedVariables false
set_option linter.unusedSimpArgs false
set_option maxHeartbeats 8000000 in
set_option maxRecDepth 100000 in
theorem l_small17 (w : World) (hg : HasTy w) : Calls Tryd.prog 8 #[] w fun e w' => e = .returned (.bool true) ∧ Below w.heap.size w w' := by
  have hg0 := Lib.hid hg
  have kc := by_const
  have km := fun w => by_make2 w 30 30 (Nat.le_refl _) (by decide) 30 30 rfl rfl
  clear hg
  go_enter Tryd.func8, Tryd.ntmps8
  go_wp2_with fail
  refine (st_new 40 _).mono ?_
  rintro e w1 ⟨g, gb, rfl, hst, hwg, hwb, hb⟩
  rw [show stSize 40 = 40 by decide] at hst
  have HB := Lib.hid hb
  have HST := Lib.hid hst
  clear hb hst
  go_wp2_with fail
  refine (op_open g gb ⟨List.replicate 40 255, none, false⟩ _ HST.out).mono ?_
  rintro e w2 ⟨j, rfl, hji, hb2, hjl⟩
  rw [show jOpen (Sto.mk (List.replicate 40 255) none false).xs = jNone from jOpen_blank 40] at hji
  have HLE := Lib.hid (show w.heap.size ≤ j ∧ w.heap.size ≤ g ∧ w.heap.size ≤ gb by have := HB.out.size; omega)
  replace HB := Lib.hid (below_step HB.out hb2)
  have HJI := Lib.hid hji
  have HLV := Lib.hid (show Lv (Sto.mk (List.replicate 40 255) none false) 40 from ⟨rfl, rfl, List.length_replicate⟩)
  have HSQ := Lib.hid (show jNone.nt.seq = 0 from rfl)
  have HDT := Lib.hid (show jNone.nt.dat = [] from rfl)
  have HHS := Lib.hid (show jNone.has = false from rfl)
  clear hb2 hji HST hjl hwg hwb
  generalize (Sto.mk (List.replicate 40 255) none false) = t0 at *
  generalize jNone = s0 at *
  go_wp2_with fail
  refine (ji_last j g gb s0 t0 _ HJI.out).mono ?_
  rintro e w3 ⟨A3, c3, rfl, hr3, ho3, hb3⟩
  rw [HHS.out]
  replace HB := Lib.hid (below_step HB.out hb3)
  replace HJI := Lib.hid (HJI.out.below hb3)
  clear hr3 ho3 hb3
  generalize s0.nt.dat.length = n3 at *
  go_wp2_with fail
  have HLO := Lib.hid (show ∀ wz : World, wz = w3 → j < wz.heap.size ∧ g < wz.heap.size ∧ gb < wz.heap.size from fun wz e => by subst e; exact HJI.out.lt)
  have hbn := (Below.refl w3.heap.size w3).alloc (Nat.le_refl _) (.cells ([97].map bv).toArray 5 (1, 2))
  have hl := rs_mark w3 [97] 5 (1, 2) (by decide)
  replace HB := Lib.hid (below_step HB.out hbn)
  replace HJI := Lib.hid (HJI.out.below hbn)
  have HFAR := Lib.hid (show 0 < 1 → ∀ b o, some (⟨w3.heap.size, 0, none⟩ : Addr) = some ⟨b, o, none⟩ → b ≠ j ∧ b ≠ g ∧ b ≠ gb from fun _ b o e => by cases e; have := HLO.out w3 rfl; omega)
  clear hbn
  refine (ap_live j g gb 40 _ _ _ 1 1 [97] 0 _ HJI.out HLV.out hl HFAR.out (by rw [HSQ.out]; decide)).mono ?_
  rintro e w4 ⟨⟨v, rfl, he⟩, ⟨s2, t2, hji2, hlv2, h1, _⟩, hf⟩
  obtain rfl := he.zero
  replace HSQ := Lib.hid (show s2.nt.seq = 1 by rw [(h1 rfl).1, HSQ.out])
  replace HDT := Lib.hid (show s2.nt.dat = [97] from (h1 rfl).2.1)
  replace HHS := Lib.hid (show s2.has = true from (h1 rfl).2.2)
  replace HB := Lib.hid (below_three HB.out hf HLE.out.1 HLE.out.2.1 HLE.out.2.2)
  replace HJI := Lib.hid hji2
  replace HLV := Lib.hid hlv2
  have HF := Lib.hid hf
  clear he h1 hf hl hji2 hlv2 HFAR
  clear HF HLO
  go_wp2_with fail
  have HLO := Lib.hid (show ∀ wz : World, wz = w4 → j < wz.heap.size ∧ g < wz.heap.size ∧ gb < wz.heap.size from fun wz e => by subst e; exact HJI.out.lt)
  have hbn := (Below.refl w4.heap.size w4).alloc (Nat.le_refl _) (.cells ([98].map bv).toArray 5 (1, 2))
  have hl := rs_mark w4 [98] 5 (1, 2) (by decide)
  replace HB := Lib.hid (below_step HB.out hbn)
  replace HJI := Lib.hid (HJI.out.below hbn)
  have HFAR := Lib.hid (show 0 < 1 → ∀ b o, some (⟨w4.heap.size, 0, none⟩ : Addr) = some ⟨b, o, none⟩ → b ≠ j ∧ b ≠ g ∧ b ≠ gb from fun _ b o e => by cases e; have := HLO.out w4 rfl; omega)
  clear hbn
  refine (ap_live j g gb 40 _ _ _ 1 1 [98] 0 _ HJI.out HLV.out hl HFAR.out (by rw [HSQ.out]; decide)).mono ?_
  rintro e w5 ⟨⟨v, rfl, he⟩, ⟨s2, t2, hji2, hlv2, h1, _⟩, hf⟩
  obtain rfl := he.zero
  replace HSQ := Lib.hid (show s2.nt.seq = 2 by rw [(h1 rfl).1, HSQ.out])
  replace HDT := Lib.hid (show s2.nt.dat = [98] from (h1 rfl).2.1)
  replace HHS := Lib.hid (show s2.has = true from (h1 rfl).2.2)
  replace HB := Lib.hid (below_three HB.out hf HLE.out.1 HLE.out.2.1 HLE.out.2.2)
  replace HJI := Lib.hid hji2
  replace HLV := Lib.hid hlv2
  have HF := Lib.hid hf
  clear he h1 hf hl hji2 hlv2 HFAR
  clear HF HLO
  go_wp2_with fail
  refine (ji_last j g gb _ _ _ HJI.out).mono ?_
  rintro e w6 ⟨A6, c6, rfl, hr6, ho6, hb6⟩
  rw [HHS.out, HDT.out] at *
  rw [show ([98] : List UInt8).length = 1 from rfl] at *
  have HX := Lib.hid hr6
  have HXF := Lib.hid (own_far ho6)
  have HXL := Lib.hid (show j < w5.heap.size ∧ g < w5.heap.size ∧ gb < w5.heap.size from HJI.out.lt)
  replace HB := Lib.hid (below_step HB.out hb6)
  replace HJI := Lib.hid (HJI.out.below hb6)
  clear hr6 ho6 hb6
  go_wp2_with fail
  have HLO := Lib.hid (show ∀ wz : World, wz = w6 → j < wz.heap.size ∧ g < wz.heap.size ∧ gb < wz.heap.size from fun wz e => by subst e; exact HJI.out.lt)
  have hbx := (Below.refl w6.heap.size w6).alloc (Nat.le_refl _) (.cells ([99].map bv).toArray 5 (1, 2))
  replace HX := Lib.hid (HX.out.below hbx)
  clear hbx
  have hbn := (Below.refl w6.heap.size w6).alloc (Nat.le_refl _) (.cells ([99].map bv).toArray 5 (1, 2))
  have hl := rs_mark w6 [99] 5 (1, 2) (by decide)
  replace HB := Lib.hid (below_step HB.out hbn)
  replace HJI := Lib.hid (HJI.out.below hbn)
  have HFAR := Lib.hid (show 0 < 1 → ∀ b o, some (⟨w6.heap.size, 0, none⟩ : Addr) = some ⟨b, o, none⟩ → b ≠ j ∧ b ≠ g ∧ b ≠ gb from fun _ b o e => by cases e; have := HLO.out w6 rfl; omega)
  clear hbn
  refine (ap_live j g gb 40 _ _ _ 1 1 [99] 0 _ HJI.out HLV.out hl HFAR.out (by rw [HSQ.out]; decide)).mono ?_
  rintro e w7 ⟨⟨v, rfl, he⟩, ⟨s2, t2, hji2, hlv2, h1, _⟩, hf⟩
  obtain rfl := he.zero
  replace HSQ := Lib.hid (show s2.nt.seq = 3 by rw [(h1 rfl).1, HSQ.out])
  replace HDT := Lib.hid (show s2.nt.dat = [99] from (h1 rfl).2.1)
  replace HHS := Lib.hid (show s2.has = true from (h1 rfl).2.2)
  replace HB := Lib.hid (below_three HB.out hf HLE.out.1 HLE.out.2.1 HLE.out.2.2)
  replace HJI := Lib.hid hji2
  replace HLV := Lib.hid hlv2
  have HF := Lib.hid hf
  clear he h1 hf hl hji2 hlv2 HFAR
  have HXA := Lib.hid (show 0 < 1 → ∀ b o, A6 = some ⟨b, o, none⟩ → b ≠ j ∧ b ≠ g ∧ b ≠ gb from fun _ b o e => by have := HXF.out b o e; have := HXL.out; omega)
  replace HX := Lib.hid (HX.out.three HF.out HXA.out)
  clear HF HLO HXF HXL
  go_wp2_with fail
  refine (ap_live j g gb 40 _ _ none 0 0 [] 1 _ HJI.out HLV.out (RS.none _) (fun h => absurd h (by decide)) (by rw [HSQ.out]; decide)).mono ?_
  rintro e w8 ⟨⟨vd, rfl, hed⟩, ⟨s2, t2, hji2, hlv2, _, h1⟩, hf⟩
  obtain ⟨rfl, rfl⟩ := h1 (by decide)
  replace HX := Lib.hid (HX.out.three hf HXA.out)
  replace HB := Lib.hid (below_three HB.out hf HLE.out.1 HLE.out.2.1 HLE.out.2.2)
  replace HJI := Lib.hid hji2
  have HED := Lib.hid hed
  obtain ⟨td, ud, rfl⟩ := hed.some (by decide)
  clear hf h1 hlv2 hji2 hed
  go_wp2_with fail
  have hbn := below_new w8 (.cells (madeCells #[.int .u8 0] 30) 5)
  have hl := (by_make2_own w8 w8.heap.size 30 30 (Nat.le_refl _) (by decide) (Nat.le_refl _)).rs
  have HFAR := Lib.hid (show 0 < 30 → ∀ b o, some (⟨w8.heap.size, 0, none⟩ : Addr) = some ⟨b, o, none⟩ → b ≠ j ∧ b ≠ g ∧ b ≠ gb from fun _ b o e => by cases e; have := HJI.out.lt; omega)
  replace HX := Lib.hid (HX.out.below hbn)
  replace HED := Lib.hid (HED.out.below hbn)
  replace HB := Lib.hid (below_step HB.out hbn)
  replace HJI := Lib.hid (HJI.out.below hbn)
  clear hbn km
  refine (ap_live j g gb 40 _ _ _ 30 30 (List.replicate 30 0) 5 _ HJI.out HLV.out hl HFAR.out (by rw [HSQ.out]; decide)).mono ?_
  rintro e w9 ⟨⟨ve, rfl, hee⟩, ⟨s2, t2, hji2, hlv2, _, h1⟩, hf⟩
  obtain ⟨rfl, rfl⟩ := h1 (by decide)
  replace HX := Lib.hid (HX.out.three hf HXA.out)
  replace HB := Lib.hid (below_three HB.out hf HLE.out.1 HLE.out.2.1 HLE.out.2.2)
  replace HED := Lib.hid (HED.out.fr hf HJI.out.noStep)
  replace HJI := Lib.hid hji2
  have HEE := Lib.hid hee
  obtain ⟨te, ue, rfl⟩ := hee.some (by decide)
  clear hf h1 hlv2 hji2 hee hl HFAR HXA
  go_wp2_with fail
  refine (op_open g gb _ _ HJI.out.st).mono ?_
  rintro e wa ⟨k, rfl, hki, hb2, hkl⟩
  rw [← HJI.out.eq] at hki
  replace HB := Lib.hid (below_step HB.out hb2)
  replace HX := Lib.hid (HX.out.below hb2)
  replace HED := Lib.hid (HED.out.below hb2)
  replace HEE := Lib.hid (HEE.out.below hb2)
  have HKI := Lib.hid hki
  clear hb2 hki HJI hkl
  go_wp2_with fail
  refine (ji_last k g gb _ _ _ HKI.out).mono ?_
  rintro e wb ⟨A7, c7, rfl, hr7, ho7, hb7⟩
  rw [HHS.out, HDT.out] at *
  rw [show ([99] : List UInt8).length = 1 from rfl] at *
  replace HB := Lib.hid (below_step HB.out hb7)
  replace HX := Lib.hid (HX.out.below hb7)
  replace HED := Lib.hid (HED.out.below hb7)
  replace HEE := Lib.hid (HEE.out.below hb7)
  replace HKI := Lib.hid (HKI.out.below hb7)
  have k1 := by_string_of _ _ _ c6 _ HX.out.rb
  have k2 := by_string_of _ _ _ c7 _ hr7.rb
  have t1 := strB_toList [98]
  have t2' := strB_toList [99]
  have hbr := Below.refl wb.heap.size wb
  clear hb7 hr7 ho7
  go_wp2_with fail
  refine (code_is _ 1 _ (hg0.out.below HB.out) HED.out).mono ?_
  rintro e wc ⟨rfl, hb8⟩
  replace HB := Lib.hid (below_step HB.out hb8)
  replace HEE := Lib.hid (HEE.out.below hb8)
  replace HKI := Lib.hid (HKI.out.below hb8)
  have hbr2 := hb8
  clear HED HX
  go_wp2_with fail
  refine (code_is _ 5 _ (hg0.out.below HB.out) HEE.out).mono ?_
  rintro e wd ⟨rfl, hb9⟩
  replace HB := Lib.hid (below_step HB.out hb9)
  replace HKI := Lib.hid (HKI.out.below hb9)
  have hbr3 := below_step hb8 hb9
  clear HEE
  go_wp2_with fail
  refine (ji_seq k g gb _ _ _ HKI.out).mono ?_
  rintro e we ⟨rfl, rfl⟩
  rw [HSQ.out]
  go_wp2_with fail
  go_ret
  exact ⟨rfl, HB.out⟩
end Go.Proofs.YtcppmihambcihaaDoor
