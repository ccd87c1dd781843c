/- Several texts in one. -/
import Derived.Test.YtcppmihambcihaaDoorJrOver
import Derived.Test.YtcppmihambcihaaDoorBkRefL
import Derived.Test.YtcppmihambcihaaDoorBkPrint
import Derived.Test.YtcppmihambcihaaDoorBkBlank
import Derived.Deep.DeepCutAuto
import Derived.Test.YtcppmihambcihaaDoorOpenR
import Derived.Test.YtcppmihambcihaaDoorFr
import Derived.LoopTactic
/- crossbuckref17: half, Open. -/
namespace Go.Proofs.YtcppmihambcihaaDoor
open Go Go.RowKit Go.Shelf
set_option linter.unusedVariables false
set_option linter.unusedSimpArgs false
set_option maxHeartbeats 4000000 in
set_option maxRecDepth 100000 in
theorem rf_half17 (x : Nat) (v : Value) (t : Sto) (k : Nat) (hk : k ≤ 1) (w : World) (h : RfIs w x v t) :
    Calls Tryd.prog 40 #[.pointer (some ⟨x, 0, none⟩), .int .i64 k] w fun e w' => ∃ v', e = .returned v' ∧ OwnB w' w.heap.size v' (half t.xs k) ∧ Below w.heap.size w w' := by
  obtain ⟨left, h⟩ := h
  obtain ⟨Av, cv, hv, hrs⟩ := h.own.reads
  subst hv
  have hsm := h.small
  have hcap := hrs.cap
  obtain ⟨m, hm⟩ : ∃ m : Nat, m = t.xs.length / 2 := ⟨_, rfl⟩
  obtain ⟨q, hq⟩ : ∃ q : Nat, q = k * m := ⟨_, rfl⟩
  have hqm : q + m ≤ t.xs.length := by rw [hq]; exact bank_le k m t.xs.length hk hm
  have hqd : ((t.xs.length : Int)).tdiv 2 = (m : Int) := by rw [Int.tdiv_eq_ediv_of_nonneg (by omega)]; omega
  have hmul : IntKind.i64.wrap ((k : Int) * (m : Int)) = (q : Int) := by
    rw [← Int.natCast_mul, ← hq]
    simp [IntKind.wrap, IntKind.bits, IntKind.signed]
    omega
  have hadd : IntKind.i64.wrap ((q : Int) + (m : Int)) = (q : Int) + (m : Int) := by
    simp [IntKind.wrap, IntKind.bits, IntKind.signed]
    omega
  have hb0 := below_new w (.cells #[] 5)
  have hown := by_lit0 w w.heap.size (Nat.le_refl _)
  have h1 := h.fr (Fr.ofBelow hb0 (fun _ => False)) id (fun _ _ h => h)
  obtain ⟨c0, _⟩ := h.cells
  obtain ⟨d0, _⟩ := h1.cells
  have hr2 := ((hrs.below hb0).sub q (by omega)).take m (by omega)
  have he : (t.xs.drop q).take m = half t.xs k := by rw [half, ← hm, ← hq]
  rw [he] at hr2
  have sl := fun w' => by_slice_lh w' Av t.xs.length cv q (q + m) (by omega) (by omega) (q : Int) ((q : Int) + (m : Int)) rfl (by omega)
  rw [show q + m - q = m by omega] at sl
  have HR2 := Lib.hid hr2
  have HO := Lib.hid hown
  have HB := Lib.hid hb0
  have hm3 : m ≤ 32768 := by omega
  clear h h1 hrs hown hb0 hr2 he hq hm hcap
  generalize hL : t.xs.length = L at *
  generalize subA Av cv q = As at *
  go_enter Tryd.func40, Tryd.ntmps40
  go_wp2_with (at_builtin; go_must (refine wpList_append_byb rfl _ _ rfl w.heap.size HB.out.size _ [] rfl HO.out _ _ _ (half t.xs k) rfl HR2.out (by show 0 + m ≤ _; omega) ?_; intro v6 w6 hown6 hb6 hg6 hf6; rw [List.nil_append] at hown6; have HO6 := Lib.hid hown6; have HB6 := Lib.hid (HB.out.trans hb6); obtain ⟨A6, c6, rfl, _⟩ := hown6.reads; clear hown6 hb6 hg6 hf6 c0 d0 sl))
  go_ret
  exact ⟨_, rfl, HO6.out, HB6.out⟩
/-- The document's journal at y over the store x. -/
structure RJ (w : World) (y x : Nat) (v : Value) (s : Jn) (t : Sto) (A : Option Addr) (c : Nat) : Prop where
  heap : w.heap[y]? = some (.cells (jrc x s.bank s.nt A c s.has) 56 (0, 0))
  dat : RS w A s.nt.dat.length c s.nt.dat
  few : s.nt.dat.length ≤ 40
  apart : 0 < s.nt.dat.length → ∀ b o, A = some ⟨b, o, none⟩ → b ≠ y ∧ b ≠ x ∧ v.ownBlock ≠ some b
  st : RfIs w x v t
  eq : s = jOpen t.xs
  ne : y ≠ x ∧ v.ownBlock ≠ some y
theorem RJ.lt {w : World} {y x : Nat} {v : Value} {s : Jn} {t : Sto} {A : Option Addr} {c : Nat} (h : RJ w y x v s t A c) : y < w.heap.size := (Array.getElem?_eq_some_iff.mp h.heap).1
theorem RJ.fr {F : Nat → Prop} {w w' : World} {y x : Nat} {v : Value} {s : Jn} {t : Sto} {A : Option Addr} {c : Nat} (h : RJ w y x v s t A c) (hf : Fr F w w') (h1 : ¬ F y) (h2 : ¬ F x) (h3 : ∀ b, v.ownBlock = some b → ¬ F b) (h4 : 0 < s.nt.dat.length → ∀ b o, A = some ⟨b, o, none⟩ → ¬ F b) : RJ w' y x v s t A c :=
  ⟨(hf.block y h.lt h1).trans h.heap, h.dat.fr hf h4, h.few, h.apart, h.st.fr hf h2 h3, h.eq, h.ne⟩
theorem RJ.below {w w' : World} {y x : Nat} {v : Value} {s : Jn} {t : Sto} {A : Option Addr} {c : Nat} (h : RJ w y x v s t A c) (hb : Below w.heap.size w w') : RJ w' y x v s t A c := h.fr (Fr.ofBelow hb (fun _ => False)) id id (fun _ _ h => h) (fun _ _ _ _ h => h)
theorem RJ.cells {w : World} {y x : Nat} {v : Value} {s : Jn} {t : Sto} {A : Option Addr} {c : Nat} (h : RJ w y x v s t A c) :
    w.cell? ⟨y, 0, none⟩ = some (.pointer (some ⟨x, 0, none⟩)) ∧ w.cell? ⟨y, 1, none⟩ = some (.int .i64 s.bank) ∧ w.cell? ⟨y, 2, none⟩ = some (.int .u32 s.nt.seq) ∧ w.cell? ⟨y, 3, none⟩ = some (.slice A s.nt.dat.length c) ∧ w.cell? ⟨y, 4, none⟩ = some (.int .i64 s.nt.fin) ∧ w.cell? ⟨y, 5, none⟩ = some (.bool s.has) := by
  refine ⟨?_, ?_, ?_, ?_, ?_, ?_⟩ <;> simp [World.cell?, h.heap]
/-- What Open finds: a row, or the empty note. -/
def ntOf : Option Nt → Nt
  | none => ⟨0, [], 0⟩
  | some x => x
theorem IsLst.at {r : Option Nt} {w : World} {e : Ending} {w' : World} (h : IsLst r w e w') : ∃ A c, e = .returned (.tuple #[.agg (nta (ntOf r).seq A (ntOf r).dat.length c (ntOf r).fin), .bool r.isSome]) ∧ RS w' A (ntOf r).dat.length c (ntOf r).dat ∧ (∀ b o, A = some ⟨b, o, none⟩ → w.heap.size ≤ b) ∧ Below w.heap.size w w' := by
  cases r with
  | none =>
    obtain ⟨rfl, hb⟩ := h
    exact ⟨none, 0, rfl, RS.none _, (fun b o e => by cases e), hb⟩
  | some x =>
    obtain ⟨A, c, rfl, hd, hb⟩ := h
    refine ⟨A, c, rfl, hd.1, fun b o e => ?_, hb⟩
    obtain ⟨_, bl, off, e2, h1, _⟩ := hd
    rw [e2] at e
    cases e
    exact h1
theorem jLast_few (xs : List UInt8) (k : Nat) : (ntOf (jLast xs k)).dat.length ≤ 40 := by
  cases h : jLast xs k with
  | none => exact Nat.zero_le _
  | some x => exact (bkOk_iff.1 (jLast_at h).1).2
/-- What is had when the document's Open is about to choose. -/
structure RO (w : World) (x : Nat) (v : Value) (t : Sto) (A0 : Option Addr) (c0 : Nat) (A1 : Option Addr) (c1 : Nat) (wc : World) : Prop where
  st : RfIs wc x v t
  d0 : RS wc A0 (ntOf (jLast t.xs 0)).dat.length c0 (ntOf (jLast t.xs 0)).dat
  d1 : RS wc A1 (ntOf (jLast t.xs 1)).dat.length c1 (ntOf (jLast t.xs 1)).dat
  f0 : ∀ b o, A0 = some ⟨b, o, none⟩ → w.heap.size ≤ b
  f1 : ∀ b o, A1 = some ⟨b, o, none⟩ → w.heap.size ≤ b
  bel : Below w.heap.size w wc
theorem RO.done {w wc : World} {x : Nat} {v : Value} {t : Sto} {A0 A1 : Option Addr} {c0 c1 : Nat} (h : RO w x v t A0 c0 A1 c1 wc) (hv : RfIs w x v t) (s : Jn) (A : Option Addr) (c : Nat) (hs : s = jOpen t.xs)
    (hA : (A = A0 ∧ c = c0 ∧ s.nt = ntOf (jLast t.xs 0)) ∨ (A = A1 ∧ c = c1 ∧ s.nt = ntOf (jLast t.xs 1))) :
    RJ (wc.alloc (.cells (jrc x s.bank s.nt A c s.has) 56)) wc.heap.size x v s t A c ∧ Below w.heap.size w (wc.alloc (.cells (jrc x s.bank s.nt A c s.has) 56)) ∧ w.heap.size ≤ wc.heap.size ∧ ∀ b o, A = some ⟨b, o, none⟩ → w.heap.size ≤ b := by
  have hb := below_new wc (.cells (jrc x s.bank s.nt A c s.has) 56)
  have hl := hv.lt
  have hl2 := h.st.lt
  have hsz := h.bel.size
  have hd : RS wc A s.nt.dat.length c s.nt.dat ∧ (∀ b o, A = some ⟨b, o, none⟩ → w.heap.size ≤ b) ∧ s.nt.dat.length ≤ 40 := by
    rcases hA with ⟨rfl, rfl, e⟩ | ⟨rfl, rfl, e⟩
    · rw [e]; exact ⟨h.d0, h.f0, jLast_few _ _⟩
    · rw [e]; exact ⟨h.d1, h.f1, jLast_few _ _⟩
  refine ⟨⟨heap_alloc_new wc _, hd.1.below hb, hd.2.2, fun h0 b o e => ?_, h.st.below hb, hs, by omega, fun e => by have := hl2.2 _ e; omega⟩, below_step h.bel hb, hsz, hd.2.1⟩
  have h1 := hd.1.old h0 b o e
  have h2 := hd.2.1 b o e
  exact ⟨by omega, by omega, fun e2 => by have := hl.2 b e2; omega⟩
/-- What Open gives. -/
structure IsRjO (w : World) (x : Nat) (v : Value) (t : Sto) (e : Ending) (w' : World) : Prop where
  ex : ∃ y A c, e = .returned (.pointer (some ⟨y, 0, none⟩)) ∧ RJ w' y x v (jOpen t.xs) t A c ∧ Below w.heap.size w w' ∧ w.heap.size ≤ y ∧ ∀ b o, A = some ⟨b, o, none⟩ → w.heap.size ≤ b
set_option maxHeartbeats 8000000 in
set_option maxRecDepth 100000 in
theorem rj_open (x : Nat) (v : Value) (t : Sto) (w : World) (h : RfIs w x v t) :
    Calls Tryd.prog 18 #[.pointer (some ⟨x, 0, none⟩)] w (IsRjO w x v t) := by
  have H := Lib.hid h
  have hsm : t.xs.length ≤ 65536 := by obtain ⟨l, h⟩ := h; exact h.small
  have HL := Lib.hid (show ∀ k, k ≤ 1 → (half t.xs k).length ≤ 65536 from fun k hk => by rw [half_len _ _ hk]; omega)
  clear h hsm
  go_enter Tryd.func18, Tryd.ntmps18
  go_wp2_with fail
  refine (rf_half17 x v t 0 (by omega) _ H.out).mono ?_
  rintro e w1 ⟨v1, rfl, hown1, hb1⟩
  obtain ⟨A1, c1, rfl, hr1⟩ := hown1.reads
  have HR1 := Lib.hid hr1
  have HB1 := Lib.hid hb1
  have hl1 := HL.out 0 (by omega)
  clear hown1 hr1 hb1
  generalize (half t.xs 0).length = n1 at *
  go_wp2_with fail
  refine (rf_last A1 n1 c1 (half t.xs 0) _ HR1.out (by omega)).mono ?_
  rintro e w2 hq
  rw [show (bkNotes (half t.xs 0)).getLast? = jLast t.xs 0 from rfl] at hq
  obtain ⟨A2, c2, rfl, hr2, hf2, hb2⟩ := hq.at
  have hbn := below_new w2 (.cells (nta (ntOf (jLast t.xs 0)).seq A2 (ntOf (jLast t.xs 0)).dat.length c2 (ntOf (jLast t.xs 0)).fin) 54)
  have HX2 := Lib.hid (heap_alloc_new w2 (.cells (nta (ntOf (jLast t.xs 0)).seq A2 (ntOf (jLast t.xs 0)).dat.length c2 (ntOf (jLast t.xs 0)).fin) 54))
  have HR2 := Lib.hid (hr2.below hbn)
  have HF2 := Lib.hid (show ∀ b o, A2 = some ⟨b, o, none⟩ → w.heap.size ≤ b from fun b o e => by have := hf2 b o e; have := HB1.out.size; omega)
  have HB2 := Lib.hid (below_step HB1.out (below_step hb2 hbn))
  clear hq hr2 hf2 hb2 hbn HR1 HB1 hl1
  generalize hr0 : jLast t.xs 0 = r0 at *
  have HR0 := Lib.hid hr0
  clear hr0
  go_upto_region 2 with fail
  change Code.wp _ _ _ _ (w2.alloc (.cells (nta (ntOf r0).seq A2 (ntOf r0).dat.length c2 (ntOf r0).fin) 54))
  generalize w2.alloc (.cells (nta (ntOf r0).seq A2 (ntOf r0).dat.length c2 (ntOf r0).fin) 54) = w3 at *
  generalize w2.heap.size = g3 at *
  go_wp2_with fail
  refine (rf_half17 x v t 1 (by omega) _ (H.out.below HB2.out)).mono ?_
  rintro e w4 ⟨v4, rfl, hown4, hb4⟩
  obtain ⟨A4, c4, rfl, hr4⟩ := hown4.reads
  have HR4 := Lib.hid hr4
  have HB4 := Lib.hid hb4
  have hl4 := HL.out 1 (by omega)
  clear hown4 hr4 hb4
  generalize (half t.xs 1).length = n4 at *
  go_wp2_with fail
  refine (rf_last A4 n4 c4 (half t.xs 1) _ HR4.out (by omega)).mono ?_
  rintro e w5 hq
  rw [show (bkNotes (half t.xs 1)).getLast? = jLast t.xs 1 from rfl] at hq
  obtain ⟨A5, c5, rfl, hr5, hf5, hb5⟩ := hq.at
  have hbn := below_new w5 (.cells (nta (ntOf (jLast t.xs 1)).seq A5 (ntOf (jLast t.xs 1)).dat.length c5 (ntOf (jLast t.xs 1)).fin) 54)
  have HX5 := Lib.hid (heap_alloc_new w5 (.cells (nta (ntOf (jLast t.xs 1)).seq A5 (ntOf (jLast t.xs 1)).dat.length c5 (ntOf (jLast t.xs 1)).fin) 54))
  have HB5 := Lib.hid (below_step HB4.out (below_step hb5 hbn))
  have HRO := Lib.hid (show RO w x v t A2 c2 A5 c5 _ from ⟨H.out.below (HB2.out.trans (HB5.out.mono HB2.out.size)), by rw [HR0.out]; exact HR2.out.below HB5.out, hr5.below hbn, HF2.out, fun b o e => by have := hf5 b o e; have := HB4.out.size; have := HB2.out.size; omega, HB2.out.trans (HB5.out.mono HB2.out.size)⟩)
  have HX3 := Lib.hid ((HB5.out.block g3 (Array.getElem?_eq_some_iff.mp HX2.out).1).trans HX2.out)
  clear hq hr5 hf5 hb5 hbn HR4 HB4 hl4 HX2 HR2 HF2
  generalize hr1 : jLast t.xs 1 = r1 at *
  have HR1 := Lib.hid hr1
  clear hr1
  go_upto_region 3 with fail
  change Code.wp _ _ _ _ (w5.alloc (.cells (nta (ntOf r1).seq A5 (ntOf r1).dat.length c5 (ntOf r1).fin) 54))
  generalize w5.alloc (.cells (nta (ntOf r1).seq A5 (ntOf r1).dat.length c5 (ntOf r1).fin) 54) = w6 at *
  generalize w5.heap.size = g6 at *
  have hx3 := HX3.out
  have hx6 := HX5.out
  unfold nta at hx3 hx6
  have y0 : w6.cell? ⟨g3, 0, none⟩ = some (.int .u32 (ntOf r0).seq) := by simp [World.cell?, hx3]
  have y1 : w6.cell? ⟨g3, 1, none⟩ = some (.slice A2 (ntOf r0).dat.length c2) := by simp [World.cell?, hx3]
  have y2 : w6.cell? ⟨g3, 2, none⟩ = some (.int .i64 (ntOf r0).fin) := by simp [World.cell?, hx3]
  have z0 : w6.cell? ⟨g6, 0, none⟩ = some (.int .u32 (ntOf r1).seq) := by simp [World.cell?, hx6]
  have z1 : w6.cell? ⟨g6, 1, none⟩ = some (.slice A5 (ntOf r1).dat.length c5) := by simp [World.cell?, hx6]
  have z2 : w6.cell? ⟨g6, 2, none⟩ = some (.int .i64 (ntOf r1).fin) := by simp [World.cell?, hx6]
  clear hx3 hx6 HX3 HX5 HB5 HB2
  cases r1 with
  | none =>
    cases r0 with
    | none =>
      have HD := Lib.hid (HRO.out.done H.out (⟨0, ntOf none, false⟩ : Jn) A2 c2 (by rw [jOpen_pick, HR0.out, HR1.out]; rfl) (by rw [HR0.out, HR1.out]; exact .inl ⟨rfl, rfl, rfl⟩))
      go_wp2_with fail
      go_ret
      have HJE := Lib.hid (show jOpen t.xs = (⟨0, ntOf none, false⟩ : Jn) by rw [jOpen_pick, HR0.out, HR1.out]; rfl)
      refine ⟨?_⟩
      rw [HJE.out]
      exact ⟨_, _, _, rfl, HD.out.1, HD.out.2.1, HD.out.2.2.1, HD.out.2.2.2⟩
    | some a =>
      have HD := Lib.hid (HRO.out.done H.out (⟨0, a, true⟩ : Jn) A2 c2 (by rw [jOpen_pick, HR0.out, HR1.out]; (simp [jPick, jStep, jNone])) (by rw [HR0.out, HR1.out]; exact .inl ⟨rfl, rfl, rfl⟩))
      go_wp2_with fail
      go_ret
      have HJE := Lib.hid (show jOpen t.xs = (⟨0, a, true⟩ : Jn) by rw [jOpen_pick, HR0.out, HR1.out]; (simp [jPick, jStep, jNone]))
      refine ⟨?_⟩
      rw [HJE.out]
      exact ⟨_, _, _, rfl, HD.out.1, HD.out.2.1, HD.out.2.2.1, HD.out.2.2.2⟩
  | some b =>
    cases r0 with
    | none =>
      have HD := Lib.hid (HRO.out.done H.out (⟨1, b, true⟩ : Jn) A5 c5 (by rw [jOpen_pick, HR0.out, HR1.out]; (simp [jPick, jStep, jNone])) (by rw [HR0.out, HR1.out]; exact .inr ⟨rfl, rfl, rfl⟩))
      go_wp2_with fail
      go_ret
      have HJE := Lib.hid (show jOpen t.xs = (⟨1, b, true⟩ : Jn) by rw [jOpen_pick, HR0.out, HR1.out]; (simp [jPick, jStep, jNone]))
      refine ⟨?_⟩
      rw [HJE.out]
      exact ⟨_, _, _, rfl, HD.out.1, HD.out.2.1, HD.out.2.2.1, HD.out.2.2.2⟩
    | some a =>
      by_cases hlt : a.seq < b.seq
      · have hlt' : ((ntOf (some a)).seq : Int) < ((ntOf (some b)).seq : Int) := by show (a.seq : Int) < (b.seq : Int); omega
        have HLT := Lib.hid hlt
        clear hlt
        have HD := Lib.hid (HRO.out.done H.out (⟨1, b, true⟩ : Jn) A5 c5 (by rw [jOpen_pick, HR0.out, HR1.out]; (simp [jPick, jStep, jNone, HLT.out])) (by rw [HR0.out, HR1.out]; exact .inr ⟨rfl, rfl, rfl⟩))
        go_wp2_with fail
        go_ret
        have HJE := Lib.hid (show jOpen t.xs = (⟨1, b, true⟩ : Jn) by rw [jOpen_pick, HR0.out, HR1.out]; (simp [jPick, jStep, jNone, HLT.out]))
        refine ⟨?_⟩
        rw [HJE.out]
        exact ⟨_, _, _, rfl, HD.out.1, HD.out.2.1, HD.out.2.2.1, HD.out.2.2.2⟩
      · have hlt' : ¬ ((ntOf (some a)).seq : Int) < ((ntOf (some b)).seq : Int) := by show ¬ (a.seq : Int) < (b.seq : Int); omega
        have HLT := Lib.hid hlt
        clear hlt
        have HD := Lib.hid (HRO.out.done H.out (⟨0, a, true⟩ : Jn) A2 c2 (by rw [jOpen_pick, HR0.out, HR1.out]; (simp [jPick, jStep, jNone, HLT.out])) (by rw [HR0.out, HR1.out]; exact .inl ⟨rfl, rfl, rfl⟩))
        go_wp2_with fail
        go_ret
        have HJE := Lib.hid (show jOpen t.xs = (⟨0, a, true⟩ : Jn) by rw [jOpen_pick, HR0.out, HR1.out]; (simp [jPick, jStep, jNone, HLT.out]))
        refine ⟨?_⟩
        rw [HJE.out]
        exact ⟨_, _, _, rfl, HD.out.1, HD.out.2.1, HD.out.2.2.1, HD.out.2.2.2⟩
end Go.Proofs.YtcppmihambcihaaDoor
/- crossbuckref17: Append. -/
namespace Go.Proofs.YtcppmihambcihaaDoor
open Go Go.RowKit Go.Shelf
set_option linter.unusedVariables false
set_option linter.unusedSimpArgs false
/-- The document's journal by itself. -/
structure RJ0 (w : World) (y x : Nat) (v : Value) (bank : Nat) (z : Nt) (A : Option Addr) (c : Nat) (has : Bool) : Prop where
  heap : w.heap[y]? = some (.cells (jrc x bank z A c has) 56 (0, 0))
  dat : RS w A z.dat.length c z.dat
  few : z.dat.length ≤ 40
  apart : 0 < z.dat.length → ∀ b o, A = some ⟨b, o, none⟩ → b ≠ y ∧ b ≠ x ∧ v.ownBlock ≠ some b
  ne : y ≠ x ∧ v.ownBlock ≠ some y
theorem RJ.to0 {w : World} {y x : Nat} {v : Value} {s : Jn} {t : Sto} {A : Option Addr} {c : Nat} (h : RJ w y x v s t A c) : RJ0 w y x v s.bank s.nt A c s.has := ⟨h.heap, h.dat, h.few, h.apart, h.ne⟩
theorem RJ0.to {w : World} {y x : Nat} {v : Value} {s : Jn} {t : Sto} {A : Option Addr} {c : Nat} (h : RJ0 w y x v s.bank s.nt A c s.has) (hs : RfIs w x v t) (he : s = jOpen t.xs) : RJ w y x v s t A c := ⟨h.heap, h.dat, h.few, h.apart, hs, he, h.ne⟩
theorem RJ0.lt {w : World} {y x : Nat} {v : Value} {bank : Nat} {z : Nt} {A : Option Addr} {c : Nat} {has : Bool} (h : RJ0 w y x v bank z A c has) : y < w.heap.size := (Array.getElem?_eq_some_iff.mp h.heap).1
theorem RJ0.fr {F : Nat → Prop} {w w' : World} {y x : Nat} {v : Value} {bank : Nat} {z : Nt} {A : Option Addr} {c : Nat} {has : Bool} (h : RJ0 w y x v bank z A c has) (hf : Fr F w w') (h1 : ¬ F y) (h4 : 0 < z.dat.length → ∀ b o, A = some ⟨b, o, none⟩ → ¬ F b) : RJ0 w' y x v bank z A c has :=
  ⟨(hf.block y h.lt h1).trans h.heap, h.dat.fr hf h4, h.few, h.apart, h.ne⟩
theorem RJ0.below {w w' : World} {y x : Nat} {v : Value} {bank : Nat} {z : Nt} {A : Option Addr} {c : Nat} {has : Bool} (h : RJ0 w y x v bank z A c has) (hb : Below w.heap.size w w') : RJ0 w' y x v bank z A c has := h.fr (Fr.ofBelow hb (fun _ => False)) id (fun _ _ _ _ h => h)
theorem RJ0.two {w w' : World} {y x : Nat} {v : Value} {bank : Nat} {z : Nt} {A : Option Addr} {c : Nat} {has : Bool} (h : RJ0 w y x v bank z A c has) (hf : Fr (fun k => k = x ∨ v.ownBlock = some k) w w') : RJ0 w' y x v bank z A c has :=
  h.fr hf (fun h' => by rcases h' with h' | h'; exact h.ne.1 h'; exact h.ne.2 h') (fun h0 b o e h' => by have := h.apart h0 b o e; rcases h' with h' | h'; exact this.2.1 h'; exact this.2.2 h')
theorem RJ0.cells {w : World} {y x : Nat} {v : Value} {bank : Nat} {z : Nt} {A : Option Addr} {c : Nat} {has : Bool} (h : RJ0 w y x v bank z A c has) :
    w.cell? ⟨y, 0, none⟩ = some (.pointer (some ⟨x, 0, none⟩)) ∧ w.cell? ⟨y, 1, none⟩ = some (.int .i64 bank) ∧ w.cell? ⟨y, 2, none⟩ = some (.int .u32 z.seq) ∧ w.cell? ⟨y, 3, none⟩ = some (.slice A z.dat.length c) ∧ w.cell? ⟨y, 4, none⟩ = some (.int .i64 z.fin) ∧ w.cell? ⟨y, 5, none⟩ = some (.bool has) ∧ ∀ i, w.frozen? ⟨y, i, none⟩ = false := by
  refine ⟨?_, ?_, ?_, ?_, ?_, ?_, fun i => ?_⟩ <;> simp [World.cell?, World.frozen?, h.heap]
theorem RJ0.set1 {w : World} {y x : Nat} {v : Value} {bank : Nat} {z : Nt} {A : Option Addr} {c : Nat} {has : Bool} (h : RJ0 w y x v bank z A c has) (b1 : Nat) : RJ0 (w.setCell ⟨y, 1, none⟩ (.int .i64 b1)) y x v b1 z A c has ∧ Fr (fun k => k = y) w (w.setCell ⟨y, 1, none⟩ (.int .i64 b1)) := by
  have hf := fr_setCell (F := fun k => k = y) (w := w) ⟨y, 1, none⟩ (.int .i64 b1) rfl
  exact ⟨⟨by simp [World.setCell, Array.getElem?_modify, h.heap, jrc], h.dat.fr hf (fun h0 b o e hF => (h.apart h0 b o e).1 hF), h.few, h.apart, h.ne⟩, hf⟩
theorem RJ0.set5 {w : World} {y x : Nat} {v : Value} {bank : Nat} {z : Nt} {A : Option Addr} {c : Nat} {has : Bool} (h : RJ0 w y x v bank z A c has) : RJ0 (w.setCell ⟨y, 5, none⟩ (.bool true)) y x v bank z A c true ∧ Fr (fun k => k = y) w (w.setCell ⟨y, 5, none⟩ (.bool true)) := by
  have hf := fr_setCell (F := fun k => k = y) (w := w) ⟨y, 5, none⟩ (.bool true) rfl
  exact ⟨⟨by simp [World.setCell, Array.getElem?_modify, h.heap, jrc], h.dat.fr hf (fun h0 b o e hF => (h.apart h0 b o e).1 hF), h.few, h.apart, h.ne⟩, hf⟩
theorem RJ0.note {w : World} {y x : Nat} {v : Value} {bank : Nat} {z : Nt} {A : Option Addr} {c : Nat} {has : Bool} (h : RJ0 w y x v bank z A c has) (z' : Nt) (g9 c9 : Nat) (hd : RS w (some ⟨g9, 0, none⟩) z'.dat.length c9 z'.dat) (hn : g9 ≠ y ∧ g9 ≠ x ∧ v.ownBlock ≠ some g9) (hf : z'.dat.length ≤ 40) :
    RJ0 (w.setCells y 2 [.int .u32 z'.seq, .slice (some ⟨g9, 0, none⟩) z'.dat.length c9, .int .i64 z'.fin]) y x v bank z' (some ⟨g9, 0, none⟩) c9 has :=
  ⟨setCells_heap y 56 [.int .u32 z'.seq, .slice (some ⟨g9, 0, none⟩) z'.dat.length c9, .int .i64 z'.fin] 2 w (jrc x bank z A c has).toList h.heap (by simp), hd.fr (fr_setCells (F := fun k => k = y) y rfl _ _ _) (fun _ b o e hF => by cases e; exact hn.1 hF), hf, fun _ b o e => by cases e; exact hn, h.ne⟩
structure RjAp (w : World) (y x : Nat) (v : Value) (A0 : Option Addr) (r : Nat × Jn × Sto) (e : Ending) (w' : World) : Prop where
  err : e = .returned (.int .i64 r.1)
  jr : ∃ A c, RJ0 w' y x v r.2.1.bank r.2.1.nt A c r.2.1.has ∧ (A = A0 ∨ ∀ b o, A = some ⟨b, o, none⟩ → w.heap.size ≤ b)
  st : RfIs w' x v r.2.2
  fr : Fr (fun k => k = y ∨ k = x ∨ v.ownBlock = some k) w w'
theorem RjAp.same {w w' : World} {y x : Nat} {v : Value} {s : Jn} {t : Sto} {A : Option Addr} {c n : Nat} (hj : RJ0 w' y x v s.bank s.nt A c s.has) (hs : RfIs w' x v t) (hf : Fr (fun k => k = x ∨ v.ownBlock = some k) w w') : RjAp w y x v A (n, s, t) (.returned (.int .i64 n)) w' :=
  ⟨rfl, ⟨A, c, hj, .inl rfl⟩, hs, hf.mono (fun i _ h => .inr h)⟩
/-- Where the document's Append stands behind the choice of a bank. -/
structure RMid (w : World) (y x : Nat) (v : Value) (s : Jn) (t : Sto) (d : List UInt8) (A : Option Addr) (c : Nat) (A1 : Option Addr) (n1 c1 : Nat) (A2 : Option Addr) (n2 c2 : Nat) (xx : List UInt8) (tb at_ : Nat) (t1 : Sto) (wx : World) : Prop where
  le1 : tb ≤ 1
  leA : at_ + n2 ≤ t.xs.length / 2
  len : t1.xs.length = t.xs.length
  jr : RJ0 wx y x v s.bank s.nt A c s.has
  st : RfIs wx x v t1
  rx : RS wx A2 n2 c2 xx
  rd : RS wx A1 n1 c1 d
  fr : Fr (fun k => k = x ∨ v.ownBlock = some k) w wx
  eq : jAppend s t d = jPut s d tb at_ (t.xs.length / 2) (0, t1)
theorem rf_cell {w : World} {x : Nat} {v : Value} {t : Sto} (h : RfIs w x v t) : w.cell? ⟨x, 0, none⟩ = some v := by
  obtain ⟨l, h⟩ := h
  exact h.cells.1
theorem rf_form {w : World} {x : Nat} {v : Value} {t : Sto} (h : RfIs w x v t) : ∃ Av cv, v = .slice Av t.xs.length cv := by
  obtain ⟨l, h⟩ := h
  obtain ⟨Av, cv, hv, _⟩ := h.own.reads
  exact ⟨Av, cv, hv⟩
theorem rf_small {w : World} {x : Nat} {v : Value} {t : Sto} (h : RfIs w x v t) : t.xs.length ≤ 65536 := by
  obtain ⟨l, h⟩ := h
  exact h.small
theorem own_far7 {w' : World} {B n c : Nat} {A : Option Addr} {xs : List UInt8} (h : OwnB w' B (.slice A n c) xs) : ∀ b o, A = some ⟨b, o, none⟩ → B ≤ b := by
  rintro b o rfl
  exact (h.free rfl).2.1
set_option maxHeartbeats 16000000 in
set_option maxRecDepth 100000 in
theorem rj_append0 (y x : Nat) (v : Value) (s : Jn) (t : Sto) (A : Option Addr) (c : Nat) (A1 : Option Addr) (n1 c1 : Nat) (d : List UInt8) (w : World) (h : RJ w y x v s t A c) (hr : RS w A1 n1 c1 d) (ha : 0 < n1 → ∀ b o, A1 = some ⟨b, o, none⟩ → b ≠ y ∧ b ≠ x ∧ v.ownBlock ≠ some b) :
    Calls Tryd.prog 19 #[.pointer (some ⟨y, 0, none⟩), .slice A1 n1 c1] w (RjAp w y x v A (jAppend s t d)) := by
  have hat := jOpen_at t.xs
  rw [← h.eq] at hat
  have hu : s.nt.seq < 4294967296 := by
    cases hh : s.has with
    | false => rw [(hat.no hh).1]; decide
    | true => exact (jLast_at (hat.own hh)).2.1
  have hsm := rf_small h.st
  have hfin : s.nt.fin ≤ t.xs.length / 2 := by
    cases hh : s.has with
    | false => rw [(hat.no hh).1]; exact Nat.zero_le _
    | true => have := (jLast_at (hat.own hh)).2.2; rwa [half_len t.xs s.bank hat.bank] at this
  obtain ⟨s1, hs1⟩ : ∃ s1 : Nat, s1 = (s.nt.seq + 1) % 4294967296 := ⟨_, rfl⟩
  have ew : IntKind.u32.wrap ((s.nt.seq : Int) + 1) = (s1 : Int) := by simp [IntKind.wrap, IntKind.bits, IntKind.signed]; omega
  have HS1 := Lib.hid (show s1 < 4294967296 by omega)
  have HJ := Lib.hid h.to0
  have HS := Lib.hid h.st
  have c2 := h.to0.cells.2.2.1
  have HD := Lib.hid hr
  have HA := Lib.hid ha
  have HBK := Lib.hid hat.bank
  have HDL := Lib.hid hr.len
  have HSM := Lib.hid hsm
  have HFIN := Lib.hid hfin
  have HU := Lib.hid hu
  have HSQ := Lib.hid hs1
  have HVL := Lib.hid h.st.lt
  have HYL := Lib.hid h.lt
  clear h hr ha hat hsm hfin hu hs1
  cases hd : bkOk d with
  | false =>
    have HEQ := Lib.hid (show jAppend s t d = (1, s, t) by unfold jAppend; rw [if_pos hd])
    have ho : bkOut s1 d = [] := by simp [bkOut, hd]
    go_enter Tryd.func19, Tryd.ntmps19
    go_wp2_with fail
    refine (rf_print s1 A1 n1 c1 d _ HD.out HS1.out).mono ?_
    rintro e wa ⟨v2, rfl, hown, hb⟩
    rw [hd]
    rw [ho] at hown
    obtain ⟨A2, cp2, rfl, _⟩ := hown.reads
    rw [List.length_nil]
    have HB := Lib.hid hb
    clear hown hb hd ho
    go_wp2_with fail
    go_ret
    rw [HEQ.out]
    exact RjAp.same (HJ.out.below HB.out) (HS.out.below HB.out) (Fr.ofBelow HB.out _)
  | true =>
    have ho : bkOut s1 d = bkPrint s1 d := by simp [bkOut, hd]
    go_enter Tryd.func19, Tryd.ntmps19
    go_wp2_with fail
    refine (rf_print s1 A1 n1 c1 d _ HD.out HS1.out).mono ?_
    rintro e wa ⟨v2, rfl, hown, hb⟩
    rw [hd]
    have hsm := HSM.out
    have hfin := HFIN.out
    have hu := HU.out
    have hs1 := HSQ.out
    have hdl := HDL.out
    have hok := bkOk_iff.1 hd
    rw [ho] at hown
    have hpl := bkPrint_len s1 d
    rcases hown.form with ⟨_, h0⟩ | ⟨g2, cp2, rfl, hg2, hg2b, _, hrx⟩
    · rw [h0] at hpl; simp at hpl; omega
    rw [hpl, hdl] at hrx ⊢
    have HX := Lib.hid hrx
    have HB := Lib.hid hb
    have HJ1 := Lib.hid (HJ.out.below hb)
    have HST := Lib.hid (HS.out.below hb)
    have HD1 := Lib.hid (HD.out.below hb)
    have HG2 := Lib.hid hg2
    have c0' := HJ1.out.cells.1
    have c1' := HJ1.out.cells.2.1
    have c2' := HJ1.out.cells.2.2.1
    have c4' := HJ1.out.cells.2.2.2.2.1
    have z0 := rf_cell HST.out
    obtain ⟨Av, cv, rfl⟩ := rf_form HST.out
    obtain ⟨m, hm⟩ : ∃ m : Nat, m = t.xs.length / 2 := ⟨_, rfl⟩
    have hqd : ((t.xs.length : Int)).tdiv 2 = (m : Int) := by rw [Int.tdiv_eq_ediv_of_nonneg (by omega)]; omega
    have HMM := Lib.hid hm
    rw [← hm] at hfin HFIN
    generalize hn2 : 8 + n1 = n2 at *
    have hm32 : m ≤ 32768 := by omega
    have h60 : t.xs.length ≤ 65536 := hsm
    clear hown hrx hb c2 hg2 hg2b
    by_cases h5 : m < n2
    · have HEQ := Lib.hid (show jAppend s t d = (5, s, t) by unfold jAppend; rw [if_neg (by rw [hd]; decide), if_pos (.inl (by omega))])
      have h5' : (m : Int) < (n2 : Int) := by omega
      clear hd ho hpl hok hdl h5 hfin hu hs1 hn2
      clear hm
      generalize t.xs.length = L at *
      go_wp2_with fail
      go_ret
      rw [HEQ.out]
      exact RjAp.same HJ1.out HST.out (Fr.ofBelow HB.out _)
    have h5' : ¬ (m : Int) < (n2 : Int) := by omega
    by_cases h6 : s.nt.seq = 4294967295
    · have HEQ := Lib.hid (show jAppend s t d = (5, s, t) by unfold jAppend; rw [if_neg (by rw [hd]; decide), if_pos (.inr h6)])
      have h6' : ((s.nt.seq : Int) == 4294967295) = true := by rw [h6]; rfl
      clear hd ho hpl hok hdl h5 h6 hfin hu hs1 hn2 hm
      generalize s.nt.seq = q at *
      generalize t.xs.length = L at *
      go_wp2_with fail
      go_ret
      rw [HEQ.out]
      exact RjAp.same HJ1.out HST.out (Fr.ofBelow HB.out _)
    have h6' : ((s.nt.seq : Int) == 4294967295) = false := by simp; omega
    have HS1E := Lib.hid (show s1 = s.nt.seq + 1 by have := HSQ.out; omega)
    have hn48 : n2 ≤ 48 := by omega
    have HM := Lib.hid (show n2 ≤ m ∧ 8 + d.length = n2 ∧ n2 ≤ 48 by omega)
    have HOK := Lib.hid hd
    have H56 := Lib.hid (show ¬ (t.xs.length / 2 < 8 + d.length ∨ s.nt.seq = 4294967295) by omega)
    have HHL := Lib.hid (show (half t.xs s.bank).length = m by rw [half_len _ _ HBK.out, hm])
    have hbk := HBK.out
    clear hd ho hpl hok hdl h5 h6 hn2 hs1 hm hsm
    generalize hL : t.xs.length = L at *
    have HLL := Lib.hid hL
    clear hL
    go_wp2_with fail
    have hfh := rf_half17 x (.slice Av L cv) t s.bank HBK.out _ HST.out
    refine hfh.mono ?_
    rintro e w2 ⟨v2, rfl, hown2, hb2⟩
    obtain ⟨A3, c3, rfl, hr3⟩ := hown2.reads
    rw [HHL.out] at hr3 ⊢
    have HR3 := Lib.hid hr3
    have HB2 := Lib.hid hb2
    clear hfh hown2 hr3 hb2
    go_wp2_with fail
    refine (rf_blank A3 m c3 (half t.xs s.bank) (s.nt.fin : Int) _ HR3.out (by omega)).mono ?_
    rintro e w3 ⟨rfl, hb3⟩
    rw [Int.toNat_natCast]
    have HB3 := Lib.hid (below_step HB2.out hb3)
    have HJ3 := Lib.hid (HJ1.out.below HB3.out)
    have HST3 := Lib.hid (HST.out.below HB3.out)
    have HX3 := Lib.hid (HX.out.below HB3.out)
    have HD3 := Lib.hid (HD1.out.below HB3.out)
    have HBB := Lib.hid (below_step HB.out HB3.out)
    clear hb3 HB2 HB3 HJ1 HST HX HD1 HB c0' c1' c2' c4' z0 HR3
    have HRM := Lib.hid (show ∀ bl, bkBlank (half t.xs s.bank) s.nt.fin = bl → jRoom t.xs s.bank s.nt.fin (8 + d.length) = (decide (n2 + s.nt.fin ≤ m) && bl) from fun bl h => by
      unfold jRoom
      rw [h, HM.out.2.1, HLL.out, ← HMM.out])
    generalize hbl : bkBlank (half t.xs s.bank) s.nt.fin = bl at *
    have HRB := Lib.hid (HRM.out bl rfl)
    clear hbl HRM
    have ews : IntKind.i64.wrap ((m : Int) - (s.nt.fin : Int)) = (m : Int) - (s.nt.fin : Int) := by simp [IntKind.wrap, IntKind.bits, IntKind.signed]; omega
    go_upto_region 10 with fail
    go_cut [75] (fun s75 wx => w3 = wx ∧ ∃ rm : Bool, s75 = .bool (!rm) ∧ jRoom t.xs s.bank s.nt.fin (8 + d.length) = rm)
    case first =>
      cases bl with
      | false =>
        go_wp2_with fail
        go_meet
        exact ⟨rfl, false, rfl, by rw [HRB.out, Bool.and_false]⟩
      | true =>
        by_cases hr : n2 + s.nt.fin ≤ m
        · have hr' : ¬ (m : Int) - (s.nt.fin : Int) < (n2 : Int) := by omega
          have HRR := Lib.hid hr
          clear hr
          go_wp2_with fail
          go_meet
          exact ⟨rfl, true, rfl, by rw [HRB.out, Bool.and_true]; exact decide_eq_true HRR.out⟩
        · have hr' : (m : Int) - (s.nt.fin : Int) < (n2 : Int) := by omega
          have HRR := Lib.hid hr
          clear hr
          go_wp2_with fail
          go_meet
          exact ⟨rfl, false, rfl, by rw [HRB.out, Bool.and_true]; exact decide_eq_false HRR.out⟩
    case rest =>
    obtain ⟨rfl, rm, rfl, hrm⟩ := hcut
    have HRM := Lib.hid hrm
    clear hrm HRB ews
    go_upto_if 75 with fail
    go_cut [8, 9] (fun s8 s9 wx => ∃ (tb at_ : Nat) (t1 : Sto), s8 = .int .i64 tb ∧ s9 = .int .i64 at_ ∧ RMid w y x (.slice Av L cv) s t d A c A1 n1 c1 (some ⟨g2, 0, none⟩) n2 cp2 (bkPrint s1 d) tb at_ t1 wx)
    case first =>
      cases rm with
      | true =>
        go_wp2_with fail
        go_meet
        refine ⟨s.bank, s.nt.fin, t, rfl, rfl, HBK.out, ?_, rfl, HJ3.out, HST3.out, HX3.out, HD3.out, Fr.ofBelow HBB.out _, ?_⟩
        · have := HRM.out
          unfold jRoom at this
          rw [Bool.and_eq_true, decide_eq_true_iff] at this
          have := HM.out
          omega
        · unfold jAppend
          rw [if_neg (by rw [HOK.out]; decide), if_neg (by rw [HLL.out]; exact H56.out), if_pos HRM.out]
      | false =>
        as_aux_lemma =>
        obtain ⟨c9, hc9⟩ : ∃ c9 : Nat, c9 = 1 - s.bank := ⟨_, rfl⟩
        have ec : IntKind.i64.wrap (1 - (s.bank : Int)) = (c9 : Int) := by simp [IntKind.wrap, IntKind.bits, IntKind.signed]; omega
        have HC1 := Lib.hid (show c9 ≤ 1 by omega)
        have HEQ := Lib.hid (show jAppend s t d = jPut s d c9 0 m (jWipe t c9 m) by
          unfold jAppend
          rw [if_neg (by rw [HOK.out]; decide), if_neg (by rw [HLL.out]; exact H56.out), if_neg (by rw [HRM.out]; decide), HLL.out, ← HMM.out, hc9])
        obtain ⟨q, hq⟩ : ∃ q : Nat, q = c9 * m := ⟨_, rfl⟩
        have HQ := Lib.hid hq
        have HQL := Lib.hid (show q + m ≤ L from hq ▸ bank_le c9 m L HC1.out HMM.out)
        have em : IntKind.i64.wrap ((c9 : Int) * (m : Int)) = (q : Int) := by
          rw [← Int.natCast_mul, ← hq]
          have := HQL.out
          simp [IntKind.wrap, IntKind.bits, IntKind.signed]
          omega
        clear hc9 hq
        go_wp2_with fail
        go_loopw [11, 12] (fun s11 s12 wr => ∃ i : Nat, i ≤ m ∧ s12 = .int .i64 i ∧ OwnB wr w3.heap.size s11 (List.replicate i 255) ∧ Below w3.heap.size w3 wr) (fun _ s12 _ => m - (intOf s12).toNat)
        case atStart => exact ⟨0, Nat.zero_le _, rfl, OwnB.nil _ _, Below.refl _ _⟩
        case round =>
          obtain ⟨i, hi, rfl, hown, hb⟩ := hrel
          have HO := Lib.hid hown
          have HBW := Lib.hid hb
          by_cases hlt : i < m
          · have hlt' : (i : Int) < m := by omega
            have HI := Lib.hid hlt
            have hbn := below_new wr (.cells #[.int .u8 255] 5)
            have HR := Lib.hid (show RS (wr.alloc (.cells #[.int .u8 255] 5)) (some ⟨wr.heap.size, 0, none⟩) 1 1 [255] from rs_new wr [255] 5 (by decide))
            have HO1 := Lib.hid (hown.below hbn)
            have HB1 := Lib.hid (below_step hb hbn)
            clear hown hb hbn hi hlt HO HBW
            go_wp2_with (at_builtin; go_must (refine wpList_append_byb rfl _ _ rfl w3.heap.size HB1.out.size _ _ rfl HO1.out _ _ _ [255] rfl HR.out (by rw [List.length_replicate]; have := HI.out; omega) ?_; intro v6 w6 hown6 hb6 hg6 hf6; rw [← List.replicate_succ'] at hown6; have HO6 := Lib.hid hown6; have HB6 := Lib.hid (HB1.out.trans hb6); clear hown6 hb6 hg6 hf6))
            exact ⟨⟨_, _, _, _, _, _, _, _, _, _, ⟨i + 1, by have := HI.out; omega, by go_num, HO6.out, HB6.out⟩, rfl⟩, by have := HI.out; simp [intOf]; omega⟩
          · obtain rfl : i = m := by omega
            obtain ⟨A7, c7, rfl, hr7⟩ := hown.reads
            rw [List.length_replicate] at hr7 ⊢
            have HR7 := Lib.hid hr7
            have HF7 := Lib.hid (own_far7 hown)
            have HJ7 := Lib.hid (HJ3.out.below hb)
            have HS7 := Lib.hid (HST3.out.below hb)
            have HX7 := Lib.hid (HX3.out.below hb)
            have HD7 := Lib.hid (HD3.out.below hb)
            have HB7 := Lib.hid (below_step HBB.out hb)
            have HVL7 := Lib.hid HST3.out.lt
            obtain ⟨c0', _⟩ := HJ7.out.cells
            clear hown hb hr7 hi hlt HO HBW
            go_wp2_with fail
            refine (rf_write15 x (.slice Av L cv) t q A7 i c7 (List.replicate i 255) _ HS7.out (by have := HQL.out; omega) HR7.out (by omega) (fun _ b o e => by
              have h1 := HF7.out b o e
              exact ⟨by have := HVL7.out.1; omega, fun e2 => by have := HVL7.out.2 b e2; omega⟩)).mono ?_
            rintro e w8 ⟨rfl, hst8, hf8⟩
            have hwq : t.wr q (List.replicate i 255) = jWipe t c9 i := by unfold jWipe; rw [HQ.out]
            rw [hwq] at hst8 ⊢
            have HWI := Lib.hid (show (jWipe t c9 i).2.xs.length = L by
              rw [← hwq]
              rcases Sto.wr_in (t := t) (a := q) (ys := List.replicate i 255) (by rw [List.length_replicate, HLL.out]; exact HQL.out) with ⟨_, h2⟩ | ⟨_, k, _, h2⟩
              · rw [h2, length_splice _ _ _ (by rw [List.length_replicate, HLL.out]; exact HQL.out), HLL.out]
              · rw [h2, length_splice _ _ _ (by rw [List.length_take, List.length_replicate, HLL.out]; have := HQL.out; omega), HLL.out])
            generalize hjw : jWipe t c9 i = rr at *
            obtain ⟨r1, t1⟩ := rr
            have HS8 := Lib.hid hst8
            have HF8 := Lib.hid ((Fr.ofBelow HB7.out _).trans hf8 (fun i h => .inl h))
            have HJ8 := Lib.hid (HJ7.out.two hf8)
            have HX8 := Lib.hid (HX7.out.fr hf8 (fun _ b o e h => by cases e; have := HG2.out; have := HVL.out; rcases h with h | h; omega; have := this.2 _ h; omega))
            have HD8 := Lib.hid (HD7.out.fr hf8 (fun h0 b o e h => by have := HA.out h0 b o e; rcases h with h | h; exact this.2.1 h; exact this.2.2 h))
            clear hst8 hf8 hwq
            by_cases hr1 : r1 = 0
            · have hrz : (r1 : Int) = 0 := by omega
              have HR1 := Lib.hid hr1
              subst hr1
              go_wp2_with fail
              go_meet
              exact ⟨c9, 0, t1, rfl, rfl, HC1.out, by rw [HLL.out, ← HMM.out]; have := HM.out; omega, by rw [HLL.out]; exact HWI.out, HJ8.out, HS8.out, HX8.out, HD8.out, HF8.out, by rw [HLL.out, ← HMM.out]; exact HEQ.out⟩
            · have hrz : ((r1 : Int) == 0) = false := by simp; omega
              have HE2 := Lib.hid (show jAppend s t d = (r1, s, t1) by rw [HEQ.out]; unfold jPut; rw [if_neg hr1])
              clear hr1
              go_wp2_with fail
              go_ret
              rw [HE2.out]
              exact RjAp.same HJ8.out HS8.out HF8.out
    case rest =>
    as_aux_lemma =>
    obtain ⟨tb, at_, t1, rfl, rfl, hmid⟩ := hcut
    have HJ9 := Lib.hid hmid.jr
    have HF9 := Lib.hid hmid.fr
    have HS9 := Lib.hid hmid.st
    have HEQ0 := Lib.hid hmid.eq
    have HTB := Lib.hid hmid.le1
    have HATL := Lib.hid (show at_ + n2 ≤ m by have := hmid.leA; rw [HLL.out, ← HMM.out] at this; exact this)
    have HX9 := Lib.hid hmid.rx
    have HD9 := Lib.hid hmid.rd
    clear hmid HJ3 HST3 HX3 HD3 HBB
    obtain ⟨q, hq⟩ : ∃ q : Nat, q = tb * m := ⟨_, rfl⟩
    have HQL := Lib.hid (show q + m ≤ L from hq ▸ bank_le tb m L HTB.out HMM.out)
    have em : IntKind.i64.wrap ((tb : Int) * (m : Int)) = (q : Int) := by
      rw [← Int.natCast_mul, ← hq]
      have := HQL.out
      simp [IntKind.wrap, IntKind.bits, IntKind.signed]
      omega
    have ea : IntKind.i64.wrap ((q : Int) + (at_ : Int)) = ((q + at_ : Nat) : Int) := by
      have := HQL.out
      have := HATL.out
      simp [IntKind.wrap, IntKind.bits, IntKind.signed]
      omega
    have ea2 : IntKind.i64.wrap ((at_ : Int) + (n2 : Int)) = ((at_ + n2 : Nat) : Int) := by
      have := HATL.out
      simp [IntKind.wrap, IntKind.bits, IntKind.signed]
      omega
    have HEQ1 := Lib.hid (show ∀ k r2, t1.wr (q + at_) (bkPrint s1 d) = (k, r2) → jAppend s t d = if k = 0 then (0, ⟨tb, ⟨s.nt.seq + 1, d, at_ + (8 + d.length)⟩, true⟩, r2) else (k, s, r2) by
      intro k r2 h
      rw [HEQ0.out]
      unfold jPut
      rw [if_pos rfl, HLL.out, ← HMM.out, ← hq, ← HS1E.out]
      show (if (t1.wr (q + at_) (bkPrint s1 d)).1 = 0 then _ else _) = _
      rw [h])
    obtain ⟨c0', _⟩ := HJ9.out.cells
    clear hq HEQ0
    go_wp2_with fail
    refine (rf_write15 x (.slice Av L cv) t1 (q + at_) _ n2 cp2 (bkPrint s1 d) _ HS9.out (by have := HQL.out; have := HATL.out; omega) HX9.out (by omega) (fun _ b o e => by
      cases e
      have := HG2.out
      exact ⟨by have := HVL.out.1; omega, fun e2 => by have := HVL.out.2 _ e2; omega⟩)).mono ?_
    rintro e w7 ⟨rfl, hst7, hf7⟩
    generalize hwr : t1.wr (q + at_) (bkPrint s1 d) = r2 at *
    obtain ⟨k2, t2⟩ := r2
    have HEQ2 := Lib.hid (HEQ1.out k2 t2 rfl)
    replace HJ9 := Lib.hid (HJ9.out.two hf7)
    replace HS9 := Lib.hid hst7
    replace HF9 := Lib.hid (fr_same HF9.out hf7)
    replace HD9 := Lib.hid (HD9.out.fr hf7 (fun h0 b o e h => by have := HA.out h0 b o e; rcases h with h | h; exact this.2.1 h; exact this.2.2 h))
    clear hst7 hf7 hwr HEQ1 HX9 c0'
    by_cases hk : k2 = 0
    · subst hk
      have HEQ := Lib.hid (show jAppend s t d = (0, ⟨tb, ⟨s.nt.seq + 1, d, at_ + (8 + d.length)⟩, true⟩, t2) by rw [HEQ2.out, if_pos rfl])
      obtain ⟨_, m1, _, _, _, _, mf⟩ := HJ9.out.cells
      clear HEQ2
      go_upto_region 25 with fail
      obtain ⟨hj8, hf8⟩ := HJ9.out.set1 tb
      have HJ8 := Lib.hid hj8
      have HS8 := Lib.hid (HS9.out.fr hf8 (fun h => HJ9.out.ne.1 h.symm) (fun b hb h => HJ9.out.ne.2 (by rw [hb, h])))
      have HD8 := Lib.hid (HD9.out.fr hf8 (fun h0 b o e h => (HA.out h0 b o e).1 h))
      have HF8 := Lib.hid ((HF9.out.mono (G := fun k => k = y ∨ k = x ∨ (Value.slice Av L cv).ownBlock = some k) (fun i _ h => .inr h)).trans hf8 (fun i h => .inl (.inl h)))
      change Code.wp _ _ _ _ (w7.setCell ⟨y, 1, none⟩ (.int .i64 tb))
      generalize w7.setCell ⟨y, 1, none⟩ (.int .i64 tb) = w8 at *
      clear hj8 hf8 m1 mf HJ9 HS9 HF9 HD9
      have hn1 := HDL.out
      have hok := bkOk_iff.1 HOK.out
      have x2 : ∀ w', Below w8.heap.size w8 w' → w'.cell? ⟨y, 2, none⟩ = some (.int .u32 s.nt.seq) := fun w' hb => (HJ8.out.below hb).cells.2.2.1
      have hS0 := below_drew1 w8
      refine wp_region_piv 17 (fun w' => Below w8.heap.size w8 w') (by kernel_rfl) ?_
      change wpAnyP _ _ _ _ _ _ _ _ _ w8.drew
      generalize w8.drew = w80 at *
      change wpAnyP _ _ _ _ 17 _ 18 (Array.replicate 18 false) _ _
      refine wpAnyP_read (i := 0) (oi := ?_) (v := ?_) ?_ (by kernel_rfl) (by kernel_rfl) (by kernel_rfl) (by rfl) (by kernel_rfl) ?_ ?_ (by kernel_rfl) (by assumption) ?_
      rotate_left 2; (simp only [List.getElem?_toArray, List.getElem?_cons_succ, List.getElem?_cons_zero]; rfl)
      rotate_left; (first | (refine .inl ⟨by rfl, ?_⟩; intro w9 hS9; go_simp; try with_reducible rfl) | (refine .inr ⟨by rfl, ?_⟩; with_reducible rfl))
      rotate_left; (intro _ _ _ h9; exact h9)
      try simp only [Act.put, List.setIfInBounds_toArray, List.set_cons_zero, List.set_cons_succ]
      refine wpAnyP_read (i := 1) (oi := ?_) (v := ?_) ?_ (by kernel_rfl) (by kernel_rfl) (by kernel_rfl) (by rfl) (by kernel_rfl) ?_ ?_ (by kernel_rfl) (by assumption) ?_
      rotate_left 2; (simp only [List.getElem?_toArray, List.getElem?_cons_succ, List.getElem?_cons_zero]; rfl)
      rotate_left; (first | (refine .inl ⟨by rfl, ?_⟩; intro w9 hS9; go_simp; try with_reducible rfl) | (refine .inr ⟨by rfl, ?_⟩; with_reducible rfl))
      rotate_left; (intro _ _ _ h9; exact h9)
      try simp only [Act.put, List.setIfInBounds_toArray, List.set_cons_zero, List.set_cons_succ]
      refine wpAnyP_read (i := 2) (oi := ?_) (v := ?_) ?_ (by kernel_rfl) (by kernel_rfl) (by kernel_rfl) (by rfl) (by kernel_rfl) ?_ ?_ (by kernel_rfl) (by assumption) ?_
      rotate_left 2; (simp only [List.getElem?_toArray, List.getElem?_cons_succ, List.getElem?_cons_zero]; rfl)
      rotate_left; (first | (refine .inl ⟨by rfl, ?_⟩; intro w9 hS9; go_simp; try with_reducible rfl) | (refine .inr ⟨by rfl, ?_⟩; with_reducible rfl))
      rotate_left; (intro _ _ _ h9; exact h9)
      try simp only [Act.put, List.setIfInBounds_toArray, List.set_cons_zero, List.set_cons_succ]
      refine wpAnyP_read (i := 3) (oi := ?_) (v := ?_) ?_ (by kernel_rfl) (by kernel_rfl) (by kernel_rfl) (by rfl) (by kernel_rfl) ?_ ?_ (by kernel_rfl) (by assumption) ?_
      rotate_left 2; (simp only [List.getElem?_toArray, List.getElem?_cons_succ, List.getElem?_cons_zero]; rfl)
      rotate_left; (first | (refine .inl ⟨by rfl, ?_⟩; intro w9 hS9; go_simp; try with_reducible rfl) | (refine .inr ⟨by rfl, ?_⟩; with_reducible rfl))
      rotate_left; (intro _ _ _ h9; exact h9)
      try simp only [Act.put, List.setIfInBounds_toArray, List.set_cons_zero, List.set_cons_succ]
      refine wpAnyP_read (i := 4) (oi := ?_) (v := ?_) ?_ (by kernel_rfl) (by kernel_rfl) (by kernel_rfl) (by rfl) (by kernel_rfl) ?_ ?_ (by kernel_rfl) (by assumption) ?_
      rotate_left 2; (simp only [List.getElem?_toArray, List.getElem?_cons_succ, List.getElem?_cons_zero]; rfl)
      rotate_left; (first | (refine .inl ⟨by rfl, ?_⟩; intro w9 hS9; go_simp; try with_reducible rfl) | (refine .inr ⟨by rfl, ?_⟩; with_reducible rfl))
      rotate_left; (intro _ _ _ h9; exact h9)
      try simp only [Act.put, List.setIfInBounds_toArray, List.set_cons_zero, List.set_cons_succ]
      refine wpAnyP_read (i := 5) (oi := ?_) (v := ?_) ?_ (by kernel_rfl) (by kernel_rfl) (by kernel_rfl) (by rfl) (by kernel_rfl) ?_ ?_ (by kernel_rfl) (by assumption) ?_
      rotate_left 2; (simp only [List.getElem?_toArray, List.getElem?_cons_succ, List.getElem?_cons_zero]; rfl)
      rotate_left; (first | (refine .inl ⟨by rfl, ?_⟩; intro w9 hS9; go_simp; try with_reducible rfl) | (refine .inr ⟨by rfl, ?_⟩; with_reducible rfl))
      rotate_left; (intro _ _ _ h9; exact h9)
      try simp only [Act.put, List.setIfInBounds_toArray, List.set_cons_zero, List.set_cons_succ]
      refine wpAnyP_read (i := 6) (oi := ?_) (v := ?_) ?_ (by kernel_rfl) (by kernel_rfl) (by kernel_rfl) (by rfl) (by kernel_rfl) ?_ ?_ (by kernel_rfl) (by assumption) ?_
      rotate_left 2; (simp only [List.getElem?_toArray, List.getElem?_cons_succ, List.getElem?_cons_zero]; rfl)
      rotate_left; (first | (refine .inl ⟨by rfl, ?_⟩; intro w9 hS9; go_simp; try with_reducible rfl) | (refine .inr ⟨by rfl, ?_⟩; with_reducible rfl))
      rotate_left; (intro _ _ _ h9; exact h9)
      try simp only [Act.put, List.setIfInBounds_toArray, List.set_cons_zero, List.set_cons_succ]
      refine wpAnyP_read (i := 8) (oi := ?_) (v := ?_) ?_ (by kernel_rfl) (by kernel_rfl) (by kernel_rfl) (by rfl) (by kernel_rfl) ?_ ?_ (by kernel_rfl) (by assumption) ?_
      rotate_left 2; (simp only [List.getElem?_toArray, List.getElem?_cons_succ, List.getElem?_cons_zero]; rfl)
      rotate_left; (first | (refine .inl ⟨by rfl, ?_⟩; intro w9 hS9; go_simp; try with_reducible rfl) | (refine .inr ⟨by rfl, ?_⟩; with_reducible rfl))
      rotate_left; (intro _ _ _ h9; exact h9)
      try simp only [Act.put, List.setIfInBounds_toArray, List.set_cons_zero, List.set_cons_succ]
      refine wpAnyP_read (i := 10) (oi := ?_) (v := ?_) ?_ (by kernel_rfl) (by kernel_rfl) (by kernel_rfl) (by rfl) (by kernel_rfl) ?_ ?_ (by kernel_rfl) (by assumption) ?_
      rotate_left 2; (simp only [List.getElem?_toArray, List.getElem?_cons_succ, List.getElem?_cons_zero]; rfl)
      rotate_left; (first | (refine .inl ⟨by rfl, ?_⟩; intro w9 hS9; go_simp; try with_reducible rfl) | (refine .inr ⟨by rfl, ?_⟩; with_reducible rfl))
      rotate_left; (intro _ _ _ h9; exact h9)
      try simp only [Act.put, List.setIfInBounds_toArray, List.set_cons_zero, List.set_cons_succ]
      refine wpAnyP_read (i := 11) (oi := ?_) (v := ?_) ?_ (by kernel_rfl) (by kernel_rfl) (by kernel_rfl) (by rfl) (by kernel_rfl) ?_ ?_ (by kernel_rfl) (by assumption) ?_
      rotate_left 2; (simp only [List.getElem?_toArray, List.getElem?_cons_succ, List.getElem?_cons_zero]; rfl)
      rotate_left; (first | (refine .inl ⟨by rfl, ?_⟩; intro w9 hS9; go_simp; try with_reducible rfl) | (refine .inr ⟨by rfl, ?_⟩; with_reducible rfl))
      rotate_left; (intro _ _ _ h9; exact h9)
      try simp only [Act.put, List.setIfInBounds_toArray, List.set_cons_zero, List.set_cons_succ]
      refine wpAnyP_read (i := 12) (oi := ?_) (v := ?_) ?_ (by kernel_rfl) (by kernel_rfl) (by kernel_rfl) (by rfl) (by kernel_rfl) ?_ ?_ (by kernel_rfl) (by assumption) ?_
      rotate_left 2; (simp only [List.getElem?_toArray, List.getElem?_cons_succ, List.getElem?_cons_zero]; rfl)
      rotate_left; (first | (refine .inl ⟨by rfl, ?_⟩; intro w9 hS9; go_simp; try with_reducible rfl) | (refine .inr ⟨by rfl, ?_⟩; with_reducible rfl))
      rotate_left; (intro _ _ _ h9; exact h9)
      try simp only [Act.put, List.setIfInBounds_toArray, List.set_cons_zero, List.set_cons_succ]
      refine wpAnyP_read (i := 13) (oi := ?_) (v := ?_) ?_ (by kernel_rfl) (by kernel_rfl) (by kernel_rfl) (by rfl) (by kernel_rfl) ?_ ?_ (by kernel_rfl) (by assumption) ?_
      rotate_left 2; (simp only [List.getElem?_toArray, List.getElem?_cons_succ, List.getElem?_cons_zero]; rfl)
      rotate_left; (first | (refine .inl ⟨by rfl, ?_⟩; intro w9 hS9; go_simp; try with_reducible rfl) | (refine .inr ⟨by rfl, ?_⟩; with_reducible rfl))
      rotate_left; (intro _ _ _ h9; exact h9)
      try simp only [Act.put, List.setIfInBounds_toArray, List.set_cons_zero, List.set_cons_succ]
      refine wpAnyP_one (i := 7) (by kernel_rfl) rfl (fun K9 hK9 => ?_)
      go_simp
      have hown := by_lit0 w80 w80.heap.size (Nat.le_refl _)
      have hbn := below_new w80 (.cells #[] 5)
      have hS1 := below_step hS0 hbn
      refine hK9.out _ _ (fun _ => hS1) ?_
      have HD81 := Lib.hid (HD8.out.below hS1)
      have HS1S := Lib.hid hS1
      have HSZ := Lib.hid (And.intro hS0.size hbn.size)
      generalize w80.alloc (.cells #[] 5) = w81 at *
      refine wpAnyP_one (i := 9) (by kernel_rfl) rfl (fun K9 hK9 => ?_)
      rw [if_pos (by rfl)]
      refine wp_append_by _ _ rfl w80.heap.size HSZ.out.2 _ [] rfl hown _ _ _ d rfl HD81.out (by simp; omega) ?_
      intro v9 w9 hown9 hb9 hg9 hf9
      rw [List.nil_append] at hown9
      have hS9 := HS1S.out.trans (hb9.mono HSZ.out.1)
      rcases hown9.form with ⟨_, h0⟩ | ⟨g9, cp9, rfl, hg9', hg9b, _, hr9⟩
      · rw [h0] at hok; simp at hok
      rw [hn1] at hr9 ⊢
      refine hK9.out _ _ (fun _ => hS9) ?_
      have HJ0 := Lib.hid (HJ8.out.below hS9)
      have HS0 := Lib.hid (HS8.out.below hS9)
      have HF0 := Lib.hid (fr_new HF8.out hS9)
      have HR9 := Lib.hid hr9
      have HG9 := Lib.hid (show (g9 ≠ y ∧ g9 ≠ x ∧ (Value.slice Av L cv).ownBlock ≠ some g9) ∧ w.heap.size ≤ g9 by
        have h1 := HS8.out.lt
        have h2 := HJ8.out.lt
        have h3 := HSZ.out.1
        have h4 := HF8.out.size
        exact ⟨⟨by omega, by omega, fun e => by have := h1.2 g9 e; omega⟩, by omega⟩)
      obtain ⟨_, _, z2, z3, z4, _, zf⟩ := HJ0.out.cells
      clear hown hown9 hr9 hb9 hg9 hf9 hg9' hg9b hok
      refine wpAnyP_read (i := 14) (oi := ?_) (v := ?_) ?_ (by kernel_rfl) (by kernel_rfl) (by kernel_rfl) (by rfl) (by kernel_rfl) ?_ ?_ (by kernel_rfl) (by assumption) ?_
      rotate_left 2; (simp only [List.getElem?_toArray, List.getElem?_cons_succ, List.getElem?_cons_zero]; rfl)
      rotate_left; (first | (refine .inl ⟨by rfl, ?_⟩; intro w9 hS9; go_simp; try with_reducible rfl) | (refine .inr ⟨by rfl, ?_⟩; with_reducible rfl))
      rotate_left; (intro _ _ _ h9; exact h9)
      try simp only [Act.put, List.setIfInBounds_toArray, List.set_cons_zero, List.set_cons_succ]
      refine wpAnyP_read (i := 15) (oi := ?_) (v := ?_) ?_ (by kernel_rfl) (by kernel_rfl) (by kernel_rfl) (by rfl) (by kernel_rfl) ?_ ?_ (by kernel_rfl) (by assumption) ?_
      rotate_left 2; (simp only [List.getElem?_toArray, List.getElem?_cons_succ, List.getElem?_cons_zero]; rfl)
      rotate_left; (first | (refine .inl ⟨by rfl, ?_⟩; intro w9 hS9; go_simp; try with_reducible rfl) | (refine .inr ⟨by rfl, ?_⟩; with_reducible rfl))
      rotate_left; (intro _ _ _ h9; exact h9)
      try simp only [Act.put, List.setIfInBounds_toArray, List.set_cons_zero, List.set_cons_succ]
      refine wpAnyP_read (i := 16) (oi := ?_) (v := ?_) ?_ (by kernel_rfl) (by kernel_rfl) (by kernel_rfl) (by rfl) (by kernel_rfl) ?_ ?_ (by kernel_rfl) (by assumption) ?_
      rotate_left 2; (simp only [List.getElem?_toArray, List.getElem?_cons_succ, List.getElem?_cons_zero]; rfl)
      rotate_left; (first | (refine .inl ⟨by rfl, ?_⟩; intro w9 hS9; go_simp; try with_reducible rfl) | (refine .inr ⟨by rfl, ?_⟩; with_reducible rfl))
      rotate_left; (intro _ _ _ h9; exact h9)
      try simp only [Act.put, List.setIfInBounds_toArray, List.set_cons_zero, List.set_cons_succ]
      refine wpAnyP_one (i := 17) (by kernel_rfl) rfl (fun K9 hK9 => ?_)
      go_simp
      change K9 _ (w9.setCells y 2 [.int .u32 s1, .slice (some ⟨g9, 0, none⟩) n1 cp9, .int .i64 ((at_ + n2 : Nat) : Int)])
      refine hK9.out _ _ (fun h9 => nomatch (show true = false from h9)) ?_
      refine wpAnyP_done (by kernel_rfl) ?_ _
      have hj9 := HJ0.out.note ⟨s1, d, at_ + n2⟩ g9 cp9 (by show RS w9 _ d.length cp9 d; rw [HDL.out]; exact HR9.out) HG9.out.1 (by show d.length ≤ 40; have := HM.out; omega)
      rw [show (Nt.mk s1 d (at_ + n2)).dat.length = n1 from HDL.out] at hj9
      have hf9 := fr_setCells (F := fun k => k = y) y rfl [.int .u32 s1, .slice (some ⟨g9, 0, none⟩) n1 cp9, .int .i64 ((at_ + n2 : Nat) : Int)] 2 w9
      have HJX := Lib.hid hj9
      have HFX := Lib.hid hf9
      clear hj9 hf9 z2 z3 z4 zf x2 hS0 hS1 hS9
      generalize w9.setCells y 2 _ = wz at *
      obtain ⟨_, _, _, _, _, m5, mf⟩ := HJX.out.cells
      obtain ⟨hjw, hfw⟩ := HJX.out.set5
      have HJW := Lib.hid hjw
      have HFW := Lib.hid (HFX.out.trans hfw (fun i h => .inl h))
      clear hjw hfw
      go_wp2_with fail
      go_ret
      rw [HEQ.out]
      exact ⟨rfl, ⟨_, cp9, by rw [← HS1E.out, HM.out.2.1]; exact HJW.out, .inr (fun b o e => by cases e; exact HG9.out.2)⟩, HS0.out.fr HFW.out (fun h => HJ0.out.ne.1 h.symm) (fun b hb h => HJ0.out.ne.2 (by rw [hb, h])), HF0.out.trans HFW.out (fun i h => .inl (.inl h))⟩
    · have HEQ := Lib.hid (show jAppend s t d = (k2, s, t2) by rw [HEQ2.out, if_neg hk])
      have hrz : ((k2 : Int) == 0) = false := by simp; omega
      clear HEQ2 hk
      go_wp2_with fail
      go_ret
      rw [HEQ.out]
      exact RjAp.same HJ9.out HS9.out HF9.out
end Go.Proofs.YtcppmihambcihaaDoor
/- Deeds that came in; Few. -/
namespace Go.Proofs.YtcppmihambcihaaDoor
open Go.RowKit Go.ChangeShapes Go.WideShapes Go.Deep
set_option linter.unusedVariables false
set_option linter.unusedSimpArgs false
/-- A deed. -/
structure Ac where
  dO : Int
  nn : Int
  b : BR
def acc (a : Ac) : List Value := [.int .i64 a.dO, .int .i64 a.nn, .slice a.b.A a.b.n a.b.c]
theorem acc_len (a : Ac) : (acc a).length = 3 := rfl
/-- What each deed is. -/
structure AcOk (w : World) (a : Ac) : Prop where
  row : RS w a.b.A a.b.n a.b.c a.b.xs
  wd : (Lit.int .i64 a.dO).wf = true
  wn : (Lit.int .i64 a.nn).wf = true
abbrev IsActs (w : World) (A : Option Addr) (n c : Nat) : Prop := IsEP acc (AcOk w) w A n c
section
variable {H : Type} {enc : TypeId × Value → H} {w : World} {base : Nat} {held : Bool}
set_option maxRecDepth 100000 in
theorem trod_act (n : Nat) (cs : List Value) (y : DataW H × List MemPlace) (h : DataW.trod enc Tryd.prog w base (fun _ => true) held n 50 cs = some y) : ∃ a : Ac, cs = acc a ∧ AcOk w a := by
  obtain ⟨xs, m, _, _, hcl, hxl, hf⟩ := DataW.trod_struct Tryd.underlying50 h
  have hc3 : Tryd.prog.cellsOf 50 = 3 := by kernel_rfl
  have hc1 : Tryd.prog.cellsOf 3 = 1 := by kernel_rfl
  have hc2 : Tryd.prog.cellsOf 29 = 1 := by kernel_rfl
  rw [hc3] at hcl
  match cs, hcl, xs, hxl with
  | [c0, c1, c2], _, [y0, y1, y2], _ =>
    have h0 : DataW.trod enc Tryd.prog w base (fun _ => true) held m 3 (([c0, c1, c2].drop 0).take (Tryd.prog.cellsOf 3)) = some y0 := hf 0 _ rfl
    have h1 : DataW.trod enc Tryd.prog w base (fun _ => true) held m 3 (([c0, c1, c2].drop 1).take (Tryd.prog.cellsOf 3)) = some y1 := hf 1 _ rfl
    have h2 : DataW.trod enc Tryd.prog w base (fun _ => true) held m 29 (([c0, c1, c2].drop 2).take (Tryd.prog.cellsOf 29)) = some y2 := hf 2 _ rfl
    rw [hc1] at h0 h1
    rw [hc2] at h2
    obtain ⟨n0, e0, _, w0⟩ := DataW.trod_int Tryd.underlying3 h0
    obtain ⟨n1, e1, _, w1⟩ := DataW.trod_int Tryd.underlying3 h1
    obtain ⟨r, e2, hr⟩ := trod_row _ _ _ h2
    cases e0; cases e1
    have e3 : c2 = .slice r.A r.n r.c := by
      have := e2
      simp [brc] at this
      exact this
    subst e3
    exact ⟨⟨n0, n1, r⟩, rfl, hr, w0, w1⟩
theorem open_acts {A : Option Addr} {len cap fuel : Nat} {x : DataW H × List MemPlace} (h : DataW.trod enc Tryd.prog w base (fun _ => true) held fuel 45 [.slice A len cap] = some x) : IsActs w A len cap :=
  open_esP acc_len (by omega) Tryd.underlying45 (by kernel_rfl) trod_act h
end
structure IsFew (n : Nat) (w : World) (e : Ending) (w' : World) : Prop where
  ex : ∃ bl : Bool, e = .returned (.bool bl) ∧ (bl = true → n ≤ 60)
  same : w = w'
set_option maxHeartbeats 4000000 in
set_option maxRecDepth 100000 in
theorem l_few (A : Option Addr) (n c : Nat) (w : World) (h : IsActs w A n c) :
    Calls Tryd.prog 17 #[.slice A n c] w (IsFew n w) := by
  obtain ⟨xs, _, hl, _, hcap, hmax, hcells⟩ := h
  simp only [maxLen] at hmax
  have HC := Lib.hid hcells
  have HL := Lib.hid hl
  have HB := Lib.hid (show n ≤ 9223372036854775807 by omega)
  clear hcells hl hcap hmax
  go_enter Tryd.func17, Tryd.ntmps17
  go_wp2_with fail
  go_loopw [3, 4] (fun s3 s4 wr => w = wr ∧ ∃ k : Nat, k ≤ n ∧ s4 = .int .i64 k ∧ ∃ z : Int, s3 = .int .i64 z) (fun _ s4 _ => n - (intOf s4).toNat)
  case atStart => exact ⟨rfl, 0, Nat.zero_le _, rfl, _, rfl⟩
  case round =>
    obtain ⟨rfl, k, hk, rfl, z, rfl⟩ := hrel
    by_cases hlt : k < n
    · have hlt' : (k : Int) < n := by omega
      have hkr : k < xs.length := by rw [HL.out]; exact hlt
      obtain ⟨b, off, rfl, hbl, hc⟩ := HC.out (by omega)
      have hg : (xs.flatMap acc)[k * 3 + 2]? = (acc xs[k])[2]? := flat_get acc_len xs k hkr 2 (by omega)
      have q2 : w.cell? ⟨b, off + (k * 3 + 2), none⟩ = some (.slice xs[k].b.A xs[k].b.n xs[k].b.c) := hc _ _ (by rw [hg]; rfl)
      rw [← Nat.add_assoc] at q2
      generalize xs[k] = a at *
      have HK := Lib.hid hlt
      have hk63 : (k : Int) + 1 ≤ 9223372036854775807 := by have := HB.out; omega
      clear hg hc hbl hkr hlt
      go_wp2_with fail
      exact ⟨⟨trivial, k + 1, by have := HK.out; omega, by go_num, _, rfl⟩, by have := HK.out; simp [intOf]; omega⟩
    · obtain rfl : k = n := by omega
      by_cases h60 : k ≤ 60
      · have h60' : (k : Int) ≤ 60 := by omega
        have H60 := Lib.hid h60
        clear hlt hk h60
        by_cases hz : z ≤ 2000
        · go_wp2_with fail
          go_ret
          exact ⟨⟨true, rfl, fun _ => H60.out⟩, rfl⟩
        · go_wp2_with fail
          go_ret
          exact ⟨⟨false, rfl, fun _ => H60.out⟩, rfl⟩
      · have h60' : ¬ (k : Int) ≤ 60 := by omega
        clear hlt hk h60
        go_wp2_with fail
        go_ret
        exact ⟨⟨false, rfl, fun h => by cases h⟩, rfl⟩
end Go.Proofs.YtcppmihambcihaaDoor
/- Two journals side by side: what JournalPlays keeps. -/
namespace Go.Proofs.YtcppmihambcihaaDoor
open Go Go.RowKit Go.Shelf
set_option linter.unusedVariables false
set_option linter.unusedSimpArgs false
theorem rs_ne_jrc {w : World} {A A2 : Option Addr} {n c c2 y x bank : Nat} {xs : List UInt8} {z : Nt} {has : Bool} {t : TypeId} (h : RS w A n c xs) (h0 : 0 < n) (hy : w.heap[y]? = some (.cells (jrc x bank z A2 c2 has) t (0, 0))) : ∀ b o, A = some ⟨b, o, none⟩ → b ≠ y := by
  rintro b o rfl rfl
  obtain ⟨b2, o2, e, hb, hc⟩ := h.rb.cells h0
  cases e
  have h1 := hc 0 h0
  rw [cell_of_row w b (o + 0) _ _ _ hy] at h1
  rcases o with _ | _ | _ | _ | _ | _ | o <;> simp [jrc, bv] at h1
/-- The journal j over g (its bytes gb) and the document's y over x (its bytes in v) have the same; what they own lies apart. -/
structure PJ (w : World) (L j g gb y x : Nat) (v : Value) (s : Jn) (t : Sto) (A0 : Option Addr) (c0 : Nat) (A : Option Addr) (c : Nat) : Prop where
  jr : JrIs w j g gb s.bank s.nt A0 c0 s.has
  st : StOf w g gb t
  rj : RJ w y x v s t A c
  lo : g < L ∧ gb < L ∧ x < L ∧ (∀ b, v.ownBlock = some b → b < L)
  hi : L ≤ j ∧ L ≤ y ∧ j ≠ y
  d0 : ∀ b o, A0 = some ⟨b, o, none⟩ → L ≤ b
  d1 : ∀ b o, A = some ⟨b, o, none⟩ → L ≤ b
  gx : g < x ∧ gb < x ∧ (∀ b, v.ownBlock = some b → x < b)
theorem JrIs.frF {F : Nat → Prop} {w w' : World} {j g gb bank : Nat} {x : Nt} {A : Option Addr} {c : Nat} {has : Bool} (h : JrIs w j g gb bank x A c has) (hf : Fr F w w') (h1 : ¬ F j) (h4 : 0 < x.dat.length → ∀ b o, A = some ⟨b, o, none⟩ → ¬ F b) : JrIs w' j g gb bank x A c has :=
  ⟨(hf.block j h.lt h1).trans h.heap, h.dat.fr hf h4, h.apart, h.few⟩
theorem PJ.below {w w' : World} {L j g gb y x : Nat} {v : Value} {s : Jn} {t : Sto} {A0 A : Option Addr} {c0 c : Nat} (h : PJ w L j g gb y x v s t A0 c0 A c) (hb : Below w.heap.size w w') : PJ w' L j g gb y x v s t A0 c0 A c :=
  ⟨h.jr.below hb, StIs.below h.st hb, h.rj.below hb, h.lo, h.hi, h.d0, h.d1, h.gx⟩
theorem PJ.ji {w : World} {L j g gb y x : Nat} {v : Value} {s : Jn} {t : Sto} {A0 A : Option Addr} {c0 c : Nat} (h : PJ w L j g gb y x v s t A0 c0 A c) : JI w j g gb s t :=
  ⟨⟨A0, c0, h.jr⟩, h.st, h.rj.eq, by have := h.lo; have := h.hi; omega, by have := h.lo; have := h.hi; omega⟩
/-- A step of the journal's own: the document's is as it was. -/
theorem PJ.rjJ {w w' : World} {L j g gb y x : Nat} {v : Value} {s : Jn} {t : Sto} {A0 A : Option Addr} {c0 c : Nat} (h : PJ w L j g gb y x v s t A0 c0 A c) (hf : Fr (fun k => k = j ∨ k = g ∨ k = gb) w w') : RJ w' y x v s t A c := by
  have h1 := h.lo
  have h2 := h.hi
  have h3 := h.gx
  refine h.rj.fr hf (fun e => by rcases e with e | e | e <;> omega) (fun e => by rcases e with e | e | e <;> omega) (fun b hb e => ?_) (fun h0 b o e1 e => ?_)
  · have h4 := h3.2.2 b hb
    have h5 := h1.2.2.2 b hb
    rcases e with e | e | e <;> omega
  · have h4 := h.d1 b o e1
    have h5 := rs_ne_jrc h.rj.dat h0 h.jr.heap b o e1
    rcases e with e | e | e <;> omega
/-- What both Appends leave behind. -/
theorem PJ.both {w w1 w2 w3 : World} {L j g gb y x : Nat} {v : Value} {s s' : Jn} {t t' : Sto} {A0 A A0' A' : Option Addr} {c0 c c0' c' : Nat} (h : PJ w L j g gb y x v s t A0 c0 A c)
    (hj : JrIs w1 j g gb s'.bank s'.nt A0' c0' s'.has) (hs : StOf w1 g gb t') (hA0 : A0' = A0 ∨ ∀ b o, A0' = some ⟨b, o, none⟩ → w.heap.size ≤ b)
    (hb : Below w1.heap.size w1 w2)
    (hr : RJ0 w3 y x v s'.bank s'.nt A' c' s'.has) (hrs : RfIs w3 x v t') (hA : A' = A ∨ ∀ b o, A' = some ⟨b, o, none⟩ → w2.heap.size ≤ b) (hf : Fr (fun k => k = y ∨ k = x ∨ v.ownBlock = some k) w2 w3)
    (hsz : w.heap.size ≤ w1.heap.size) (heq : s' = jOpen t'.xs) (hy1 : w1.heap[y]? = some (.cells (jrc x s.bank s.nt A c s.has) 56 (0, 0))) : PJ w3 L j g gb y x v s' t' A0' c0' A' c' := by
  have h1 := h.lo
  have h2 := h.hi
  have h3 := h.gx
  have hlt : L ≤ w.heap.size := by have := h.rj.lt; omega
  have hjl := h.jr.lt
  have hyl := h.rj.lt
  have hb2 := hb.size
  have hd0 : ∀ b o, A0' = some ⟨b, o, none⟩ → L ≤ b := fun b o e => by
    rcases hA0 with e2 | h4
    · exact h.d0 b o (e2 ▸ e)
    · have := h4 b o e; omega
  have hry : w2.heap[y]? = some (.cells (jrc x s.bank s.nt A c s.has) 56 (0, 0)) := (hb.block y (by omega)).trans hy1
  refine ⟨(hj.below hb).frF hf (fun e => ?_) (fun h0 b o e1 e => ?_), (StIs.below hs hb).fr hf (fun e => ?_) (fun e => ?_), hr.to hrs heq, h1, h2, hd0, fun b o e => ?_, h3⟩
  · rcases e with e | e | e
    · omega
    · omega
    · have := h1.2.2.2 j e; omega
  · have h4 := hd0 b o e1
    have h5 := rs_ne_jrc (hj.dat.below hb) h0 hry b o e1
    rcases e with e | e | e
    · omega
    · omega
    · have := h1.2.2.2 b e; omega
  · rcases e with e | e | e
    · omega
    · omega
    · have := h3.2.2 g e; omega
  · rcases e with e | e | e
    · omega
    · omega
    · have := h3.2.2 gb e; omega
  · rcases hA with e2 | h4
    · exact h.d1 b o (e2 ▸ e)
    · have := h4 b o e; omega
/-- Both stores are turned alike (Kill, Revive). -/
theorem PJ.stores {w w1 w2 : World} {L j g gb y x : Nat} {v : Value} {s : Jn} {t t' : Sto} {A0 A : Option Addr} {c0 c : Nat} (h : PJ w L j g gb y x v s t A0 c0 A c)
    (hs : StOf w1 g gb t') (hf1 : Fr (fun k => k = g) w w1) (hx : RfIs w2 x v t') (hf2 : Fr (fun k => k = x) w1 w2) (ht : t'.xs = t.xs) : PJ w2 L j g gb y x v s t' A0 c0 A c := by
  have h1 := h.lo
  have h2 := h.hi
  have h3 := h.gx
  have hf : Fr (fun k => k = g ∨ k = x) w w2 := (hf1.mono (fun _ _ e => .inl e)).trans hf2 (fun i e => .inl (.inr e))
  refine ⟨h.jr.frF hf (fun e => by rcases e with e | e <;> omega) (fun h0 b o e1 e => ?_), hs.fr hf2 (fun e => by omega) (fun e => by omega), ?_, h1, h2, h.d0, h.d1, h3⟩
  · have := h.d0 b o e1
    rcases e with e | e <;> omega
  · refine ⟨(hf.block y h.rj.lt (fun e => by rcases e with e | e <;> omega)).trans h.rj.heap, h.rj.dat.fr hf (fun h0 b o e1 e => ?_), h.rj.few, h.rj.apart, hx, by rw [ht]; exact h.rj.eq, h.rj.ne⟩
    have := h.d1 b o e1
    rcases e with e | e <;> omega
/-- Two journals that have just been opened. -/
theorem pj_new {w0 w1 w2 : World} {L g gb y x : Nat} {v : Value} {t : Sto} {A0 A : Option Addr} {c0 c : Nat} (hs : StOf w0 g gb t) (lo : g < L ∧ gb < L ∧ x < L ∧ (∀ b, v.ownBlock = some b → b < L)) (gx : g < x ∧ gb < x ∧ (∀ b, v.ownBlock = some b → x < b)) (hL : L ≤ w0.heap.size)
    (hj : JrIs w1 w0.heap.size g gb (jOpen t.xs).bank (jOpen t.xs).nt A0 c0 (jOpen t.xs).has) (hA0 : ∀ b o, A0 = some ⟨b, o, none⟩ → w0.heap.size < b) (hb1 : Below w0.heap.size w0 w1)
    (hr : RJ w2 y x v (jOpen t.xs) t A c) (hb2 : Below w1.heap.size w1 w2) (hy : w1.heap.size ≤ y) (hA : ∀ b o, A = some ⟨b, o, none⟩ → w1.heap.size ≤ b) : PJ w2 L w0.heap.size g gb y x v (jOpen t.xs) t A0 c0 A c := by
  have hjl := hj.lt
  exact ⟨hj.below hb2, StIs.below (StIs.below hs hb1) hb2, hr, lo, ⟨hL, by have := hb1.size; omega, by omega⟩, fun b o e => by have := hA0 b o e; omega, fun b o e => by have := hA b o e; have := hb1.size; omega, gx⟩
theorem IsActs.below {w w' : World} {A : Option Addr} {n c : Nat} (h : IsActs w A n c) (hb : Below w.heap.size w w') : IsActs w' A n c := by
  obtain ⟨xs, hp, hl, hn, hc, hm, hcl⟩ := h
  refine ⟨xs, fun a ha => ⟨(hp a ha).row.below hb, (hp a ha).wd, (hp a ha).wn⟩, hl, hn, hc, hm, fun h0 => ?_⟩
  obtain ⟨b, off, e, hlt, hr⟩ := hcl h0
  exact ⟨b, off, e, Nat.lt_of_lt_of_le hlt hb.size, fun j u hu => (hb.cell (p := ⟨b, off + j, none⟩) hlt).trans (hr j u hu)⟩
end Go.Proofs.YtcppmihambcihaaDoor
