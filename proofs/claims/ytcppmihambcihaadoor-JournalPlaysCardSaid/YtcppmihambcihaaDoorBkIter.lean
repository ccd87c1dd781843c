/- bank.records: the iterator. -/
import Derived.Test.YtcppmihambcihaaDoorBkFirst
import Derived.Test.YtcppmihambcihaaDoorSeqLaw
import Derived.Test.YtcppmihambcihaaDoorFrBy
import Derived.Deep.DeepCutAuto
namespace Go.Proofs.YtcppmihambcihaaDoor
open Go Go.RowKit Go.Shelf
set_option linter.unusedVariables false
set_option linter.unusedSimpArgs false
/-- A record as a value: what it is, and where its data lie. -/
structure NV where
  nt : Nt
  A : Option Addr
  c : Nat
abbrev ntv (x : NV) : Value := .agg #[.int .u32 x.nt.seq, .slice x.A x.nt.dat.length x.c, .int .i64 x.nt.fin]
theorem DatIs.fr {lo : Nat} {w w' : World} {A : Option Addr} {c : Nat} {d : List UInt8} {F : Nat → Prop} (h : DatIs lo w A c d) (hf : Fr F w w') (hF : ∀ b off, A = some ⟨b, off, none⟩ → ¬ F b) : DatIs lo w' A c d := by
  obtain ⟨hr, bl, off, rfl, h1, h2, h3⟩ := h
  exact ⟨hr.fr hf (fun _ b o e => hF b o e), bl, off, rfl, h1, by have := hf.size; omega, fun i => (hf.frozen (p := ⟨bl, i, none⟩) h2 (hF bl off rfl)).trans (h3 i)⟩
/-- What an iteration has. -/
structure ItS (J : Nat → List NV → World → Prop) (W : World) (g : Nat) (K : Nat → Prop) (xs : List UInt8) (wr : World) (pre : List NV) (B : World) (at_ : Nat) : Prop where
  inv : J g pre B
  fr : Fr (fun k => k = g) B wr
  bel : Fr (fun i => K i ∨ W.heap.size ≤ i) W wr
  le : at_ ≤ xs.length
  few : pre.length ≤ at_
structure ItN (g : Nat) (xs : List UInt8) (wr : World) (pre : List NV) (B : World) (at_ s : Nat) (d : List UInt8) (A : Option Addr) (c : Nat) : Prop where
  box : wr.heap[g]? = some (.cells (nta s A d.length c (8 + d.length)) 54 (0, 0))
  dat : DatIs B.heap.size wr A c d
  apart : ∀ b off, A = some ⟨b, off, none⟩ → b ≠ g
  fst : bkFirst (xs.drop at_) = some (s, d)
  all : bkNotes xs = pre.map (·.nt) ++ (⟨s, d, at_ + (8 + d.length)⟩ :: bkAll (some s) (at_ + (8 + d.length)) (xs.drop (at_ + (8 + d.length))))
theorem nt_all {w : World} {g n0 c0 : Nat} {s0 e0 : Int} {A0 : Option Addr} {t : TypeId} (h : w.heap[g]? = some (.cells (nta s0 A0 n0 c0 e0) t (0, 0))) (s : Int) (A : Option Addr) (n c : Nat) (e : Int) : (w.setCells g 0 (nta s A n c e).toList).heap[g]? = some (.cells (nta s A n c e) t (0, 0)) :=
  setCells_heap g t (nta s A n c e).toList 0 w (nta s0 A0 n0 c0 e0).toList h (by simp)
theorem nt_fin {w : World} {g n c : Nat} {s e : Int} {A : Option Addr} {t : TypeId} (h : w.heap[g]? = some (.cells (nta s A n c e) t (0, 0))) (e2 : Int) : (w.setCell ⟨g, 2, none⟩ (.int .i64 e2)).heap[g]? = some (.cells (nta s A n c e2) t (0, 0)) := by
  simp [World.setCell, Array.getElem?_modify, h]
theorem IsFst.any {r : Option (Nat × List UInt8)} {w : World} {e : Ending} {w' : World} (h : IsFst r w e w') : ∃ (s : Nat) (A : Option Addr) (d : List UInt8) (c : Nat) (en : Int) (ok : Bool), e = .returned (.tuple #[.agg (nta s A d.length c en), .bool ok]) ∧ ((r = none ∧ ok = false) ∨ (r = some (s, d) ∧ ok = true ∧ en = 8 + d.length ∧ DatIs w.heap.size w' A c d)) ∧ Below w.heap.size w w' := by
  cases r with
  | none => exact ⟨0, none, [], 0, 0, false, h.1, .inl ⟨rfl, rfl⟩, h.2⟩
  | some p =>
    obtain ⟨s, d⟩ := p
    obtain ⟨A, c, h1, h2, h3⟩ := h
    exact ⟨s, A, d, c, _, true, h1, .inr ⟨rfl, rfl, rfl, h2⟩, h3⟩
set_option maxHeartbeats 4000000 in
set_option maxRecDepth 100000 in
theorem bk_iter (m Bx l : Nat) (K : Nat → Prop) (A : Option Addr) (n c : Nat) (xs : List UInt8) (J : Nat → List NV → World → Prop) (W : World)
    (hcell : W.cell? ⟨Bx, 0, none⟩ = some (.slice A n c)) (hBx : ¬ K Bx) (hrs : RS W A n c xs) (hab : 0 < n → ∀ b off, A = some ⟨b, off, none⟩ → ¬ K b) (hn : n ≤ 1000000)
    (h0 : ∀ g, W.heap.size ≤ g → J g [] W)
    (hY : ∀ g pre x B W1, J g pre B → W.heap.size ≤ g → g < W1.heap.size → Fr (fun k => k = g) B W1 → DatIs B.heap.size W1 x.A x.c x.nt.dat → (∀ b off, x.A = some ⟨b, off, none⟩ → b ≠ g) → x.nt.dat.length ≤ 40 → pre.length ≤ 1000000 →
      YieldAt Fence.wide m Tryd.prog l #[ntv x] W1 (fun e W' => e = .returned (.bool true) ∧ (J g (pre ++ [x]) W' ∧ Fr (fun i => K i ∨ W.heap.size ≤ i) W1 W' ∧ W'.heap[g]? = W1.heap[g]?))) :
    Calls Tryd.prog 61 #[.func (.yield l) #[] #[], .pointer (some ⟨Bx, 0, none⟩)] W fun e W' => (∃ v, e = .returned v) ∧ ∃ g B ys, ys.map (·.nt) = bkNotes xs ∧ J g ys B ∧ Fr (fun k => k = g) B W' ∧ W.heap.size ≤ g := by
  have HY := Lib.hid hY
  have H0 := Lib.hid h0
  have HRS := Lib.hid hrs
  have HN := Lib.hid hn
  have HBW := Lib.hid (World.block_lt_of_cell? W ⟨Bx, 0, none⟩ hcell)
  have HBX := Lib.hid hBx
  have HAB := Lib.hid hab
  clear hY h0 hrs hn hBx hab
  go_enter Tryd.func61, Tryd.ntmps61
  go_wp2_with fail
  refine (bk_first A n c xs _ HRS.out (by have := HN.out; omega)).mono ?_
  rintro e w1 hq
  obtain ⟨s1, A1, d1, c1, en1, ok1, rfl, hok1, hb1⟩ := IsFst.any hq
  have HK1 := Lib.hid hok1
  have HB1 := Lib.hid hb1
  have HG := Lib.hid (heap_alloc_new w1 (.cells (nta s1 A1 d1.length c1 en1) 54))
  have HBA := Lib.hid (below_new w1 (.cells (nta s1 A1 d1.length c1 en1) 54))
  clear hq hok1 hb1
  have HD1 := Lib.hid (show ∀ A c d, DatIs W.heap.size w1 A c d → DatIs W.heap.size (w1.alloc (.cells (nta s1 A1 d1.length c1 en1) 54)) A c d ∧ ∀ b off, A = some ⟨b, off, none⟩ → b ≠ w1.heap.size from fun A c d h => ⟨h.fr (Fr.ofBelow HBA.out (fun _ => False)) (fun _ _ _ h => h), fun b off e => by obtain ⟨_, bl, o, e2, _, h2, _⟩ := h; rw [e2] at e; cases e; omega⟩)
  go_wp2_with fail
  change Code.wp _ _ _ _ (w1.alloc (.cells (nta s1 A1 d1.length c1 en1) 54))
  generalize w1.alloc (.cells (nta s1 A1 d1.length c1 en1) 54) = w2 at *
  have HGL := Lib.hid HB1.out.size
  generalize w1.heap.size = g at *
  go_loopw [3, 5] (fun s3 s5 wr => ∃ (pre : List NV) (B : World) (k : Nat), s3 = .int .i64 (k : Int) ∧ ItS J W g K xs wr pre B k ∧ ((s5 = .bool true ∧ ∃ s d A' c', ItN g xs wr pre B k s d A' c') ∨ (s5 = .bool false ∧ bkNotes xs = pre.map (·.nt)))) (fun s3 _ _ => n - (intOf s3).toNat)
  case atStart =>
    have hb := HB1.out.trans (HBA.out.mono HGL.out)
    refine ⟨[], W, 0, rfl, ⟨H0.out g HGL.out, Fr.ofBelow hb _, Fr.ofBelow hb _, Nat.zero_le _, Nat.le_refl _⟩, ?_⟩
    rcases HK1.out with ⟨hf, rfl⟩ | ⟨hf, rfl, rfl, hd⟩
    · exact .inr ⟨rfl, by rw [bkNotes, bkAll_none hf]; rfl⟩
    · obtain ⟨h1, h2⟩ := HD1.out _ _ _ hd
      exact .inl ⟨rfl, s1, d1, A1, c1, HG.out, h1, h2, by rw [List.drop_zero]; exact hf, by rw [bkNotes, bkAll_yes hf rfl]; simp⟩
  case round =>
    obtain ⟨pre, B, k, rfl, hs, hcase⟩ := hrel
    rcases hcase with ⟨rfl, s, d, A', c', hn⟩ | ⟨rfl, hdone⟩
    · have hl := bkFirst_len hn.fst
      rw [List.length_drop] at hl
      have hk := hs.le
      have hxl := HRS.out.len
      have hn1 := HN.out
      have HL := Lib.hid (show k + (8 + d.length) ≤ xs.length ∧ 1 ≤ d.length ∧ d.length ≤ 40 ∧ s < 4294967296 by omega)
      have ew : IntKind.i64.wrap ((k : Int) + (8 + (d.length : Int))) = ((k + (8 + d.length) : Nat) : Int) := by simp [IntKind.wrap, IntKind.bits, IntKind.signed]; omega
      have HS := Lib.hid hs
      have HNN := Lib.hid hn
      have hbx := hn.box
      have g0 : wr.cell? ⟨g, 0, none⟩ = some (.int .u32 s) := by simp [World.cell?, hbx]
      have g1 : wr.cell? ⟨g, 1, none⟩ = some (.slice A' d.length c') := by simp [World.cell?, hbx]
      have g2 : wr.cell? ⟨g, 2, none⟩ = some (.int .i64 (8 + (d.length : Int))) := by simp [World.cell?, hbx]
      have gf : ∀ i, wr.frozen? ⟨g, i, none⟩ = false := fun i => by simp [World.frozen?, hbx]
      clear hl hk hxl hn1 hs hn hbx
      have HY5 := HY.out g pre ⟨⟨s, d, k + (8 + d.length)⟩, A', c'⟩ B (wr.setCell ⟨g, 2, none⟩ (.int .i64 ((k : Int) + (8 + (d.length : Int))))) HS.out.inv HGL.out (Array.getElem?_eq_some_iff.mp (nt_fin HNN.out.box _)).1 (fr_same HS.out.fr (fr_setCell _ _ rfl)) (HNN.out.dat.fr (fr_setCell (F := fun i => i = g) _ _ rfl) (fun b off e => HNN.out.apart b off e)) HNN.out.apart HL.out.2.2.1 (by have := HS.out.few; have := HS.out.le; have := HRS.out.len; have := HN.out; omega)
      have HG5 := Lib.hid (show (wr.setCell ⟨g, 2, none⟩ (.int .i64 ((k : Int) + (8 + (d.length : Int))))).heap[g]? = some (.cells (nta s A' d.length c' ((k : Int) + (8 + (d.length : Int)))) 54 (0, 0)) from nt_fin HNN.out.box _)
      obtain ⟨fn5, tmps5, assign5, body5, hy5, hR5⟩ := HY5
      dsimp only [ntv] at hy5
      rw [show ((k + (8 + d.length) : Nat) : Int) = (k : Int) + (8 + (d.length : Int)) by omega] at hy5
      have HY5 := Lib.hid hy5
      have HR5 := Lib.hid hR5
      have HB5 := Lib.hid (show Fr (fun i => K i ∨ W.heap.size ≤ i) W (wr.setCell ⟨g, 2, none⟩ (.int .i64 ((k : Int) + (8 + (d.length : Int))))) from fr_same HS.out.bel (fr_setCell _ _ (.inr HGL.out)))
      clear hy5 hR5
      go_upto_region 5 with fail
      generalize wr.setCell ⟨g, 2, none⟩ (.int .i64 ((k : Int) + (8 + (d.length : Int)))) = W1 at *
      clear g0 g1 g2 gf
      have hb5 := HG5.out
      have g0 : W1.cell? ⟨g, 0, none⟩ = some (.int .u32 s) := by simp [World.cell?, hb5]
      have g1 : W1.cell? ⟨g, 1, none⟩ = some (.slice A' d.length c') := by simp [World.cell?, hb5]
      have g2 : W1.cell? ⟨g, 2, none⟩ = some (.int .i64 ((k : Int) + (8 + (d.length : Int)))) := by simp [World.cell?, hb5]
      clear hb5
      have hy5 := HY5.out
      refine (wpIn_wide (n := m + 1)).1 ?_
      gi_wp2
      refine HR5.out.mono ?_
      rintro e W3 ⟨rfl, hJ3, hb3, hg3⟩
      have HJ3 := Lib.hid hJ3
      have HB3 := Lib.hid (fr_same HB5.out hb3)
      have HG3 := Lib.hid (hg3.trans HG5.out)
      clear hJ3 hb3 hg3 g0 g1 g2 hy5
      gi_wp2
      have hb5 := HG3.out
      have g0 : W3.cell? ⟨g, 0, none⟩ = some (.int .u32 s) := by simp [World.cell?, hb5]
      have g1 : W3.cell? ⟨g, 1, none⟩ = some (.slice A' d.length c') := by simp [World.cell?, hb5]
      have g2 : W3.cell? ⟨g, 2, none⟩ = some (.int .i64 ((k : Int) + (8 + (d.length : Int)))) := by simp [World.cell?, hb5]
      have hbox : W3.cell? ⟨Bx, 0, none⟩ = some (.slice A n c) := (HB3.out.cell (p := ⟨Bx, 0, none⟩) HBW.out (fun e => e.elim HBX.out (fun e => by have := HBW.out; exact absurd e (by show ¬ W.heap.size ≤ Bx; exact Nat.not_le.2 this)))).trans hcell
      have HR3 := Lib.hid (HRS.out.fr HB3.out (fun h0 b off e => by obtain ⟨b', o', e2, hlt, _⟩ := HRS.out.rb.cells h0; have e3 := e; rw [e2] at e3; cases e3; exact fun e4 => e4.elim (HAB.out h0 _ _ e) (fun e5 => absurd e5 (by omega))))
      have hxl := HRS.out.len
      have hkn := HL.out.1
      have hs4 := fun w' => by_slice_l w' A n c (k + (8 + d.length)) (by omega) ((k : Int) + (8 + (d.length : Int))) (by omega)
      have HRD := Lib.hid (HR3.out.sub (k + (8 + d.length)) (by omega))
      clear hb5 hkn hxl
      go_wp2_with fail
      refine (bk_first _ _ _ _ _ HRD.out (by have := HN.out; omega)).mono ?_
      rintro e w4 hq
      obtain ⟨s2, A2, d2, c2, en2, ok2, rfl, hok2, hb4⟩ := IsFst.any hq
      have HK2 := Lib.hid hok2
      have HGB := Lib.hid (Array.getElem?_eq_some_iff.mp HG3.out).1
      have hb5 := (hb4.block _ HGB.out).trans HG3.out
      have HF4 := Lib.hid (Fr.ofBelow hb4 (fun i => i = g))
      have HB4 := Lib.hid hb4
      clear hq hok2 hb4 g0 g1 g2 hs4 hbox
      have g0 : w4.cell? ⟨g, 0, none⟩ = some (.int .u32 s) := by simp [World.cell?, hb5]
      have g1 : w4.cell? ⟨g, 1, none⟩ = some (.slice A' d.length c') := by simp [World.cell?, hb5]
      have g2 : w4.cell? ⟨g, 2, none⟩ = some (.int .i64 ((k : Int) + (8 + (d.length : Int)))) := by simp [World.cell?, hb5]
      have gf : ∀ i, w4.frozen? ⟨g, i, none⟩ = false := fun i => by simp [World.frozen?, hb5]
      have HGX := Lib.hid (nt_all hb5 s2 A2 d2.length c2 en2)
      have HFX := Lib.hid (fr_setCells (F := fun i => i = g) g rfl (nta s2 A2 d2.length c2 en2).toList 0 w4)
      clear hb5
      go_upto_region 8 with fail
      change Code.wp _ _ _ _ (w4.setCells g 0 (nta s2 A2 d2.length c2 en2).toList)
      generalize w4.setCells g 0 _ = w5 at *
      clear g0 g1 g2 gf
      have hb5 := HGX.out
      have g0 : w5.cell? ⟨g, 0, none⟩ = some (.int .u32 s2) := by simp [World.cell?, hb5]
      clear hb5
      have HSN := Lib.hid (show Fr (fun i => i = g) W3 w5 from fr_same HF4.out HFX.out)
      have HIT := Lib.hid (show ItS J W g K xs w5 (pre ++ [⟨⟨s, d, k + (8 + d.length)⟩, A', c'⟩]) W3 (k + (8 + d.length)) from
        ⟨HJ3.out, HSN.out, fr_same HB3.out (HSN.out.mono (fun i _ e => .inr (e ▸ HGL.out))), HL.out.1, by have := HS.out.few; rw [List.length_append]; simp; omega⟩)
      have HMS := Lib.hid HL.out.1
      have hs32 := HL.out.2.2.2
      rcases HK2.out with ⟨hf2, rfl⟩ | ⟨hf2, rfl, rfl, hd2⟩
      · go_wp2_with fail
        go_roundw
        case measure => have := HMS.out; have := HRS.out.len; have := HL.out.2.1; simp [intOf]; omega
        exact ⟨_, W3, k + (8 + d.length), by simp, HIT.out, .inr ⟨rfl, by rw [HNN.out.all, bkAll_none hf2]; simp⟩⟩
      by_cases hlast : s = 4294967295
      · have e1 : ((s : Int) != 4294967295) = false := by simp [hlast]
        have hl2 := bkFirst_len hf2
        have hnx : bkNext (some s) s2 = false := by simp [bkNext]; omega
        go_wp2_with fail
        go_roundw
        case measure => have := HMS.out; have := HRS.out.len; have := HL.out.2.1; simp [intOf]; omega
        exact ⟨_, W3, k + (8 + d.length), by simp, HIT.out, .inr ⟨rfl, by rw [HNN.out.all, bkAll_no hf2 hnx]; simp⟩⟩
      have e1 : ((s : Int) != 4294967295) = true := by simp; omega
      have ew2 : IntKind.u32.wrap ((s : Int) + 1) = (s : Int) + 1 := by simp [IntKind.wrap, IntKind.bits, IntKind.signed]; omega
      by_cases heq : s2 = s + 1
      · have e2 : ((s2 : Int) == (s : Int) + 1) = true := by simp; omega
        have hnx : bkNext (some s) s2 = true := by simp [bkNext, heq]
        have HD2 := Lib.hid hd2
        have HF2 := Lib.hid hf2
        have HNX := Lib.hid hnx
        clear hd2 hf2 hnx heq
        go_wp2_with fail
        go_roundw
        case measure => have := HMS.out; have := HRS.out.len; have := HL.out.2.1; simp [intOf]; omega
        refine ⟨_, W3, k + (8 + d.length), by simp, HIT.out, .inl ⟨rfl, s2, d2, A2, c2, HGX.out, ?_, ?_, HF2.out, ?_⟩⟩
        · exact HD2.out.fr HFX.out (fun b off e => by obtain ⟨_, bl, o, e2, h1, _⟩ := HD2.out; rw [e2] at e; cases e; have := HGB.out; omega)
        · exact fun b off e => by obtain ⟨_, bl, o, e2, h1, _⟩ := HD2.out; rw [e2] at e; cases e; have := HGB.out; omega
        · rw [HNN.out.all, bkAll_yes HF2.out HNX.out, List.drop_drop]; simp
      · have e2 : ((s2 : Int) == (s : Int) + 1) = false := by simp; omega
        have hnx : bkNext (some s) s2 = false := by simp [bkNext]; omega
        go_wp2_with fail
        go_roundw
        case measure => have := HMS.out; have := HRS.out.len; have := HL.out.2.1; simp [intOf]; omega
        exact ⟨_, W3, k + (8 + d.length), by simp, HIT.out, .inr ⟨rfl, by rw [HNN.out.all, bkAll_no hf2 hnx]; simp⟩⟩
    · have HS := Lib.hid hs
      have HDN := Lib.hid hdone
      clear hs hdone
      go_wp2_with fail
      go_end0
      exact ⟨⟨_, rfl⟩, g, B, pre, HDN.out.symm, HS.out.inv, HS.out.fr, HGL.out⟩
end Go.Proofs.YtcppmihambcihaaDoor
