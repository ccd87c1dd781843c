/- Crossings of one kind: crossbucklaw08.Crossing; a crossing in a block. -/
import Derived.Test.YteeocmkaecoeiaaDoorCfgCheck
namespace Go.Proofs.YteeocmkaecoeiaaDoor
open Go.RowKit
set_option linter.unusedVariables false
set_option linter.unusedSimpArgs false

/-! ### Crossings of one kind -/
def stdLn : Ln := ⟨1000, 500, 10, 20, 40⟩
def tmAll (t : Int) : Tm := ⟨t, t, t, t, t, t, t, t, t, t⟩
def IsCf (n : Nat) (t : Int) (w : World) (e : Ending) (w' : World) : Prop := ∃ A c, e = .returned (cfv A n c (tmAll t)) ∧ RLn w' A n c (List.replicate n stdLn) ∧ Below w.heap.size w w'
structure CfAt (w : World) (r g k : Nat) (t : Int) (v : Value) : Prop where
  res : w.heap[r]? = some (.cells (cfa none 0 0 (tmAll 0)) 26 (0, 0))
  loc : ∃ A c, v = .slice A k c ∧ w.heap[g]? = some (.cells (cfa A k c (tmAll t)) 26 (0, 0))
  own : OwnLn w v (List.replicate k stdLn)
  apart : v.ownBlock ≠ some g ∧ v.ownBlock ≠ some r
theorem cf_step {w0 w1 wr wc : World} {r g k c : Nat} {A : Option Addr} {t : Int} (hb : Below wr.heap.size wr w1) (hg : w1.grownBy wc (Value.slice A k c).ownBlock) (hap : (Value.slice A k c).ownBlock ≠ some g ∧ (Value.slice A k c).ownBlock ≠ some r) (hloc : wr.heap[g]? = some (.cells (cfa A k c (tmAll t)) 26 (0, 0))) (hres : wr.heap[r]? = some (.cells (cfa none 0 0 (tmAll 0)) 26 (0, 0))) :
    wc.heap[g]? = some (.cells (cfa A k c (tmAll t)) 26 (0, 0)) ∧ wc.heap[r]? = some (.cells (cfa none 0 0 (tmAll 0)) 26 (0, 0)) := by
  have hgl := (Array.getElem?_eq_some_iff.mp hloc).1
  have hrl := (Array.getElem?_eq_some_iff.mp hres).1
  exact ⟨(hg.block g (Nat.lt_of_lt_of_le hgl hb.size) (fun e => hap.1 e.symm)).trans ((hb.block g hgl).trans hloc), (hg.block r (Nat.lt_of_lt_of_le hrl hb.size) (fun e => hap.2 e.symm)).trans ((hb.block r hrl).trans hres)⟩
theorem cf_far {w1 : World} {A A1 : Option Addr} {k k1 c c1 : Nat} (h : ∀ g, (Value.slice A1 k1 c1).ownBlock = some g → (Value.slice A k c).ownBlock = some g ∨ w1.heap.size ≤ g) : ∀ g, (Value.slice A1 k1 c1).ownBlock = some g → (Value.slice A k c).ownBlock = some g ∨ w1.heap.size ≤ g := h
theorem ln_re_new (w : World) (x : Ln) : RLn (w.alloc (.cells #[.int .i64 x.strike, .int .i64 x.signal, .int .i64 x.s0, .int .i64 x.s1, .int .i64 x.s2] 48)) (some ⟨w.heap.size, 0, none⟩) 1 1 [x] := re_lit (f := lnc) (e := 48) lnc_len w [x] (by simp)
theorem cf_cell_all {w : World} {g k c : Nat} {A : Option Addr} {t : Tm} (h : w.heap[g]? = some (.cells (cfa A k c t) 26 (0, 0))) :
    w.cell? ⟨g, 0, none⟩ = some (.slice A k c) ∧ w.cell? ⟨g, 1, none⟩ = some (.int .i64 t.t0) ∧ w.cell? ⟨g, 2, none⟩ = some (.int .i64 t.t1) ∧ w.cell? ⟨g, 3, none⟩ = some (.int .i64 t.t2) ∧ w.cell? ⟨g, 4, none⟩ = some (.int .i64 t.t3) ∧ w.cell? ⟨g, 5, none⟩ = some (.int .i64 t.t4) ∧ w.cell? ⟨g, 6, none⟩ = some (.int .i64 t.t5) ∧ w.cell? ⟨g, 7, none⟩ = some (.int .i64 t.t6) ∧ w.cell? ⟨g, 8, none⟩ = some (.int .i64 t.t7) ∧ w.cell? ⟨g, 9, none⟩ = some (.int .i64 t.t8) ∧ w.cell? ⟨g, 10, none⟩ = some (.int .i64 t.t9) ∧ ∀ i, w.frozen? ⟨g, i, none⟩ = false := by
  refine ⟨?_, ?_, ?_, ?_, ?_, ?_, ?_, ?_, ?_, ?_, ?_, fun i => ?_⟩ <;> simp [World.cell?, World.frozen?, h]
set_option maxHeartbeats 4000000 in
set_option maxRecDepth 100000 in
theorem l_crossing (n : Nat) (t : Int) (w : World) (hn : n ≤ 100) : Calls Tryd.prog 18 #[.int .i64 n, .int .i64 t] w (IsCf n t w) := by
  have hat := heap_alloc2_new w (.cells (cfa none 0 0 (tmAll 0)) 26) (.cells (cfa none 0 0 (tmAll t)) 26)
  have hat2 := heap_alloc2_old w (.cells (cfa none 0 0 (tmAll 0)) 26) (.cells (cfa none 0 0 (tmAll t)) 26)
  have HA := Lib.hid hat
  have HA2 := Lib.hid hat2
  have HBW := Lib.hid ((below_st w (.cells (cfa none 0 0 (tmAll 0)) 26)).alloc (Nat.le_of_lt (by simp)) (.cells (cfa none 0 0 (tmAll t)) 26))
  clear hat hat2
  go_enter Tryd.func18, Tryd.ntmps18
  go_wp2_with fail
  go_loopw [6] (fun s6 wr => ∃ (k : Nat) (v : Value), k ≤ n ∧ s6 = .int .i64 k ∧ CfAt wr w.heap.size (w.heap.size + 1) k t v ∧ (∀ g, v.ownBlock = some g → w.heap.size ≤ g) ∧ Below w.heap.size w wr ∧ w.heap.size + 2 ≤ wr.heap.size) (fun s6 _ => n - (intOf s6).toNat)
  case atStart => exact ⟨0, .slice none 0 0, Nat.zero_le _, rfl, ⟨HA2.out, ⟨none, 0, rfl, HA.out⟩, OwnE.nil _ _, (fun h => by cases h), (fun h => by cases h)⟩, (fun g h => by cases h), HBW.out, by simp⟩
  case round =>
    obtain ⟨k, v, hk, rfl, ⟨hres, ⟨A, c, rfl, hloc⟩, hown, hap⟩, hfo, hbr, hsz⟩ := hrel
    have HFO := Lib.hid hfo
    clear hfo
    have HBR := Lib.hid hbr
    have HOW := Lib.hid hown
    have HAP := Lib.hid hap
    have HRES := Lib.hid hres
    have HLOC := Lib.hid hloc
    have HSZ := Lib.hid hsz
    have z0 : wr.cell? ⟨w.heap.size + 1, 0, none⟩ = some (.slice A k c) := by simp [World.cell?, hloc]
    clear hbr hown hap hsz
    by_cases hlt : k < n
    · have hlt' : (k : Int) < n := by omega
      have HN := Lib.hid (ln_re_new wr stdLn)
      have HNB := Lib.hid (below_st wr (.cells #[.int .i64 1000, .int .i64 500, .int .i64 10, .int .i64 20, .int .i64 40] 48))
      have HOW2 := Lib.hid (HOW.out.fr (Fr.ofBelow HNB.out (fun _ => False)) (fun _ _ h => h))
      clear hres hloc
      go_wp2_with (at_builtin; go_must (refine wpList_append_fr lnT lnc_len lnc_one rfl _ _ rfl _ (List.replicate k stdLn) rfl HOW2.out _ _ _ [stdLn] rfl HN.out (by simp; omega) (by simp; omega) ?_); intro v' wc hown1 hg1 hf1; go_must (obtain ⟨A1, c1, rfl, hre1, _, _⟩ := hown1.re (by simp; omega); have hst := cf_step (w0 := w) HNB.out hg1 HAP.out HLOC.out HRES.out; have z1 : wc.cell? ⟨w.heap.size + 1, 0, none⟩ = some (.slice A k c) := (by simp [World.cell?, hst.1]); have z2 : wc.frozen? ⟨w.heap.size + 1, 0, none⟩ = false := (by simp [World.frozen?, hst.1]); have HF1 := Lib.hid (cf_far (A := A) (k := k) (c := c) hf1); have HOWN := Lib.hid hown1; have HST := Lib.hid hst; have HG2 := Lib.hid (show World.grownBy _ wc (Value.slice A k c).ownBlock from hg1); clear hown1 hf1 hg1 hst hre1))
      have hlen : (List.replicate k stdLn ++ [stdLn]) = List.replicate (k + 1) stdLn := by rw [List.replicate_succ']
      have HOWN2 : OwnLn wc (.slice A1 (k + 1) c1) (List.replicate (k + 1) stdLn) := by
        have := HOWN.out
        rw [hlen] at this
        simpa using this
      have hapt : (Value.slice A1 (k + 1) c1).ownBlock ≠ some (w.heap.size + 1) ∧ (Value.slice A1 (k + 1) c1).ownBlock ≠ some w.heap.size := by
        have hs := HSZ.out
        refine ⟨fun e => ?_, fun e => ?_⟩
        · rcases HF1.out _ (by simpa [Value.ownBlock] using e) with h | h
          · exact HAP.out.1 h
          · simp at h; omega
        · rcases HF1.out _ (by simpa [Value.ownBlock] using e) with h | h
          · exact HAP.out.2 h
          · simp at h; omega
      have hfn : ∀ g, (Value.slice A1 (k + 1) c1).ownBlock = some g → w.heap.size ≤ g := fun g hg => by
        rcases HF1.out g (by simpa [Value.ownBlock] using hg) with h | h
        · exact HFO.out g h
        · have := HBR.out.size; simp at h; omega
      refine ⟨⟨k + 1, .slice A1 (k + 1) c1, by omega, by go_num, ⟨?_, ⟨A1, c1, rfl, ?_⟩, HOWN2.fr (fr_setCell (F := fun i => i = w.heap.size + 1) _ _ rfl) (fun g hg e => hapt.1 (by rw [hg, e])), hapt⟩, hfn, ?_, ?_⟩, by simp [intOf]; omega⟩
      · rw [show (wc.setCell ⟨w.heap.size + 1, 0, none⟩ (.slice A1 (k + 1) c1)).heap[w.heap.size]? = wc.heap[w.heap.size]? from (fr_setCell (F := fun i => i = w.heap.size + 1) (w := wc) ⟨w.heap.size + 1, 0, none⟩ _ rfl).block _ (Array.getElem?_eq_some_iff.mp HST.out.2).1 (by omega)]
        exact HST.out.2
      · simp [World.setCell, Array.getElem?_modify, HST.out.1]
      · exact ((below_go HBR.out HNB.out).grown HG2.out (below_go HBR.out HNB.out).size HFO.out).setCell (Nat.le_succ _) _
      · have := HG2.out.size
        have h2 := HSZ.out
        simp at this ⊢
        omega
    · obtain rfl : k = n := by omega
      obtain ⟨c0, c1, c2, c3, c4, c5, c6, c7, c8, c9, c10, cz⟩ := cf_cell_all hloc
      obtain ⟨d0, d1, d2, d3, d4, d5, d6, d7, d8, d9, d10, dz⟩ := cf_cell_all hres
      have HX := Lib.hid (setCells_heap w.heap.size 26 (cfa A k c (tmAll t)).toList 0 wr (cfa none 0 0 (tmAll 0)).toList hres (by simp))
      clear hloc hres cz z0
      go_wp2_with fail
      change bodyPost _ _ _ _ _ (wr.setCells w.heap.size 0 (cfa A k c (tmAll t)).toList)
      have hfr := fr_setCells (F := fun i => i = w.heap.size) w.heap.size rfl (cfa A k c (tmAll t)).toList 0 wr
      have hres2 : (wr.setCells w.heap.size 0 (cfa A k c (tmAll t)).toList).heap[w.heap.size]? = some (.cells (cfa A k c (tmAll t)) 26 (0, 0)) := HX.out
      generalize wr.setCells w.heap.size 0 _ = wz at *
      refine bodyPost_ret (results_cell_row rfl _ _ w.heap.size _ _ _ _ rfl hres2 Tryd.underlying26 rfl (by kernel_rfl)) rfl ?_
      obtain ⟨A2, c2, e, hre, _⟩ := HOW.out.re (by simp; omega)
      rw [List.length_replicate] at e hre
      cases e
      exact ⟨A, c, rfl, hre.fr hfr (fun _ b o e hb => HAP.out.2 (by rw [e]; exact congrArg some hb)), HBR.out.trans (hfr.below w.heap.size HBR.out.size (fun i e => by omega))⟩
theorem blk_below {w w1 : World} {g : Nat} {o : Obj} (h : w.heap[g]? = some o) (hb : Below w.heap.size w w1) : w1.heap[g]? = some o := (hb.block g (Array.getElem?_eq_some_iff.mp h).1).trans h
abbrev CfBox (w : World) (g : Nat) (A : Option Addr) (n c : Nat) (t : Tm) : Prop := w.heap[g]? = some (.cells (cfa A n c t) 26 (0, 0))
theorem CfBox.below {w w1 : World} {g : Nat} {A : Option Addr} {n c : Nat} {t : Tm} (h : CfBox w g A n c t) (hb : Below w.heap.size w w1) : CfBox w1 g A n c t := (hb.block g (Array.getElem?_eq_some_iff.mp h).1).trans h
theorem ErrIs.isNil {w : World} {v : Value} (h : ErrIs w v 0) : v = .nilIface := by
  rcases h with ⟨_, h⟩ | ⟨h, _⟩
  · exact h
  · exact absurd h (by decide)
theorem ErrIs.isErr {w : World} {v : Value} {c : Int} (h : ErrIs w v c) (hc : (c == 0) = false) : ∃ t u, v = .iface t u := by
  rcases h with ⟨rfl, _⟩ | ⟨_, d, hd⟩
  · exact absurd hc (by decide)
  · exact hd.iface
theorem cfOk_ln (ls : List Ln) (t : Tm) (h : cfOk ls t = true) (x : Ln) (hx : x ∈ ls) : lnOk x = true := by
  unfold cfOk at h
  simp at h
  exact h.2 x hx
theorem cfOk_tm (ls : List Ln) (t : Tm) (h : cfOk ls t = true) (k : Nat) (hk : k < 10) : 1 ≤ t.get k ∧ t.get k ≤ 6000 := by
  unfold cfOk tmTo btw at h
  simp at h
  exact h.1.2 k hk
theorem cfOk_len (ls : List Ln) (t : Tm) (h : cfOk ls t = true) : 1 ≤ ls.length ∧ ls.length ≤ 8 := by
  unfold cfOk btw at h
  simp at h
  omega
theorem cfErr_ok {ls : List Ln} {t : Tm} (h : cfOk ls t = true) : cfErr ls t = 0 := if_pos h
theorem cfErr_no {ls : List Ln} {t : Tm} (h : ¬ cfOk ls t = true) : cfErr ls t = 6 := if_neg h
def lnSp (x : Ln) (j : Nat) : Int := match j with | 0 => x.s0 | 1 => x.s1 | _ => x.s2
/-- A crossing's cells, as later worlds have them. -/
theorem cf_fun {w : World} {g k c : Nat} {A : Option Addr} {t : Tm} (h : CfBox w g A k c t) : (∀ w', Below w.heap.size w w' → w'.cell? ⟨g, 0, none⟩ = some (.slice A k c)) ∧ (∀ w', Below w.heap.size w w' → w'.cell? ⟨g, 1, none⟩ = some (.int .i64 t.t0)) ∧ (∀ w', Below w.heap.size w w' → w'.cell? ⟨g, 2, none⟩ = some (.int .i64 t.t1)) ∧ (∀ w', Below w.heap.size w w' → w'.cell? ⟨g, 3, none⟩ = some (.int .i64 t.t2)) ∧ (∀ w', Below w.heap.size w w' → w'.cell? ⟨g, 4, none⟩ = some (.int .i64 t.t3)) ∧ (∀ w', Below w.heap.size w w' → w'.cell? ⟨g, 5, none⟩ = some (.int .i64 t.t4)) ∧ (∀ w', Below w.heap.size w w' → w'.cell? ⟨g, 6, none⟩ = some (.int .i64 t.t5)) ∧ (∀ w', Below w.heap.size w w' → w'.cell? ⟨g, 7, none⟩ = some (.int .i64 t.t6)) ∧ (∀ w', Below w.heap.size w w' → w'.cell? ⟨g, 8, none⟩ = some (.int .i64 t.t7)) ∧ (∀ w', Below w.heap.size w w' → w'.cell? ⟨g, 9, none⟩ = some (.int .i64 t.t8)) ∧ (∀ w', Below w.heap.size w w' → w'.cell? ⟨g, 10, none⟩ = some (.int .i64 t.t9)) :=
  ⟨fun w' hb => (cf_cell_all (CfBox.below h hb)).1, fun w' hb => (cf_cell_all (CfBox.below h hb)).2.1, fun w' hb => (cf_cell_all (CfBox.below h hb)).2.2.1, fun w' hb => (cf_cell_all (CfBox.below h hb)).2.2.2.1, fun w' hb => (cf_cell_all (CfBox.below h hb)).2.2.2.2.1, fun w' hb => (cf_cell_all (CfBox.below h hb)).2.2.2.2.2.1, fun w' hb => (cf_cell_all (CfBox.below h hb)).2.2.2.2.2.2.1, fun w' hb => (cf_cell_all (CfBox.below h hb)).2.2.2.2.2.2.2.1, fun w' hb => (cf_cell_all (CfBox.below h hb)).2.2.2.2.2.2.2.2.1, fun w' hb => (cf_cell_all (CfBox.below h hb)).2.2.2.2.2.2.2.2.2.1, fun w' hb => (cf_cell_all (CfBox.below h hb)).2.2.2.2.2.2.2.2.2.2.1⟩
abbrev LnBlk (w : World) (g : Nat) (x : Ln) : Prop := w.heap[g]? = some (.cells #[.int .i64 x.strike, .int .i64 x.signal, .int .i64 x.s0, .int .i64 x.s1, .int .i64 x.s2] 48 (0, 0))
theorem LnBlk.cells {w : World} {g : Nat} {x : Ln} (h : LnBlk w g x) : ∀ w', Below w.heap.size w w' → w'.cell? ⟨g, 0, none⟩ = some (.int .i64 x.strike) ∧ w'.cell? ⟨g, 1, none⟩ = some (.int .i64 x.signal) ∧ w'.cell? ⟨g, 2, none⟩ = some (.int .i64 x.s0) ∧ w'.cell? ⟨g, 3, none⟩ = some (.int .i64 x.s1) ∧ w'.cell? ⟨g, 4, none⟩ = some (.int .i64 x.s2) := fun w' hb => by
  have h' := blk_below h hb
  refine ⟨?_, ?_, ?_, ?_, ?_⟩ <;> simp [World.cell?, h']
end Go.Proofs.YteeocmkaecoeiaaDoor
