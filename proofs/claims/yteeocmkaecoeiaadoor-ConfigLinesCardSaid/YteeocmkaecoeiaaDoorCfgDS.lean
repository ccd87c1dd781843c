/- What Decode has laid so far. -/
import Derived.Test.YteeocmkaecoeiaaDoorCfgDPure
namespace Go.Proofs.YteeocmkaecoeiaaDoor
open Go.RowKit
set_option linter.unusedVariables false
set_option linter.unusedSimpArgs false

def tmUp (t : Tm) (k : Nat) : Tm := ⟨if 0 < k then t.t0 else 0, if 1 < k then t.t1 else 0, if 2 < k then t.t2 else 0, if 3 < k then t.t3 else 0, if 4 < k then t.t4 else 0, if 5 < k then t.t5 else 0, if 6 < k then t.t6 else 0, if 7 < k then t.t7 else 0, if 8 < k then t.t8 else 0, if 9 < k then t.t9 else 0⟩
theorem tmUp_0 (t : Tm) : tmUp t 0 = tm0 := rfl
theorem tmUp_10 (t : Tm) : tmUp t 10 = t := rfl
theorem cf_up {w : World} {G n c : Nat} {A : Option Addr} {t : Tm} {k : Nat} (h : CfBox w G A n c (tmUp t k)) (hk : k < 10) : CfBox (w.setCell ⟨G, k + 1, none⟩ (.int .i64 (t.get k))) G A n c (tmUp t (k + 1)) := by
  rcases (by omega : k = 0 ∨ k = 1 ∨ k = 2 ∨ k = 3 ∨ k = 4 ∨ k = 5 ∨ k = 6 ∨ k = 7 ∨ k = 8 ∨ k = 9) with rfl | rfl | rfl | rfl | rfl | rfl | rfl | rfl | rfl | rfl <;> simp [CfBox, World.setCell, Array.getElem?_modify, h, tmUp, Tm.get]
theorem cf_put {w : World} {G n c : Nat} {A : Option Addr} {t : Tm} (h : CfBox w G A n c t) (A1 : Option Addr) (n1 c1 : Nat) : CfBox (w.setCell ⟨G, 0, none⟩ (.slice A1 n1 c1)) G A1 n1 c1 t := by simp [CfBox, World.setCell, Array.getElem?_modify, h]
def lnUp (x : Ln) (j : Nat) : Ln := ⟨x.strike, x.signal, if 0 < j then x.s0 else 0, if 1 < j then x.s1 else 0, if 2 < j then x.s2 else 0⟩
theorem lnUp_3 (x : Ln) : lnUp x 3 = x := rfl
theorem ln_up {w : World} {L : Nat} {x : Ln} {j : Nat} (h : LnBlk w L (lnUp x j)) (hj : j < 3) : LnBlk (w.setCell ⟨L, 2 + j, none⟩ (.int .i64 (lnSp x j))) L (lnUp x (j + 1)) := by
  rcases (by omega : j = 0 ∨ j = 1 ∨ j = 2) with rfl | rfl | rfl <;> simp [LnBlk, World.setCell, Array.getElem?_modify, h, lnUp, lnSp]
theorem ln_st {w : World} {L : Nat} {x : Ln} (h : LnBlk w L x) (v : Int) : LnBlk (w.setCell ⟨L, 0, none⟩ (.int .i64 v)) L { x with strike := v } := by simp [LnBlk, World.setCell, Array.getElem?_modify, h]
theorem ln_sg {w : World} {L : Nat} {x : Ln} (h : LnBlk w L x) (v : Int) : LnBlk (w.setCell ⟨L, 1, none⟩ (.int .i64 v)) L { x with signal := v } := by simp [LnBlk, World.setCell, Array.getElem?_modify, h]
theorem LnBlk.froz {w : World} {L : Nat} {x : Ln} (h : LnBlk w L x) (i : Nat) : w.frozen? ⟨L, i, none⟩ = false := by simp [World.frozen?, h]
theorem LnBlk.at {w : World} {L : Nat} {x : Ln} {j : Nat} (h : LnBlk w L x) (hj : j < 3) : w.cell? ⟨L, 2 + j, none⟩ = some (.int .i64 (lnSp x j)) := by
  rcases (by omega : j = 0 ∨ j = 1 ∨ j = 2) with rfl | rfl | rfl <;> simp [World.cell?, h, lnSp]
theorem LnBlk.fr {F : Nat → Prop} {w w' : World} {L : Nat} {x : Ln} (h : LnBlk w L x) (hf : Fr F w w') (hn : ¬ F L) : LnBlk w' L x := (hf.block L (Array.getElem?_eq_some_iff.mp h).1 hn).trans h
theorem CfBox.fr {F : Nat → Prop} {w w' : World} {g : Nat} {A : Option Addr} {n c : Nat} {t : Tm} (h : CfBox w g A n c t) (hf : Fr F w w') (hn : ¬ F g) : CfBox w' g A n c t := (hf.block g (Array.getElem?_eq_some_iff.mp h).1 hn).trans h
theorem RdIs.frF {w w' : World} {g bl : Nat} {xs : List UInt8} (h : RdIs w g bl xs false) {F : Nat → Prop} (hf : Fr F w w') (hg : ¬ F g) (hb : xs ≠ [] → ¬ F bl) : RdIs w' g bl xs false := by
  obtain ⟨A, n, c, ev, h⟩ := h
  have hne : 0 < n → xs ≠ [] := fun h0 e => by have := h.rs.len; rw [e] at this; simp at this; omega
  refine ⟨A, n, c, ev, (hf.block g h.lt hg).trans h.heap, h.rs.fr hf (fun h0 b off e => ?_), h.blk, h.apart, fun h0 i => ?_, h.small, h.err⟩
  · obtain ⟨o, e2⟩ := h.blk h0
    rw [e2] at e; cases e; exact hb (hne h0)
  · obtain ⟨o, rfl⟩ := h.blk h0
    obtain ⟨b', o', e, hlt, _⟩ := h.rs.rb.cells h0
    cases e
    exact (hf.frozen (p := ⟨bl, i, none⟩) hlt (hb (hne h0))).trans (h.free h0 i)

/-- The blocks stand apart. -/
structure DT (N : Nat) (w0 : World) (R G g bl : Nat) : Prop where
  bG : w0.heap.size ≤ G
  bg : w0.heap.size ≤ g
  lR : R < N
  lG : G < N
  lg : g < N
  lb : bl < N
  RG : R ≠ G
  Rg : R ≠ g
  Rb : R ≠ bl
  Gg : G ≠ g
  Gb : G ≠ bl
structure DS (N : Nat) (w0 w : World) (R G g bl : Nat) (A : Option Addr) (n c : Nat) (t : Tm) (ys : List UInt8) (ls : List Ln) : Prop where
  bel : Below w0.heap.size w0 w
  res : CfBox w R none 0 0 tm0
  cfg : CfBox w G A n c t
  rd : RdIs w g bl ys false
  own : OwnLn w (.slice A n c) ls
  fre : ∀ k, (Value.slice A n c).ownBlock = some k → N ≤ k
  size : N ≤ w.heap.size
section
variable {N : Nat} {w0 w w' : World} {R G g bl : Nat} {A : Option Addr} {n c : Nat} {t : Tm} {ys : List UInt8} {ls : List Ln}
theorem Fr.belowIn {F : Nat → Prop} (h : Below w0.heap.size w0 w) (hf : Fr F w w') (hF : ∀ i, F i → w0.heap.size ≤ i) : Below w0.heap.size w0 w' := h.trans (hf.below w0.heap.size h.size hF)
theorem DS.fr {F : Nat → Prop} (h : DS N w0 w R G g bl A n c t ys ls) (hf : Fr F w w') (hF : ∀ i, F i → w0.heap.size ≤ i) (hR : ¬ F R) (hG : ¬ F G) (hg : ¬ F g) (hb : ¬ F bl) (ho : ∀ k, (Value.slice A n c).ownBlock = some k → ¬ F k) : DS N w0 w' R G g bl A n c t ys ls :=
  ⟨Fr.belowIn h.bel hf hF, h.res.fr hf hR, h.cfg.fr hf hG, h.rd.frF hf hg (fun _ => hb), h.own.fr hf ho, h.fre, Nat.le_trans h.size hf.size⟩
theorem DS.below (h : DS N w0 w R G g bl A n c t ys ls) (hb : Below w.heap.size w w') : DS N w0 w' R G g bl A n c t ys ls := h.fr (Fr.ofBelow hb (fun _ => False)) (fun _ h => h.elim) id id id id (fun _ _ => id)
theorem DS.read {ys' : List UInt8} (h : DS N w0 w R G g bl A n c t ys ls) (d : DT N w0 R G g bl) (hf : Fr (fun k => k = g) w w') (hr : RdIs w' g bl ys' false) : DS N w0 w' R G g bl A n c t ys' ls :=
  ⟨Fr.belowIn h.bel hf (fun i e => e ▸ d.bg), h.res.fr hf d.Rg, h.cfg.fr hf d.Gg, hr, h.own.fr hf (fun k hk e => by have := h.fre k hk; have := d.lg; omega), h.fre, Nat.le_trans h.size hf.size⟩
theorem DS.tick {k : Nat} (h : DS N w0 w R G g bl A n c (tmUp t k) ys ls) (d : DT N w0 R G g bl) (hk : k < 10) : DS N w0 (w.setCell ⟨G, k + 1, none⟩ (.int .i64 (t.get k))) R G g bl A n c (tmUp t (k + 1)) ys ls := by
  have hf := fr_setCell (F := fun i => i = G) (w := w) ⟨G, k + 1, none⟩ (.int .i64 (t.get k)) rfl
  exact ⟨Fr.belowIn h.bel hf (fun i e => e ▸ d.bG), h.res.fr hf d.RG, cf_up h.cfg hk, h.rd.frF hf (fun e => d.Gg e.symm) (fun _ e => d.Gb e.symm), h.own.fr hf (fun k hk e => by have := h.fre k hk; have := d.lG; omega), h.fre, Nat.le_trans h.size hf.size⟩
theorem DS.line {L i : Nat} {v : Value} (h : DS N w0 w R G g bl A n c t ys ls) (d : DT N w0 R G g bl) (hL : N ≤ L) (ho : ∀ k, (Value.slice A n c).ownBlock = some k → k ≠ L) : DS N w0 (w.setCell ⟨L, i, none⟩ v) R G g bl A n c t ys ls :=
  h.fr (fr_setCell (F := fun i => i = L) (w := w) ⟨L, i, none⟩ v rfl) (fun i e => by have := d.bG; have := d.lG; omega) (by have := d.lR; omega) (by have := d.lG; omega) (by have := d.lg; omega) (by have := d.lb; omega) (fun k hk => ho k hk)
theorem DS.push {w1 : World} {A1 : Option Addr} {n1 c1 : Nat} {ls1 : List Ln} (h : DS N w0 w R G g bl A n c t ys ls) (d : DT N w0 R G g bl) (hown : OwnLn w1 (.slice A1 n1 c1) ls1) (hg : w.grownBy w1 (Value.slice A n c).ownBlock) (hf : ∀ k, (Value.slice A1 n1 c1).ownBlock = some k → (Value.slice A n c).ownBlock = some k ∨ w.heap.size ≤ k) : DS N w0 (w1.setCell ⟨G, 0, none⟩ (.slice A1 n1 c1)) R G g bl A1 n1 c1 t ys ls1 := by
  have hf1 := Fr.ofGrown hg
  have hfre : ∀ k, (Value.slice A1 n1 c1).ownBlock = some k → N ≤ k := fun k hk => (hf k hk).elim (h.fre k) (fun h1 => Nat.le_trans h.size h1)
  have hno : ∀ i, i < N → ¬ some i = (Value.slice A n c).ownBlock := fun i hi e => by have := h.fre i e.symm; omega
  have hf2 := fr_setCell (F := fun i => i = G) (w := w1) ⟨G, 0, none⟩ (.slice A1 n1 c1) rfl
  have hb1 := Fr.belowIn h.bel hf1 (fun i e => by have := h.fre i e.symm; have := d.bG; have := d.lG; omega)
  exact ⟨Fr.belowIn hb1 hf2 (fun i e => e ▸ d.bG), (h.res.fr hf1 (hno _ d.lR)).fr hf2 d.RG, cf_put (h.cfg.fr hf1 (hno _ d.lG)) _ _ _, (h.rd.frF hf1 (hno _ d.lg) (fun _ => hno _ d.lb)).frF hf2 (fun e => d.Gg e.symm) (fun _ e => d.Gb e.symm), hown.fr hf2 (fun k hk e => by have := hfre k hk; have := d.lG; omega), hfre, Nat.le_trans h.size (Nat.le_trans hf1.size hf2.size)⟩
end
theorem results_cell_tmp_row {fn : Func} {p u : Tmp} {ty : TypeId} (h : fn.results = #[.cell p ty, .tmp u]) (tmps : Array Value) (w : World) (g : Nat) (t : TypeId) (cs : Array Value) (fr : Nat × Nat) (d : TypeDesc) (v : Value)
    (hp : tmps.getD p undef = .pointer (some ⟨g, 0, none⟩)) (hv : tmps.getD u undef = v) (hg : w.heap[g]? = some (.cells cs t fr))
    (hd : (match d with | .struct _ | .array _ _ => true | _ => false) = true) (hu : Tryd.prog.underlying ty = some d) (hi : (Tryd.prog.info? ty).map (·.size) = some cs.size) :
    (results fn tmps).run Tryd.prog w = .ok (.tuple #[.agg cs, v]) w := by
  rw [results_cell_tmp h, hp, hv]
  simp [asAddr, run_loadVar_row w g t ty cs fr d hg hu (by cases d <;> first | rfl | exact hd | cases hd) hi, Result.andThen]
end Go.Proofs.YteeocmkaecoeiaaDoor
