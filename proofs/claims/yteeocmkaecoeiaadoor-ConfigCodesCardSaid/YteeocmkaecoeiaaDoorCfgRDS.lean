/- What the document's Decode has laid so far. -/
import Derived.Test.YteeocmkaecoeiaaDoorCfgDS
import Derived.Test.YteeocmkaecoeiaaDoorCfgRef
import Derived.Test.YteeocmkaecoeiaaDoorRr
namespace Go.Proofs.YteeocmkaecoeiaaDoor
open Go.RowKit
set_option linter.unusedVariables false
set_option linter.unusedSimpArgs false

abbrev TmBlk (w : World) (H : Nat) (t : Tm) : Prop := w.heap[H]? = some (.cells (tma t) 61 (0, 0))
theorem tm_up {w : World} {H : Nat} {t : Tm} {k : Nat} (h : TmBlk w H (tmUp t k)) (hk : k < 10) : TmBlk (w.setCell ⟨H, k, none⟩ (.int .i64 (t.get k))) H (tmUp t (k + 1)) := by
  rcases (by omega : k = 0 ∨ k = 1 ∨ k = 2 ∨ k = 3 ∨ k = 4 ∨ k = 5 ∨ k = 6 ∨ k = 7 ∨ k = 8 ∨ k = 9) with rfl | rfl | rfl | rfl | rfl | rfl | rfl | rfl | rfl | rfl <;> simp [TmBlk, World.setCell, Array.getElem?_modify, h, tmUp, Tm.get]
theorem TmBlk.froz {w : World} {H : Nat} {t : Tm} (h : TmBlk w H t) (i : Nat) : w.frozen? ⟨H, i, none⟩ = false := by simp [World.frozen?, h]
theorem TmBlk.all {w : World} {H : Nat} {t : Tm} (h : TmBlk w H t) : w.cell? ⟨H, 0, none⟩ = some (.int .i64 t.t0) ∧ w.cell? ⟨H, 1, none⟩ = some (.int .i64 t.t1) ∧ w.cell? ⟨H, 2, none⟩ = some (.int .i64 t.t2) ∧ w.cell? ⟨H, 3, none⟩ = some (.int .i64 t.t3) ∧ w.cell? ⟨H, 4, none⟩ = some (.int .i64 t.t4) ∧ w.cell? ⟨H, 5, none⟩ = some (.int .i64 t.t5) ∧ w.cell? ⟨H, 6, none⟩ = some (.int .i64 t.t6) ∧ w.cell? ⟨H, 7, none⟩ = some (.int .i64 t.t7) ∧ w.cell? ⟨H, 8, none⟩ = some (.int .i64 t.t8) ∧ w.cell? ⟨H, 9, none⟩ = some (.int .i64 t.t9) := by
  refine ⟨?_, ?_, ?_, ?_, ?_, ?_, ?_, ?_, ?_, ?_⟩ <;> simp [World.cell?, h]
/-- The first loop. -/
structure D1 (w0 w : World) (R H g bl : Nat) (t : Tm) (ys : List UInt8) : Prop where
  bel : Below w0.heap.size w0 w
  res : CfBox w R none 0 0 tm0
  arr : TmBlk w H t
  rd : RrIs w g bl ys false
theorem D1.read {w0 w w' : World} {R H g bl : Nat} {t : Tm} {ys ys' : List UInt8} (h : D1 w0 w R H g bl t ys) (bg : w0.heap.size ≤ g) (Rg : R ≠ g) (Hg : H ≠ g) (hf : Fr (fun k => k = g) w w') (hr : RrIs w' g bl ys' false) : D1 w0 w' R H g bl t ys' :=
  ⟨Fr.belowIn h.bel hf (fun i e => e ▸ bg), h.res.fr hf Rg, (hf.block H (Array.getElem?_eq_some_iff.mp h.arr).1 Hg).trans h.arr, hr⟩
theorem D1.tick {w0 w : World} {R H g bl k : Nat} {t : Tm} {ys : List UInt8} (h : D1 w0 w R H g bl (tmUp t k) ys) (bH : w0.heap.size ≤ H) (RH : R ≠ H) (Hg : H ≠ g) (Hb : H ≠ bl) (hk : k < 10) : D1 w0 (w.setCell ⟨H, k, none⟩ (.int .i64 (t.get k))) R H g bl (tmUp t (k + 1)) ys := by
  have hf := fr_setCell (F := fun i => i = H) (w := w) ⟨H, k, none⟩ (.int .i64 (t.get k)) rfl
  exact ⟨Fr.belowIn h.bel hf (fun i e => e ▸ bH), h.res.fr hf RH, tm_up h.arr hk, h.rd.fr hf (fun e => Hg e.symm) (fun _ e => Hb e.symm)⟩
structure DSR (N : Nat) (w0 w : World) (R G g bl : Nat) (A : Option Addr) (n c : Nat) (t : Tm) (ys : List UInt8) (ls : List Ln) : Prop where
  bel : Below w0.heap.size w0 w
  res : CfBox w R none 0 0 tm0
  cfg : CfBox w G A n c t
  rd : RrIs w g bl ys false
  own : OwnLn w (.slice A n c) ls
  fre : ∀ k, (Value.slice A n c).ownBlock = some k → N ≤ k
  size : N ≤ w.heap.size
section
variable {N : Nat} {w0 w w' : World} {R G g bl : Nat} {A : Option Addr} {n c : Nat} {t : Tm} {ys : List UInt8} {ls : List Ln}
theorem DSR.fr {F : Nat → Prop} (h : DSR N w0 w R G g bl A n c t ys ls) (hf : Fr F w w') (hF : ∀ i, F i → w0.heap.size ≤ i) (hR : ¬ F R) (hG : ¬ F G) (hg : ¬ F g) (hb : ¬ F bl) (ho : ∀ k, (Value.slice A n c).ownBlock = some k → ¬ F k) : DSR N w0 w' R G g bl A n c t ys ls :=
  ⟨Fr.belowIn h.bel hf hF, h.res.fr hf hR, h.cfg.fr hf hG, h.rd.fr hf hg (fun _ => hb), h.own.fr hf ho, h.fre, Nat.le_trans h.size hf.size⟩
theorem DSR.below (h : DSR N w0 w R G g bl A n c t ys ls) (hb : Below w.heap.size w w') : DSR N w0 w' R G g bl A n c t ys ls := h.fr (Fr.ofBelow hb (fun _ => False)) (fun _ h => h.elim) id id id id (fun _ _ => id)
theorem DSR.read {ys' : List UInt8} (h : DSR N w0 w R G g bl A n c t ys ls) (d : DT N w0 R G g bl) (hf : Fr (fun k => k = g) w w') (hr : RrIs w' g bl ys' false) : DSR N w0 w' R G g bl A n c t ys' ls :=
  ⟨Fr.belowIn h.bel hf (fun i e => e ▸ d.bg), h.res.fr hf d.Rg, h.cfg.fr hf d.Gg, hr, h.own.fr hf (fun k hk e => by have := h.fre k hk; have := d.lg; omega), h.fre, Nat.le_trans h.size hf.size⟩
theorem DSR.line {L i : Nat} {v : Value} (h : DSR N w0 w R G g bl A n c t ys ls) (d : DT N w0 R G g bl) (hL : N ≤ L) (ho : ∀ k, (Value.slice A n c).ownBlock = some k → k ≠ L) : DSR N w0 (w.setCell ⟨L, i, none⟩ v) R G g bl A n c t ys ls :=
  h.fr (fr_setCell (F := fun i => i = L) (w := w) ⟨L, i, none⟩ v rfl) (fun i e => by have := d.bG; have := d.lG; omega) (by have := d.lR; omega) (by have := d.lG; omega) (by have := d.lg; omega) (by have := d.lb; omega) (fun k hk => ho k hk)
theorem DSR.push {w1 : World} {A1 : Option Addr} {n1 c1 : Nat} {ls1 : List Ln} (h : DSR N w0 w R G g bl A n c t ys ls) (d : DT N w0 R G g bl) (hown : OwnLn w1 (.slice A1 n1 c1) ls1) (hg : w.grownBy w1 (Value.slice A n c).ownBlock) (hf : ∀ k, (Value.slice A1 n1 c1).ownBlock = some k → (Value.slice A n c).ownBlock = some k ∨ w.heap.size ≤ k) : DSR N w0 (w1.setCell ⟨G, 0, none⟩ (.slice A1 n1 c1)) R G g bl A1 n1 c1 t ys ls1 := by
  have hf1 := Fr.ofGrown hg
  have hfre : ∀ k, (Value.slice A1 n1 c1).ownBlock = some k → N ≤ k := fun k hk => (hf k hk).elim (h.fre k) (fun h1 => Nat.le_trans h.size h1)
  have hno : ∀ i, i < N → ¬ some i = (Value.slice A n c).ownBlock := fun i hi e => by have := h.fre i e.symm; omega
  have hf2 := fr_setCell (F := fun i => i = G) (w := w1) ⟨G, 0, none⟩ (.slice A1 n1 c1) rfl
  have hb1 := Fr.belowIn h.bel hf1 (fun i e => by have := h.fre i e.symm; have := d.bG; have := d.lG; omega)
  exact ⟨Fr.belowIn hb1 hf2 (fun i e => e ▸ d.bG), (h.res.fr hf1 (hno _ d.lR)).fr hf2 d.RG, cf_put (h.cfg.fr hf1 (hno _ d.lG)) _ _ _, (h.rd.fr hf1 (hno _ d.lg) (fun _ => hno _ d.lb)).fr hf2 (fun e => d.Gg e.symm) (fun _ e => d.Gb e.symm), hown.fr hf2 (fun k hk e => by have := hfre k hk; have := d.lG; omega), hfre, Nat.le_trans h.size (Nat.le_trans hf1.size hf2.size)⟩
end
end Go.Proofs.YteeocmkaecoeiaaDoor
