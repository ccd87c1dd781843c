/- bank.Last: the last record. -/
import Derived.Test.YtcppmihambcihaaDoorBkNotes2
namespace Go.Proofs.YtcppmihambcihaaDoor
open Go Go.RowKit Go.Shelf
set_option linter.unusedVariables false
set_option linter.unusedSimpArgs false
attribute [local go_sem] Oper.semAt_some
def zNV : NV := ⟨⟨0, [], 0⟩, none, 0⟩
def lastNV (pre : List NV) : NV := pre.getLastD zNV
theorem lastNV_push (pre : List NV) (x : NV) : lastNV (pre ++ [x]) = x := by simp [lastNV]
abbrev nvc (x : NV) : Array Value := nta x.nt.seq x.A x.nt.dat.length x.c x.nt.fin
/-- What Last has between two rounds: b, b + 1: its results' boxes; q: the block of the deferred calls, the next one the loop's record; g: the iterator's own. -/
structure LI (b q : Nat) (w : World) (rec : Loop) (g : Nat) (pre : List NV) (B : World) : Prop where
  out : B.heap[b]? = some (.cells (nvc (lastNV pre)) 54 (0, 0))
  ok : B.heap[b + 1]? = some (.cells #[.bool (!pre.isEmpty)] 4 (0, 0))
  loop : B.heap[q + 1]? = some (.loop rec)
  defd : B.heap[q]? = some (.deferred (some []))
  dat : pre ≠ [] → DatIs (q + 2) B (lastNV pre).A (lastNV pre).c (lastNV pre).nt.dat ∧ ∀ k o, (lastNV pre).A = some ⟨k, o, none⟩ → k ≠ g
  bel : Below b w B
  base : b = w.heap.size
theorem LI.lt {b q : Nat} {w : World} {rec : Loop} {g : Nat} {pre : List NV} {B : World} (h : LI b q w rec g pre B) : q + 1 < B.heap.size := (Array.getElem?_eq_some_iff.mp h.loop).1
theorem LI.fr {b q : Nat} {w : World} {rec : Loop} {g : Nat} {pre : List NV} {B W1 : World} (h : LI b q w rec g pre B) (hb : b + 2 < q) (hg : q + 2 ≤ g) (hf : Fr (fun k => k = g) B W1) : LI b q w rec g pre W1 := by
  have hlt := h.lt
  have hs := h.bel.size
  exact ⟨(hf.block _ (by omega) (by omega)).trans h.out, (hf.block _ (by omega) (by omega)).trans h.ok, (hf.block _ (by omega) (by omega)).trans h.loop, (hf.block _ (by omega) (by omega)).trans h.defd,
    fun hp => ⟨(h.dat hp).1.fr hf (fun k o e e2 => (h.dat hp).2 k o e e2), (h.dat hp).2⟩, h.bel.trans (hf.below b (by have := h.base; omega) (fun i e => by omega)), h.base⟩
theorem LI.push {b q : Nat} {w : World} {rec : Loop} {g : Nat} {pre : List NV} {B W1 W' : World} {x : NV} (h : LI b q w rec g pre B) (hb : b + 2 < q) (hg : q + 2 ≤ g) (hg1 : g < W1.heap.size) (hf : Fr (fun k => k = g) B W1)
    (hx : DatIs B.heap.size W1 x.A x.c x.nt.dat) (hxg : ∀ k o, x.A = some ⟨k, o, none⟩ → k ≠ g)
    (hF : Fr (fun i => i = b ∨ i = b + 1 ∨ i = q + 1) W1 W') (hout : W'.heap[b]? = some (.cells (nvc x) 54 (0, 0))) (hok : W'.heap[b + 1]? = some (.cells #[.bool true] 4 (0, 0))) (hloop : W'.heap[q + 1]? = some (.loop rec)) :
    LI b q w rec g (pre ++ [x]) W' ∧ Fr (fun i => i = b ∨ i = b + 1 ∨ i = q + 1) W1 W' ∧ W'.heap[g]? = W1.heap[g]? := by
  have h1 := h.fr hb hg hf
  have hlt := h.lt
  have hlt1 := h1.lt
  refine ⟨⟨by rw [lastNV_push]; exact hout, by rw [show (pre ++ [x]).isEmpty = false by simp]; exact hok, hloop, (hF.block _ (by omega) (by omega)).trans h1.defd, fun _ => ?_, h1.bel.trans (hF.below b (by have := h1.base; have := h1.bel.size; omega) (fun i e => by omega)), h1.base⟩, hF, hF.block g hg1 (by omega)⟩
  rw [lastNV_push]
  exact ⟨(hx.fr hF (fun k o e e2 => by have := hx.blk k o e; omega)).base (by omega), hxg⟩
/-- The iterator under Last. -/
theorem la_iter (m : Nat) (w : World) (b q : Nat) (rec : Loop) (A : Option Addr) (n c : Nat) (xs : List UInt8) (W : World) (hbq : b + 2 < q) (h0 : ∀ g, q + 2 ≤ g → LI b q w rec g [] W) (hWs : W.heap.size = q + 2)
    (hcell : W.cell? ⟨b + 2, 0, none⟩ = some (.slice A n c)) (hrs : RS W A n c xs) (hab : 0 < n → ∀ k off, A = some ⟨k, off, none⟩ → k < b) (hn : n ≤ 1000000)
    (hY : ∀ g pre x B W1, LI b q w rec g pre B → q + 2 ≤ g → g < W1.heap.size → Fr (fun k => k = g) B W1 → DatIs B.heap.size W1 x.A x.c x.nt.dat → (∀ k o, x.A = some ⟨k, o, none⟩ → k ≠ g) →
      YieldAt Fence.wide m Tryd.prog (q + 1) #[ntv x] W1 (fun e W' => e = .returned (.bool true) ∧ (LI b q w rec g (pre ++ [x]) W' ∧ Fr (fun i => i = b ∨ i = b + 1 ∨ i = q + 1) W1 W' ∧ W'.heap[g]? = W1.heap[g]?))) :
    CallsIn Fence.wide (m + 1) Tryd.prog 61 #[.func (.yield (q + 1)) #[] #[], .pointer (some ⟨b + 2, 0, none⟩)] W fun e W2 => (∃ v, e = .returned v) ∧ W2.heap[q + 1]? = some (.loop rec) ∧ ∃ g ys, ys.map (·.nt) = bkNotes xs ∧ LI b q w rec g ys W2 := by
  refine callsIn_wide.2 ((bk_iter m (b + 2) (q + 1) (fun i => i = b ∨ i = b + 1 ∨ i = q + 1) A n c xs (fun g pre B => LI b q w rec g pre B) W hcell (by omega) hrs (fun h0 k o e => by have := hab h0 k o e; omega) hn (fun g hg => h0 g (by omega)) (fun g pre x B W1 hv hg hg1 hf hx hxg hl hp => (hY g pre x B W1 hv (by omega) hg1 hf hx hxg).mono (fun e W' h => ⟨h.1, h.2.1, h.2.2.1.mono (fun i _ e => .inl e), h.2.2.2⟩))).mono ?_)
  rintro e W2 ⟨hv, g, B, ys, hys, hB, hf, hg⟩
  have h2 := hB.fr hbq (by omega) hf
  exact ⟨hv, h2.loop, g, ys, hys, h2⟩
theorem results_cells_row {fn : Func} {p u : Tmp} {ty ty2 : TypeId} (h : fn.results = #[.cell p ty, .cell u ty2]) (tmps : Array Value) (w : World) (g : Nat) (t : TypeId) (cs : Array Value) (fr : Nat × Nat) (d : TypeDesc) (a : Addr) (v : Value)
    (hp : tmps.getD p undef = .pointer (some ⟨g, 0, none⟩)) (hq : tmps.getD u undef = .pointer (some a)) (hv : (loadVar ty2 a).run Tryd.prog w = .ok v w) (hg : w.heap[g]? = some (.cells cs t fr))
    (hd : (match d with | .struct _ | .array _ _ => true | _ => false) = true) (hu : Tryd.prog.underlying ty = some d) (hi : (Tryd.prog.info? ty).map (·.size) = some cs.size) :
    (results fn tmps).run Tryd.prog w = .ok (.tuple #[.agg cs, v]) w := by
  have hp' : tmps[p]?.getD undef = .pointer (some ⟨g, 0, none⟩) := by simpa using hp
  have hq' : tmps[u]?.getD undef = .pointer (some a) := by simpa using hq
  simp [results, h, hp', hq', hv, asAddr, run_loadVar_row w g t ty cs fr d hg hu (by cases d <;> first | rfl | exact hd | cases hd) hi, Result.andThen, Sem.run_bind]
theorem setCell_self {w : World} {g i : Nat} {cs : Array Value} {t : TypeId} {fr : Nat × Nat} {v : Value} (h : w.heap[g]? = some (.cells cs t fr)) (hv : cs[i]? = some v) : w.setCell ⟨g, i, none⟩ v = w := by
  have hlt := (Array.getElem?_eq_some_iff.mp h).1
  have e : (w.setCell ⟨g, i, none⟩ v).heap = w.heap := by
    apply Array.ext_getElem?
    intro j
    by_cases hj : g = j
    · subst hj
      simp [World.setCell, Array.getElem?_modify, h]
      obtain ⟨hi, rfl⟩ := Array.getElem?_eq_some_iff.mp hv
      simp [Array.setIfInBounds]
    · simp [World.setCell, Array.getElem?_modify, hj]
  have e2 : w.setCell ⟨g, i, none⟩ v = { w with heap := (w.setCell ⟨g, i, none⟩ v).heap } := rfl
  rw [e2, e]
/-- What Last tells. -/
def IsLst (r : Option Nt) (w : World) (e : Ending) (w' : World) : Prop := match r with
  | none => e = .returned (.tuple #[.agg (nta 0 none 0 0 0), .bool false]) ∧ Below w.heap.size w w'
  | some x => ∃ A c, e = .returned (.tuple #[.agg (nta x.seq A x.dat.length c x.fin), .bool true]) ∧ DatIs w.heap.size w' A c x.dat ∧ Below w.heap.size w w'
theorem IsLst.of {w : World} {ys : List NV} {e : Ending} {w' : World} (h1 : e = .returned (.tuple #[.agg (nvc (lastNV ys)), .bool (!ys.isEmpty)])) (h2 : ys ≠ [] → DatIs w.heap.size w' (lastNV ys).A (lastNV ys).c (lastNV ys).nt.dat) (h3 : Below w.heap.size w w') : IsLst (ys.map (·.nt)).getLast? w e w' := by
  rcases List.eq_nil_or_concat ys with rfl | ⟨pre, x, rfl⟩
  · exact ⟨h1, h3⟩
  · simp only [List.concat_eq_append] at h1 h2 ⊢
    rw [lastNV_push] at h1 h2
    simp only [List.map_append, List.map_cons, List.map_nil, List.getLast?_append, List.getLast?_singleton, Option.some_or]
    exact ⟨x.A, x.c, by rw [h1]; simp, h2 (by simp), h3⟩
end Go.Proofs.YtcppmihambcihaaDoor
