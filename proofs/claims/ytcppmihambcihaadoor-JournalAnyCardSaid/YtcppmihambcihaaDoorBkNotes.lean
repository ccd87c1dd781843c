/- bank.Notes (slices.Collect, slices.AppendSeq over bank.records), bank.Last. -/
import Derived.Test.YtcppmihambcihaaDoorBkIter
namespace Go.Proofs.YtcppmihambcihaaDoor
open Go Go.RowKit Go.Shelf
set_option linter.unusedVariables false
set_option linter.unusedSimpArgs false
attribute [local go_sem] Oper.semAt_some
def ntc (x : NV) : List Value := [.int .u32 x.nt.seq, .slice x.A x.nt.dat.length x.c, .int .i64 x.nt.fin]
theorem ntc_len (x : NV) : (ntc x).length = 3 := rfl
theorem ntc_one (x : NV) : ∀ v ∈ ntc x, v.oneCell' = true := by
  intro v hv
  simp only [ntc, List.mem_cons, List.not_mem_nil, or_false] at hv
  rcases hv with rfl | rfl | rfl <;> rfl
def ntz : Value := .agg (nta 0 none 0 0 0)
theorem ntT : ElT Tryd.prog 108 54 3 40 ntz := ⟨Tryd.underlying108, by kernel_rfl, rfl, by omega⟩
abbrev OwnNt (w : World) := OwnE ntc 3 54 w
abbrev RNt (w : World) := RE ntc w
theorem bk_records (A : Option Addr) (n c : Nat) (w : World) : Calls Tryd.prog 45 #[.slice A n c] w fun e w' => e = .returned (.func (.func 61) #[] #[.pointer (some ⟨w.heap.size, 0, none⟩)]) ∧ w' = w.alloc (.cells #[.slice A n c] 29) := by
  go_enter Tryd.func45, Tryd.ntmps45
  go_wp2_with fail
  go_ret
  exact ⟨rfl, rfl⟩
theorem fr_putObj {F : Nat → Prop} (w : World) (r : Nat) (o : Obj) (hF : F r) : Fr F w (w.putObj r o) :=
  ⟨rfl, rfl, rfl, by simp, fun i hi hn => World.putObj_heap_other (fun e => hn (e ▸ hF))⟩
/-- What AppendSeq has between two rounds: b: its row's box; the block behind it is that of the deferred calls, the next one the loop's record; g: the iterator's own. -/
structure NI (w : World) (b : Nat) (rec : Loop) (g : Nat) (pre : List NV) (B : World) (v : Value) : Prop where
  box : B.heap[b]? = some (.cells #[v] 108 (0, 0))
  own : OwnNt B v pre
  loop : B.heap[b + 2]? = some (.loop rec)
  defd : B.heap[b + 1]? = some (.deferred (some []))
  far : ∀ k, v.ownBlock = some k → b + 3 ≤ k ∧ k ≠ g
  dat : ∀ x ∈ pre, DatIs (b + 3) B x.A x.c x.nt.dat ∧ (∀ k o, x.A = some ⟨k, o, none⟩ → k ≠ g ∧ v.ownBlock ≠ some k)
  apart : pre.Pairwise (fun x y => ∀ k o k' o', x.A = some ⟨k, o, none⟩ → y.A = some ⟨k', o', none⟩ → k ≠ k')
  bel : Below w.heap.size w B
theorem NI.lt {w : World} {b : Nat} {rec : Loop} {g : Nat} {pre : List NV} {B : World} {v : Value} (h : NI w b rec g pre B v) : b + 2 < B.heap.size := (Array.getElem?_eq_some_iff.mp h.loop).1
/-- The iterator's own steps. -/
theorem NI.fr {w : World} {b : Nat} {rec : Loop} {g : Nat} {pre : List NV} {B W1 : World} {v : Value} (h : NI w b rec g pre B v) (hb : w.heap.size ≤ b) (hg : b + 3 ≤ g) (hf : Fr (fun k => k = g) B W1) : NI w b rec g pre W1 v := by
  have hlt := h.lt
  exact ⟨(hf.block _ (by omega) (by omega)).trans h.box, h.own.fr hf (fun k hk e => (h.far k hk).2 e), (hf.block _ (by omega) (by omega)).trans h.loop, (hf.block _ (by omega) (by omega)).trans h.defd, h.far,
    fun x hx => ⟨(h.dat x hx).1.fr hf (fun k o e e2 => ((h.dat x hx).2 k o e).1 e2), (h.dat x hx).2⟩, h.apart, h.bel.trans (hf.below w.heap.size h.bel.size (fun i e => by omega))⟩
theorem DatIs.base {lo lo' : Nat} {w : World} {A : Option Addr} {c : Nat} {d : List UInt8} (h : DatIs lo w A c d) (hl : lo' ≤ lo) : DatIs lo' w A c d := by
  obtain ⟨hr, bl, off, rfl, h1, h2, h3⟩ := h
  exact ⟨hr, bl, off, rfl, by omega, h2, h3⟩
theorem DatIs.blk {lo : Nat} {w : World} {A : Option Addr} {c : Nat} {d : List UInt8} (h : DatIs lo w A c d) (k o : Nat) (e : A = some ⟨k, o, none⟩) : lo ≤ k ∧ k < w.heap.size := by
  obtain ⟨_, bl, off, rfl, h1, h2, _⟩ := h
  cases e
  exact ⟨h1, h2⟩
/-- A round. -/
theorem NI.push {w : World} {b : Nat} {rec : Loop} {g : Nat} {pre : List NV} {B W1 W' : World} {v v' : Value} {x : NV} (h : NI w b rec g pre B v) (hb : w.heap.size ≤ b) (hg : b + 3 ≤ g) (hg1 : g < W1.heap.size) (hf : Fr (fun k => k = g) B W1)
    (hx : DatIs B.heap.size W1 x.A x.c x.nt.dat) (hxg : ∀ k o, x.A = some ⟨k, o, none⟩ → k ≠ g)
    (hF : Fr (fun i => i = b ∨ i = b + 2 ∨ some i = v.ownBlock) W1 W') (hown : OwnNt W' v' (pre ++ [x])) (hbox : W'.heap[b]? = some (.cells #[v'] 108 (0, 0))) (hloop : W'.heap[b + 2]? = some (.loop rec))
    (hfar : ∀ k, v'.ownBlock = some k → v.ownBlock = some k ∨ W1.heap.size ≤ k) : NI w b rec g (pre ++ [x]) W' v' ∧ Below w.heap.size W1 W' ∧ W'.heap[g]? = W1.heap[g]? := by
  have h1 := h.fr hb hg hf
  have hlt := h.lt
  have hlt1 := h1.lt
  have hsz := hf.size
  have hFn : ∀ i, (i = b ∨ i = b + 2 ∨ some i = v.ownBlock) → w.heap.size ≤ i := fun i hi => by
    rcases hi with rfl | rfl | hi
    · exact hb
    · omega
    · have := (h.far i hi.symm).1; omega
  have hvB : ∀ k, v.ownBlock = some k → k < B.heap.size := fun k hk => h.own.lt k hk
  refine ⟨⟨hbox, hown, hloop, (hF.block _ (by omega) (fun e => ?_)).trans h1.defd, fun k hk => ?_, fun y hy => ?_, ?_, h1.bel.trans (hF.below w.heap.size h1.bel.size hFn)⟩, hF.below w.heap.size h1.bel.size hFn, hF.block g hg1 (fun e => ?_)⟩
  · rcases e with e | e | e
    · omega
    · omega
    · have := (h.far _ e.symm).1; omega
  · rcases hfar k hk with h2 | h2
    · exact h.far k h2
    · exact ⟨by omega, by omega⟩
  · rw [List.mem_append, List.mem_singleton] at hy
    rcases hy with hy | rfl
    · have hd := (h1.dat y hy).1
      have hdB := (h.dat y hy).1
      refine ⟨hd.fr hF (fun k o e e2 => ?_), fun k o e => ⟨((h.dat y hy).2 k o e).1, fun e2 => ?_⟩⟩
      · have h3 := hd.blk k o e
        rcases e2 with e2 | e2 | e2
        · omega
        · omega
        · exact ((h.dat y hy).2 k o e).2 e2.symm
      · have h3 := hdB.blk k o e
        rcases hfar k e2 with h4 | h4
        · exact ((h.dat y hy).2 k o e).2 h4
        · omega
    · refine ⟨(hx.fr hF (fun k o e e2 => ?_)).base (by omega), fun k o e => ⟨hxg k o e, fun e2 => ?_⟩⟩
      · have h3 := hx.blk k o e
        rcases e2 with e2 | e2 | e2
        · omega
        · omega
        · have := hvB k e2.symm; omega
      · have h3 := hx.blk k o e
        rcases hfar k e2 with h4 | h4
        · have := hvB k h4; omega
        · omega
  · rw [List.pairwise_append]
    refine ⟨h.apart, List.pairwise_singleton _ _, fun y hy z hz k o k' o' e e' => ?_⟩
    rw [List.mem_singleton] at hz
    subst hz
    have h3 := (h.dat y hy).1.blk k o e
    have h4 := hx.blk k' o' e'
    omega
  · rcases e with e | e | e
    · omega
    · omega
    · exact (h.far g e.symm).2 rfl
theorem fr_ofB {B S : Nat} {w w' : World} (h : Below B w w') : Fr (fun i => B ≤ i ∨ S ≤ i) w w' := ⟨h.os, h.tape, h.output, h.size, fun i hi hn => h.block i (Nat.not_le.1 (fun e => hn (.inl e)))⟩
/-- The iterator under AppendSeq. -/
theorem as_iter (m : Nat) (w : World) (b Bx : Nat) (rec : Loop) (A : Option Addr) (n c : Nat) (xs : List UInt8) (W : World) (hbw : b = w.heap.size) (hNI : NI w b rec (b + 3) [] W (.slice none 0 0)) (hWs : W.heap.size = b + 3)
    (hcell : w.cell? ⟨Bx, 0, none⟩ = some (.slice A n c)) (hrs : RS w A n c xs) (hab : 0 < n → ∀ k off, A = some ⟨k, off, none⟩ → k < w.heap.size) (hn : n ≤ 1000000)
    (hY : ∀ g pre x B W1 v, NI w b rec g pre B v → b + 3 ≤ g → g < W1.heap.size → Fr (fun k => k = g) B W1 → DatIs B.heap.size W1 x.A x.c x.nt.dat → (∀ k o, x.A = some ⟨k, o, none⟩ → k ≠ g) → pre.length ≤ 1000000 →
      YieldAt Fence.wide m Tryd.prog (b + 2) #[ntv x] W1 (fun e W' => e = .returned (.bool true) ∧ ((∃ v', NI w b rec g (pre ++ [x]) W' v') ∧ Below w.heap.size W1 W' ∧ W'.heap[g]? = W1.heap[g]?))) :
    CallsIn Fence.wide (m + 1) Tryd.prog 61 #[.func (.yield (b + 2)) #[] #[], .pointer (some ⟨Bx, 0, none⟩)] W fun e W2 => (∃ v, e = .returned v) ∧ W2.heap[b + 2]? = some (.loop rec) ∧ ∃ g ys v, ys.map (·.nt) = bkNotes xs ∧ NI w b rec g ys W2 v := by
  have hBx : Bx < w.heap.size := World.block_lt_of_cell? w ⟨Bx, 0, none⟩ hcell
  refine callsIn_wide.2 ((bk_iter m Bx (b + 2) (fun i => w.heap.size ≤ i) A n c xs (fun g pre B => ∃ v, NI w b rec g pre B v) W ((hNI.bel.cell (p := ⟨Bx, 0, none⟩) hBx).trans hcell) (Nat.not_le.2 hBx) (hrs.below hNI.bel) (fun h0 k o e => Nat.not_le.2 (hab h0 k o e)) hn (fun g hg => ?_) (fun g pre x B W1 ⟨v, hv⟩ hg hg1 hf hx hxg hl hp => (hY g pre x B W1 v hv (by omega) hg1 hf hx hxg hp).mono (fun e W' h => ⟨h.1, h.2.1, fr_ofB h.2.2.1, h.2.2.2⟩))).mono ?_)
  · exact ⟨.slice none 0 0, hNI.box, hNI.own, hNI.loop, hNI.defd, (fun k h => by cases h), (fun x hx => by cases hx), List.Pairwise.nil, hNI.bel⟩
  · rintro e W2 ⟨hv, g, B, ys, hys, ⟨v, hB⟩, hf, hg⟩
    have h2 := hB.fr (by omega) (by omega) hf
    exact ⟨hv, h2.loop, g, ys, v, hys, h2⟩
theorem NI.start (w : World) (rec : Loop) : NI w w.heap.size rec (w.heap.size + 3) [] (((w.alloc (.cells #[.slice none 0 0] 108)).alloc (.deferred (some []))).alloc (.loop rec)) (.slice none 0 0) := by
  refine ⟨?_, OwnE.nil _ _, ?_, ?_, (fun k h => by cases h), (fun x hx => by cases hx), List.Pairwise.nil, ?_⟩
  · exact (Below.heap_alloc _ _ _ (by simp; omega)).trans ((Below.heap_alloc _ _ _ (by simp)).trans (World.alloc_heap_new w _))
  · have h := World.alloc_heap_new ((w.alloc (.cells #[.slice none 0 0] 108)).alloc (.deferred (some []))) (.loop rec)
    simpa using h
  · have h := World.alloc_heap_new (w.alloc (.cells #[.slice none 0 0] 108)) (.deferred (some []))
    rw [World.size_alloc] at h
    exact (Below.heap_alloc _ _ _ (by simp)).trans h
  · exact (((Below.refl _ w).alloc (Nat.le_refl _) _).alloc (by simp) _).alloc (by simp; omega) _
theorem nt_re_new (w : World) (x : NV) : RNt (w.alloc (.cells (nta x.nt.seq x.A x.nt.dat.length x.c x.nt.fin) 54)) (some ⟨w.heap.size, 0, none⟩) 1 1 [x] := re_lit (f := ntc) (e := 54) ntc_len w [x] (by simp)
theorem NI.busy {w : World} {b : Nat} {rec : Loop} {g : Nat} {pre : List NV} {W1 : World} {v : Value} (h : NI w b rec g pre W1 v) (rb : Loop) (o : Obj) :
    Fr (fun i => i = b + 2) W1 ((W1.alloc o).putObj (b + 2) (.loop rb)) ∧ ((W1.alloc o).putObj (b + 2) (.loop rb)).heap[b]? = some (.cells #[v] 108 (0, 0)) ∧ ((W1.alloc o).putObj (b + 2) (.loop rb)).heap[b + 2]? = some (.loop rb) ∧ ((W1.alloc o).putObj (b + 2) (.loop rb)).heap[W1.heap.size]? = some o ∧ ((W1.alloc o).putObj (b + 2) (.loop rb)).heap.size = W1.heap.size + 1 := by
  have hlt := h.lt
  refine ⟨fr_same (fr_alloc _ _ _) (fr_putObj _ _ _ rfl), ?_, ?_, ?_, by simp⟩
  · exact (World.putObj_heap_other (by omega)).trans ((Below.heap_alloc _ _ _ (by omega)).trans h.box)
  · exact World.putObj_heap_same (by simp; omega)
  · exact (World.putObj_heap_other (by omega)).trans (World.alloc_heap_new _ _)
abbrev b3 (w : World) (k : Nat) : Option Obj := w.heap[k]?
theorem box_set {w : World} {b : Nat} {v : Value} {t : TypeId} (h : w.heap[b]? = some (.cells #[v] t (0, 0))) (v' : Value) : (w.setCell ⟨b, 0, none⟩ v').heap[b]? = some (.cells #[v'] t (0, 0)) := by
  simp [World.setCell, Array.getElem?_modify, h]
/-- A row of records, its data in blocks of their own. -/
structure NtsAt (lo : Nat) (w' : World) (v : Value) (ys : List NV) : Prop where
  own : OwnNt w' v ys
  far : ∀ k, v.ownBlock = some k → lo ≤ k
  dat : ∀ x ∈ ys, DatIs lo w' x.A x.c x.nt.dat ∧ (∀ k o, x.A = some ⟨k, o, none⟩ → v.ownBlock ≠ some k)
  apart : ys.Pairwise (fun x y => ∀ k o k' o', x.A = some ⟨k, o, none⟩ → y.A = some ⟨k', o', none⟩ → k ≠ k')
/-- Behind the loop. -/
structure NtsEnd (w : World) (v : Value) (ys : List NV) (W3 : World) : Prop where
  nts : ∀ o, NtsAt w.heap.size (W3.putObj (w.heap.size + 1) o) v ys
  bel : ∀ o, Below w.heap.size w (W3.putObj (w.heap.size + 1) o)
  cell : W3.cell? ⟨w.heap.size, 0, none⟩ = some v
  defd : W3.heap[w.heap.size + 1]? = some (.deferred (some []))
theorem NtsEnd.of {w : World} {rec : Loop} {g : Nat} {ys : List NV} {W2 : World} {v : Value} (h : NI w w.heap.size rec g ys W2 v) (o : Obj) : NtsEnd w v ys (W2.putObj (w.heap.size + 2) o) := by
  have hlt := h.lt
  have hfr : ∀ o2, Fr (fun i => i = w.heap.size + 1 ∨ i = w.heap.size + 2) W2 ((W2.putObj (w.heap.size + 2) o).putObj (w.heap.size + 1) o2) := fun o2 => fr_same (fr_putObj _ _ _ (.inr rfl)) (fr_putObj _ _ _ (.inl rfl))
  refine ⟨fun o2 => ⟨h.own.fr (hfr o2) (fun k hk e => ?_), fun k hk => ?_, fun x hx => ⟨?_, fun k o3 e => ((h.dat x hx).2 k o3 e).2⟩, h.apart⟩, fun o2 => h.bel.trans ((hfr o2).below w.heap.size h.bel.size (fun i e => by omega)), ?_, ?_⟩
  · have := (h.far k hk).1; omega
  · have := (h.far k hk).1; omega
  · exact ((h.dat x hx).1.fr (hfr o2) (fun k o3 e e2 => by have := ((h.dat x hx).1.blk k o3 e).1; omega)).base (by omega)
  · have hb : (W2.putObj (w.heap.size + 2) o).heap[w.heap.size]? = _ := (World.putObj_heap_other (by omega)).trans h.box
    simp [World.cell?, hb]
  · exact (World.putObj_heap_other (by omega)).trans h.defd
def IsNts (xs : List UInt8) (w : World) (e : Ending) (w' : World) : Prop := ∃ v ys, e = .returned v ∧ ys.map (·.nt) = bkNotes xs ∧ NtsAt w.heap.size w' v ys ∧ Below w.heap.size w w'
end Go.Proofs.YtcppmihambcihaaDoor
