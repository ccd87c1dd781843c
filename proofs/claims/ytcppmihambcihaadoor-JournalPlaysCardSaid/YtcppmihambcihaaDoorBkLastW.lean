/- bank.Last: the walk. -/
import Derived.Test.YtcppmihambcihaaDoorBkLast
import Derived.Deep.DeepCutAuto
namespace Go.Proofs.YtcppmihambcihaaDoor
open Go Go.RowKit Go.Shelf
set_option linter.unusedVariables false
set_option linter.unusedSimpArgs false
attribute [local go_sem] Oper.semAt_some
/-- Ahead of the loop. -/
structure LB (b q : Nat) (w : World) (A : Option Addr) (n c : Nat) (w3 : World) : Prop where
  sz : w3.heap.size = q
  out : w3.heap[b]? = some (.cells (nvc zNV) 54 (0, 0))
  ok : w3.heap[b + 1]? = some (.cells #[.bool false] 4 (0, 0))
  box : w3.cell? ⟨b + 2, 0, none⟩ = some (.slice A n c)
  bel : Below b w w3
  base : b = w.heap.size
theorem LB.of (w : World) (A : Option Addr) (n c : Nat) : LB w.heap.size (w.heap.size + 3) w A n c (((w.alloc (.cells (nvc zNV) 54)).alloc (.cells #[.bool false] 4)).alloc (.cells #[.slice A n c] 29)) := by
  refine ⟨by simp, ?_, ?_, ?_, (((Below.refl _ w).alloc (Nat.le_refl _) _).alloc (by simp) _).alloc (by simp; omega) _, rfl⟩
  · exact (Below.heap_alloc _ _ _ (by simp; omega)).trans ((Below.heap_alloc _ _ _ (by simp)).trans (World.alloc_heap_new w _))
  · have h := World.alloc_heap_new (w.alloc (.cells (nvc zNV) 54)) (.cells #[.bool false] 4)
    rw [World.size_alloc] at h
    exact (Below.heap_alloc _ _ _ (by simp)).trans h
  · have h := World.alloc_heap_new ((w.alloc (.cells (nvc zNV) 54)).alloc (.cells #[.bool false] 4)) (.cells #[.slice A n c] 29)
    simp only [World.size_alloc, Nat.add_assoc, Nat.reduceAdd] at h
    simp only [World.cell?, h]
    rfl
theorem LI.start {b q : Nat} {w : World} {A : Option Addr} {n c : Nat} {w3 : World} (h : LB b q w A n c w3) (hb : b + 2 < q) (rec : Loop) (g : Nat) : LI b q w rec g [] ((w3.alloc (.deferred (some []))).alloc (.loop rec)) := by
  have hs := h.sz
  refine ⟨?_, ?_, ?_, ?_, fun e => absurd rfl e, (h.bel.alloc (by omega) _).alloc (by simp; omega) _, h.base⟩
  · exact (Below.heap_alloc _ _ _ (by simp; omega)).trans ((Below.heap_alloc _ _ _ (by omega)).trans h.out)
  · exact (Below.heap_alloc _ _ _ (by simp; omega)).trans ((Below.heap_alloc _ _ _ (by omega)).trans h.ok)
  · have h2 := World.alloc_heap_new (w3.alloc (.deferred (some []))) (.loop rec)
    simpa [hs] using h2
  · have h2 := World.alloc_heap_new w3 (.deferred (some []))
    rw [hs] at h2
    exact (Below.heap_alloc _ _ _ (by simp; omega)).trans h2
theorem LI.busy {b q : Nat} {w : World} {rec : Loop} {g : Nat} {pre : List NV} {W1 : World} (h : LI b q w rec g pre W1) (hb : b + 2 < q) (rb : Loop) (o : Obj) (Wb : World) (e : (W1.alloc o).putObj (q + 1) (.loop rb) = Wb) :
    Fr (fun i => i = q + 1) W1 Wb ∧ Wb.heap[b]? = some (.cells (nvc (lastNV pre)) 54 (0, 0)) ∧ Wb.heap[b + 1]? = some (.cells #[.bool (!pre.isEmpty)] 4 (0, 0)) ∧ Wb.heap[q + 1]? = some (.loop rb) ∧ Wb.heap[W1.heap.size]? = some o := by
  subst e
  have hlt := h.lt
  refine ⟨fr_same (fr_alloc _ _ _) (fr_putObj _ _ _ rfl), ?_, ?_, ?_, ?_⟩
  · exact (World.putObj_heap_other (by omega)).trans ((Below.heap_alloc _ _ _ (by omega)).trans h.out)
  · exact (World.putObj_heap_other (by omega)).trans ((Below.heap_alloc _ _ _ (by omega)).trans h.ok)
  · exact World.putObj_heap_same (by simp; omega)
  · exact (World.putObj_heap_other (by omega)).trans (World.alloc_heap_new _ _)
theorem LI.body {b q : Nat} {Wb : World} {x y : NV} {k : Bool} {rb : Loop} (hb : b + 2 < q) (h0 : Wb.heap[b]? = some (.cells (nvc y) 54 (0, 0))) (h1 : Wb.heap[b + 1]? = some (.cells #[.bool k] 4 (0, 0))) (h2 : Wb.heap[q + 1]? = some (.loop rb)) (W3 : World)
    (e : (Wb.setCells b 0 (nvc x).toList).setCell ⟨b + 1, 0, none⟩ (.bool true) = W3) :
    Fr (fun i => i = b ∨ i = b + 1) Wb W3 ∧ W3.heap[b]? = some (.cells (nvc x) 54 (0, 0)) ∧ W3.heap[b + 1]? = some (.cells #[.bool true] 4 (0, 0)) ∧ W3.heap[q + 1]? = some (.loop rb) := by
  subst e
  have f1 := fr_setCells (F := fun i => i = b) b rfl (nvc x).toList 0 Wb
  have f2 := fr_setCell (F := fun i => i = b + 1) (w := Wb.setCells b 0 (nvc x).toList) ⟨b + 1, 0, none⟩ (.bool true) rfl
  have hf : Fr (fun i => i = b ∨ i = b + 1) Wb ((Wb.setCells b 0 (nvc x).toList).setCell ⟨b + 1, 0, none⟩ (.bool true)) := fr_same (f1.mono (fun _ _ e => .inl e)) (f2.mono (fun _ _ e => .inr e))
  have l0 := (Array.getElem?_eq_some_iff.mp h0).1
  have l1 := (Array.getElem?_eq_some_iff.mp h1).1
  have l2 := (Array.getElem?_eq_some_iff.mp h2).1
  refine ⟨hf, ?_, ?_, (hf.block _ l2 (by omega)).trans h2⟩
  · exact (f2.block b (by have := f1.size; omega) (by omega)).trans (nt_all h0 _ _ _ _ _)
  · exact box_set ((f1.block _ l1 (by omega)).trans h1) _
/-- Behind the loop. -/
structure LE (b q : Nat) (w : World) (ys : List NV) (W3 : World) : Prop where
  out : W3.heap[b]? = some (.cells (nvc (lastNV ys)) 54 (0, 0))
  ok : W3.heap[b + 1]? = some (.cells #[.bool (!ys.isEmpty)] 4 (0, 0))
  defd : W3.heap[q]? = some (.deferred (some []))
  dat : ys ≠ [] → DatIs (q + 2) W3 (lastNV ys).A (lastNV ys).c (lastNV ys).nt.dat
  bel : Below b w W3
  base : b = w.heap.size
theorem LE.of {b q : Nat} {w : World} {rec : Loop} {g : Nat} {ys : List NV} {W2 : World} (hb : b + 2 < q) (h : LI b q w rec g ys W2) (o : Obj) : LE b q w ys (W2.putObj (q + 1) o) := by
  have hlt := h.lt
  have hf : Fr (fun i => i = q + 1) W2 (W2.putObj (q + 1) o) := fr_putObj _ _ _ rfl
  exact ⟨(hf.block _ (by omega) (by omega)).trans h.out, (hf.block _ (by omega) (by omega)).trans h.ok, (hf.block _ (by omega) (by omega)).trans h.defd, fun hp => (h.dat hp).1.fr hf (fun k o e e2 => by have := (h.dat hp).1.blk k o e; omega), h.bel.trans (hf.below b (by have := h.base; have := h.bel.size; omega) (fun i e => by omega)), h.base⟩
theorem LE.put {b q : Nat} {w : World} {ys : List NV} {W3 : World} (hb : b + 2 < q) (h : LE b q w ys W3) (o : Obj) : (W3.putObj q o).heap[b]? = some (.cells (nvc (lastNV ys)) 54 (0, 0)) ∧ (W3.putObj q o).heap[b + 1]? = some (.cells #[.bool (!ys.isEmpty)] 4 (0, 0)) ∧ (ys ≠ [] → DatIs b (W3.putObj q o) (lastNV ys).A (lastNV ys).c (lastNV ys).nt.dat) ∧ Below b w (W3.putObj q o) := by
  have hlt := (Array.getElem?_eq_some_iff.mp h.defd).1
  have hf : Fr (fun i => i = q) W3 (W3.putObj q o) := fr_putObj _ _ _ rfl
  exact ⟨(hf.block _ (by omega) (by omega)).trans h.out, (hf.block _ (by omega) (by omega)).trans h.ok, fun hp => ((h.dat hp).fr hf (fun k o e e2 => by have := (h.dat hp).blk k o e; omega)).base (by omega), h.bel.trans (hf.below b (by have := h.base; have := h.bel.size; omega) (fun i e => by omega))⟩
theorem LE.drew {b q : Nat} {w : World} {ys : List NV} {W3 : World} (h : LE b q w ys W3) : LE b q w ys W3.drew :=
  ⟨h.out, h.ok, h.defd, fun hp => (h.dat hp).fr (fr_drew (fun _ => False) W3) (fun _ _ _ h => h), h.bel.trans ((below_drew1 W3).mono (by have := h.base; have := h.bel.size; omega)), h.base⟩
def onlyNormal (Q : Exit → Act → World → Prop) : Exit → Act → World → Prop
  | .normal, a, w => Q .normal a w
  | _, _, _ => False
theorem wp_normal {P : Program} {c : Code} {Q : Exit → Act → World → Prop} {a : Act} {w : World} (h : c.wp P (onlyNormal Q) a w) : c.wp P Q a w :=
  wp_mono h (fun e a w h => by cases e <;> first | exact h | exact h.elim)
set_option maxHeartbeats 4000000 in
set_option maxRecDepth 100000 in
theorem bk_last (A : Option Addr) (n c : Nat) (xs : List UInt8) (w : World) (hrs : RS w A n c xs) (hn : n ≤ 1000000) :
    Calls Tryd.prog 25 #[.slice A n c] w (IsLst (bkNotes xs).getLast? w) := by
  have HRS := Lib.hid hrs
  have HAB := Lib.hid (fun h0 k off e => hrs.old h0 k off e)
  have HN := Lib.hid hn
  clear hrs hn
  refine (callsIn_wide (n := 6)).1 ?_
  refine callsIn_of_wp_marks Tryd.func25 rfl trivial ?_ rfl
  simp only [Tryd.ntmps25, List.size_toArray, List.length_cons, List.length_nil, Nat.reduceAdd, Nat.reduceSub, Array.replicate_succ, Array.replicate_zero, List.push_toArray, List.append_toArray, List.nil_append, List.cons_append]
  gi_wp2
  refine ⟨trivial, CallsIn.mono (callsIn_wide.2 (bk_records A n c _)) ?_⟩
  rintro e w0 ⟨rfl, rfl⟩
  have hlb := LB.of w A n c
  simp only [World.size_alloc, Nat.add_assoc, Nat.reduceAdd]
  rw [show (Obj.cells #[.int .u32 0, .slice none 0 0, .int .i64 0] 54) = .cells (nvc zNV) 54 from rfl]
  generalize ((w.alloc (.cells (nvc zNV) 54)).alloc (.cells #[.bool false] 4)).alloc (.cells #[.slice A n c] 29) = w3 at *
  have HLB := Lib.hid hlb
  clear hlb
  have hsz := HLB.out.sz
  gi_wp2
  refine range_on (T := fun fn W2 => ∃ rec g ys, ys.map (·.nt) = bkNotes xs ∧ LI w.heap.size (w.heap.size + 3) w rec g ys W2) rfl (enters_of Tryd.func61 (by kernel_rfl) rfl) ?hcall ?hdone
  case hcall =>
    intro fn
    rw [hsz]
    have hb0 := HLB.out.box
    refine CallsIn.mono (la_iter 4 w w.heap.size (w.heap.size + 3) _ A n c xs _ (by omega) (fun g _ => LI.start HLB.out (by omega) _ g) (by simp [hsz]) ?_ ?_ HAB.out HN.out ?_) ?_
    · have hbb := ((Below.refl w3.heap.size w3).alloc (Nat.le_refl _) (.deferred (some []))).alloc (by simp) (.loop (lrec fn #[] #[] .skip .skip 0 .ready))
      exact (Below.cell (((Below.refl w3.heap.size w3).alloc (Nat.le_refl _) _).alloc (by simp) _) (by show w.heap.size + 2 < _; omega)).trans hb0
    · exact HRS.out.below (HLB.out.bel.trans ((((Below.refl w3.heap.size w3).alloc (Nat.le_refl _) _).alloc (by simp) _).mono (by omega)))
    · intro g pre x B W1 hLI hg hg1 hf hx hxg
      have h1 := hLI.fr (by omega) hg hf
      refine yield_on h1.loop rfl ?_
      have hlt := h1.lt
      have HV := Lib.hid hLI
      have H1 := Lib.hid h1
      have HG := Lib.hid hg
      have HG1 := Lib.hid hg1
      have HF := Lib.hid hf
      have HX := Lib.hid hx
      have HXG := Lib.hid hxg
      have HAL := Lib.hid ((Below.heap_alloc W1 (.cells (nvc x) 54) _ hlt).trans h1.loop)
      have HLT := Lib.hid hlt
      clear hLI hg hg1 hf hx hxg hb0 h1 hlt
      dsimp only [ntv]
      gi_wp2
      refine ⟨HAL.out, ?_⟩
      have hbz := fun rb Wb e => LI.busy H1.out (by omega) rb (.cells (nvc x) 54) Wb e
      clear HAL
      change Code.wpIn _ _ _ _ _ _ ((W1.alloc (.cells (nvc x) 54)).putObj (w.heap.size + 3 + 1) _)
      generalize hWb : World.putObj (W1.alloc (.cells (nvc x) 54)) (w.heap.size + 3 + 1) _ = Wb
      obtain ⟨hb1, hb2, hb3, hb4, hb5⟩ := hbz _ _ hWb
      clear hbz hWb
      have n0 : Wb.cell? ⟨W1.heap.size, 0, none⟩ = some (.int .u32 x.nt.seq) := by simp [World.cell?, hb5]
      have n1 : Wb.cell? ⟨W1.heap.size, 1, none⟩ = some (.slice x.A x.nt.dat.length x.c) := by simp [World.cell?, hb5]
      have n2 : Wb.cell? ⟨W1.heap.size, 2, none⟩ = some (.int .i64 x.nt.fin) := by simp [World.cell?, hb5]
      have m0 : Wb.cell? ⟨w.heap.size, 0, none⟩ = some (.int .u32 (lastNV pre).nt.seq) := by simp [World.cell?, hb2]
      have m1 : Wb.cell? ⟨w.heap.size, 1, none⟩ = some (.slice (lastNV pre).A (lastNV pre).nt.dat.length (lastNV pre).c) := by simp [World.cell?, hb2]
      have m2 : Wb.cell? ⟨w.heap.size, 2, none⟩ = some (.int .i64 (lastNV pre).nt.fin) := by simp [World.cell?, hb2]
      have mf : ∀ i, Wb.frozen? ⟨w.heap.size, i, none⟩ = false := fun i => by simp [World.frozen?, hb2]
      have k0 : Wb.cell? ⟨w.heap.size + 1, 0, none⟩ = some (.bool (!pre.isEmpty)) := by simp [World.cell?, hb3]
      have k1 : Wb.frozen? ⟨w.heap.size + 1, 0, none⟩ = false := by simp [World.frozen?, hb3]
      have HB1 := Lib.hid hb1
      have HB2 := Lib.hid hb2
      have HB3 := Lib.hid hb3
      have HB4 := Lib.hid hb4
      clear hb1 hb2 hb3 hb4 hb5
      gi_wp2
      generalize hW3 : (((Wb.setCell ⟨w.heap.size, 0, none⟩ (.int .u32 x.nt.seq)).setCell ⟨w.heap.size, 1, none⟩ (.slice x.A x.nt.dat.length x.c)).setCell ⟨w.heap.size, 2, none⟩ (.int .i64 x.nt.fin)).setCell ⟨w.heap.size + 1, 0, none⟩ (.bool true) = W3
      have hbd := LI.body (x := x) (q := w.heap.size + 3) (by omega) HB2.out HB3.out HB4.out W3 hW3
      clear hW3 m0 m1 m2 mf k0 k1 n0 n1 n2
      have hlt := HLT.out
      have hF : ∀ o, Fr (fun i => i = w.heap.size ∨ i = w.heap.size + 1 ∨ i = w.heap.size + 3 + 1) W1 (W3.putObj (w.heap.size + 3 + 1) o) := fun o =>
        fr_same (fr_same (HB1.out.mono (fun i _ e => .inr (.inr e))) (hbd.1.mono (fun i _ e => e.elim .inl (fun e => .inr (.inl e))))) (fr_putObj _ _ _ (.inr (.inr rfl)))
      have hs3 : w.heap.size + 3 + 1 < W3.heap.size := (Array.getElem?_eq_some_iff.mp hbd.2.2.2).1
      exact ⟨hbd.2.2.2, LI.push HV.out (by omega) HG.out HG1.out HF.out HX.out HXG.out (hF _) ((World.putObj_heap_other (by omega)).trans hbd.2.1) ((World.putObj_heap_other (by omega)).trans hbd.2.2.1) (World.putObj_heap_same hs3)⟩
    · rintro e W2 ⟨hv, hl, g, ys, hys, hLI⟩
      exact ⟨hv, hl, _, g, ys, hys, hLI⟩
  case hdone =>
    rintro fn W2 ⟨rec, g, ys, hys, hLI⟩ hl
    have hq := fun o => LE.of (by omega) hLI o
    rw [hsz]
    generalize hW3 : W2.putObj (w.heap.size + 3 + 1) _ = W3
    have h3 : LE w.heap.size (w.heap.size + 3) w ys W3 := hW3 ▸ hq _
    clear hW3 hq hLI hl
    have H3 := Lib.hid h3
    have HYS := Lib.hid hys
    clear h3 hys
    gi_wp2
    refine wpIn_wide.2 (wp_normal ?_)
    have c0 : ∀ w', LE w.heap.size (w.heap.size + 3) w ys w' → w'.cell? ⟨w.heap.size, 0, none⟩ = some (.int .u32 (lastNV ys).nt.seq) := fun w' h => by simp [World.cell?, h.out]
    have c1 : ∀ w', LE w.heap.size (w.heap.size + 3) w ys w' → w'.cell? ⟨w.heap.size, 1, none⟩ = some (.slice (lastNV ys).A (lastNV ys).nt.dat.length (lastNV ys).c) := fun w' h => by simp [World.cell?, h.out]
    have c2 : ∀ w', LE w.heap.size (w.heap.size + 3) w ys w' → w'.cell? ⟨w.heap.size, 2, none⟩ = some (.int .i64 (lastNV ys).nt.fin) := fun w' h => by simp [World.cell?, h.out]
    have k0 : ∀ w', LE w.heap.size (w.heap.size + 3) w ys w' → w'.cell? ⟨w.heap.size + 1, 0, none⟩ = some (.bool (!ys.isEmpty)) := fun w' h => by simp [World.cell?, h.ok]
    have f0 : ∀ w', LE w.heap.size (w.heap.size + 3) w ys w' → ∀ i, w'.frozen? ⟨w.heap.size, i, none⟩ = false := fun w' h i => by simp [World.frozen?, h.out]
    have f1 : ∀ w', LE w.heap.size (w.heap.size + 3) w ys w' → w'.frozen? ⟨w.heap.size + 1, 0, none⟩ = false := fun w' h => by simp [World.frozen?, h.ok]
    have hS : LE w.heap.size (w.heap.size + 3) w ys W3.drew := LE.drew H3.out
    refine wp_region_held (S := fun w' => LE w.heap.size (w.heap.size + 3) w ys w') (by kernel_rfl) ?_
    change wpAnyH _ _ _ _ _ _ _ _ W3.drew
    generalize W3.drew = W4 at *
    change wpAnyH _ _ _ _ _ 4 (Array.replicate 4 false) _ _
    refine wpAnyH_take (i := 0) (oi := ?_) (v := ?_) ?_ (by kernel_rfl) (by kernel_rfl) (by kernel_rfl) ?_ ?_ (by assumption) ?_
    rotate_left 2; (simp only [List.getElem?_toArray, List.getElem?_cons_succ, List.getElem?_cons_zero]; rfl)
    rotate_left; (first | (refine .inl ⟨by rfl, ?_⟩; intro w9 hS9; go_simp; try with_reducible rfl) | (refine .inr ⟨by rfl, ?_⟩; with_reducible rfl))
    rotate_left; (intro _ _ _ h9; exact h9)
    try simp only [Act.put, List.setIfInBounds_toArray, List.set_cons_zero, List.set_cons_succ]
    refine wpAnyH_take (i := 1) (oi := ?_) (v := ?_) ?_ (by kernel_rfl) (by kernel_rfl) (by kernel_rfl) ?_ ?_ (by assumption) ?_
    rotate_left 2; (simp only [List.getElem?_toArray, List.getElem?_cons_succ, List.getElem?_cons_zero]; rfl)
    rotate_left; (first | (refine .inl ⟨by rfl, ?_⟩; intro w9 hS9; go_simp; try with_reducible rfl) | (refine .inr ⟨by rfl, ?_⟩; with_reducible rfl))
    rotate_left; (intro _ _ _ h9; exact h9)
    try simp only [Act.put, List.setIfInBounds_toArray, List.set_cons_zero, List.set_cons_succ]
    refine wpAnyH_ready (rs := [2]) (by kernel_rfl) (by simp) (AllReadyH.cons rfl (fun K9 hK9 => ?_) AllReadyH.nil)
    go_simp
    rw [setCell_self hS.out rfl, setCell_self hS.out rfl, setCell_self hS.out rfl]
    refine hK9.out _ _ hS (fun _ => ?_)
    refine wpAnyH_ready (rs := [3]) (by kernel_rfl) (by simp) (AllReadyH.cons rfl (fun K9 hK9 => ?_) AllReadyH.nil)
    go_simp
    rw [setCell_self hS.ok rfl]
    refine hK9.out _ _ hS (fun _ => ?_)
    refine wpAnyH_done (by kernel_rfl) ?_ _
    have HS := Lib.hid hS
    clear hS c0 c1 c2 k0 f0 f1
    unfold onlyNormal
    gi_wp2
    refine ⟨by simp, .inl ⟨_, _, rfl, run_takeDeferred HS.out.defd, ?_⟩⟩
    obtain ⟨p1, p2, p3, p4⟩ := LE.put (by omega) HS.out (.deferred none)
    generalize W4.putObj (w.heap.size + 3) (.deferred none) = W5 at *
    refine ⟨_, results_cells_row rfl _ _ w.heap.size _ _ _ _ ⟨w.heap.size + 1, 0, none⟩ (.bool (!ys.isEmpty)) rfl rfl ?_ p1 rfl Tryd.underlying54 (by kernel_rfl), ?_⟩
    · have hb : W5.cell? ⟨w.heap.size + 1, 0, none⟩ = some (.bool (!ys.isEmpty)) := by simp [World.cell?, p2]
      simp [loadVar, isAgg, go_sem, hb, Sem.run_bind, run_underlying Tryd.underlying4, Result.andThen]
    · rw [← HYS.out]
      exact IsLst.of rfl p3 p4
end Go.Proofs.YtcppmihambcihaaDoor
