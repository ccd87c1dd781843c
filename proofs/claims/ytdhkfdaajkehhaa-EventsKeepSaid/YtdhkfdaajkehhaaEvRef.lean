/- crossbuckref24.Log: New, Add, Lost, All. -/
import Derived.Test.YtdhkfdaajkehhaaEvRing
namespace Go.Proofs.Ytdhkfdaajkehhaa
open Go.RowKit
set_option linter.unusedVariables false
set_option linter.unusedSimpArgs false

/-- The document's log lies at g: its room, its row v. -/
structure RefAt (w : World) (g : Nat) (v : Value) (room : Nat) (es : List Ev) : Prop where
  heap : w.heap[g]? = some (.cells #[.int .i64 room, v] 41 (0, 0))
  own : OwnEv w v es
  apart : v.ownBlock ≠ some g
theorem RefAt.lt {w : World} {g : Nat} {v : Value} {room : Nat} {es : List Ev} (h : RefAt w g v room es) : g < w.heap.size := (Array.getElem?_eq_some_iff.1 h.heap).1
theorem RefAt.fr {w w' : World} {g : Nat} {v : Value} {room : Nat} {es : List Ev} (h : RefAt w g v room es) {F : Nat → Prop} (hf : Fr F w w') (h1 : ¬ F g) (h2 : ∀ k, v.ownBlock = some k → ¬ F k) : RefAt w' g v room es :=
  ⟨(hf.block g h.lt h1).trans h.heap, h.own.fr hf h2, h.apart⟩
theorem RefAt.below {w w' : World} {g : Nat} {v : Value} {room : Nat} {es : List Ev} (h : RefAt w g v room es) (hb : Below w.heap.size w w') : RefAt w' g v room es := h.fr (Fr.ofBelow hb (fun _ => False)) id (fun _ _ => id)
theorem RefAt.cell {w : World} {g : Nat} {v : Value} {room : Nat} {es : List Ev} (h : RefAt w g v room es) : w.cell? ⟨g, 0, none⟩ = some (.int .i64 room) ∧ w.cell? ⟨g, 1, none⟩ = some v := by
  refine ⟨?_, ?_⟩ <;> simp [World.cell?, h.heap]
theorem RefAt.cells {w : World} {g : Nat} {v : Value} {room : Nat} {es : List Ev} (h : RefAt w g v room es) : (∀ w', Below w.heap.size w w' → w'.cell? ⟨g, 0, none⟩ = some (.int .i64 room)) ∧ (∀ w', Below w.heap.size w w' → w'.cell? ⟨g, 1, none⟩ = some v) :=
  ⟨fun _ hb => (h.below hb).cell.1, fun _ hb => (h.below hb).cell.2⟩
theorem RefAt.setRow {w : World} {g : Nat} {v0 v : Value} {room : Nat} {es : List Ev} (h : w.heap[g]? = some (.cells #[.int .i64 room, v0] 41 (0, 0))) (ho : OwnEv w v es) (ha : v.ownBlock ≠ some g) : RefAt (w.setCell ⟨g, 1, none⟩ v) g v room es :=
  ⟨by simp [World.setCell, Array.getElem?_modify, h], ho.fr (fr_setCell (F := fun k => k = g) _ _ rfl) (fun k hk e => ha (by rw [hk, e])), ha⟩
theorem ref_at_new (w : World) (size z : Int) (hz : z = (room size : Nat)) : RefAt (w.alloc (.cells #[.int .i64 z, .slice none 0 0] 41)) w.heap.size (.slice none 0 0) (room size) [] :=
  ⟨by rw [heap_alloc_new, hz], OwnE.nil _ _, (fun h => by cases h)⟩
theorem ref_new (size : Int) (w : World) : Calls Try.prog 9 #[.int .i64 size] w fun e w' => e = .returned (.pointer (some ⟨w.heap.size, 0, none⟩)) ∧ RefAt w' w.heap.size (.slice none 0 0) (room size) [] ∧ Below w.heap.size w w' := by
  go_enter Try.func9, Try.ntmps9
  go_wp2_with fail
  all_goals
    go_ret
    exact ⟨rfl, ref_at_new w size _ (by unfold room; omega), fr_below_alloc w _⟩

set_option maxHeartbeats 4000000 in
set_option maxRecDepth 100000 in
theorem ref_add (g : Nat) (v : Value) (size : Nat) (ring : List Ev) (x : Ev) (w : World) (h : RefAt w g v size ring) (hn : ring.length ≤ 1000000000) :
    Calls Try.prog 11 #[.pointer (some ⟨g, 0, none⟩), .agg #[.int .u64 x.tm, .int .i64 x.code, .int .i64 x.arg]] w fun e w' => ∃ v', e = .returned (.tuple #[]) ∧ RefAt w' g v' size (ring ++ [x]) ∧ (∀ k, v'.ownBlock = some k → v.ownBlock = some k ∨ w.heap.size ≤ k) ∧ Fr (fun k => k = g ∨ v.ownBlock = some k) w w' := by
  have hgl := h.lt
  obtain ⟨A0, c0, rfl, hre, hob, ha0⟩ := h.own.re (by omega)
  generalize hm : ring.length = m at *
  go_enter Try.func11, Try.ntmps11
  have hbx := fr_below_alloc w (.cells #[.int .u64 x.tm, .int .i64 x.code, .int .i64 x.arg] 31)
  have hx9 : (w.alloc (.cells #[.int .u64 x.tm, .int .i64 x.code, .int .i64 x.arg] 31)).rangeAt w.heap.size 0 (evc x) := fun j v hv => by
    rw [World.cell?_alloc_at _ _ _ _ rfl, Nat.zero_add]
    rw [List.getElem?_toArray]
    exact hv
  have hsz9 : w.heap.size < (w.alloc (.cells #[.int .u64 x.tm, .int .i64 x.code, .int .i64 x.arg] 31)).heap.size := by simp
  go_wp2_with fail
  generalize hwb : w.alloc (.cells #[.int .u64 x.tm, .int .i64 x.code, .int .i64 x.arg] 31) = wb at hbx hx9 hsz9 ⊢
  have h1 := h.below hbx
  obtain ⟨y0, y1⟩ := h1.cells
  obtain ⟨x0, x1, x2⟩ := ev_cells wb _ 0 x hx9 hsz9
  clear hwb
  have hS1 : Below wb.heap.size wb wb.drew := ⟨rfl, rfl, rfl, Nat.le_refl _, fun _ _ => rfl⟩
  refine wp_region_piv 7 (fun w' => Below wb.heap.size wb w') (by kernel_rfl) ?_
  change wpAnyP _ _ _ _ 7 _ 11 (Array.replicate 11 false) _ _
  refine wpAnyP_pure (i := 0) (oi := ?_) (v := ?_) ?_ (by kernel_rfl) (by kernel_rfl) (by kernel_rfl) (by rfl) ?_ ?_ (by kernel_rfl) (by first | exact .inl rfl | exact .inr (by assumption)) ?_
  rotate_left 2; (simp only [List.getElem?_toArray, List.getElem?_cons_succ, List.getElem?_cons_zero]; rfl)
  rotate_left; (first | (refine .inl ⟨by rfl, ?_⟩; intro w9 hS9; go_simp; try with_reducible rfl) | (refine .inr ⟨by rfl, ?_⟩; with_reducible rfl))
  rotate_left; (intro _ _ _ h9; exact h9)
  try simp only [Act.put, List.setIfInBounds_toArray, List.set_cons_zero, List.set_cons_succ]
  refine wpAnyP_read (i := 1) (oi := ?_) (v := ?_) ?_ (by kernel_rfl) (by kernel_rfl) (by kernel_rfl) (by rfl) (by kernel_rfl) ?_ ?_ (by kernel_rfl) (by assumption) ?_
  rotate_left 2; (simp only [List.getElem?_toArray, List.getElem?_cons_succ, List.getElem?_cons_zero]; rfl)
  rotate_left; (first | (refine .inl ⟨by rfl, ?_⟩; intro w9 hS9; go_simp; try with_reducible rfl) | (refine .inr ⟨by rfl, ?_⟩; with_reducible rfl))
  rotate_left; (intro _ _ _ h9; exact h9)
  try simp only [Act.put, List.setIfInBounds_toArray, List.set_cons_zero, List.set_cons_succ]
  refine wpAnyP_read (i := 2) (oi := ?_) (v := ?_) ?_ (by kernel_rfl) (by kernel_rfl) (by kernel_rfl) (by rfl) (by kernel_rfl) ?_ ?_ (by kernel_rfl) (by assumption) ?_
  rotate_left 2; (simp only [List.getElem?_toArray, List.getElem?_cons_succ, List.getElem?_cons_zero]; rfl)
  rotate_left; (first | (refine .inl ⟨by rfl, ?_⟩; intro w9 hS9; go_simp; try with_reducible rfl) | (refine .inr ⟨by rfl, ?_⟩; with_reducible rfl))
  rotate_left; (intro _ _ _ h9; exact h9)
  try simp only [Act.put, List.setIfInBounds_toArray, List.set_cons_zero, List.set_cons_succ]
  refine wpAnyP_read (i := 3) (oi := ?_) (v := ?_) ?_ (by kernel_rfl) (by kernel_rfl) (by kernel_rfl) (by rfl) (by kernel_rfl) ?_ ?_ (by kernel_rfl) (by assumption) ?_
  rotate_left 2; (simp only [List.getElem?_toArray, List.getElem?_cons_succ, List.getElem?_cons_zero]; rfl)
  rotate_left; (first | (refine .inl ⟨by rfl, ?_⟩; intro w9 hS9; go_simp; try with_reducible rfl) | (refine .inr ⟨by rfl, ?_⟩; with_reducible rfl))
  rotate_left; (intro _ _ _ h9; exact h9)
  try simp only [Act.put, List.setIfInBounds_toArray, List.set_cons_zero, List.set_cons_succ]
  refine wpAnyP_read (i := 4) (oi := ?_) (v := ?_) ?_ (by kernel_rfl) (by kernel_rfl) (by kernel_rfl) (by rfl) (by kernel_rfl) ?_ ?_ (by kernel_rfl) (by assumption) ?_
  rotate_left 2; (simp only [List.getElem?_toArray, List.getElem?_cons_succ, List.getElem?_cons_zero]; rfl)
  rotate_left; (first | (refine .inl ⟨by rfl, ?_⟩; intro w9 hS9; go_simp; try with_reducible rfl) | (refine .inr ⟨by rfl, ?_⟩; with_reducible rfl))
  rotate_left; (intro _ _ _ h9; exact h9)
  try simp only [Act.put, List.setIfInBounds_toArray, List.set_cons_zero, List.set_cons_succ]
  refine wpAnyP_read (i := 5) (oi := ?_) (v := ?_) ?_ (by kernel_rfl) (by kernel_rfl) (by kernel_rfl) (by rfl) (by kernel_rfl) ?_ ?_ (by kernel_rfl) (by assumption) ?_
  rotate_left 2; (simp only [List.getElem?_toArray, List.getElem?_cons_succ, List.getElem?_cons_zero]; rfl)
  rotate_left; (first | (refine .inl ⟨by rfl, ?_⟩; intro w9 hS9; go_simp; try with_reducible rfl) | (refine .inr ⟨by rfl, ?_⟩; with_reducible rfl))
  rotate_left; (intro _ _ _ h9; exact h9)
  try simp only [Act.put, List.setIfInBounds_toArray, List.set_cons_zero, List.set_cons_succ]
  refine wpAnyP_one (i := 6) (by kernel_rfl) rfl (fun K9 hK9 => ?_)
  go_simp
  have hb6 : Below wb.heap.size wb (wb.alloc (.cells #[.int .u64 x.tm, .int .i64 x.code, .int .i64 x.arg] 31)).drew := hS1.alloc (Nat.le_refl _) (.cells #[.int .u64 x.tm, .int .i64 x.code, .int .i64 x.arg] 31)
  have h6 := h1.below hb6
  have hr6 : REv (wb.alloc (.cells #[.int .u64 x.tm, .int .i64 x.code, .int .i64 x.arg] 31)).drew (some ⟨wb.heap.size, 0, none⟩) 1 1 [x] := evc_re_new wb.drew x
  refine hK9.out _ _ (fun _ => hb6) ?_
  generalize (wb.alloc (.cells #[.int .u64 x.tm, .int .i64 x.code, .int .i64 x.arg] 31)).drew = w6 at h6 hr6 hb6 ⊢
  clear hS1 y0 y1 x0 x1 x2 hx9
  refine wpAnyP_one (i := 7) (by kernel_rfl) rfl (fun K9 hK9 => ?_)
  rw [if_pos (by rfl)]
  refine wp_append_fr evT evc_len evc_one _ _ rfl _ ring rfl h6.own _ _ _ [x] rfl hr6 (by omega) (by omega) ?_
  intro v7 w7 hown7 hg7 hf7
  obtain ⟨A7, l7, c7, rfl⟩ : ∃ A l c, v7 = .slice A l c := by
    obtain ⟨A, c, e, _⟩ := hown7.re (by simp; omega)
    exact ⟨_, _, _, e⟩
  refine hK9.out _ _ (fun h9 => nomatch (show true = false from h9)) ?_
  have hgn : (Value.slice A0 m c0).ownBlock ≠ some g := h6.apart
  have h7 : w7.heap[g]? = some (.cells #[.int .i64 size, .slice A0 m c0] 41 (0, 0)) := (hg7.block g h6.lt (fun e => hgn e.symm)).trans h6.heap
  have hgn7 : (Value.slice A7 l7 c7).ownBlock ≠ some g := fun e => by rcases hf7 g e with h | h; exact hgn h; have := h6.lt; omega
  have z0 : w7.cell? ⟨g, 1, none⟩ = some (.slice A0 m c0) := by simp [World.cell?, h7]
  have z1 : w7.frozen? ⟨g, 1, none⟩ = false := by simp [World.frozen?, h7]
  refine wpAnyP_pure (i := 8) (oi := ?_) (v := ?_) ?_ (by kernel_rfl) (by kernel_rfl) (by kernel_rfl) (by rfl) ?_ ?_ (by kernel_rfl) (by first | exact .inl rfl | exact .inr (by assumption)) ?_
  rotate_left 2; (simp only [List.getElem?_toArray, List.getElem?_cons_succ, List.getElem?_cons_zero]; rfl)
  rotate_left; (first | (refine .inl ⟨by rfl, ?_⟩; intro w9 hS9; go_simp; try with_reducible rfl) | (refine .inr ⟨by rfl, ?_⟩; with_reducible rfl))
  rotate_left; (intro _ _ _ h9; exact h9)
  try simp only [Act.put, List.setIfInBounds_toArray, List.set_cons_zero, List.set_cons_succ]
  refine wpAnyP_pure (i := 9) (oi := ?_) (v := ?_) ?_ (by kernel_rfl) (by kernel_rfl) (by kernel_rfl) (by rfl) ?_ ?_ (by kernel_rfl) (by first | exact .inl rfl | exact .inr (by assumption)) ?_
  rotate_left 2; (simp only [List.getElem?_toArray, List.getElem?_cons_succ, List.getElem?_cons_zero]; rfl)
  rotate_left; (first | (refine .inl ⟨by rfl, ?_⟩; intro w9 hS9; go_simp; try with_reducible rfl) | (refine .inr ⟨by rfl, ?_⟩; with_reducible rfl))
  rotate_left; (intro _ _ _ h9; exact h9)
  try simp only [Act.put, List.setIfInBounds_toArray, List.set_cons_zero, List.set_cons_succ]
  refine wpAnyP_one (i := 10) (by kernel_rfl) rfl (fun K9 hK9 => ?_)
  go_simp
  refine hK9.out _ _ (fun h9 => nomatch (show true = false from h9)) ?_
  have h8 := RefAt.setRow h7 hown7 hgn7
  have f8 := fr_setCell (F := fun k => k = g) (w := w7) ⟨g, 1, none⟩ (.slice A7 l7 c7) rfl
  refine wpAnyP_done (by kernel_rfl) ?_ _
  generalize w7.setCell ⟨g, 1, none⟩ (.slice A7 l7 c7) = w8 at h8 f8 ⊢
  clear hK9 h1 h h6 hr6 hown7 h7
  go_wp2_with fail
  go_end0
  refine ⟨_, rfl, h8, fun k hk => (hf7 k hk).imp id (fun h => Nat.le_trans (Nat.le_trans hbx.size hb6.size) h), ?_⟩
  have f1 : Fr (fun k => k = g ∨ (Value.slice A0 m c0).ownBlock = some k) w w6 := (Fr.ofBelow hbx _).trans (Fr.ofBelow hb6 (fun _ => False)) (fun _ h => h.elim)
  exact (f1.trans (Fr.ofGrown hg7) (fun k hk => .inl (.inr hk.symm))).trans f8 (fun k hk => .inl (.inl hk))
end Go.Proofs.Ytdhkfdaajkehhaa
