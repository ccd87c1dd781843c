/- events.Log: New, Add, All, Lost. -/
import Derived.Test.YtdhkfdaajkehhaaEvSame
import Derived.Test.YtdhkfdaajkehhaaPiv
namespace Go.Proofs.Ytdhkfdaajkehhaa
open Go.RowKit
set_option linter.unusedVariables false
set_option linter.unusedSimpArgs false

/-- A log lies at g: its ring v, its room, how many came. -/
structure LogAt (w : World) (g : Nat) (v : Value) (size n : Nat) (ring : List Ev) : Prop where
  heap : w.heap[g]? = some (.cells #[v, .int .i64 size, .int .i64 n] 39 (0, 0))
  own : OwnEv w v ring
  apart : v.ownBlock ≠ some g
theorem LogAt.lt {w : World} {g : Nat} {v : Value} {size n : Nat} {ring : List Ev} (h : LogAt w g v size n ring) : g < w.heap.size := (Array.getElem?_eq_some_iff.1 h.heap).1
theorem LogAt.fr {w w' : World} {g : Nat} {v : Value} {size n : Nat} {ring : List Ev} (h : LogAt w g v size n ring) {F : Nat → Prop} (hf : Fr F w w') (h1 : ¬ F g) (h2 : ∀ k, v.ownBlock = some k → ¬ F k) : LogAt w' g v size n ring :=
  ⟨(hf.block g h.lt h1).trans h.heap, h.own.fr hf h2, h.apart⟩
theorem LogAt.below {w w' : World} {g : Nat} {v : Value} {size n : Nat} {ring : List Ev} (h : LogAt w g v size n ring) (hb : Below w.heap.size w w') : LogAt w' g v size n ring := h.fr (Fr.ofBelow hb (fun _ => False)) id (fun _ _ => id)
theorem LogAt.cell {w : World} {g : Nat} {v : Value} {size n : Nat} {ring : List Ev} (h : LogAt w g v size n ring) : w.cell? ⟨g, 0, none⟩ = some v ∧ w.cell? ⟨g, 1, none⟩ = some (.int .i64 size) ∧ w.cell? ⟨g, 2, none⟩ = some (.int .i64 n) := by
  refine ⟨?_, ?_, ?_⟩ <;> simp [World.cell?, h.heap]
theorem fr_below_alloc (w : World) (o : Obj) : Below w.heap.size w (w.alloc o) := (Below.refl _ _).alloc (Nat.le_refl _) o
theorem LogAt.cells {w : World} {g : Nat} {v : Value} {size n : Nat} {ring : List Ev} (h : LogAt w g v size n ring) : (∀ w', Below w.heap.size w w' → w'.cell? ⟨g, 0, none⟩ = some v) ∧ (∀ w', Below w.heap.size w w' → w'.cell? ⟨g, 1, none⟩ = some (.int .i64 size)) ∧ (∀ w', Below w.heap.size w w' → w'.cell? ⟨g, 2, none⟩ = some (.int .i64 n)) :=
  ⟨fun _ hb => (h.below hb).cell.1, fun _ hb => (h.below hb).cell.2.1, fun _ hb => (h.below hb).cell.2.2⟩
theorem LogAt.free {w : World} {g : Nat} {v : Value} {size n : Nat} {ring : List Ev} (h : LogAt w g v size n ring) (i : Nat) : w.frozen? ⟨g, i, none⟩ = false := by simp [World.frozen?, h.heap]
/-- The ring is another one. -/
theorem LogAt.setRing {w : World} {g : Nat} {v0 v : Value} {size n : Nat} {ring : List Ev} (h : w.heap[g]? = some (.cells #[v0, .int .i64 size, .int .i64 n] 39 (0, 0))) (ho : OwnEv w v ring) (ha : v.ownBlock ≠ some g) : LogAt (w.setCell ⟨g, 0, none⟩ v) g v size n ring :=
  ⟨by simp [World.setCell, Array.getElem?_modify, h], ho.fr (fr_setCell (F := fun k => k = g) _ _ rfl) (fun k hk e => ha (by rw [hk, e])), ha⟩
theorem LogAt.setN {w : World} {g : Nat} {v : Value} {size n : Nat} {ring : List Ev} (h : LogAt w g v size n ring) (m : Nat) : LogAt (w.setCell ⟨g, 2, none⟩ (.int .i64 m)) g v size m ring :=
  ⟨by simp [World.setCell, Array.getElem?_modify, h.heap], h.own.fr (fr_setCell (F := fun k => k = g) _ _ rfl) (fun k hk e => h.apart (by rw [hk, e])), h.apart⟩
theorem evc_re_new (w : World) (x : Ev) : REv (w.alloc (.cells #[.int .u64 x.tm, .int .i64 x.code, .int .i64 x.arg] 31)) (some ⟨w.heap.size, 0, none⟩) 1 1 [x] := re_lit (e := 31) evc_len w [x] (by simp)
/-- The room that a size gives. -/
def room (size : Int) : Nat := (max 1 (min size 1024)).toNat
theorem room_bd (size : Int) : 1 ≤ room size ∧ room size ≤ 1024 := by unfold room; omega

theorem log_at_new (w : World) (size z : Int) (hz : z = (room size : Nat)) : LogAt (w.alloc (.cells #[.slice none 0 0, .int .i64 z, .int .i64 0] 39)) w.heap.size (.slice none 0 0) (room size) 0 [] :=
  ⟨by rw [heap_alloc_new, hz]; rfl, OwnE.nil _ _, (fun h => by cases h)⟩
theorem log_new (size : Int) (w : World) : Calls Try.prog 8 #[.int .i64 size] w fun e w' => e = .returned (.pointer (some ⟨w.heap.size, 0, none⟩)) ∧ LogAt w' w.heap.size (.slice none 0 0) (room size) 0 [] ∧ Below w.heap.size w w' := by
  go_enter Try.func8, Try.ntmps8
  go_wp2_with fail
  all_goals
    go_ret
    exact ⟨rfl, log_at_new w size _ (by unfold room; omega), fr_below_alloc w _⟩

/-- What an Add leaves. -/
def added (ring : List Ev) (size n : Nat) (x : Ev) : List Ev := if ring.length < size then ring ++ [x] else ring.set (n % size) x

set_option maxHeartbeats 4000000 in
set_option maxRecDepth 100000 in
theorem log_add (g : Nat) (v : Value) (size n : Nat) (ring : List Ev) (x : Ev) (w : World) (h : LogAt w g v size n ring) (hs0 : 1 ≤ size) (hs1 : size ≤ 1024) (hn : n ≤ 1000000000) (hrl : ring.length = min n size) :
    Calls Try.prog 10 #[.pointer (some ⟨g, 0, none⟩), .agg #[.int .u64 x.tm, .int .i64 x.code, .int .i64 x.arg]] w fun e w' => ∃ v', e = .returned (.tuple #[]) ∧ LogAt w' g v' size (n + 1) (added ring size n x) ∧ (∀ k, v'.ownBlock = some k → v.ownBlock = some k ∨ w.heap.size ≤ k) ∧ Fr (fun k => k = g ∨ v.ownBlock = some k) w w' := by
  have hgl := h.lt
  obtain ⟨A0, c0, rfl, hre, hob, ha0⟩ := h.own.re (by omega)
  generalize hm : ring.length = m at *
  go_enter Try.func10, Try.ntmps10
  by_cases hroom : m < size
  · have hmn : m = n := by omega
    subst hmn
    clear hrl
    have hroom' : (m : Int) < size := by omega
    have hbx := fr_below_alloc w (.cells #[.int .u64 x.tm, .int .i64 x.code, .int .i64 x.arg] 31)
    have hx9 : (w.alloc (.cells #[.int .u64 x.tm, .int .i64 x.code, .int .i64 x.arg] 31)).rangeAt w.heap.size 0 (evc x) := fun j v hv => by
      rw [World.cell?_alloc_at _ _ _ _ rfl, Nat.zero_add]
      rw [List.getElem?_toArray]
      exact hv
    have hsz9 : w.heap.size < (w.alloc (.cells #[.int .u64 x.tm, .int .i64 x.code, .int .i64 x.arg] 31)).heap.size := by simp
    go_wp2_with fail
    generalize hwb : w.alloc (.cells #[.int .u64 x.tm, .int .i64 x.code, .int .i64 x.arg] 31) = wb at hbx hx9 hsz9 ⊢
    have h1 := h.below hbx
    obtain ⟨y0, y1, y2⟩ := h1.cells
    obtain ⟨x0, x1, x2⟩ := ev_cells wb _ 0 x hx9 hsz9
    clear hwb
    refine wp_region_held (S := fun w' => Below wb.heap.size wb w') (by kernel_rfl) ?_
    change wpAnyH _ _ _ _ _ _ _ _ wb.drew
    have hS0 : Below wb.heap.size wb wb.drew := ⟨rfl, rfl, rfl, Nat.le_refl _, fun _ _ => rfl⟩
    change wpAnyH _ _ _ _ _ 10 (Array.replicate 10 false) _ _
    refine wpAnyH_take (i := 0) (oi := ?_) (v := ?_) ?_ (by kernel_rfl) (by kernel_rfl) (by kernel_rfl) ?_ ?_ (by assumption) ?_
    rotate_left 2; (simp only [List.getElem?_toArray, List.getElem?_cons_succ, List.getElem?_cons_zero]; rfl)
    rotate_left; (first | (refine .inl ⟨by rfl, ?_⟩; intro w9 hS9; go_simp; try with_reducible rfl) | (refine .inr ⟨by rfl, ?_⟩; with_reducible rfl))
    rotate_left; (intro _ _ _ h9; exact h9)
    try simp only [Act.put, List.setIfInBounds_toArray, List.set_cons_zero, List.set_cons_succ]
    refine wpAnyH_take (i := 1) (oi := ?_) (v := ?_) ?_ (by kernel_rfl) (by kernel_rfl) (by kernel_rfl) ?_ ?_ (by assumption) ?_
    rotate_left 2; (simp only [List.getElem?_toArray, List.getElem?_cons_succ, List.getElem?_cons_zero]; rfl)
    rotate_left; (first | (refine .inl ⟨by rfl, ?_⟩; intro w9 hS9; go_simp; try with_reducible rfl) | (refine .inr ⟨by rfl, ?_⟩; with_reducible rfl))
    rotate_left; (intro _ _ _ h9; exact h9)
    try simp only [Act.put, List.setIfInBounds_toArray, List.set_cons_zero, List.set_cons_succ]
    refine wpAnyH_take (i := 2) (oi := ?_) (v := ?_) ?_ (by kernel_rfl) (by kernel_rfl) (by kernel_rfl) ?_ ?_ (by assumption) ?_
    rotate_left 2; (simp only [List.getElem?_toArray, List.getElem?_cons_succ, List.getElem?_cons_zero]; rfl)
    rotate_left; (first | (refine .inl ⟨by rfl, ?_⟩; intro w9 hS9; go_simp; try with_reducible rfl) | (refine .inr ⟨by rfl, ?_⟩; with_reducible rfl))
    rotate_left; (intro _ _ _ h9; exact h9)
    try simp only [Act.put, List.setIfInBounds_toArray, List.set_cons_zero, List.set_cons_succ]
    refine wpAnyH_take (i := 3) (oi := ?_) (v := ?_) ?_ (by kernel_rfl) (by kernel_rfl) (by kernel_rfl) ?_ ?_ (by assumption) ?_
    rotate_left 2; (simp only [List.getElem?_toArray, List.getElem?_cons_succ, List.getElem?_cons_zero]; rfl)
    rotate_left; (first | (refine .inl ⟨by rfl, ?_⟩; intro w9 hS9; go_simp; try with_reducible rfl) | (refine .inr ⟨by rfl, ?_⟩; with_reducible rfl))
    rotate_left; (intro _ _ _ h9; exact h9)
    try simp only [Act.put, List.setIfInBounds_toArray, List.set_cons_zero, List.set_cons_succ]
    refine wpAnyH_take (i := 4) (oi := ?_) (v := ?_) ?_ (by kernel_rfl) (by kernel_rfl) (by kernel_rfl) ?_ ?_ (by assumption) ?_
    rotate_left 2; (simp only [List.getElem?_toArray, List.getElem?_cons_succ, List.getElem?_cons_zero]; rfl)
    rotate_left; (first | (refine .inl ⟨by rfl, ?_⟩; intro w9 hS9; go_simp; try with_reducible rfl) | (refine .inr ⟨by rfl, ?_⟩; with_reducible rfl))
    rotate_left; (intro _ _ _ h9; exact h9)
    try simp only [Act.put, List.setIfInBounds_toArray, List.set_cons_zero, List.set_cons_succ]
    refine wpAnyH_take (i := 5) (oi := ?_) (v := ?_) ?_ (by kernel_rfl) (by kernel_rfl) (by kernel_rfl) ?_ ?_ (by assumption) ?_
    rotate_left 2; (simp only [List.getElem?_toArray, List.getElem?_cons_succ, List.getElem?_cons_zero]; rfl)
    rotate_left; (first | (refine .inl ⟨by rfl, ?_⟩; intro w9 hS9; go_simp; try with_reducible rfl) | (refine .inr ⟨by rfl, ?_⟩; with_reducible rfl))
    rotate_left; (intro _ _ _ h9; exact h9)
    try simp only [Act.put, List.setIfInBounds_toArray, List.set_cons_zero, List.set_cons_succ]
    refine wpAnyH_take (i := 6) (oi := ?_) (v := ?_) ?_ (by kernel_rfl) (by kernel_rfl) (by kernel_rfl) ?_ ?_ (by assumption) ?_
    rotate_left 2; (simp only [List.getElem?_toArray, List.getElem?_cons_succ, List.getElem?_cons_zero]; rfl)
    rotate_left; (first | (refine .inl ⟨by rfl, ?_⟩; intro w9 hS9; go_simp; try with_reducible rfl) | (refine .inr ⟨by rfl, ?_⟩; with_reducible rfl))
    rotate_left; (intro _ _ _ h9; exact h9)
    try simp only [Act.put, List.setIfInBounds_toArray, List.set_cons_zero, List.set_cons_succ]
    refine wpAnyH_take (i := 7) (oi := ?_) (v := ?_) ?_ (by kernel_rfl) (by kernel_rfl) (by kernel_rfl) ?_ ?_ (by assumption) ?_
    rotate_left 2; (simp only [List.getElem?_toArray, List.getElem?_cons_succ, List.getElem?_cons_zero]; rfl)
    rotate_left; (first | (refine .inl ⟨by rfl, ?_⟩; intro w9 hS9; go_simp; try with_reducible rfl) | (refine .inr ⟨by rfl, ?_⟩; with_reducible rfl))
    rotate_left; (intro _ _ _ h9; exact h9)
    try simp only [Act.put, List.setIfInBounds_toArray, List.set_cons_zero, List.set_cons_succ]
    refine wpAnyH_take (i := 8) (oi := ?_) (v := ?_) ?_ (by kernel_rfl) (by kernel_rfl) (by kernel_rfl) ?_ ?_ (by assumption) ?_
    rotate_left 2; (simp only [List.getElem?_toArray, List.getElem?_cons_succ, List.getElem?_cons_zero]; rfl)
    rotate_left; (first | (refine .inl ⟨by rfl, ?_⟩; intro w9 hS9; go_simp; try with_reducible rfl) | (refine .inr ⟨by rfl, ?_⟩; with_reducible rfl))
    rotate_left; (intro _ _ _ h9; exact h9)
    try simp only [Act.put, List.setIfInBounds_toArray, List.set_cons_zero, List.set_cons_succ]
    refine wpAnyH_take (i := 9) (oi := ?_) (v := ?_) ?_ (by kernel_rfl) (by kernel_rfl) (by kernel_rfl) ?_ ?_ (by assumption) ?_
    rotate_left 2; (simp only [List.getElem?_toArray, List.getElem?_cons_succ, List.getElem?_cons_zero]; rfl)
    rotate_left; (first | (refine .inl ⟨by rfl, ?_⟩; intro w9 hS9; go_simp; try with_reducible rfl) | (refine .inr ⟨by rfl, ?_⟩; with_reducible rfl))
    rotate_left; (intro _ _ _ h9; exact h9)
    try simp only [Act.put, List.setIfInBounds_toArray, List.set_cons_zero, List.set_cons_succ]
    refine wpAnyH_done (by kernel_rfl) ?_ _
    go_wp2_with fail
    have hS1 : Below wb.heap.size wb wb.drew.drew := ⟨rfl, rfl, rfl, Nat.le_refl _, fun _ _ => rfl⟩
    refine wp_region_piv 7 (fun w' => Below wb.heap.size wb w') (by kernel_rfl) ?_
    change wpAnyP _ _ _ _ 7 _ 11 (Array.replicate 11 false) _ _
    refine wpAnyP_pure (i := 0) (oi := ?_) (v := ?_) ?_ (by kernel_rfl) (by kernel_rfl) (by kernel_rfl) (by rfl) ?_ ?_ (by kernel_rfl) (by first | exact .inl rfl | exact .inr (by assumption)) ?_
    rotate_left 2; (simp only [List.getElem?_toArray, List.getElem?_cons_succ, List.getElem?_cons_zero]; rfl)
    rotate_left; (first | (refine .inl ⟨by rfl, ?_⟩; intro w9 hS9; go_simp; try with_reducible rfl) | (refine .inr ⟨by rfl, ?_⟩; with_reducible rfl))
    rotate_left; (intro _ _ _ h9; exact h9)
    try simp only [Act.put, List.setIfInBounds_toArray, List.set_cons_zero, List.set_cons_succ]
    refine wpAnyP_read (i := 1) (oi := ?_) (v := ?_) ?_ (by kernel_rfl) (by kernel_rfl) (by kernel_rfl) (by rfl) (by kernel_rfl) ?_ ?_ (by kernel_rfl) (by assumption) ?_
    rotate_left 2; (simp only [List.getElem?_toArray, List.getElem?_cons_succ, List.getElem?_cons_zero]; rfl)
    rotate_left; (first | (refine .inl ⟨by rfl, ?_⟩; intro w9 hS9; go_simp; try with_reducible rfl) | (refine .inr ⟨by rfl, ?_⟩; with_reducible rfl))
    rotate_left; (intro _ _ _ h9; exact h9)
    try simp only [Act.put, List.setIfInBounds_toArray, List.set_cons_zero, List.set_cons_succ]
    refine wpAnyP_read (i := 2) (oi := ?_) (v := ?_) ?_ (by kernel_rfl) (by kernel_rfl) (by kernel_rfl) (by rfl) (by kernel_rfl) ?_ ?_ (by kernel_rfl) (by assumption) ?_
    rotate_left 2; (simp only [List.getElem?_toArray, List.getElem?_cons_succ, List.getElem?_cons_zero]; rfl)
    rotate_left; (first | (refine .inl ⟨by rfl, ?_⟩; intro w9 hS9; go_simp; try with_reducible rfl) | (refine .inr ⟨by rfl, ?_⟩; with_reducible rfl))
    rotate_left; (intro _ _ _ h9; exact h9)
    try simp only [Act.put, List.setIfInBounds_toArray, List.set_cons_zero, List.set_cons_succ]
    refine wpAnyP_read (i := 3) (oi := ?_) (v := ?_) ?_ (by kernel_rfl) (by kernel_rfl) (by kernel_rfl) (by rfl) (by kernel_rfl) ?_ ?_ (by kernel_rfl) (by assumption) ?_
    rotate_left 2; (simp only [List.getElem?_toArray, List.getElem?_cons_succ, List.getElem?_cons_zero]; rfl)
    rotate_left; (first | (refine .inl ⟨by rfl, ?_⟩; intro w9 hS9; go_simp; try with_reducible rfl) | (refine .inr ⟨by rfl, ?_⟩; with_reducible rfl))
    rotate_left; (intro _ _ _ h9; exact h9)
    try simp only [Act.put, List.setIfInBounds_toArray, List.set_cons_zero, List.set_cons_succ]
    refine wpAnyP_read (i := 4) (oi := ?_) (v := ?_) ?_ (by kernel_rfl) (by kernel_rfl) (by kernel_rfl) (by rfl) (by kernel_rfl) ?_ ?_ (by kernel_rfl) (by assumption) ?_
    rotate_left 2; (simp only [List.getElem?_toArray, List.getElem?_cons_succ, List.getElem?_cons_zero]; rfl)
    rotate_left; (first | (refine .inl ⟨by rfl, ?_⟩; intro w9 hS9; go_simp; try with_reducible rfl) | (refine .inr ⟨by rfl, ?_⟩; with_reducible rfl))
    rotate_left; (intro _ _ _ h9; exact h9)
    try simp only [Act.put, List.setIfInBounds_toArray, List.set_cons_zero, List.set_cons_succ]
    refine wpAnyP_read (i := 5) (oi := ?_) (v := ?_) ?_ (by kernel_rfl) (by kernel_rfl) (by kernel_rfl) (by rfl) (by kernel_rfl) ?_ ?_ (by kernel_rfl) (by assumption) ?_
    rotate_left 2; (simp only [List.getElem?_toArray, List.getElem?_cons_succ, List.getElem?_cons_zero]; rfl)
    rotate_left; (first | (refine .inl ⟨by rfl, ?_⟩; intro w9 hS9; go_simp; try with_reducible rfl) | (refine .inr ⟨by rfl, ?_⟩; with_reducible rfl))
    rotate_left; (intro _ _ _ h9; exact h9)
    try simp only [Act.put, List.setIfInBounds_toArray, List.set_cons_zero, List.set_cons_succ]
    refine wpAnyP_one (i := 6) (by kernel_rfl) rfl (fun K9 hK9 => ?_)
    go_simp
    have hb6 : Below wb.heap.size wb (wb.alloc (.cells #[.int .u64 x.tm, .int .i64 x.code, .int .i64 x.arg] 31)).drew.drew := hS1.alloc (Nat.le_refl _) (.cells #[.int .u64 x.tm, .int .i64 x.code, .int .i64 x.arg] 31)
    have h6 := h1.below hb6
    have hr6 : REv (wb.alloc (.cells #[.int .u64 x.tm, .int .i64 x.code, .int .i64 x.arg] 31)).drew.drew (some ⟨wb.heap.size, 0, none⟩) 1 1 [x] := evc_re_new wb.drew.drew x
    refine hK9.out _ _ (fun _ => hb6) ?_
    generalize (wb.alloc (.cells #[.int .u64 x.tm, .int .i64 x.code, .int .i64 x.arg] 31)).drew.drew = w6 at h6 hr6 hb6 ⊢
    clear hS0 hS1 y0 y1 y2 x0 x1 x2 hx9
    refine wpAnyP_one (i := 7) (by kernel_rfl) rfl (fun K9 hK9 => ?_)
    rw [if_pos (by rfl)]
    refine wp_append_fr evT evc_len evc_one _ _ rfl _ ring rfl h6.own _ _ _ [x] rfl hr6 (by omega) (by omega) ?_
    intro v7 w7 hown7 hg7 hf7
    obtain ⟨A7, l7, c7, rfl⟩ : ∃ A l c, v7 = .slice A l c := by
      obtain ⟨A, c, e, _⟩ := hown7.re (by simp; omega)
      exact ⟨_, _, _, e⟩
    refine hK9.out _ _ (fun h9 => nomatch (show true = false from h9)) ?_
    have hgn : (Value.slice A0 m c0).ownBlock ≠ some g := h6.apart
    have h7 : w7.heap[g]? = some (.cells #[.slice A0 m c0, .int .i64 size, .int .i64 m] 39 (0, 0)) := (hg7.block g h6.lt (fun e => hgn e.symm)).trans h6.heap
    have hgn7 : (Value.slice A7 l7 c7).ownBlock ≠ some g := fun e => by rcases hf7 g e with h | h; exact hgn h; have := h6.lt; omega
    have z0 : w7.cell? ⟨g, 0, none⟩ = some (.slice A0 m c0) := by simp [World.cell?, h7]
    have z1 : w7.frozen? ⟨g, 0, none⟩ = false := by simp [World.frozen?, h7]
    refine wpAnyP_pure (i := 8) (oi := ?_) (v := ?_) ?_ (by kernel_rfl) (by kernel_rfl) (by kernel_rfl) (by rfl) ?_ ?_ (by kernel_rfl) (by first | exact .inl rfl | exact .inr (by assumption)) ?_
    rotate_left 2; (simp only [List.getElem?_toArray, List.getElem?_cons_succ, List.getElem?_cons_zero]; rfl)
    rotate_left; (first | (refine .inl ⟨by rfl, ?_⟩; intro w9 hS9; go_simp; try with_reducible rfl) | (refine .inr ⟨by rfl, ?_⟩; with_reducible rfl))
    rotate_left; (intro _ _ _ h9; exact h9)
    try simp only [Act.put, List.setIfInBounds_toArray, List.set_cons_zero, List.set_cons_succ]
    refine wpAnyP_pure (i := 9) (oi := ?_) (v := ?_) ?_ (by kernel_rfl) (by kernel_rfl) (by kernel_rfl) (by rfl) ?_ ?_ (by kernel_rfl) (by first | exact .inl rfl | exact .inr (by assumption)) ?_
    rotate_left 2; (simp only [List.getElem?_toArray, List.getElem?_cons_succ, List.getElem?_cons_zero]; rfl)
    rotate_left; (first | (refine .inl ⟨by rfl, ?_⟩; intro w9 hS9; go_simp; try with_reducible rfl) | (refine .inr ⟨by rfl, ?_⟩; with_reducible rfl))
    rotate_left; (intro _ _ _ h9; exact h9)
    try simp only [Act.put, List.setIfInBounds_toArray, List.set_cons_zero, List.set_cons_succ]
    refine wpAnyP_one (i := 10) (by kernel_rfl) rfl (fun K9 hK9 => ?_)
    go_simp
    refine hK9.out _ _ (fun h9 => nomatch (show true = false from h9)) ?_
    have h8 := LogAt.setRing h7 hown7 hgn7
    have f8 := fr_setCell (F := fun k => k = g) (w := w7) ⟨g, 0, none⟩ (.slice A7 l7 c7) rfl
    refine wpAnyP_done (by kernel_rfl) ?_ _
    generalize w7.setCell ⟨g, 0, none⟩ (.slice A7 l7 c7) = w8 at h8 f8 ⊢
    obtain ⟨q0, q1, q2⟩ := h8.cell
    have q3 := h8.free 2
    have hres := h8.setN (m + 1)
    have fres := fr_setCell (F := fun k => k = g) (w := w8) ⟨g, 2, none⟩ (.int .i64 ((m + 1 : Nat) : Int)) rfl
    rw [Int.natCast_add] at hres fres
    have had : added ring size m x = ring ++ [x] := if_pos (by rw [hm]; exact hroom)
    clear hK9 h1 h h6 hr6 hown7 h7 h8
    go_wp2_with fail
    go_end0
    refine ⟨_, rfl, by rw [had]; exact hres, fun k hk => (hf7 k hk).imp id (fun h => Nat.le_trans (Nat.le_trans hbx.size hb6.size) h), ?_⟩
    have f1 : Fr (fun k => k = g ∨ (Value.slice A0 m c0).ownBlock = some k) w w6 := (Fr.ofBelow hbx _).trans (Fr.ofBelow hb6 (fun _ => False)) (fun _ h => h.elim)
    exact ((f1.trans (Fr.ofGrown hg7) (fun k hk => .inl (.inr hk.symm))).trans f8 (fun k hk => .inl (.inl hk))).trans fres (fun k hk => .inl (.inl hk))
  · have hmn : m = size := by omega
    subst hmn
    obtain ⟨b, off, rfl, hbl, _⟩ := hre.cells (by omega)
    obtain rfl : off = 0 := (ha0 _ rfl).1
    have hgb : b ≠ g := fun e => h.apart (by rw [e]; rfl)
    clear hrl ha0
    have hroom' : ¬ (m : Int) < m := by omega
    have htm : ((n : Int).tmod m) = ((n % m : Nat) : Int) := by rw [Int.tmod_eq_emod_of_nonneg (by omega)]; omega
    have hkm : n % m < m := Nat.mod_lt _ (by omega)
    have hm0 : ¬ m = 0 := by omega
    have had : added ring m n x = ring.set (n % m) x := if_neg (by rw [hm]; omega)
    rw [had]
    generalize n % m = q at *
    have hkm' : (q : Int) < m := by omega
    have hbx := fr_below_alloc w (.cells #[.int .u64 x.tm, .int .i64 x.code, .int .i64 x.arg] 31)
    have hx9 : (w.alloc (.cells #[.int .u64 x.tm, .int .i64 x.code, .int .i64 x.arg] 31)).rangeAt w.heap.size 0 (evc x) := fun j v hv => by
      rw [World.cell?_alloc_at _ _ _ _ rfl, Nat.zero_add]
      rw [List.getElem?_toArray]
      exact hv
    have hsz9 : w.heap.size < (w.alloc (.cells #[.int .u64 x.tm, .int .i64 x.code, .int .i64 x.arg] 31)).heap.size := by simp
    clear had
    go_wp2_with fail
    generalize hwb : w.alloc (.cells #[.int .u64 x.tm, .int .i64 x.code, .int .i64 x.arg] 31) = wb at hbx hx9 hsz9 ⊢
    have h1 := h.below hbx
    obtain ⟨y0, y1, y2⟩ := h1.cells
    obtain ⟨x0, x1, x2⟩ := ev_cells wb _ 0 x hx9 hsz9
    clear hwb
    refine wp_region_held (S := fun w' => Below wb.heap.size wb w') (by kernel_rfl) ?_
    change wpAnyH _ _ _ _ _ _ _ _ wb.drew
    have hS0 : Below wb.heap.size wb wb.drew := ⟨rfl, rfl, rfl, Nat.le_refl _, fun _ _ => rfl⟩
    change wpAnyH _ _ _ _ _ 10 (Array.replicate 10 false) _ _
    refine wpAnyH_take (i := 0) (oi := ?_) (v := ?_) ?_ (by kernel_rfl) (by kernel_rfl) (by kernel_rfl) ?_ ?_ (by assumption) ?_
    rotate_left 2; (simp only [List.getElem?_toArray, List.getElem?_cons_succ, List.getElem?_cons_zero]; rfl)
    rotate_left; (first | (refine .inl ⟨by rfl, ?_⟩; intro w9 hS9; go_simp; try with_reducible rfl) | (refine .inr ⟨by rfl, ?_⟩; with_reducible rfl))
    rotate_left; (intro _ _ _ h9; exact h9)
    try simp only [Act.put, List.setIfInBounds_toArray, List.set_cons_zero, List.set_cons_succ]
    refine wpAnyH_take (i := 1) (oi := ?_) (v := ?_) ?_ (by kernel_rfl) (by kernel_rfl) (by kernel_rfl) ?_ ?_ (by assumption) ?_
    rotate_left 2; (simp only [List.getElem?_toArray, List.getElem?_cons_succ, List.getElem?_cons_zero]; rfl)
    rotate_left; (first | (refine .inl ⟨by rfl, ?_⟩; intro w9 hS9; go_simp; try with_reducible rfl) | (refine .inr ⟨by rfl, ?_⟩; with_reducible rfl))
    rotate_left; (intro _ _ _ h9; exact h9)
    try simp only [Act.put, List.setIfInBounds_toArray, List.set_cons_zero, List.set_cons_succ]
    refine wpAnyH_take (i := 2) (oi := ?_) (v := ?_) ?_ (by kernel_rfl) (by kernel_rfl) (by kernel_rfl) ?_ ?_ (by assumption) ?_
    rotate_left 2; (simp only [List.getElem?_toArray, List.getElem?_cons_succ, List.getElem?_cons_zero]; rfl)
    rotate_left; (first | (refine .inl ⟨by rfl, ?_⟩; intro w9 hS9; go_simp; try with_reducible rfl) | (refine .inr ⟨by rfl, ?_⟩; with_reducible rfl))
    rotate_left; (intro _ _ _ h9; exact h9)
    try simp only [Act.put, List.setIfInBounds_toArray, List.set_cons_zero, List.set_cons_succ]
    refine wpAnyH_take (i := 3) (oi := ?_) (v := ?_) ?_ (by kernel_rfl) (by kernel_rfl) (by kernel_rfl) ?_ ?_ (by assumption) ?_
    rotate_left 2; (simp only [List.getElem?_toArray, List.getElem?_cons_succ, List.getElem?_cons_zero]; rfl)
    rotate_left; (first | (refine .inl ⟨by rfl, ?_⟩; intro w9 hS9; go_simp; try with_reducible rfl) | (refine .inr ⟨by rfl, ?_⟩; with_reducible rfl))
    rotate_left; (intro _ _ _ h9; exact h9)
    try simp only [Act.put, List.setIfInBounds_toArray, List.set_cons_zero, List.set_cons_succ]
    refine wpAnyH_take (i := 4) (oi := ?_) (v := ?_) ?_ (by kernel_rfl) (by kernel_rfl) (by kernel_rfl) ?_ ?_ (by assumption) ?_
    rotate_left 2; (simp only [List.getElem?_toArray, List.getElem?_cons_succ, List.getElem?_cons_zero]; rfl)
    rotate_left; (first | (refine .inl ⟨by rfl, ?_⟩; intro w9 hS9; go_simp; try with_reducible rfl) | (refine .inr ⟨by rfl, ?_⟩; with_reducible rfl))
    rotate_left; (intro _ _ _ h9; exact h9)
    try simp only [Act.put, List.setIfInBounds_toArray, List.set_cons_zero, List.set_cons_succ]
    refine wpAnyH_take (i := 5) (oi := ?_) (v := ?_) ?_ (by kernel_rfl) (by kernel_rfl) (by kernel_rfl) ?_ ?_ (by assumption) ?_
    rotate_left 2; (simp only [List.getElem?_toArray, List.getElem?_cons_succ, List.getElem?_cons_zero]; rfl)
    rotate_left; (first | (refine .inl ⟨by rfl, ?_⟩; intro w9 hS9; go_simp; try with_reducible rfl) | (refine .inr ⟨by rfl, ?_⟩; with_reducible rfl))
    rotate_left; (intro _ _ _ h9; exact h9)
    try simp only [Act.put, List.setIfInBounds_toArray, List.set_cons_zero, List.set_cons_succ]
    refine wpAnyH_take (i := 6) (oi := ?_) (v := ?_) ?_ (by kernel_rfl) (by kernel_rfl) (by kernel_rfl) ?_ ?_ (by assumption) ?_
    rotate_left 2; (simp only [List.getElem?_toArray, List.getElem?_cons_succ, List.getElem?_cons_zero]; rfl)
    rotate_left; (first | (refine .inl ⟨by rfl, ?_⟩; intro w9 hS9; go_simp; try with_reducible rfl) | (refine .inr ⟨by rfl, ?_⟩; with_reducible rfl))
    rotate_left; (intro _ _ _ h9; exact h9)
    try simp only [Act.put, List.setIfInBounds_toArray, List.set_cons_zero, List.set_cons_succ]
    refine wpAnyH_take (i := 7) (oi := ?_) (v := ?_) ?_ (by kernel_rfl) (by kernel_rfl) (by kernel_rfl) ?_ ?_ (by assumption) ?_
    rotate_left 2; (simp only [List.getElem?_toArray, List.getElem?_cons_succ, List.getElem?_cons_zero]; rfl)
    rotate_left; (first | (refine .inl ⟨by rfl, ?_⟩; intro w9 hS9; go_simp; try with_reducible rfl) | (refine .inr ⟨by rfl, ?_⟩; with_reducible rfl))
    rotate_left; (intro _ _ _ h9; exact h9)
    try simp only [Act.put, List.setIfInBounds_toArray, List.set_cons_zero, List.set_cons_succ]
    refine wpAnyH_take (i := 8) (oi := ?_) (v := ?_) ?_ (by kernel_rfl) (by kernel_rfl) (by kernel_rfl) ?_ ?_ (by assumption) ?_
    rotate_left 2; (simp only [List.getElem?_toArray, List.getElem?_cons_succ, List.getElem?_cons_zero]; rfl)
    rotate_left; (first | (refine .inl ⟨by rfl, ?_⟩; intro w9 hS9; go_simp; try with_reducible rfl) | (refine .inr ⟨by rfl, ?_⟩; with_reducible rfl))
    rotate_left; (intro _ _ _ h9; exact h9)
    try simp only [Act.put, List.setIfInBounds_toArray, List.set_cons_zero, List.set_cons_succ]
    refine wpAnyH_take (i := 9) (oi := ?_) (v := ?_) ?_ (by kernel_rfl) (by kernel_rfl) (by kernel_rfl) ?_ ?_ (by assumption) ?_
    rotate_left 2; (simp only [List.getElem?_toArray, List.getElem?_cons_succ, List.getElem?_cons_zero]; rfl)
    rotate_left; (first | (refine .inl ⟨by rfl, ?_⟩; intro w9 hS9; go_simp; try with_reducible rfl) | (refine .inr ⟨by rfl, ?_⟩; with_reducible rfl))
    rotate_left; (intro _ _ _ h9; exact h9)
    try simp only [Act.put, List.setIfInBounds_toArray, List.set_cons_zero, List.set_cons_succ]
    refine wpAnyH_done (by kernel_rfl) ?_ _
    go_wp2_with fail
    have hS1 : Below wb.heap.size wb wb.drew.drew := ⟨rfl, rfl, rfl, Nat.le_refl _, fun _ _ => rfl⟩
    refine wp_region_piv 15 (fun w' => Below wb.heap.size wb w') (by kernel_rfl) ?_
    change wpAnyP _ _ _ _ 15 _ 16 (Array.replicate 16 false) _ _
    refine wpAnyP_read (i := 0) (oi := ?_) (v := ?_) ?_ (by kernel_rfl) (by kernel_rfl) (by kernel_rfl) (by rfl) (by kernel_rfl) ?_ ?_ (by kernel_rfl) (by assumption) ?_
    rotate_left 2; (simp only [List.getElem?_toArray, List.getElem?_cons_succ, List.getElem?_cons_zero]; rfl)
    rotate_left; (first | (refine .inl ⟨by rfl, ?_⟩; intro w9 hS9; go_simp; try with_reducible rfl) | (refine .inr ⟨by rfl, ?_⟩; with_reducible rfl))
    rotate_left; (intro _ _ _ h9; exact h9)
    try simp only [Act.put, List.setIfInBounds_toArray, List.set_cons_zero, List.set_cons_succ]
    refine wpAnyP_read (i := 1) (oi := ?_) (v := ?_) ?_ (by kernel_rfl) (by kernel_rfl) (by kernel_rfl) (by rfl) (by kernel_rfl) ?_ ?_ (by kernel_rfl) (by assumption) ?_
    rotate_left 2; (simp only [List.getElem?_toArray, List.getElem?_cons_succ, List.getElem?_cons_zero]; rfl)
    rotate_left; (first | (refine .inl ⟨by rfl, ?_⟩; intro w9 hS9; go_simp; try with_reducible rfl) | (refine .inr ⟨by rfl, ?_⟩; with_reducible rfl))
    rotate_left; (intro _ _ _ h9; exact h9)
    try simp only [Act.put, List.setIfInBounds_toArray, List.set_cons_zero, List.set_cons_succ]
    refine wpAnyP_read (i := 2) (oi := ?_) (v := ?_) ?_ (by kernel_rfl) (by kernel_rfl) (by kernel_rfl) (by rfl) (by kernel_rfl) ?_ ?_ (by kernel_rfl) (by assumption) ?_
    rotate_left 2; (simp only [List.getElem?_toArray, List.getElem?_cons_succ, List.getElem?_cons_zero]; rfl)
    rotate_left; (first | (refine .inl ⟨by rfl, ?_⟩; intro w9 hS9; go_simp; try with_reducible rfl) | (refine .inr ⟨by rfl, ?_⟩; with_reducible rfl))
    rotate_left; (intro _ _ _ h9; exact h9)
    try simp only [Act.put, List.setIfInBounds_toArray, List.set_cons_zero, List.set_cons_succ]
    refine wpAnyP_read (i := 3) (oi := ?_) (v := ?_) ?_ (by kernel_rfl) (by kernel_rfl) (by kernel_rfl) (by rfl) (by kernel_rfl) ?_ ?_ (by kernel_rfl) (by assumption) ?_
    rotate_left 2; (simp only [List.getElem?_toArray, List.getElem?_cons_succ, List.getElem?_cons_zero]; rfl)
    rotate_left; (first | (refine .inl ⟨by rfl, ?_⟩; intro w9 hS9; go_simp; try with_reducible rfl) | (refine .inr ⟨by rfl, ?_⟩; with_reducible rfl))
    rotate_left; (intro _ _ _ h9; exact h9)
    try simp only [Act.put, List.setIfInBounds_toArray, List.set_cons_zero, List.set_cons_succ]
    refine wpAnyP_read (i := 4) (oi := ?_) (v := ?_) ?_ (by kernel_rfl) (by kernel_rfl) (by kernel_rfl) (by rfl) (by kernel_rfl) ?_ ?_ (by kernel_rfl) (by assumption) ?_
    rotate_left 2; (simp only [List.getElem?_toArray, List.getElem?_cons_succ, List.getElem?_cons_zero]; rfl)
    rotate_left; (first | (refine .inl ⟨by rfl, ?_⟩; intro w9 hS9; go_simp; try with_reducible rfl) | (refine .inr ⟨by rfl, ?_⟩; with_reducible rfl))
    rotate_left; (intro _ _ _ h9; exact h9)
    try simp only [Act.put, List.setIfInBounds_toArray, List.set_cons_zero, List.set_cons_succ]
    refine wpAnyP_read (i := 5) (oi := ?_) (v := ?_) ?_ (by kernel_rfl) (by kernel_rfl) (by kernel_rfl) (by rfl) (by kernel_rfl) ?_ ?_ (by kernel_rfl) (by assumption) ?_
    rotate_left 2; (simp only [List.getElem?_toArray, List.getElem?_cons_succ, List.getElem?_cons_zero]; rfl)
    rotate_left; (first | (refine .inl ⟨by rfl, ?_⟩; intro w9 hS9; go_simp; try with_reducible rfl) | (refine .inr ⟨by rfl, ?_⟩; with_reducible rfl))
    rotate_left; (intro _ _ _ h9; exact h9)
    try simp only [Act.put, List.setIfInBounds_toArray, List.set_cons_zero, List.set_cons_succ]
    refine wpAnyP_read (i := 6) (oi := ?_) (v := ?_) ?_ (by kernel_rfl) (by kernel_rfl) (by kernel_rfl) (by rfl) (by kernel_rfl) ?_ ?_ (by kernel_rfl) (by assumption) ?_
    rotate_left 2; (simp only [List.getElem?_toArray, List.getElem?_cons_succ, List.getElem?_cons_zero]; rfl)
    rotate_left; (first | (refine .inl ⟨by rfl, ?_⟩; intro w9 hS9; go_simp; try with_reducible rfl) | (refine .inr ⟨by rfl, ?_⟩; with_reducible rfl))
    rotate_left; (intro _ _ _ h9; exact h9)
    try simp only [Act.put, List.setIfInBounds_toArray, List.set_cons_zero, List.set_cons_succ]
    refine wpAnyP_read (i := 7) (oi := ?_) (v := ?_) ?_ (by kernel_rfl) (by kernel_rfl) (by kernel_rfl) (by rfl) (by kernel_rfl) ?_ ?_ (by kernel_rfl) (by assumption) ?_
    rotate_left 2; (simp only [List.getElem?_toArray, List.getElem?_cons_succ, List.getElem?_cons_zero]; rfl)
    rotate_left; (first | (refine .inl ⟨by rfl, ?_⟩; intro w9 hS9; go_simp; try with_reducible rfl) | (refine .inr ⟨by rfl, ?_⟩; with_reducible rfl))
    rotate_left; (intro _ _ _ h9; exact h9)
    try simp only [Act.put, List.setIfInBounds_toArray, List.set_cons_zero, List.set_cons_succ]
    refine wpAnyP_read (i := 8) (oi := ?_) (v := ?_) ?_ (by kernel_rfl) (by kernel_rfl) (by kernel_rfl) (by rfl) (by kernel_rfl) ?_ ?_ (by kernel_rfl) (by assumption) ?_
    rotate_left 2; (simp only [List.getElem?_toArray, List.getElem?_cons_succ, List.getElem?_cons_zero]; rfl)
    rotate_left; (first | (refine .inl ⟨by rfl, ?_⟩; intro w9 hS9; go_simp; try with_reducible rfl) | (refine .inr ⟨by rfl, ?_⟩; with_reducible rfl))
    rotate_left; (intro _ _ _ h9; exact h9)
    try simp only [Act.put, List.setIfInBounds_toArray, List.set_cons_zero, List.set_cons_succ]
    refine wpAnyP_read (i := 9) (oi := ?_) (v := ?_) ?_ (by kernel_rfl) (by kernel_rfl) (by kernel_rfl) (by rfl) (by kernel_rfl) ?_ ?_ (by kernel_rfl) (by assumption) ?_
    rotate_left 2; (simp only [List.getElem?_toArray, List.getElem?_cons_succ, List.getElem?_cons_zero]; rfl)
    rotate_left; (first | (refine .inl ⟨by rfl, ?_⟩; intro w9 hS9; go_simp; try with_reducible rfl) | (refine .inr ⟨by rfl, ?_⟩; with_reducible rfl))
    rotate_left; (intro _ _ _ h9; exact h9)
    try simp only [Act.put, List.setIfInBounds_toArray, List.set_cons_zero, List.set_cons_succ]
    refine wpAnyP_read (i := 10) (oi := ?_) (v := ?_) ?_ (by kernel_rfl) (by kernel_rfl) (by kernel_rfl) (by rfl) (by kernel_rfl) ?_ ?_ (by kernel_rfl) (by assumption) ?_
    rotate_left 2; (simp only [List.getElem?_toArray, List.getElem?_cons_succ, List.getElem?_cons_zero]; rfl)
    rotate_left; (first | (refine .inl ⟨by rfl, ?_⟩; intro w9 hS9; go_simp; try with_reducible rfl) | (refine .inr ⟨by rfl, ?_⟩; with_reducible rfl))
    rotate_left; (intro _ _ _ h9; exact h9)
    try simp only [Act.put, List.setIfInBounds_toArray, List.set_cons_zero, List.set_cons_succ]
    refine wpAnyP_read (i := 11) (oi := ?_) (v := ?_) ?_ (by kernel_rfl) (by kernel_rfl) (by kernel_rfl) (by rfl) (by kernel_rfl) ?_ ?_ (by kernel_rfl) (by assumption) ?_
    rotate_left 2; (simp only [List.getElem?_toArray, List.getElem?_cons_succ, List.getElem?_cons_zero]; rfl)
    rotate_left; (first | (refine .inl ⟨by rfl, ?_⟩; intro w9 hS9; go_simp; try with_reducible rfl) | (refine .inr ⟨by rfl, ?_⟩; with_reducible rfl))
    rotate_left; (intro _ _ _ h9; exact h9)
    try simp only [Act.put, List.setIfInBounds_toArray, List.set_cons_zero, List.set_cons_succ]
    refine wpAnyP_read (i := 12) (oi := ?_) (v := ?_) ?_ (by kernel_rfl) (by kernel_rfl) (by kernel_rfl) (by rfl) (by kernel_rfl) ?_ ?_ (by kernel_rfl) (by assumption) ?_
    rotate_left 2; (simp only [List.getElem?_toArray, List.getElem?_cons_succ, List.getElem?_cons_zero]; rfl)
    rotate_left; (first | (refine .inl ⟨by rfl, ?_⟩; intro w9 hS9; go_simp; try with_reducible rfl) | (refine .inr ⟨by rfl, ?_⟩; with_reducible rfl))
    rotate_left; (intro _ _ _ h9; exact h9)
    try simp only [Act.put, List.setIfInBounds_toArray, List.set_cons_zero, List.set_cons_succ]
    refine wpAnyP_read (i := 13) (oi := ?_) (v := ?_) ?_ (by kernel_rfl) (by kernel_rfl) (by kernel_rfl) (by rfl) (by kernel_rfl) ?_ ?_ (by kernel_rfl) (by assumption) ?_
    rotate_left 2; (simp only [List.getElem?_toArray, List.getElem?_cons_succ, List.getElem?_cons_zero]; rfl)
    rotate_left; (first | (refine .inl ⟨by rfl, ?_⟩; intro w9 hS9; go_simp; try with_reducible rfl) | (refine .inr ⟨by rfl, ?_⟩; with_reducible rfl))
    rotate_left; (intro _ _ _ h9; exact h9)
    try simp only [Act.put, List.setIfInBounds_toArray, List.set_cons_zero, List.set_cons_succ]
    refine wpAnyP_read (i := 14) (oi := ?_) (v := ?_) ?_ (by kernel_rfl) (by kernel_rfl) (by kernel_rfl) (by rfl) (by kernel_rfl) ?_ ?_ (by kernel_rfl) (by assumption) ?_
    rotate_left 2; (simp only [List.getElem?_toArray, List.getElem?_cons_succ, List.getElem?_cons_zero]; rfl)
    rotate_left; (first | (refine .inl ⟨by rfl, ?_⟩; intro w9 hS9; go_simp; try with_reducible rfl) | (refine .inr ⟨by rfl, ?_⟩; with_reducible rfl))
    rotate_left; (intro _ _ _ h9; exact h9)
    try simp only [Act.put, List.setIfInBounds_toArray, List.set_cons_zero, List.set_cons_succ]
    have h6 := h1.below hS1
    have hth := h6.own.there evc_len q (by rw [hm]; exact hkm)
    have hset := h6.own.set evc_len q (by rw [hm]; exact hkm) x
    refine wpAnyP_one (i := 15) (by kernel_rfl) rfl (fun K9 hK9 => ?_)
    rw [if_pos (by rfl)]
    refine wp_store_mid 31 _ _ rfl b (q * 3) #[.int .u64 x.tm, .int .i64 x.code, .int .i64 x.arg] rfl rfl hth evT.size (all_oneCell_toArray (evc_one x)) ?_
    refine hK9.out _ _ (fun h9 => nomatch (show true = false from h9)) ?_
    refine wpAnyP_done (by kernel_rfl) ?_ _
    change Exit.then _ _ _ _ (wb.drew.drew.setCells b (q * 3) (evc x))
    have h8 : LogAt (wb.drew.drew.setCells b (q * 3) (evc x)) g (.slice (some ⟨b, 0, none⟩) m c0) m n (ring.set q x) :=
      ⟨((fr_setCells (F := fun k => k = b) b rfl (evc x) (q * 3) wb.drew.drew).block g h6.lt (fun e => hgb e.symm)).trans h6.heap, hset, h.apart⟩
    have f8 := fr_setCells (F := fun k => k = b) b rfl (evc x) (q * 3) wb.drew.drew
    generalize wb.drew.drew.setCells b (q * 3) (evc x) = w8 at h8 f8 ⊢
    obtain ⟨q0, q1, q2⟩ := h8.cell
    have q3 := h8.free 2
    have hres := h8.setN (n + 1)
    have fres := fr_setCell (F := fun k => k = g) (w := w8) ⟨g, 2, none⟩ (.int .i64 ((n + 1 : Nat) : Int)) rfl
    rw [Int.natCast_add] at hres fres
    clear hK9 h1 h h6 h8 hset hth
    go_wp2_with fail
    go_end0
    refine ⟨_, rfl, hres, fun k hk => .inl hk, ?_⟩
    exact (((Fr.ofBelow hbx _).trans (Fr.ofBelow hS1 (fun _ => False)) (fun _ h => h.elim)).trans f8 (fun k hk => .inl (.inr (by rw [hk]; rfl)))).trans fres (fun k hk => .inl (.inl hk))
end Go.Proofs.Ytdhkfdaajkehhaa
