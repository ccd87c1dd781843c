/- crossbuckref24.Same. -/
import Derived.Test.YtdhkfdaajkehhaaEv
import Derived.Laws.StructEq
namespace Go.Proofs.Ytdhkfdaajkehhaa
open Go.RowKit
set_option linter.unusedVariables false
set_option linter.unusedSimpArgs false

/-- An event's cells, as later worlds have them. -/
theorem ev_cells (w0 : World) (b o : Nat) (x : Ev) (h : w0.rangeAt b o (evc x)) (hb : b < w0.heap.size) :
    (∀ w', Below w0.heap.size w0 w' → w'.cell? ⟨b, o, none⟩ = some (.int .u64 x.tm)) ∧ (∀ w', Below w0.heap.size w0 w' → w'.cell? ⟨b, o + 1, none⟩ = some (.int .i64 x.code)) ∧ (∀ w', Below w0.heap.size w0 w' → w'.cell? ⟨b, o + 2, none⟩ = some (.int .i64 x.arg)) :=
  ⟨fun w' hw => (hw.cell (p := ⟨b, o, none⟩) hb).trans (h 0 _ rfl), fun w' hw => (hw.cell (p := ⟨b, o + 1, none⟩) hb).trans (h 1 _ rfl), fun w' hw => (hw.cell (p := ⟨b, o + 2, none⟩) hb).trans (h 2 _ rfl)⟩
theorem below_go {w0 w w1 : World} (h : Below w0.heap.size w0 w) (k : Below w.heap.size w w1) : Below w0.heap.size w0 w1 := h.trans (k.mono h.size)
theorem ev_neq (x y : Ev) : ∀ w : World, (binOp .neq 31 (.agg #[.int .u64 x.tm, .int .i64 x.code, .int .i64 x.arg]) (.agg #[.int .u64 y.tm, .int .i64 y.code, .int .i64 y.arg])).run Try.prog w = .ok (.bool (!(decide (x = y)))) w := by
  intro w
  go_simp
  obtain ⟨a, b, c⟩ := x
  obtain ⟨a', b', c'⟩ := y
  simp only [Ev.mk.injEq]
  by_cases h1 : a = a' <;> by_cases h2 : b = b' <;> by_cases h3 : c = c' <;> simp [h1, h2, h3]
theorem take_same {α : Type} (xs ys : List α) (i : Nat) (h : xs.take i = ys.take i) (hx : i < xs.length) (hy : i < ys.length) (e : xs[i] = ys[i]) : xs.take (i + 1) = ys.take (i + 1) := by
  rw [List.take_succ_eq_append_getElem hx, List.take_succ_eq_append_getElem hy, h, e]

set_option maxHeartbeats 2000000 in
set_option maxRecDepth 100000 in
theorem ref_same (A1 : Option Addr) (n1 c1 : Nat) (xs : List Ev) (A2 : Option Addr) (n2 c2 : Nat) (ys : List Ev) (w : World) (rx : REv w A1 n1 c1 xs) (ry : REv w A2 n2 c2 ys) :
    Calls Try.prog 13 #[.slice A1 n1 c1, .slice A2 n2 c2] w fun e w' => e = .returned (.bool (decide (xs = ys))) ∧ Below w.heap.size w w' := by
  have l1 := Lib.hid rx.len
  have l2 := Lib.hid ry.len
  have hm1 := rx.max
  have hm2 := ry.max
  by_cases hn : n1 = n2
  · subst hn
    go_enter Try.func13, Try.ntmps13
    go_wp2_with fail
    go_loopw [5] (fun i wr => ∃ j : Nat, j ≤ n1 ∧ i = .int .i64 j ∧ Below w.heap.size w wr ∧ xs.take j = ys.take j) (fun i _ => n1 - (intOf i).toNat)
    case atStart => exact ⟨0, Nat.zero_le _, rfl, Below.refl _ _, rfl⟩
    case round =>
      obtain ⟨j, hj, rfl, hbr, hsame⟩ := hrel
      by_cases hlt : j < n1
      · obtain ⟨b1, o1, rfl, hb1, _⟩ := rx.cells (by omega)
        obtain ⟨b2, o2, rfl, hb2, _⟩ := ry.cells (by omega)
        have e1 := (rx.below hbr).elem evc_len j (by rw [l1.out]; exact hlt)
        have e2 := (ry.below hbr).elem evc_len j (by rw [l2.out]; exact hlt)
        have hs2 := fun e => take_same xs ys j hsame (by rw [l1.out]; exact hlt) (by rw [l2.out]; exact hlt) e
        have hs3 : xs[j]'(by rw [l1.out]; exact hlt) ≠ ys[j]'(by rw [l2.out]; exact hlt) → xs ≠ ys := fun h e => by subst e; exact h rfl
        generalize xs[j]'(by rw [l1.out]; exact hlt) = x at e1 hs2 hs3
        generalize ys[j]'(by rw [l2.out]; exact hlt) = y at e2 hs2 hs3
        obtain ⟨p0, p1, p2⟩ := ev_cells wr b1 _ x e1 (Nat.lt_of_lt_of_le hb1 hbr.size)
        obtain ⟨q0, q1, q2⟩ := ev_cells wr b2 _ y e2 (Nat.lt_of_lt_of_le hb2 hbr.size)
        have hne := ev_neq x y
        clear e1 e2 rx ry
        have hQ := Lib.hid hbr
        clear hbr
        go_wp2_with fail
        refine wp_region_held (S := fun w' => Below wr.heap.size wr w') (by kernel_rfl) ?_
        change wpAnyH _ _ _ _ _ _ _ _ wr.drew
        have hS0 : Below wr.heap.size wr wr.drew := ⟨rfl, rfl, rfl, Nat.le_refl _, fun _ _ => rfl⟩
        change wpAnyH _ _ _ _ _ 9 (Array.replicate 9 false) _ _
        refine wpAnyH_take (i := 0) (oi := ?_) (v := ?_) ?_ (by kernel_rfl) (by kernel_rfl) (by kernel_rfl) ?_ ?_ (by assumption) ?_
        rotate_left 2; (simp only [List.getElem?_toArray, List.getElem?_cons_succ, List.getElem?_cons_zero]; rfl)
        rotate_left; (first | (refine .inl ⟨by rfl, ?_⟩; intro w9 hS9; go_simp; try with_reducible rfl) | (refine .inr ⟨by rfl, ?_⟩; with_reducible rfl))
        rotate_left; (intro _ _ _ h9; exact h9)
        try simp only [Act.put, List.setIfInBounds_toArray, List.set_cons_zero, List.set_cons_succ]
        refine wpAnyH_take (i := 1) (oi := ?_) (v := ?_) ?_ (by kernel_rfl) (by kernel_rfl) (by kernel_rfl) ?_ ?_ (by assumption) ?_
        rotate_left 2; (simp only [List.getElem?_toArray, List.getElem?_cons_succ, List.getElem?_cons_zero]; rfl)
        rotate_left; (first | (refine .inl ⟨by rfl, ?_⟩; intro w9 hS9; go_simp; try with_reducible rfl) | (refine .inr ⟨by rfl, ?_⟩; with_reducible rfl))
        rotate_left; (intro _ _ _ h9; exact h9)
        try simp only [Act.put, List.setIfInBounds_toArray, List.set_cons_zero, List.set_cons_succ]
        refine wpAnyH_take (i := 2) (oi := ?_) (v := ?_) ?_ (by kernel_rfl) (by kernel_rfl) (by kernel_rfl) ?_ ?_ (by assumption) ?_
        rotate_left 2; (simp only [List.getElem?_toArray, List.getElem?_cons_succ, List.getElem?_cons_zero]; rfl)
        rotate_left; (first | (refine .inl ⟨by rfl, ?_⟩; intro w9 hS9; go_simp; try with_reducible rfl) | (refine .inr ⟨by rfl, ?_⟩; with_reducible rfl))
        rotate_left; (intro _ _ _ h9; exact h9)
        try simp only [Act.put, List.setIfInBounds_toArray, List.set_cons_zero, List.set_cons_succ]
        refine wpAnyH_take (i := 3) (oi := ?_) (v := ?_) ?_ (by kernel_rfl) (by kernel_rfl) (by kernel_rfl) ?_ ?_ (by assumption) ?_
        rotate_left 2; (simp only [List.getElem?_toArray, List.getElem?_cons_succ, List.getElem?_cons_zero]; rfl)
        rotate_left; (first | (refine .inl ⟨by rfl, ?_⟩; intro w9 hS9; go_simp; try with_reducible rfl) | (refine .inr ⟨by rfl, ?_⟩; with_reducible rfl))
        rotate_left; (intro _ _ _ h9; exact h9)
        try simp only [Act.put, List.setIfInBounds_toArray, List.set_cons_zero, List.set_cons_succ]
        refine wpAnyH_take (i := 4) (oi := ?_) (v := ?_) ?_ (by kernel_rfl) (by kernel_rfl) (by kernel_rfl) ?_ ?_ (by assumption) ?_
        rotate_left 2; (simp only [List.getElem?_toArray, List.getElem?_cons_succ, List.getElem?_cons_zero]; rfl)
        rotate_left; (first | (refine .inl ⟨by rfl, ?_⟩; intro w9 hS9; go_simp; try with_reducible rfl) | (refine .inr ⟨by rfl, ?_⟩; with_reducible rfl))
        rotate_left; (intro _ _ _ h9; exact h9)
        try simp only [Act.put, List.setIfInBounds_toArray, List.set_cons_zero, List.set_cons_succ]
        refine wpAnyH_take (i := 5) (oi := ?_) (v := ?_) ?_ (by kernel_rfl) (by kernel_rfl) (by kernel_rfl) ?_ ?_ (by assumption) ?_
        rotate_left 2; (simp only [List.getElem?_toArray, List.getElem?_cons_succ, List.getElem?_cons_zero]; rfl)
        rotate_left; (first | (refine .inl ⟨by rfl, ?_⟩; intro w9 hS9; go_simp; try with_reducible rfl) | (refine .inr ⟨by rfl, ?_⟩; with_reducible rfl))
        rotate_left; (intro _ _ _ h9; exact h9)
        try simp only [Act.put, List.setIfInBounds_toArray, List.set_cons_zero, List.set_cons_succ]
        refine wpAnyH_take (i := 6) (oi := ?_) (v := ?_) ?_ (by kernel_rfl) (by kernel_rfl) (by kernel_rfl) ?_ ?_ (by assumption) ?_
        rotate_left 2; (simp only [List.getElem?_toArray, List.getElem?_cons_succ, List.getElem?_cons_zero]; rfl)
        rotate_left; (first | (refine .inl ⟨by rfl, ?_⟩; intro w9 hS9; go_simp; try with_reducible rfl) | (refine .inr ⟨by rfl, ?_⟩; with_reducible rfl))
        rotate_left; (intro _ _ _ h9; exact h9)
        try simp only [Act.put, List.setIfInBounds_toArray, List.set_cons_zero, List.set_cons_succ]
        refine wpAnyH_take (i := 7) (oi := ?_) (v := ?_) ?_ (by kernel_rfl) (by kernel_rfl) (by kernel_rfl) ?_ ?_ (by assumption) ?_
        rotate_left 2; (simp only [List.getElem?_toArray, List.getElem?_cons_succ, List.getElem?_cons_zero]; rfl)
        rotate_left; (first | (refine .inl ⟨by rfl, ?_⟩; intro w9 hS9; go_simp; try with_reducible rfl) | (refine .inr ⟨by rfl, ?_⟩; with_reducible rfl))
        rotate_left; (intro _ _ _ h9; exact h9)
        try simp only [Act.put, List.setIfInBounds_toArray, List.set_cons_zero, List.set_cons_succ]
        refine wpAnyH_take (i := 8) (oi := ?_) (v := ?_) ?_ (by kernel_rfl) (by kernel_rfl) (by kernel_rfl) ?_ ?_ (by assumption) ?_
        rotate_left 2; (simp only [List.getElem?_toArray, List.getElem?_cons_succ, List.getElem?_cons_zero]; rfl)
        rotate_left; (first | (refine .inl ⟨by rfl, ?_⟩; intro w9 hS9; go_simp; try with_reducible rfl) | (refine .inr ⟨by rfl, ?_⟩; with_reducible rfl))
        rotate_left; (intro _ _ _ h9; exact h9)
        try simp only [Act.put, List.setIfInBounds_toArray, List.set_cons_zero, List.set_cons_succ]
        refine wpAnyH_done (by kernel_rfl) ?_ _
        by_cases hxy : x = y
        · have hh := hs2 hxy
          simp only [hxy, decide_true, Bool.not_true]
          go_wp2
          exact ⟨⟨j + 1, by omega, by go_num, below_go hQ.out hS0, hh⟩, by simp [intOf]; omega⟩
        · have hh := hs3 hxy
          simp only [hxy, decide_false, Bool.not_false]
          go_wp2
          go_ret
          exact ⟨by simp [hh], below_go hQ.out hS0⟩
      · obtain rfl : j = n1 := by omega
        have hxy : xs = ys := by rwa [List.take_of_length_le (by rw [l1.out]; omega), List.take_of_length_le (by rw [l2.out]; omega)] at hsame
        clear rx ry
        go_wp2_with fail
        go_ret
        exact ⟨by simp [hxy], hbr⟩
  · have hne : ((n1 : Int) != n2) = true := by simp; omega
    have hxy : xs ≠ ys := fun h => hn (by rw [← l1.out, ← l2.out, h])
    clear rx ry
    go_enter Try.func13, Try.ntmps13
    go_wp2_with fail
    go_ret
    exact ⟨by simp [hxy], Below.refl _ _⟩
end Go.Proofs.Ytdhkfdaajkehhaa
