/- The document's delays: crossbuckref09.Of. -/
import Derived.Test.YtflicahchahcnaaDoorDelayRef
import Derived.Deep.RegionHeld3
namespace Go.Proofs.YtflicahchahcnaaDoor
open Go.RowKit
set_option linter.unusedVariables false
set_option linter.unusedSimpArgs false

theorem heap_alloc3 (w : World) (A B C : Obj) : (((w.alloc A).alloc B).alloc C).heap[w.heap.size + 2]? = some C ∧ (((w.alloc A).alloc B).alloc C).heap[w.heap.size + 1]? = some B := by
  constructor
  · have := heap_alloc2_new (w.alloc A) B C
    simpa using this
  · rw [heap_alloc_old _ _ (by simp)]
    exact heap_alloc2_new w A B
set_option maxHeartbeats 4000000 in
set_option maxRecDepth 100000 in
theorem r_of (x : Ln) (warn : Int) (w : World) (hx : inLn x) (hw : inI warn) : Calls Tryd.prog 22 #[lnv x, .int .i64 warn] w fun e w' => e = .returned (ofv x warn) ∧ Below w.heap.size w w' := by
  obtain ⟨h0, h1, h2, h3, h4⟩ := hx
  have HI0 := Lib.hid h0; have HI2 := Lib.hid h2; have HI3 := Lib.hid h3; have HI4 := Lib.hid h4; have HW := Lib.hid hw
  clear h0 h1 h2 h3 h4 hw
  obtain ⟨st, sg, a, b, c⟩ := x
  have HB := Lib.hid ((below_st w (.cells #[.int .i64 st, .int .i64 sg, .int .i64 a, .int .i64 b, .int .i64 c] 34)).alloc (Nat.le_of_lt (by simp)) (.cells #[.int .i64 0, .int .i64 0, .int .i64 0] 32))
  go_enter Tryd.func22, Tryd.ntmps22
  go_wp2_with fail
  have HX := Lib.hid (show ((w.alloc (.cells #[.int .i64 st, .int .i64 sg, .int .i64 a, .int .i64 b, .int .i64 c] 34)).alloc (.cells #[.int .i64 0, .int .i64 0, .int .i64 0] 32)).cell? ⟨w.heap.size, 0, none⟩ = some (.int .i64 st) ∧ ((w.alloc (.cells #[.int .i64 st, .int .i64 sg, .int .i64 a, .int .i64 b, .int .i64 c] 34)).alloc (.cells #[.int .i64 0, .int .i64 0, .int .i64 0] 32)).cell? ⟨w.heap.size, 2, none⟩ = some (.int .i64 a) ∧ ((w.alloc (.cells #[.int .i64 st, .int .i64 sg, .int .i64 a, .int .i64 b, .int .i64 c] 34)).alloc (.cells #[.int .i64 0, .int .i64 0, .int .i64 0] 32)).cell? ⟨w.heap.size, 3, none⟩ = some (.int .i64 b) ∧ ((w.alloc (.cells #[.int .i64 st, .int .i64 sg, .int .i64 a, .int .i64 b, .int .i64 c] 34)).alloc (.cells #[.int .i64 0, .int .i64 0, .int .i64 0] 32)).cell? ⟨w.heap.size, 4, none⟩ = some (.int .i64 c) by refine ⟨?_, ?_, ?_, ?_⟩ <;> simp)
  have H3 := Lib.hid (heap_alloc3 w (.cells #[.int .i64 st, .int .i64 sg, .int .i64 a, .int .i64 b, .int .i64 c] 34) (.cells #[.int .i64 0, .int .i64 0, .int .i64 0] 32) (.cells #[.int .i64 0, .int .i64 0, .int .i64 0] 32))
  go_loopw [6] (fun s6 wr => ∃ k : Nat, k ≤ 3 ∧ s6 = .int .i64 k ∧ OfBlk wr (w.heap.size + 2) (if 0 < k then ofN st a warn else 0) (if 1 < k then ofN st b warn else 0) (if 2 < k then ofN st c warn else 0) ∧ Below (w.heap.size + 2) ((w.alloc (.cells #[.int .i64 st, .int .i64 sg, .int .i64 a, .int .i64 b, .int .i64 c] 34)).alloc (.cells #[.int .i64 0, .int .i64 0, .int .i64 0] 32)) wr ∧ w.heap.size + 3 ≤ wr.heap.size) (fun s6 _ => 3 - (intOf s6).toNat)
  case atStart => exact ⟨0, by omega, rfl, H3.out.1, (Below.refl _ _).alloc (by simp) _, by simp⟩
  case round =>
    obtain ⟨k, hk, rfl, hblk, hbr, hsz⟩ := hrel
    have HZ := Lib.hid hsz
    clear hsz
    rcases (by omega : k = 0 ∨ k = 1 ∨ k = 2 ∨ k = 3) with rfl | rfl | rfl | rfl
    · have HF := Lib.hid hblk
      have HR := Lib.hid hbr
      have x0 : ∀ w', Below wr.heap.size wr w' → w'.cell? ⟨w.heap.size, 0, none⟩ = some (.int .i64 st) := fun w' h => (h.cell (Nat.lt_of_lt_of_le (show w.heap.size < w.heap.size + 3 by omega) HZ.out)).trans ((hbr.cell (p := ⟨w.heap.size, 0, none⟩) (by simp)).trans HX.out.1)
      have x1 : ∀ w', Below wr.heap.size wr w' → w'.cell? ⟨w.heap.size, 2 + 0, none⟩ = some (.int .i64 a) := fun w' h => (h.cell (Nat.lt_of_lt_of_le (show w.heap.size < w.heap.size + 3 by omega) HZ.out)).trans ((hbr.cell (p := ⟨w.heap.size, 2 + 0, none⟩) (by simp)).trans HX.out.2.1)
      clear hblk hbr
      go_wp2_with fail
      have hS0 : Below wr.heap.size wr wr.drew := ⟨rfl, rfl, rfl, Nat.le_refl _, fun _ _ => rfl⟩
      refine wp_region_held (S := fun w' => Below wr.heap.size wr w') (by kernel_rfl) ?_
      change wpAnyH _ _ _ _ _ _ _ _ wr.drew
      change wpAnyH _ _ _ _ _ 12 (Array.replicate 12 false) _ _
      refine wpAnyH_take (i := 0) (oi := ?_) (v := ?_) ?_ (by kernel_rfl) (by kernel_rfl) (by kernel_rfl) ?_ ?_ (by assumption) ?_
      rotate_left 2; (simp only [List.getElem?_toArray, List.getElem?_cons_succ, List.getElem?_cons_zero]; rfl)
      rotate_left; (first | (refine .inl ⟨by rfl, ?_⟩; intro w9 hS9; go_simp; try with_reducible rfl) | (refine .inr ⟨by rfl, ?_⟩; with_reducible rfl))
      rotate_left; (intro _ _ _ h9; exact h9)
      try simp only [Act.put, List.setIfInBounds_toArray, List.set_cons_zero, List.set_cons_succ]
      refine wpAnyH_take (i := 1) (oi := ?_) (v := ?_) ?_ (by kernel_rfl) (by kernel_rfl) (by kernel_rfl) ?_ ?_ (by assumption) ?_
      rotate_left 2; (simp only [List.getElem?_toArray, List.getElem?_cons_succ, List.getElem?_cons_zero]; rfl)
      rotate_left; (first | (refine .inl ⟨by rfl, ?_⟩; intro w9 hS9; go_simp; try with_reducible rfl) | (refine .inr ⟨by rfl, ?_⟩; with_reducible rfl))
      rotate_left; (intro _ _ _ h9; exact h9)
      try simp only [Act.put, List.setIfInBounds_toArray, List.set_cons_zero, List.set_cons_succ]
      refine wpAnyH_take (i := 2) (oi := ?_) (v := ?_) ?_ (by kernel_rfl) (by kernel_rfl) (by kernel_rfl) ?_ ?_ (by assumption) ?_
      rotate_left 2; (simp only [List.getElem?_toArray, List.getElem?_cons_succ, List.getElem?_cons_zero]; rfl)
      rotate_left; (first | (refine .inl ⟨by rfl, ?_⟩; intro w9 hS9; go_simp; try with_reducible rfl) | (refine .inr ⟨by rfl, ?_⟩; with_reducible rfl))
      rotate_left; (intro _ _ _ h9; exact h9)
      try simp only [Act.put, List.setIfInBounds_toArray, List.set_cons_zero, List.set_cons_succ]
      refine wpAnyH_take (i := 3) (oi := ?_) (v := ?_) ?_ (by kernel_rfl) (by kernel_rfl) (by kernel_rfl) ?_ ?_ (by assumption) ?_
      rotate_left 2; (simp only [List.getElem?_toArray, List.getElem?_cons_succ, List.getElem?_cons_zero]; rfl)
      rotate_left; (first | (refine .inl ⟨by rfl, ?_⟩; intro w9 hS9; go_simp; try with_reducible rfl) | (refine .inr ⟨by rfl, ?_⟩; with_reducible rfl))
      rotate_left; (intro _ _ _ h9; exact h9)
      try simp only [Act.put, List.setIfInBounds_toArray, List.set_cons_zero, List.set_cons_succ]
      refine wpAnyH_take (i := 4) (oi := ?_) (v := ?_) ?_ (by kernel_rfl) (by kernel_rfl) (by kernel_rfl) ?_ ?_ (by assumption) ?_
      rotate_left 2; (simp only [List.getElem?_toArray, List.getElem?_cons_succ, List.getElem?_cons_zero]; rfl)
      rotate_left; (first | (refine .inl ⟨by rfl, ?_⟩; intro w9 hS9; go_simp; try with_reducible rfl) | (refine .inr ⟨by rfl, ?_⟩; with_reducible rfl))
      rotate_left; (intro _ _ _ h9; exact h9)
      try simp only [Act.put, List.setIfInBounds_toArray, List.set_cons_zero, List.set_cons_succ]
      refine wpAnyH_take (i := 5) (oi := ?_) (v := ?_) ?_ (by kernel_rfl) (by kernel_rfl) (by kernel_rfl) ?_ ?_ (by assumption) ?_
      rotate_left 2; (simp only [List.getElem?_toArray, List.getElem?_cons_succ, List.getElem?_cons_zero]; rfl)
      rotate_left; (first | (refine .inl ⟨by rfl, ?_⟩; intro w9 hS9; go_simp; try with_reducible rfl) | (refine .inr ⟨by rfl, ?_⟩; with_reducible rfl))
      rotate_left; (intro _ _ _ h9; exact h9)
      try simp only [Act.put, List.setIfInBounds_toArray, List.set_cons_zero, List.set_cons_succ]
      refine wpAnyH_ready (rs := [6]) (by kernel_rfl) (by simp) (AllReadyH.cons rfl (fun K9 hK9 => ?_) AllReadyH.nil)
      go_simp
      refine (r_way st a _ HI0.out HI2.out).mono ?_
      rintro r w' ⟨rfl, rfl⟩
      refine hK9.out _ _ hS0 (fun _ => ?_)
      refine wpAnyH_take (i := 7) (oi := ?_) (v := ?_) ?_ (by kernel_rfl) (by kernel_rfl) (by kernel_rfl) ?_ ?_ (by assumption) ?_
      rotate_left 2; (simp only [List.getElem?_toArray, List.getElem?_cons_succ, List.getElem?_cons_zero]; rfl)
      rotate_left; (first | (refine .inl ⟨by rfl, ?_⟩; intro w9 hS9; go_simp; try with_reducible rfl) | (refine .inr ⟨by rfl, ?_⟩; with_reducible rfl))
      rotate_left; (intro _ _ _ h9; exact h9)
      try simp only [Act.put, List.setIfInBounds_toArray, List.set_cons_zero, List.set_cons_succ]
      refine wpAnyH_take (i := 8) (oi := ?_) (v := ?_) ?_ (by kernel_rfl) (by kernel_rfl) (by kernel_rfl) ?_ ?_ (by assumption) ?_
      rotate_left 2; (simp only [List.getElem?_toArray, List.getElem?_cons_succ, List.getElem?_cons_zero]; rfl)
      rotate_left; (first | (refine .inl ⟨by rfl, ?_⟩; intro w9 hS9; go_simp; try with_reducible rfl) | (refine .inr ⟨by rfl, ?_⟩; with_reducible rfl))
      rotate_left; (intro _ _ _ h9; exact h9)
      try simp only [Act.put, List.setIfInBounds_toArray, List.set_cons_zero, List.set_cons_succ]
      refine wpAnyH_take (i := 9) (oi := ?_) (v := ?_) ?_ (by kernel_rfl) (by kernel_rfl) (by kernel_rfl) ?_ ?_ (by assumption) ?_
      rotate_left 2; (simp only [List.getElem?_toArray, List.getElem?_cons_succ, List.getElem?_cons_zero]; rfl)
      rotate_left; (first | (refine .inl ⟨by rfl, ?_⟩; intro w9 hS9; go_simp; try with_reducible rfl) | (refine .inr ⟨by rfl, ?_⟩; with_reducible rfl))
      rotate_left; (intro _ _ _ h9; exact h9)
      try simp only [Act.put, List.setIfInBounds_toArray, List.set_cons_zero, List.set_cons_succ]
      refine wpAnyH_take (i := 10) (oi := ?_) (v := ?_) ?_ (by kernel_rfl) (by kernel_rfl) (by kernel_rfl) ?_ ?_ (by assumption) ?_
      rotate_left 2; (simp only [List.getElem?_toArray, List.getElem?_cons_succ, List.getElem?_cons_zero]; rfl)
      rotate_left; (first | (refine .inl ⟨by rfl, ?_⟩; intro w9 hS9; go_simp; try with_reducible rfl) | (refine .inr ⟨by rfl, ?_⟩; with_reducible rfl))
      rotate_left; (intro _ _ _ h9; exact h9)
      try simp only [Act.put, List.setIfInBounds_toArray, List.set_cons_zero, List.set_cons_succ]
      refine wpAnyH_take (i := 11) (oi := ?_) (v := ?_) ?_ (by kernel_rfl) (by kernel_rfl) (by kernel_rfl) ?_ ?_ (by assumption) ?_
      rotate_left 2; (simp only [List.getElem?_toArray, List.getElem?_cons_succ, List.getElem?_cons_zero]; rfl)
      rotate_left; (first | (refine .inl ⟨by rfl, ?_⟩; intro w9 hS9; go_simp; try with_reducible rfl) | (refine .inr ⟨by rfl, ?_⟩; with_reducible rfl))
      rotate_left; (intro _ _ _ h9; exact h9)
      try simp only [Act.put, List.setIfInBounds_toArray, List.set_cons_zero, List.set_cons_succ]
      refine wpAnyH_done (by kernel_rfl) ?_ _
      have HR2 := Lib.hid (below_in HR.out hS0 (Nat.le_trans (by omega) HZ.out))
      have hF2 : OfBlk wr.drew _ _ _ _ := HF.out
      have HZ2 := Lib.hid (show w.heap.size + 3 ≤ wr.drew.heap.size from HZ.out)
      clear hS0 x0 x1
      generalize wr.drew = wd at *
      by_cases hok : st < 0 ∨ a < 1
      · rw [if_pos hok, if_pos hok]
        have h0 : ofN st a warn = 0 := if_pos hok
        clear hok
        go_wp2_with fail
        exact ⟨⟨0 + 1, by omega, by go_num, by simpa [h0] using hF2, HR2.out, HZ2.out⟩, by simp [intOf]⟩
      · rw [if_neg hok, if_neg hok]
        have h0 := of_form st a warn HI0.out HW.out hok
        obtain ⟨c0, f0, hset⟩ := ofBlk_0 hF2
        have HS := Lib.hid hset
        have H0 := Lib.hid h0
        clear hok hF2 hset h0
        go_wp2_with fail
        refine ⟨⟨0 + 1, by omega, by go_num, ?_, HR2.out.setCell (Nat.le_refl _) _, by simpa using HZ2.out⟩, by simp [intOf]⟩
        rw [H0.out]
        simpa using HS.out (ofN st a warn)
    · have HF := Lib.hid hblk
      have HR := Lib.hid hbr
      have x0 : ∀ w', Below wr.heap.size wr w' → w'.cell? ⟨w.heap.size, 0, none⟩ = some (.int .i64 st) := fun w' h => (h.cell (Nat.lt_of_lt_of_le (show w.heap.size < w.heap.size + 3 by omega) HZ.out)).trans ((hbr.cell (p := ⟨w.heap.size, 0, none⟩) (by simp)).trans HX.out.1)
      have x1 : ∀ w', Below wr.heap.size wr w' → w'.cell? ⟨w.heap.size, 2 + 1, none⟩ = some (.int .i64 b) := fun w' h => (h.cell (Nat.lt_of_lt_of_le (show w.heap.size < w.heap.size + 3 by omega) HZ.out)).trans ((hbr.cell (p := ⟨w.heap.size, 2 + 1, none⟩) (by simp)).trans HX.out.2.2.1)
      clear hblk hbr
      go_wp2_with fail
      have hS0 : Below wr.heap.size wr wr.drew := ⟨rfl, rfl, rfl, Nat.le_refl _, fun _ _ => rfl⟩
      refine wp_region_held (S := fun w' => Below wr.heap.size wr w') (by kernel_rfl) ?_
      change wpAnyH _ _ _ _ _ _ _ _ wr.drew
      change wpAnyH _ _ _ _ _ 12 (Array.replicate 12 false) _ _
      refine wpAnyH_take (i := 0) (oi := ?_) (v := ?_) ?_ (by kernel_rfl) (by kernel_rfl) (by kernel_rfl) ?_ ?_ (by assumption) ?_
      rotate_left 2; (simp only [List.getElem?_toArray, List.getElem?_cons_succ, List.getElem?_cons_zero]; rfl)
      rotate_left; (first | (refine .inl ⟨by rfl, ?_⟩; intro w9 hS9; go_simp; try with_reducible rfl) | (refine .inr ⟨by rfl, ?_⟩; with_reducible rfl))
      rotate_left; (intro _ _ _ h9; exact h9)
      try simp only [Act.put, List.setIfInBounds_toArray, List.set_cons_zero, List.set_cons_succ]
      refine wpAnyH_take (i := 1) (oi := ?_) (v := ?_) ?_ (by kernel_rfl) (by kernel_rfl) (by kernel_rfl) ?_ ?_ (by assumption) ?_
      rotate_left 2; (simp only [List.getElem?_toArray, List.getElem?_cons_succ, List.getElem?_cons_zero]; rfl)
      rotate_left; (first | (refine .inl ⟨by rfl, ?_⟩; intro w9 hS9; go_simp; try with_reducible rfl) | (refine .inr ⟨by rfl, ?_⟩; with_reducible rfl))
      rotate_left; (intro _ _ _ h9; exact h9)
      try simp only [Act.put, List.setIfInBounds_toArray, List.set_cons_zero, List.set_cons_succ]
      refine wpAnyH_take (i := 2) (oi := ?_) (v := ?_) ?_ (by kernel_rfl) (by kernel_rfl) (by kernel_rfl) ?_ ?_ (by assumption) ?_
      rotate_left 2; (simp only [List.getElem?_toArray, List.getElem?_cons_succ, List.getElem?_cons_zero]; rfl)
      rotate_left; (first | (refine .inl ⟨by rfl, ?_⟩; intro w9 hS9; go_simp; try with_reducible rfl) | (refine .inr ⟨by rfl, ?_⟩; with_reducible rfl))
      rotate_left; (intro _ _ _ h9; exact h9)
      try simp only [Act.put, List.setIfInBounds_toArray, List.set_cons_zero, List.set_cons_succ]
      refine wpAnyH_take (i := 3) (oi := ?_) (v := ?_) ?_ (by kernel_rfl) (by kernel_rfl) (by kernel_rfl) ?_ ?_ (by assumption) ?_
      rotate_left 2; (simp only [List.getElem?_toArray, List.getElem?_cons_succ, List.getElem?_cons_zero]; rfl)
      rotate_left; (first | (refine .inl ⟨by rfl, ?_⟩; intro w9 hS9; go_simp; try with_reducible rfl) | (refine .inr ⟨by rfl, ?_⟩; with_reducible rfl))
      rotate_left; (intro _ _ _ h9; exact h9)
      try simp only [Act.put, List.setIfInBounds_toArray, List.set_cons_zero, List.set_cons_succ]
      refine wpAnyH_take (i := 4) (oi := ?_) (v := ?_) ?_ (by kernel_rfl) (by kernel_rfl) (by kernel_rfl) ?_ ?_ (by assumption) ?_
      rotate_left 2; (simp only [List.getElem?_toArray, List.getElem?_cons_succ, List.getElem?_cons_zero]; rfl)
      rotate_left; (first | (refine .inl ⟨by rfl, ?_⟩; intro w9 hS9; go_simp; try with_reducible rfl) | (refine .inr ⟨by rfl, ?_⟩; with_reducible rfl))
      rotate_left; (intro _ _ _ h9; exact h9)
      try simp only [Act.put, List.setIfInBounds_toArray, List.set_cons_zero, List.set_cons_succ]
      refine wpAnyH_take (i := 5) (oi := ?_) (v := ?_) ?_ (by kernel_rfl) (by kernel_rfl) (by kernel_rfl) ?_ ?_ (by assumption) ?_
      rotate_left 2; (simp only [List.getElem?_toArray, List.getElem?_cons_succ, List.getElem?_cons_zero]; rfl)
      rotate_left; (first | (refine .inl ⟨by rfl, ?_⟩; intro w9 hS9; go_simp; try with_reducible rfl) | (refine .inr ⟨by rfl, ?_⟩; with_reducible rfl))
      rotate_left; (intro _ _ _ h9; exact h9)
      try simp only [Act.put, List.setIfInBounds_toArray, List.set_cons_zero, List.set_cons_succ]
      refine wpAnyH_ready (rs := [6]) (by kernel_rfl) (by simp) (AllReadyH.cons rfl (fun K9 hK9 => ?_) AllReadyH.nil)
      go_simp
      refine (r_way st b _ HI0.out HI3.out).mono ?_
      rintro r w' ⟨rfl, rfl⟩
      refine hK9.out _ _ hS0 (fun _ => ?_)
      refine wpAnyH_take (i := 7) (oi := ?_) (v := ?_) ?_ (by kernel_rfl) (by kernel_rfl) (by kernel_rfl) ?_ ?_ (by assumption) ?_
      rotate_left 2; (simp only [List.getElem?_toArray, List.getElem?_cons_succ, List.getElem?_cons_zero]; rfl)
      rotate_left; (first | (refine .inl ⟨by rfl, ?_⟩; intro w9 hS9; go_simp; try with_reducible rfl) | (refine .inr ⟨by rfl, ?_⟩; with_reducible rfl))
      rotate_left; (intro _ _ _ h9; exact h9)
      try simp only [Act.put, List.setIfInBounds_toArray, List.set_cons_zero, List.set_cons_succ]
      refine wpAnyH_take (i := 8) (oi := ?_) (v := ?_) ?_ (by kernel_rfl) (by kernel_rfl) (by kernel_rfl) ?_ ?_ (by assumption) ?_
      rotate_left 2; (simp only [List.getElem?_toArray, List.getElem?_cons_succ, List.getElem?_cons_zero]; rfl)
      rotate_left; (first | (refine .inl ⟨by rfl, ?_⟩; intro w9 hS9; go_simp; try with_reducible rfl) | (refine .inr ⟨by rfl, ?_⟩; with_reducible rfl))
      rotate_left; (intro _ _ _ h9; exact h9)
      try simp only [Act.put, List.setIfInBounds_toArray, List.set_cons_zero, List.set_cons_succ]
      refine wpAnyH_take (i := 9) (oi := ?_) (v := ?_) ?_ (by kernel_rfl) (by kernel_rfl) (by kernel_rfl) ?_ ?_ (by assumption) ?_
      rotate_left 2; (simp only [List.getElem?_toArray, List.getElem?_cons_succ, List.getElem?_cons_zero]; rfl)
      rotate_left; (first | (refine .inl ⟨by rfl, ?_⟩; intro w9 hS9; go_simp; try with_reducible rfl) | (refine .inr ⟨by rfl, ?_⟩; with_reducible rfl))
      rotate_left; (intro _ _ _ h9; exact h9)
      try simp only [Act.put, List.setIfInBounds_toArray, List.set_cons_zero, List.set_cons_succ]
      refine wpAnyH_take (i := 10) (oi := ?_) (v := ?_) ?_ (by kernel_rfl) (by kernel_rfl) (by kernel_rfl) ?_ ?_ (by assumption) ?_
      rotate_left 2; (simp only [List.getElem?_toArray, List.getElem?_cons_succ, List.getElem?_cons_zero]; rfl)
      rotate_left; (first | (refine .inl ⟨by rfl, ?_⟩; intro w9 hS9; go_simp; try with_reducible rfl) | (refine .inr ⟨by rfl, ?_⟩; with_reducible rfl))
      rotate_left; (intro _ _ _ h9; exact h9)
      try simp only [Act.put, List.setIfInBounds_toArray, List.set_cons_zero, List.set_cons_succ]
      refine wpAnyH_take (i := 11) (oi := ?_) (v := ?_) ?_ (by kernel_rfl) (by kernel_rfl) (by kernel_rfl) ?_ ?_ (by assumption) ?_
      rotate_left 2; (simp only [List.getElem?_toArray, List.getElem?_cons_succ, List.getElem?_cons_zero]; rfl)
      rotate_left; (first | (refine .inl ⟨by rfl, ?_⟩; intro w9 hS9; go_simp; try with_reducible rfl) | (refine .inr ⟨by rfl, ?_⟩; with_reducible rfl))
      rotate_left; (intro _ _ _ h9; exact h9)
      try simp only [Act.put, List.setIfInBounds_toArray, List.set_cons_zero, List.set_cons_succ]
      refine wpAnyH_done (by kernel_rfl) ?_ _
      have HR2 := Lib.hid (below_in HR.out hS0 (Nat.le_trans (by omega) HZ.out))
      have hF2 : OfBlk wr.drew _ _ _ _ := HF.out
      have HZ2 := Lib.hid (show w.heap.size + 3 ≤ wr.drew.heap.size from HZ.out)
      clear hS0 x0 x1
      generalize wr.drew = wd at *
      by_cases hok : st < 0 ∨ b < 1
      · rw [if_pos hok, if_pos hok]
        have h0 : ofN st b warn = 0 := if_pos hok
        clear hok
        go_wp2_with fail
        exact ⟨⟨1 + 1, by omega, by go_num, by simpa [h0] using hF2, HR2.out, HZ2.out⟩, by simp [intOf]⟩
      · rw [if_neg hok, if_neg hok]
        have h0 := of_form st b warn HI0.out HW.out hok
        obtain ⟨c0, f0, hset⟩ := ofBlk_1 hF2
        have HS := Lib.hid hset
        have H0 := Lib.hid h0
        clear hok hF2 hset h0
        go_wp2_with fail
        refine ⟨⟨1 + 1, by omega, by go_num, ?_, HR2.out.setCell (Nat.le_refl _) _, by simpa using HZ2.out⟩, by simp [intOf]⟩
        rw [H0.out]
        simpa using HS.out (ofN st b warn)
    · have HF := Lib.hid hblk
      have HR := Lib.hid hbr
      have x0 : ∀ w', Below wr.heap.size wr w' → w'.cell? ⟨w.heap.size, 0, none⟩ = some (.int .i64 st) := fun w' h => (h.cell (Nat.lt_of_lt_of_le (show w.heap.size < w.heap.size + 3 by omega) HZ.out)).trans ((hbr.cell (p := ⟨w.heap.size, 0, none⟩) (by simp)).trans HX.out.1)
      have x1 : ∀ w', Below wr.heap.size wr w' → w'.cell? ⟨w.heap.size, 2 + 2, none⟩ = some (.int .i64 c) := fun w' h => (h.cell (Nat.lt_of_lt_of_le (show w.heap.size < w.heap.size + 3 by omega) HZ.out)).trans ((hbr.cell (p := ⟨w.heap.size, 2 + 2, none⟩) (by simp)).trans HX.out.2.2.2)
      clear hblk hbr
      go_wp2_with fail
      have hS0 : Below wr.heap.size wr wr.drew := ⟨rfl, rfl, rfl, Nat.le_refl _, fun _ _ => rfl⟩
      refine wp_region_held (S := fun w' => Below wr.heap.size wr w') (by kernel_rfl) ?_
      change wpAnyH _ _ _ _ _ _ _ _ wr.drew
      change wpAnyH _ _ _ _ _ 12 (Array.replicate 12 false) _ _
      refine wpAnyH_take (i := 0) (oi := ?_) (v := ?_) ?_ (by kernel_rfl) (by kernel_rfl) (by kernel_rfl) ?_ ?_ (by assumption) ?_
      rotate_left 2; (simp only [List.getElem?_toArray, List.getElem?_cons_succ, List.getElem?_cons_zero]; rfl)
      rotate_left; (first | (refine .inl ⟨by rfl, ?_⟩; intro w9 hS9; go_simp; try with_reducible rfl) | (refine .inr ⟨by rfl, ?_⟩; with_reducible rfl))
      rotate_left; (intro _ _ _ h9; exact h9)
      try simp only [Act.put, List.setIfInBounds_toArray, List.set_cons_zero, List.set_cons_succ]
      refine wpAnyH_take (i := 1) (oi := ?_) (v := ?_) ?_ (by kernel_rfl) (by kernel_rfl) (by kernel_rfl) ?_ ?_ (by assumption) ?_
      rotate_left 2; (simp only [List.getElem?_toArray, List.getElem?_cons_succ, List.getElem?_cons_zero]; rfl)
      rotate_left; (first | (refine .inl ⟨by rfl, ?_⟩; intro w9 hS9; go_simp; try with_reducible rfl) | (refine .inr ⟨by rfl, ?_⟩; with_reducible rfl))
      rotate_left; (intro _ _ _ h9; exact h9)
      try simp only [Act.put, List.setIfInBounds_toArray, List.set_cons_zero, List.set_cons_succ]
      refine wpAnyH_take (i := 2) (oi := ?_) (v := ?_) ?_ (by kernel_rfl) (by kernel_rfl) (by kernel_rfl) ?_ ?_ (by assumption) ?_
      rotate_left 2; (simp only [List.getElem?_toArray, List.getElem?_cons_succ, List.getElem?_cons_zero]; rfl)
      rotate_left; (first | (refine .inl ⟨by rfl, ?_⟩; intro w9 hS9; go_simp; try with_reducible rfl) | (refine .inr ⟨by rfl, ?_⟩; with_reducible rfl))
      rotate_left; (intro _ _ _ h9; exact h9)
      try simp only [Act.put, List.setIfInBounds_toArray, List.set_cons_zero, List.set_cons_succ]
      refine wpAnyH_take (i := 3) (oi := ?_) (v := ?_) ?_ (by kernel_rfl) (by kernel_rfl) (by kernel_rfl) ?_ ?_ (by assumption) ?_
      rotate_left 2; (simp only [List.getElem?_toArray, List.getElem?_cons_succ, List.getElem?_cons_zero]; rfl)
      rotate_left; (first | (refine .inl ⟨by rfl, ?_⟩; intro w9 hS9; go_simp; try with_reducible rfl) | (refine .inr ⟨by rfl, ?_⟩; with_reducible rfl))
      rotate_left; (intro _ _ _ h9; exact h9)
      try simp only [Act.put, List.setIfInBounds_toArray, List.set_cons_zero, List.set_cons_succ]
      refine wpAnyH_take (i := 4) (oi := ?_) (v := ?_) ?_ (by kernel_rfl) (by kernel_rfl) (by kernel_rfl) ?_ ?_ (by assumption) ?_
      rotate_left 2; (simp only [List.getElem?_toArray, List.getElem?_cons_succ, List.getElem?_cons_zero]; rfl)
      rotate_left; (first | (refine .inl ⟨by rfl, ?_⟩; intro w9 hS9; go_simp; try with_reducible rfl) | (refine .inr ⟨by rfl, ?_⟩; with_reducible rfl))
      rotate_left; (intro _ _ _ h9; exact h9)
      try simp only [Act.put, List.setIfInBounds_toArray, List.set_cons_zero, List.set_cons_succ]
      refine wpAnyH_take (i := 5) (oi := ?_) (v := ?_) ?_ (by kernel_rfl) (by kernel_rfl) (by kernel_rfl) ?_ ?_ (by assumption) ?_
      rotate_left 2; (simp only [List.getElem?_toArray, List.getElem?_cons_succ, List.getElem?_cons_zero]; rfl)
      rotate_left; (first | (refine .inl ⟨by rfl, ?_⟩; intro w9 hS9; go_simp; try with_reducible rfl) | (refine .inr ⟨by rfl, ?_⟩; with_reducible rfl))
      rotate_left; (intro _ _ _ h9; exact h9)
      try simp only [Act.put, List.setIfInBounds_toArray, List.set_cons_zero, List.set_cons_succ]
      refine wpAnyH_ready (rs := [6]) (by kernel_rfl) (by simp) (AllReadyH.cons rfl (fun K9 hK9 => ?_) AllReadyH.nil)
      go_simp
      refine (r_way st c _ HI0.out HI4.out).mono ?_
      rintro r w' ⟨rfl, rfl⟩
      refine hK9.out _ _ hS0 (fun _ => ?_)
      refine wpAnyH_take (i := 7) (oi := ?_) (v := ?_) ?_ (by kernel_rfl) (by kernel_rfl) (by kernel_rfl) ?_ ?_ (by assumption) ?_
      rotate_left 2; (simp only [List.getElem?_toArray, List.getElem?_cons_succ, List.getElem?_cons_zero]; rfl)
      rotate_left; (first | (refine .inl ⟨by rfl, ?_⟩; intro w9 hS9; go_simp; try with_reducible rfl) | (refine .inr ⟨by rfl, ?_⟩; with_reducible rfl))
      rotate_left; (intro _ _ _ h9; exact h9)
      try simp only [Act.put, List.setIfInBounds_toArray, List.set_cons_zero, List.set_cons_succ]
      refine wpAnyH_take (i := 8) (oi := ?_) (v := ?_) ?_ (by kernel_rfl) (by kernel_rfl) (by kernel_rfl) ?_ ?_ (by assumption) ?_
      rotate_left 2; (simp only [List.getElem?_toArray, List.getElem?_cons_succ, List.getElem?_cons_zero]; rfl)
      rotate_left; (first | (refine .inl ⟨by rfl, ?_⟩; intro w9 hS9; go_simp; try with_reducible rfl) | (refine .inr ⟨by rfl, ?_⟩; with_reducible rfl))
      rotate_left; (intro _ _ _ h9; exact h9)
      try simp only [Act.put, List.setIfInBounds_toArray, List.set_cons_zero, List.set_cons_succ]
      refine wpAnyH_take (i := 9) (oi := ?_) (v := ?_) ?_ (by kernel_rfl) (by kernel_rfl) (by kernel_rfl) ?_ ?_ (by assumption) ?_
      rotate_left 2; (simp only [List.getElem?_toArray, List.getElem?_cons_succ, List.getElem?_cons_zero]; rfl)
      rotate_left; (first | (refine .inl ⟨by rfl, ?_⟩; intro w9 hS9; go_simp; try with_reducible rfl) | (refine .inr ⟨by rfl, ?_⟩; with_reducible rfl))
      rotate_left; (intro _ _ _ h9; exact h9)
      try simp only [Act.put, List.setIfInBounds_toArray, List.set_cons_zero, List.set_cons_succ]
      refine wpAnyH_take (i := 10) (oi := ?_) (v := ?_) ?_ (by kernel_rfl) (by kernel_rfl) (by kernel_rfl) ?_ ?_ (by assumption) ?_
      rotate_left 2; (simp only [List.getElem?_toArray, List.getElem?_cons_succ, List.getElem?_cons_zero]; rfl)
      rotate_left; (first | (refine .inl ⟨by rfl, ?_⟩; intro w9 hS9; go_simp; try with_reducible rfl) | (refine .inr ⟨by rfl, ?_⟩; with_reducible rfl))
      rotate_left; (intro _ _ _ h9; exact h9)
      try simp only [Act.put, List.setIfInBounds_toArray, List.set_cons_zero, List.set_cons_succ]
      refine wpAnyH_take (i := 11) (oi := ?_) (v := ?_) ?_ (by kernel_rfl) (by kernel_rfl) (by kernel_rfl) ?_ ?_ (by assumption) ?_
      rotate_left 2; (simp only [List.getElem?_toArray, List.getElem?_cons_succ, List.getElem?_cons_zero]; rfl)
      rotate_left; (first | (refine .inl ⟨by rfl, ?_⟩; intro w9 hS9; go_simp; try with_reducible rfl) | (refine .inr ⟨by rfl, ?_⟩; with_reducible rfl))
      rotate_left; (intro _ _ _ h9; exact h9)
      try simp only [Act.put, List.setIfInBounds_toArray, List.set_cons_zero, List.set_cons_succ]
      refine wpAnyH_done (by kernel_rfl) ?_ _
      have HR2 := Lib.hid (below_in HR.out hS0 (Nat.le_trans (by omega) HZ.out))
      have hF2 : OfBlk wr.drew _ _ _ _ := HF.out
      have HZ2 := Lib.hid (show w.heap.size + 3 ≤ wr.drew.heap.size from HZ.out)
      clear hS0 x0 x1
      generalize wr.drew = wd at *
      by_cases hok : st < 0 ∨ c < 1
      · rw [if_pos hok, if_pos hok]
        have h0 : ofN st c warn = 0 := if_pos hok
        clear hok
        go_wp2_with fail
        exact ⟨⟨2 + 1, by omega, by go_num, by simpa [h0] using hF2, HR2.out, HZ2.out⟩, by simp [intOf]⟩
      · rw [if_neg hok, if_neg hok]
        have h0 := of_form st c warn HI0.out HW.out hok
        obtain ⟨c0, f0, hset⟩ := ofBlk_2 hF2
        have HS := Lib.hid hset
        have H0 := Lib.hid h0
        clear hok hF2 hset h0
        go_wp2_with fail
        refine ⟨⟨2 + 1, by omega, by go_num, ?_, HR2.out.setCell (Nat.le_refl _) _, by simpa using HZ2.out⟩, by simp [intOf]⟩
        rw [H0.out]
        simpa using HS.out (ofN st c warn)
    · have hblk : OfBlk wr (w.heap.size + 2) (ofN st a warn) (ofN st b warn) (ofN st c warn) := by simpa using hblk
      have HF := Lib.hid hblk
      have HR := Lib.hid hbr
      have hout : OfBlk wr (w.heap.size + 1) 0 0 0 := (hbr.block _ (by omega)).trans (heap_alloc2_new w _ _)
      have HO := Lib.hid hout
      obtain ⟨c0, c1, c2, _, _, _⟩ := OfBlk.cells hblk
      obtain ⟨d0, d1, d2, f0, f1, f2⟩ := OfBlk.cells hout
      clear hblk hbr hout
      go_wp2_with fail
      have hend := (ofBlk_2 ((ofBlk_1 ((ofBlk_0 HO.out).2.2 (ofN st a warn))).2.2 (ofN st b warn))).2.2 (ofN st c warn)
      refine bodyPost_ret (results_cell_row rfl _ _ (w.heap.size + 1) _ _ _ _ rfl hend Tryd.underlying32 rfl (by kernel_rfl)) rfl ?_
      refine ⟨rfl, ?_⟩
      exact (((HB.out.trans (HR.out.mono (by omega))).setCell (Nat.le_succ _) _).setCell (Nat.le_succ _) _).setCell (Nat.le_succ _) _
end Go.Proofs.YtflicahchahcnaaDoor
