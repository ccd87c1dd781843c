/- The document's Notes: the walk. -/
import Derived.Test.YtafpkfnegfjohaaBkRef
namespace Go.Proofs.Ytafpkfnegfjohaa
open Go Go.RowKit Go.Shelf
set_option linter.unusedVariables false
set_option linter.unusedSimpArgs false
theorem nt_new_at (w : World) (s : Nat) (A : Option Addr) (d : List UInt8) (c k : Nat) : RNt (w.alloc (.cells (nta s A d.length c ((k : Int) + (8 + (d.length : Int)))) 33)) (some ⟨w.heap.size, 0, none⟩) 1 1 [⟨⟨s, d, k + (8 + d.length)⟩, A, c⟩] := by
  have h := nt_re_new w ⟨⟨s, d, k + (8 + d.length)⟩, A, c⟩
  have e : ((k + (8 + d.length) : Nat) : Int) = (k : Int) + (8 + (d.length : Int)) := by omega
  rw [← e]
  exact h
set_option maxHeartbeats 4000000 in
set_option maxRecDepth 100000 in
theorem rf_notes (A : Option Addr) (n c : Nat) (xs : List UInt8) (w : World) (hrs : RS w A n c xs) (hn : n ≤ 1000000) :
    Calls Try.prog 15 #[.slice A n c] w (IsNts xs w) := by
  have HRS := Lib.hid hrs
  have HN := Lib.hid hn
  clear hrs hn
  go_enter Try.func15, Try.ntmps15
  go_wp2_with fail
  go_loopw [3, 4] (fun s3 s4 wr => ∃ (ys : List NV) (k : Nat), s4 = .int .i64 (k : Int) ∧ RNI w xs wr s3 ys k) (fun _ s4 _ => n - (intOf s4).toNat)
  case atStart => exact ⟨[], 0, rfl, RNI.start w xs⟩
  case round =>
    obtain ⟨ys, k, rfl, hr⟩ := hrel
    have HR := Lib.hid hr
    have hxl := HRS.out.len
    have hkn := hr.le
    have hs4 := fun w' => by_slice_l w' A n c k (by omega) (k : Int) rfl
    have HRD := Lib.hid ((HRS.out.fr (Fr.ofBelow hr.bel (fun _ => False)) (fun _ _ _ _ h => h)).sub k (by omega))
    have HK := Lib.hid (show k ≤ 1000000 ∧ ys.length ≤ 1000000 by have := HN.out; have := hr.few; omega)
    clear hr hxl hkn
    go_wp2_with fail
    refine (rf_one _ _ _ _ _ HRD.out (by have := HN.out; omega)).mono ?_
    rintro e w1 hq
    obtain ⟨s, A1, d, c1, m, rfl, hok, hb1⟩ := IsOne.any hq
    have HOK := Lib.hid hok
    have HB1 := Lib.hid hb1
    have HG2 := Lib.hid (heap_alloc_new w1 (.cells (nta s A1 d.length c1 0) 33))
    have HBA := Lib.hid (below_new w1 (.cells (nta s A1 d.length c1 0) 33))
    have hnt := HR.out.nts
    obtain ⟨A3, c3, e3, _⟩ := hnt.own.re (by have := HK.out; omega)
    subst e3
    clear hq hok hb1 hs4 hnt
    generalize hny : ys.length = ny at *
    have HNY := Lib.hid hny
    have hni : ny ≤ 1000000 := HK.out.2
    clear hny
    go_upto_region 5 with fail
    change Code.wp _ _ _ _ (w1.alloc (.cells (nta s A1 d.length c1 0) 33))
    have HB2 := Lib.hid (show Below wr.heap.size wr (w1.alloc (.cells (nta s A1 d.length c1 0) 33)) from below_step HB1.out HBA.out)
    generalize w1.alloc (.cells (nta s A1 d.length c1 0) 33) = w2 at *
    rcases HOK.out with ⟨hf, rfl⟩ | ⟨hf, rfl, hd⟩
    · have HD := Lib.hid (HR.out.done (fun s d h => by rw [hf] at h; cases h))
      refine wp_region_held (S := fun w' => Below w2.heap.size w2 w') (by kernel_rfl) ?_
      change wpAnyH _ _ _ _ _ _ _ _ w2.drew
      have hS0 : Below w2.heap.size w2 w2.drew := ⟨rfl, rfl, rfl, Nat.le_refl _, fun _ _ => rfl⟩
      change wpAnyH _ _ _ _ _ 27 (Array.replicate 27 false) _ _
      refine wpAnyH_take (i := 0) (oi := ?_) (v := ?_) ?_ (by kernel_rfl) (by kernel_rfl) (by kernel_rfl) ?_ ?_ (by assumption) ?_
      rotate_left 2; (simp only [List.getElem?_toArray, List.getElem?_cons_succ, List.getElem?_cons_zero]; rfl)
      rotate_left; (first | (refine .inl ⟨by rfl, ?_⟩; intro w9 hS9; go_simp; try with_reducible rfl) | (refine .inr ⟨by rfl, ?_⟩; with_reducible rfl))
      rotate_left; (intro _ _ _ h9; exact h9)
      try simp only [Act.put, List.setIfInBounds_toArray, List.set_cons_zero, List.set_cons_succ]
      refine wpAnyH_take (i := 1) (oi := ?_) (v := ?_) ?_ (by kernel_rfl) (by kernel_rfl) (by kernel_rfl) ?_ ?_ (by assumption) ?_
      rotate_left 2; (simp only [List.getElem?_toArray, List.getElem?_cons_succ, List.getElem?_cons_zero]; rfl)
      rotate_left; (first | (refine .inl ⟨by rfl, ?_⟩; intro w9 hS9; go_simp; try with_reducible rfl) | (refine .inr ⟨by rfl, ?_⟩; with_reducible rfl))
      rotate_left; (intro _ _ _ h9; exact h9)
      try simp only [Act.put, List.setIfInBounds_toArray, List.set_cons_zero, List.set_cons_succ]
      refine wpAnyH_take (i := 2) (oi := ?_) (v := ?_) ?_ (by kernel_rfl) (by kernel_rfl) (by kernel_rfl) ?_ ?_ (by assumption) ?_
      rotate_left 2; (simp only [List.getElem?_toArray, List.getElem?_cons_succ, List.getElem?_cons_zero]; rfl)
      rotate_left; (first | (refine .inl ⟨by rfl, ?_⟩; intro w9 hS9; go_simp; try with_reducible rfl) | (refine .inr ⟨by rfl, ?_⟩; with_reducible rfl))
      rotate_left; (intro _ _ _ h9; exact h9)
      try simp only [Act.put, List.setIfInBounds_toArray, List.set_cons_zero, List.set_cons_succ]
      refine wpAnyH_take (i := 3) (oi := ?_) (v := ?_) ?_ (by kernel_rfl) (by kernel_rfl) (by kernel_rfl) ?_ ?_ (by assumption) ?_
      rotate_left 2; (simp only [List.getElem?_toArray, List.getElem?_cons_succ, List.getElem?_cons_zero]; rfl)
      rotate_left; (first | (refine .inl ⟨by rfl, ?_⟩; intro w9 hS9; go_simp; try with_reducible rfl) | (refine .inr ⟨by rfl, ?_⟩; with_reducible rfl))
      rotate_left; (intro _ _ _ h9; exact h9)
      try simp only [Act.put, List.setIfInBounds_toArray, List.set_cons_zero, List.set_cons_succ]
      refine wpAnyH_take (i := 4) (oi := ?_) (v := ?_) ?_ (by kernel_rfl) (by kernel_rfl) (by kernel_rfl) ?_ ?_ (by assumption) ?_
      rotate_left 2; (simp only [List.getElem?_toArray, List.getElem?_cons_succ, List.getElem?_cons_zero]; rfl)
      rotate_left; (first | (refine .inl ⟨by rfl, ?_⟩; intro w9 hS9; go_simp; try with_reducible rfl) | (refine .inr ⟨by rfl, ?_⟩; with_reducible rfl))
      rotate_left; (intro _ _ _ h9; exact h9)
      try simp only [Act.put, List.setIfInBounds_toArray, List.set_cons_zero, List.set_cons_succ]
      refine wpAnyH_take (i := 5) (oi := ?_) (v := ?_) ?_ (by kernel_rfl) (by kernel_rfl) (by kernel_rfl) ?_ ?_ (by assumption) ?_
      rotate_left 2; (simp only [List.getElem?_toArray, List.getElem?_cons_succ, List.getElem?_cons_zero]; rfl)
      rotate_left; (first | (refine .inl ⟨by rfl, ?_⟩; intro w9 hS9; go_simp; try with_reducible rfl) | (refine .inr ⟨by rfl, ?_⟩; with_reducible rfl))
      rotate_left; (intro _ _ _ h9; exact h9)
      try simp only [Act.put, List.setIfInBounds_toArray, List.set_cons_zero, List.set_cons_succ]
      refine wpAnyH_take (i := 6) (oi := ?_) (v := ?_) ?_ (by kernel_rfl) (by kernel_rfl) (by kernel_rfl) ?_ ?_ (by assumption) ?_
      rotate_left 2; (simp only [List.getElem?_toArray, List.getElem?_cons_succ, List.getElem?_cons_zero]; rfl)
      rotate_left; (first | (refine .inl ⟨by rfl, ?_⟩; intro w9 hS9; go_simp; try with_reducible rfl) | (refine .inr ⟨by rfl, ?_⟩; with_reducible rfl))
      rotate_left; (intro _ _ _ h9; exact h9)
      try simp only [Act.put, List.setIfInBounds_toArray, List.set_cons_zero, List.set_cons_succ]
      refine wpAnyH_take (i := 7) (oi := ?_) (v := ?_) ?_ (by kernel_rfl) (by kernel_rfl) (by kernel_rfl) ?_ ?_ (by assumption) ?_
      rotate_left 2; (simp only [List.getElem?_toArray, List.getElem?_cons_succ, List.getElem?_cons_zero]; rfl)
      rotate_left; (first | (refine .inl ⟨by rfl, ?_⟩; intro w9 hS9; go_simp; try with_reducible rfl) | (refine .inr ⟨by rfl, ?_⟩; with_reducible rfl))
      rotate_left; (intro _ _ _ h9; exact h9)
      try simp only [Act.put, List.setIfInBounds_toArray, List.set_cons_zero, List.set_cons_succ]
      refine wpAnyH_take (i := 8) (oi := ?_) (v := ?_) ?_ (by kernel_rfl) (by kernel_rfl) (by kernel_rfl) ?_ ?_ (by assumption) ?_
      rotate_left 2; (simp only [List.getElem?_toArray, List.getElem?_cons_succ, List.getElem?_cons_zero]; rfl)
      rotate_left; (first | (refine .inl ⟨by rfl, ?_⟩; intro w9 hS9; go_simp; try with_reducible rfl) | (refine .inr ⟨by rfl, ?_⟩; with_reducible rfl))
      rotate_left; (intro _ _ _ h9; exact h9)
      try simp only [Act.put, List.setIfInBounds_toArray, List.set_cons_zero, List.set_cons_succ]
      refine wpAnyH_take (i := 9) (oi := ?_) (v := ?_) ?_ (by kernel_rfl) (by kernel_rfl) (by kernel_rfl) ?_ ?_ (by assumption) ?_
      rotate_left 2; (simp only [List.getElem?_toArray, List.getElem?_cons_succ, List.getElem?_cons_zero]; rfl)
      rotate_left; (first | (refine .inl ⟨by rfl, ?_⟩; intro w9 hS9; go_simp; try with_reducible rfl) | (refine .inr ⟨by rfl, ?_⟩; with_reducible rfl))
      rotate_left; (intro _ _ _ h9; exact h9)
      try simp only [Act.put, List.setIfInBounds_toArray, List.set_cons_zero, List.set_cons_succ]
      refine wpAnyH_take (i := 10) (oi := ?_) (v := ?_) ?_ (by kernel_rfl) (by kernel_rfl) (by kernel_rfl) ?_ ?_ (by assumption) ?_
      rotate_left 2; (simp only [List.getElem?_toArray, List.getElem?_cons_succ, List.getElem?_cons_zero]; rfl)
      rotate_left; (first | (refine .inl ⟨by rfl, ?_⟩; intro w9 hS9; go_simp; try with_reducible rfl) | (refine .inr ⟨by rfl, ?_⟩; with_reducible rfl))
      rotate_left; (intro _ _ _ h9; exact h9)
      try simp only [Act.put, List.setIfInBounds_toArray, List.set_cons_zero, List.set_cons_succ]
      refine wpAnyH_take (i := 11) (oi := ?_) (v := ?_) ?_ (by kernel_rfl) (by kernel_rfl) (by kernel_rfl) ?_ ?_ (by assumption) ?_
      rotate_left 2; (simp only [List.getElem?_toArray, List.getElem?_cons_succ, List.getElem?_cons_zero]; rfl)
      rotate_left; (first | (refine .inl ⟨by rfl, ?_⟩; intro w9 hS9; go_simp; try with_reducible rfl) | (refine .inr ⟨by rfl, ?_⟩; with_reducible rfl))
      rotate_left; (intro _ _ _ h9; exact h9)
      try simp only [Act.put, List.setIfInBounds_toArray, List.set_cons_zero, List.set_cons_succ]
      refine wpAnyH_take (i := 12) (oi := ?_) (v := ?_) ?_ (by kernel_rfl) (by kernel_rfl) (by kernel_rfl) ?_ ?_ (by assumption) ?_
      rotate_left 2; (simp only [List.getElem?_toArray, List.getElem?_cons_succ, List.getElem?_cons_zero]; rfl)
      rotate_left; (first | (refine .inl ⟨by rfl, ?_⟩; intro w9 hS9; go_simp; try with_reducible rfl) | (refine .inr ⟨by rfl, ?_⟩; with_reducible rfl))
      rotate_left; (intro _ _ _ h9; exact h9)
      try simp only [Act.put, List.setIfInBounds_toArray, List.set_cons_zero, List.set_cons_succ]
      refine wpAnyH_take (i := 13) (oi := ?_) (v := ?_) ?_ (by kernel_rfl) (by kernel_rfl) (by kernel_rfl) ?_ ?_ (by assumption) ?_
      rotate_left 2; (simp only [List.getElem?_toArray, List.getElem?_cons_succ, List.getElem?_cons_zero]; rfl)
      rotate_left; (first | (refine .inl ⟨by rfl, ?_⟩; intro w9 hS9; go_simp; try with_reducible rfl) | (refine .inr ⟨by rfl, ?_⟩; with_reducible rfl))
      rotate_left; (intro _ _ _ h9; exact h9)
      try simp only [Act.put, List.setIfInBounds_toArray, List.set_cons_zero, List.set_cons_succ]
      refine wpAnyH_take (i := 14) (oi := ?_) (v := ?_) ?_ (by kernel_rfl) (by kernel_rfl) (by kernel_rfl) ?_ ?_ (by assumption) ?_
      rotate_left 2; (simp only [List.getElem?_toArray, List.getElem?_cons_succ, List.getElem?_cons_zero]; rfl)
      rotate_left; (first | (refine .inl ⟨by rfl, ?_⟩; intro w9 hS9; go_simp; try with_reducible rfl) | (refine .inr ⟨by rfl, ?_⟩; with_reducible rfl))
      rotate_left; (intro _ _ _ h9; exact h9)
      try simp only [Act.put, List.setIfInBounds_toArray, List.set_cons_zero, List.set_cons_succ]
      refine wpAnyH_take (i := 15) (oi := ?_) (v := ?_) ?_ (by kernel_rfl) (by kernel_rfl) (by kernel_rfl) ?_ ?_ (by assumption) ?_
      rotate_left 2; (simp only [List.getElem?_toArray, List.getElem?_cons_succ, List.getElem?_cons_zero]; rfl)
      rotate_left; (first | (refine .inl ⟨by rfl, ?_⟩; intro w9 hS9; go_simp; try with_reducible rfl) | (refine .inr ⟨by rfl, ?_⟩; with_reducible rfl))
      rotate_left; (intro _ _ _ h9; exact h9)
      try simp only [Act.put, List.setIfInBounds_toArray, List.set_cons_zero, List.set_cons_succ]
      refine wpAnyH_take (i := 16) (oi := ?_) (v := ?_) ?_ (by kernel_rfl) (by kernel_rfl) (by kernel_rfl) ?_ ?_ (by assumption) ?_
      rotate_left 2; (simp only [List.getElem?_toArray, List.getElem?_cons_succ, List.getElem?_cons_zero]; rfl)
      rotate_left; (first | (refine .inl ⟨by rfl, ?_⟩; intro w9 hS9; go_simp; try with_reducible rfl) | (refine .inr ⟨by rfl, ?_⟩; with_reducible rfl))
      rotate_left; (intro _ _ _ h9; exact h9)
      try simp only [Act.put, List.setIfInBounds_toArray, List.set_cons_zero, List.set_cons_succ]
      refine wpAnyH_take (i := 17) (oi := ?_) (v := ?_) ?_ (by kernel_rfl) (by kernel_rfl) (by kernel_rfl) ?_ ?_ (by assumption) ?_
      rotate_left 2; (simp only [List.getElem?_toArray, List.getElem?_cons_succ, List.getElem?_cons_zero]; rfl)
      rotate_left; (first | (refine .inl ⟨by rfl, ?_⟩; intro w9 hS9; go_simp; try with_reducible rfl) | (refine .inr ⟨by rfl, ?_⟩; with_reducible rfl))
      rotate_left; (intro _ _ _ h9; exact h9)
      try simp only [Act.put, List.setIfInBounds_toArray, List.set_cons_zero, List.set_cons_succ]
      refine wpAnyH_take (i := 18) (oi := ?_) (v := ?_) ?_ (by kernel_rfl) (by kernel_rfl) (by kernel_rfl) ?_ ?_ (by assumption) ?_
      rotate_left 2; (simp only [List.getElem?_toArray, List.getElem?_cons_succ, List.getElem?_cons_zero]; rfl)
      rotate_left; (first | (refine .inl ⟨by rfl, ?_⟩; intro w9 hS9; go_simp; try with_reducible rfl) | (refine .inr ⟨by rfl, ?_⟩; with_reducible rfl))
      rotate_left; (intro _ _ _ h9; exact h9)
      try simp only [Act.put, List.setIfInBounds_toArray, List.set_cons_zero, List.set_cons_succ]
      refine wpAnyH_take (i := 19) (oi := ?_) (v := ?_) ?_ (by kernel_rfl) (by kernel_rfl) (by kernel_rfl) ?_ ?_ (by assumption) ?_
      rotate_left 2; (simp only [List.getElem?_toArray, List.getElem?_cons_succ, List.getElem?_cons_zero]; rfl)
      rotate_left; (first | (refine .inl ⟨by rfl, ?_⟩; intro w9 hS9; go_simp; try with_reducible rfl) | (refine .inr ⟨by rfl, ?_⟩; with_reducible rfl))
      rotate_left; (intro _ _ _ h9; exact h9)
      try simp only [Act.put, List.setIfInBounds_toArray, List.set_cons_zero, List.set_cons_succ]
      refine wpAnyH_take (i := 20) (oi := ?_) (v := ?_) ?_ (by kernel_rfl) (by kernel_rfl) (by kernel_rfl) ?_ ?_ (by assumption) ?_
      rotate_left 2; (simp only [List.getElem?_toArray, List.getElem?_cons_succ, List.getElem?_cons_zero]; rfl)
      rotate_left; (first | (refine .inl ⟨by rfl, ?_⟩; intro w9 hS9; go_simp; try with_reducible rfl) | (refine .inr ⟨by rfl, ?_⟩; with_reducible rfl))
      rotate_left; (intro _ _ _ h9; exact h9)
      try simp only [Act.put, List.setIfInBounds_toArray, List.set_cons_zero, List.set_cons_succ]
      refine wpAnyH_take (i := 21) (oi := ?_) (v := ?_) ?_ (by kernel_rfl) (by kernel_rfl) (by kernel_rfl) ?_ ?_ (by assumption) ?_
      rotate_left 2; (simp only [List.getElem?_toArray, List.getElem?_cons_succ, List.getElem?_cons_zero]; rfl)
      rotate_left; (first | (refine .inl ⟨by rfl, ?_⟩; intro w9 hS9; go_simp; try with_reducible rfl) | (refine .inr ⟨by rfl, ?_⟩; with_reducible rfl))
      rotate_left; (intro _ _ _ h9; exact h9)
      try simp only [Act.put, List.setIfInBounds_toArray, List.set_cons_zero, List.set_cons_succ]
      refine wpAnyH_take (i := 22) (oi := ?_) (v := ?_) ?_ (by kernel_rfl) (by kernel_rfl) (by kernel_rfl) ?_ ?_ (by assumption) ?_
      rotate_left 2; (simp only [List.getElem?_toArray, List.getElem?_cons_succ, List.getElem?_cons_zero]; rfl)
      rotate_left; (first | (refine .inl ⟨by rfl, ?_⟩; intro w9 hS9; go_simp; try with_reducible rfl) | (refine .inr ⟨by rfl, ?_⟩; with_reducible rfl))
      rotate_left; (intro _ _ _ h9; exact h9)
      try simp only [Act.put, List.setIfInBounds_toArray, List.set_cons_zero, List.set_cons_succ]
      refine wpAnyH_take (i := 23) (oi := ?_) (v := ?_) ?_ (by kernel_rfl) (by kernel_rfl) (by kernel_rfl) ?_ ?_ (by assumption) ?_
      rotate_left 2; (simp only [List.getElem?_toArray, List.getElem?_cons_succ, List.getElem?_cons_zero]; rfl)
      rotate_left; (first | (refine .inl ⟨by rfl, ?_⟩; intro w9 hS9; go_simp; try with_reducible rfl) | (refine .inr ⟨by rfl, ?_⟩; with_reducible rfl))
      rotate_left; (intro _ _ _ h9; exact h9)
      try simp only [Act.put, List.setIfInBounds_toArray, List.set_cons_zero, List.set_cons_succ]
      refine wpAnyH_take (i := 24) (oi := ?_) (v := ?_) ?_ (by kernel_rfl) (by kernel_rfl) (by kernel_rfl) ?_ ?_ (by assumption) ?_
      rotate_left 2; (simp only [List.getElem?_toArray, List.getElem?_cons_succ, List.getElem?_cons_zero]; rfl)
      rotate_left; (first | (refine .inl ⟨by rfl, ?_⟩; intro w9 hS9; go_simp; try with_reducible rfl) | (refine .inr ⟨by rfl, ?_⟩; with_reducible rfl))
      rotate_left; (intro _ _ _ h9; exact h9)
      try simp only [Act.put, List.setIfInBounds_toArray, List.set_cons_zero, List.set_cons_succ]
      refine wpAnyH_take (i := 25) (oi := ?_) (v := ?_) ?_ (by kernel_rfl) (by kernel_rfl) (by kernel_rfl) ?_ ?_ (by assumption) ?_
      rotate_left 2; (simp only [List.getElem?_toArray, List.getElem?_cons_succ, List.getElem?_cons_zero]; rfl)
      rotate_left; (first | (refine .inl ⟨by rfl, ?_⟩; intro w9 hS9; go_simp; try with_reducible rfl) | (refine .inr ⟨by rfl, ?_⟩; with_reducible rfl))
      rotate_left; (intro _ _ _ h9; exact h9)
      try simp only [Act.put, List.setIfInBounds_toArray, List.set_cons_zero, List.set_cons_succ]
      refine wpAnyH_take (i := 26) (oi := ?_) (v := ?_) ?_ (by kernel_rfl) (by kernel_rfl) (by kernel_rfl) ?_ ?_ (by assumption) ?_
      rotate_left 2; (simp only [List.getElem?_toArray, List.getElem?_cons_succ, List.getElem?_cons_zero]; rfl)
      rotate_left; (first | (refine .inl ⟨by rfl, ?_⟩; intro w9 hS9; go_simp; try with_reducible rfl) | (refine .inr ⟨by rfl, ?_⟩; with_reducible rfl))
      rotate_left; (intro _ _ _ h9; exact h9)
      try simp only [Act.put, List.setIfInBounds_toArray, List.set_cons_zero, List.set_cons_succ]
      refine wpAnyH_done (by kernel_rfl) ?_ _
      go_wp2_with fail
      go_ret
      exact ⟨_, ys, rfl, HD.out, (HR.out.nts.below HB2.out).below hS0, HR.out.bel.trans ((HB2.out.mono HR.out.bel.size).trans (hS0.mono (Nat.le_trans HR.out.bel.size HB2.out.size)))⟩
    have HD1 := Lib.hid hd
    have HF := Lib.hid hf
    have hl2 := bkFirst_len hf
    rw [List.length_drop] at hl2
    have HL := Lib.hid (show k + (8 + d.length) ≤ xs.length ∧ 1 ≤ d.length ∧ d.length ≤ 40 ∧ s < 4294967296 by have := HR.out.le; omega)
    have hm0 : ((8 + (d.length : Int)) == 0) = false := by simp; omega
    have ew : IntKind.i64.wrap ((k : Int) + (8 + (d.length : Int))) = (k : Int) + (8 + (d.length : Int)) := by have := HK.out; have := HL.out; simp [IntKind.wrap, IntKind.bits, IntKind.signed]; omega
    have hbx := HG2.out
    have x0 : ∀ w', Below w2.heap.size w2 w' → w'.cell? ⟨w1.heap.size, 0, none⟩ = some (.int .u32 s) := fun w' hb => (hb.cell (p := ⟨w1.heap.size, 0, none⟩) (Array.getElem?_eq_some_iff.mp hbx).1).trans (by simp [World.cell?, hbx])
    clear hd hf hl2 hbx
    rcases List.eq_nil_or_concat ys with rfl | ⟨zs, z, rfl⟩
    · have HX := Lib.hid (show bkNext (([] : List NV).getLast?.map (·.nt.seq)) s = true from rfl)
      have hn0 := HNY.out
      rw [List.length_nil] at hn0
      have hn1 : ¬ 0 < (ny : Int) := by omega
      have hn2 : ¬ 0 < ny := by omega
      clear hn0
      refine wp_region_held (S := fun w' => Below w2.heap.size w2 w') (by kernel_rfl) ?_
      change wpAnyH _ _ _ _ _ _ _ _ w2.drew
      have hS0 : Below w2.heap.size w2 w2.drew := ⟨rfl, rfl, rfl, Nat.le_refl _, fun _ _ => rfl⟩
      change wpAnyH _ _ _ _ _ 27 (Array.replicate 27 false) _ _
      refine wpAnyH_take (i := 0) (oi := ?_) (v := ?_) ?_ (by kernel_rfl) (by kernel_rfl) (by kernel_rfl) ?_ ?_ (by assumption) ?_
      rotate_left 2; (simp only [List.getElem?_toArray, List.getElem?_cons_succ, List.getElem?_cons_zero]; rfl)
      rotate_left; (first | (refine .inl ⟨by rfl, ?_⟩; intro w9 hS9; go_simp; try with_reducible rfl) | (refine .inr ⟨by rfl, ?_⟩; with_reducible rfl))
      rotate_left; (intro _ _ _ h9; exact h9)
      try simp only [Act.put, List.setIfInBounds_toArray, List.set_cons_zero, List.set_cons_succ]
      refine wpAnyH_take (i := 1) (oi := ?_) (v := ?_) ?_ (by kernel_rfl) (by kernel_rfl) (by kernel_rfl) ?_ ?_ (by assumption) ?_
      rotate_left 2; (simp only [List.getElem?_toArray, List.getElem?_cons_succ, List.getElem?_cons_zero]; rfl)
      rotate_left; (first | (refine .inl ⟨by rfl, ?_⟩; intro w9 hS9; go_simp; try with_reducible rfl) | (refine .inr ⟨by rfl, ?_⟩; with_reducible rfl))
      rotate_left; (intro _ _ _ h9; exact h9)
      try simp only [Act.put, List.setIfInBounds_toArray, List.set_cons_zero, List.set_cons_succ]
      refine wpAnyH_take (i := 2) (oi := ?_) (v := ?_) ?_ (by kernel_rfl) (by kernel_rfl) (by kernel_rfl) ?_ ?_ (by assumption) ?_
      rotate_left 2; (simp only [List.getElem?_toArray, List.getElem?_cons_succ, List.getElem?_cons_zero]; rfl)
      rotate_left; (first | (refine .inl ⟨by rfl, ?_⟩; intro w9 hS9; go_simp; try with_reducible rfl) | (refine .inr ⟨by rfl, ?_⟩; with_reducible rfl))
      rotate_left; (intro _ _ _ h9; exact h9)
      try simp only [Act.put, List.setIfInBounds_toArray, List.set_cons_zero, List.set_cons_succ]
      refine wpAnyH_take (i := 3) (oi := ?_) (v := ?_) ?_ (by kernel_rfl) (by kernel_rfl) (by kernel_rfl) ?_ ?_ (by assumption) ?_
      rotate_left 2; (simp only [List.getElem?_toArray, List.getElem?_cons_succ, List.getElem?_cons_zero]; rfl)
      rotate_left; (first | (refine .inl ⟨by rfl, ?_⟩; intro w9 hS9; go_simp; try with_reducible rfl) | (refine .inr ⟨by rfl, ?_⟩; with_reducible rfl))
      rotate_left; (intro _ _ _ h9; exact h9)
      try simp only [Act.put, List.setIfInBounds_toArray, List.set_cons_zero, List.set_cons_succ]
      refine wpAnyH_take (i := 4) (oi := ?_) (v := ?_) ?_ (by kernel_rfl) (by kernel_rfl) (by kernel_rfl) ?_ ?_ (by assumption) ?_
      rotate_left 2; (simp only [List.getElem?_toArray, List.getElem?_cons_succ, List.getElem?_cons_zero]; rfl)
      rotate_left; (first | (refine .inl ⟨by rfl, ?_⟩; intro w9 hS9; go_simp; try with_reducible rfl) | (refine .inr ⟨by rfl, ?_⟩; with_reducible rfl))
      rotate_left; (intro _ _ _ h9; exact h9)
      try simp only [Act.put, List.setIfInBounds_toArray, List.set_cons_zero, List.set_cons_succ]
      refine wpAnyH_take (i := 5) (oi := ?_) (v := ?_) ?_ (by kernel_rfl) (by kernel_rfl) (by kernel_rfl) ?_ ?_ (by assumption) ?_
      rotate_left 2; (simp only [List.getElem?_toArray, List.getElem?_cons_succ, List.getElem?_cons_zero]; rfl)
      rotate_left; (first | (refine .inl ⟨by rfl, ?_⟩; intro w9 hS9; go_simp; try with_reducible rfl) | (refine .inr ⟨by rfl, ?_⟩; with_reducible rfl))
      rotate_left; (intro _ _ _ h9; exact h9)
      try simp only [Act.put, List.setIfInBounds_toArray, List.set_cons_zero, List.set_cons_succ]
      refine wpAnyH_take (i := 6) (oi := ?_) (v := ?_) ?_ (by kernel_rfl) (by kernel_rfl) (by kernel_rfl) ?_ ?_ (by assumption) ?_
      rotate_left 2; (simp only [List.getElem?_toArray, List.getElem?_cons_succ, List.getElem?_cons_zero]; rfl)
      rotate_left; (first | (refine .inl ⟨by rfl, ?_⟩; intro w9 hS9; go_simp; try with_reducible rfl) | (refine .inr ⟨by rfl, ?_⟩; with_reducible rfl))
      rotate_left; (intro _ _ _ h9; exact h9)
      try simp only [Act.put, List.setIfInBounds_toArray, List.set_cons_zero, List.set_cons_succ]
      refine wpAnyH_take (i := 7) (oi := ?_) (v := ?_) ?_ (by kernel_rfl) (by kernel_rfl) (by kernel_rfl) ?_ ?_ (by assumption) ?_
      rotate_left 2; (simp only [List.getElem?_toArray, List.getElem?_cons_succ, List.getElem?_cons_zero]; rfl)
      rotate_left; (first | (refine .inl ⟨by rfl, ?_⟩; intro w9 hS9; go_simp; try with_reducible rfl) | (refine .inr ⟨by rfl, ?_⟩; with_reducible rfl))
      rotate_left; (intro _ _ _ h9; exact h9)
      try simp only [Act.put, List.setIfInBounds_toArray, List.set_cons_zero, List.set_cons_succ]
      refine wpAnyH_take (i := 8) (oi := ?_) (v := ?_) ?_ (by kernel_rfl) (by kernel_rfl) (by kernel_rfl) ?_ ?_ (by assumption) ?_
      rotate_left 2; (simp only [List.getElem?_toArray, List.getElem?_cons_succ, List.getElem?_cons_zero]; rfl)
      rotate_left; (first | (refine .inl ⟨by rfl, ?_⟩; intro w9 hS9; go_simp; try with_reducible rfl) | (refine .inr ⟨by rfl, ?_⟩; with_reducible rfl))
      rotate_left; (intro _ _ _ h9; exact h9)
      try simp only [Act.put, List.setIfInBounds_toArray, List.set_cons_zero, List.set_cons_succ]
      refine wpAnyH_take (i := 9) (oi := ?_) (v := ?_) ?_ (by kernel_rfl) (by kernel_rfl) (by kernel_rfl) ?_ ?_ (by assumption) ?_
      rotate_left 2; (simp only [List.getElem?_toArray, List.getElem?_cons_succ, List.getElem?_cons_zero]; rfl)
      rotate_left; (first | (refine .inl ⟨by rfl, ?_⟩; intro w9 hS9; go_simp; try with_reducible rfl) | (refine .inr ⟨by rfl, ?_⟩; with_reducible rfl))
      rotate_left; (intro _ _ _ h9; exact h9)
      try simp only [Act.put, List.setIfInBounds_toArray, List.set_cons_zero, List.set_cons_succ]
      refine wpAnyH_take (i := 10) (oi := ?_) (v := ?_) ?_ (by kernel_rfl) (by kernel_rfl) (by kernel_rfl) ?_ ?_ (by assumption) ?_
      rotate_left 2; (simp only [List.getElem?_toArray, List.getElem?_cons_succ, List.getElem?_cons_zero]; rfl)
      rotate_left; (first | (refine .inl ⟨by rfl, ?_⟩; intro w9 hS9; go_simp; try with_reducible rfl) | (refine .inr ⟨by rfl, ?_⟩; with_reducible rfl))
      rotate_left; (intro _ _ _ h9; exact h9)
      try simp only [Act.put, List.setIfInBounds_toArray, List.set_cons_zero, List.set_cons_succ]
      refine wpAnyH_take (i := 11) (oi := ?_) (v := ?_) ?_ (by kernel_rfl) (by kernel_rfl) (by kernel_rfl) ?_ ?_ (by assumption) ?_
      rotate_left 2; (simp only [List.getElem?_toArray, List.getElem?_cons_succ, List.getElem?_cons_zero]; rfl)
      rotate_left; (first | (refine .inl ⟨by rfl, ?_⟩; intro w9 hS9; go_simp; try with_reducible rfl) | (refine .inr ⟨by rfl, ?_⟩; with_reducible rfl))
      rotate_left; (intro _ _ _ h9; exact h9)
      try simp only [Act.put, List.setIfInBounds_toArray, List.set_cons_zero, List.set_cons_succ]
      refine wpAnyH_take (i := 12) (oi := ?_) (v := ?_) ?_ (by kernel_rfl) (by kernel_rfl) (by kernel_rfl) ?_ ?_ (by assumption) ?_
      rotate_left 2; (simp only [List.getElem?_toArray, List.getElem?_cons_succ, List.getElem?_cons_zero]; rfl)
      rotate_left; (first | (refine .inl ⟨by rfl, ?_⟩; intro w9 hS9; go_simp; try with_reducible rfl) | (refine .inr ⟨by rfl, ?_⟩; with_reducible rfl))
      rotate_left; (intro _ _ _ h9; exact h9)
      try simp only [Act.put, List.setIfInBounds_toArray, List.set_cons_zero, List.set_cons_succ]
      refine wpAnyH_take (i := 13) (oi := ?_) (v := ?_) ?_ (by kernel_rfl) (by kernel_rfl) (by kernel_rfl) ?_ ?_ (by assumption) ?_
      rotate_left 2; (simp only [List.getElem?_toArray, List.getElem?_cons_succ, List.getElem?_cons_zero]; rfl)
      rotate_left; (first | (refine .inl ⟨by rfl, ?_⟩; intro w9 hS9; go_simp; try with_reducible rfl) | (refine .inr ⟨by rfl, ?_⟩; with_reducible rfl))
      rotate_left; (intro _ _ _ h9; exact h9)
      try simp only [Act.put, List.setIfInBounds_toArray, List.set_cons_zero, List.set_cons_succ]
      refine wpAnyH_take (i := 14) (oi := ?_) (v := ?_) ?_ (by kernel_rfl) (by kernel_rfl) (by kernel_rfl) ?_ ?_ (by assumption) ?_
      rotate_left 2; (simp only [List.getElem?_toArray, List.getElem?_cons_succ, List.getElem?_cons_zero]; rfl)
      rotate_left; (first | (refine .inl ⟨by rfl, ?_⟩; intro w9 hS9; go_simp; try with_reducible rfl) | (refine .inr ⟨by rfl, ?_⟩; with_reducible rfl))
      rotate_left; (intro _ _ _ h9; exact h9)
      try simp only [Act.put, List.setIfInBounds_toArray, List.set_cons_zero, List.set_cons_succ]
      refine wpAnyH_take (i := 15) (oi := ?_) (v := ?_) ?_ (by kernel_rfl) (by kernel_rfl) (by kernel_rfl) ?_ ?_ (by assumption) ?_
      rotate_left 2; (simp only [List.getElem?_toArray, List.getElem?_cons_succ, List.getElem?_cons_zero]; rfl)
      rotate_left; (first | (refine .inl ⟨by rfl, ?_⟩; intro w9 hS9; go_simp; try with_reducible rfl) | (refine .inr ⟨by rfl, ?_⟩; with_reducible rfl))
      rotate_left; (intro _ _ _ h9; exact h9)
      try simp only [Act.put, List.setIfInBounds_toArray, List.set_cons_zero, List.set_cons_succ]
      refine wpAnyH_take (i := 16) (oi := ?_) (v := ?_) ?_ (by kernel_rfl) (by kernel_rfl) (by kernel_rfl) ?_ ?_ (by assumption) ?_
      rotate_left 2; (simp only [List.getElem?_toArray, List.getElem?_cons_succ, List.getElem?_cons_zero]; rfl)
      rotate_left; (first | (refine .inl ⟨by rfl, ?_⟩; intro w9 hS9; go_simp; try with_reducible rfl) | (refine .inr ⟨by rfl, ?_⟩; with_reducible rfl))
      rotate_left; (intro _ _ _ h9; exact h9)
      try simp only [Act.put, List.setIfInBounds_toArray, List.set_cons_zero, List.set_cons_succ]
      refine wpAnyH_take (i := 17) (oi := ?_) (v := ?_) ?_ (by kernel_rfl) (by kernel_rfl) (by kernel_rfl) ?_ ?_ (by assumption) ?_
      rotate_left 2; (simp only [List.getElem?_toArray, List.getElem?_cons_succ, List.getElem?_cons_zero]; rfl)
      rotate_left; (first | (refine .inl ⟨by rfl, ?_⟩; intro w9 hS9; go_simp; try with_reducible rfl) | (refine .inr ⟨by rfl, ?_⟩; with_reducible rfl))
      rotate_left; (intro _ _ _ h9; exact h9)
      try simp only [Act.put, List.setIfInBounds_toArray, List.set_cons_zero, List.set_cons_succ]
      refine wpAnyH_take (i := 18) (oi := ?_) (v := ?_) ?_ (by kernel_rfl) (by kernel_rfl) (by kernel_rfl) ?_ ?_ (by assumption) ?_
      rotate_left 2; (simp only [List.getElem?_toArray, List.getElem?_cons_succ, List.getElem?_cons_zero]; rfl)
      rotate_left; (first | (refine .inl ⟨by rfl, ?_⟩; intro w9 hS9; go_simp; try with_reducible rfl) | (refine .inr ⟨by rfl, ?_⟩; with_reducible rfl))
      rotate_left; (intro _ _ _ h9; exact h9)
      try simp only [Act.put, List.setIfInBounds_toArray, List.set_cons_zero, List.set_cons_succ]
      refine wpAnyH_take (i := 19) (oi := ?_) (v := ?_) ?_ (by kernel_rfl) (by kernel_rfl) (by kernel_rfl) ?_ ?_ (by assumption) ?_
      rotate_left 2; (simp only [List.getElem?_toArray, List.getElem?_cons_succ, List.getElem?_cons_zero]; rfl)
      rotate_left; (first | (refine .inl ⟨by rfl, ?_⟩; intro w9 hS9; go_simp; try with_reducible rfl) | (refine .inr ⟨by rfl, ?_⟩; with_reducible rfl))
      rotate_left; (intro _ _ _ h9; exact h9)
      try simp only [Act.put, List.setIfInBounds_toArray, List.set_cons_zero, List.set_cons_succ]
      refine wpAnyH_take (i := 20) (oi := ?_) (v := ?_) ?_ (by kernel_rfl) (by kernel_rfl) (by kernel_rfl) ?_ ?_ (by assumption) ?_
      rotate_left 2; (simp only [List.getElem?_toArray, List.getElem?_cons_succ, List.getElem?_cons_zero]; rfl)
      rotate_left; (first | (refine .inl ⟨by rfl, ?_⟩; intro w9 hS9; go_simp; try with_reducible rfl) | (refine .inr ⟨by rfl, ?_⟩; with_reducible rfl))
      rotate_left; (intro _ _ _ h9; exact h9)
      try simp only [Act.put, List.setIfInBounds_toArray, List.set_cons_zero, List.set_cons_succ]
      refine wpAnyH_take (i := 21) (oi := ?_) (v := ?_) ?_ (by kernel_rfl) (by kernel_rfl) (by kernel_rfl) ?_ ?_ (by assumption) ?_
      rotate_left 2; (simp only [List.getElem?_toArray, List.getElem?_cons_succ, List.getElem?_cons_zero]; rfl)
      rotate_left; (first | (refine .inl ⟨by rfl, ?_⟩; intro w9 hS9; go_simp; try with_reducible rfl) | (refine .inr ⟨by rfl, ?_⟩; with_reducible rfl))
      rotate_left; (intro _ _ _ h9; exact h9)
      try simp only [Act.put, List.setIfInBounds_toArray, List.set_cons_zero, List.set_cons_succ]
      refine wpAnyH_take (i := 22) (oi := ?_) (v := ?_) ?_ (by kernel_rfl) (by kernel_rfl) (by kernel_rfl) ?_ ?_ (by assumption) ?_
      rotate_left 2; (simp only [List.getElem?_toArray, List.getElem?_cons_succ, List.getElem?_cons_zero]; rfl)
      rotate_left; (first | (refine .inl ⟨by rfl, ?_⟩; intro w9 hS9; go_simp; try with_reducible rfl) | (refine .inr ⟨by rfl, ?_⟩; with_reducible rfl))
      rotate_left; (intro _ _ _ h9; exact h9)
      try simp only [Act.put, List.setIfInBounds_toArray, List.set_cons_zero, List.set_cons_succ]
      refine wpAnyH_take (i := 23) (oi := ?_) (v := ?_) ?_ (by kernel_rfl) (by kernel_rfl) (by kernel_rfl) ?_ ?_ (by assumption) ?_
      rotate_left 2; (simp only [List.getElem?_toArray, List.getElem?_cons_succ, List.getElem?_cons_zero]; rfl)
      rotate_left; (first | (refine .inl ⟨by rfl, ?_⟩; intro w9 hS9; go_simp; try with_reducible rfl) | (refine .inr ⟨by rfl, ?_⟩; with_reducible rfl))
      rotate_left; (intro _ _ _ h9; exact h9)
      try simp only [Act.put, List.setIfInBounds_toArray, List.set_cons_zero, List.set_cons_succ]
      refine wpAnyH_take (i := 24) (oi := ?_) (v := ?_) ?_ (by kernel_rfl) (by kernel_rfl) (by kernel_rfl) ?_ ?_ (by assumption) ?_
      rotate_left 2; (simp only [List.getElem?_toArray, List.getElem?_cons_succ, List.getElem?_cons_zero]; rfl)
      rotate_left; (first | (refine .inl ⟨by rfl, ?_⟩; intro w9 hS9; go_simp; try with_reducible rfl) | (refine .inr ⟨by rfl, ?_⟩; with_reducible rfl))
      rotate_left; (intro _ _ _ h9; exact h9)
      try simp only [Act.put, List.setIfInBounds_toArray, List.set_cons_zero, List.set_cons_succ]
      refine wpAnyH_take (i := 25) (oi := ?_) (v := ?_) ?_ (by kernel_rfl) (by kernel_rfl) (by kernel_rfl) ?_ ?_ (by assumption) ?_
      rotate_left 2; (simp only [List.getElem?_toArray, List.getElem?_cons_succ, List.getElem?_cons_zero]; rfl)
      rotate_left; (first | (refine .inl ⟨by rfl, ?_⟩; intro w9 hS9; go_simp; try with_reducible rfl) | (refine .inr ⟨by rfl, ?_⟩; with_reducible rfl))
      rotate_left; (intro _ _ _ h9; exact h9)
      try simp only [Act.put, List.setIfInBounds_toArray, List.set_cons_zero, List.set_cons_succ]
      refine wpAnyH_take (i := 26) (oi := ?_) (v := ?_) ?_ (by kernel_rfl) (by kernel_rfl) (by kernel_rfl) ?_ ?_ (by assumption) ?_
      rotate_left 2; (simp only [List.getElem?_toArray, List.getElem?_cons_succ, List.getElem?_cons_zero]; rfl)
      rotate_left; (first | (refine .inl ⟨by rfl, ?_⟩; intro w9 hS9; go_simp; try with_reducible rfl) | (refine .inr ⟨by rfl, ?_⟩; with_reducible rfl))
      rotate_left; (intro _ _ _ h9; exact h9)
      try simp only [Act.put, List.setIfInBounds_toArray, List.set_cons_zero, List.set_cons_succ]
      refine wpAnyH_done (by kernel_rfl) ?_ _
      have hw3c : ∃ w3, w3 = w2.drew := ⟨_, rfl⟩
      obtain ⟨w3, hw3⟩ := hw3c
      have HB3 := Lib.hid (show Below wr.heap.size wr w3 by rw [hw3]; exact below_step HB2.out hS0)
      have H13 := Lib.hid (show Fr (fun i => i = w1.heap.size) w1 w3 by rw [hw3]; exact Fr.ofBelow (below_step HBA.out hS0) _)
      have HG3 := Lib.hid (show w3.heap[w1.heap.size]? = some (.cells (nta s A1 d.length c1 0) 33 (0, 0)) by rw [hw3]; exact HG2.out)
      clear x0
      go_upto_region 7 with fail
      rw [← hw3]
      clear hS0 hw3
      have hb3 := HG3.out
      have g2 : w3.cell? ⟨w1.heap.size, 2, none⟩ = some (.int .i64 0) := by simp [World.cell?, hb3]
      have gf : w3.frozen? ⟨w1.heap.size, 2, none⟩ = false := by simp [World.frozen?, hb3]
      have HG4 := Lib.hid (nt_fin hb3 ((k : Int) + (8 + (d.length : Int))))
      have HF4 := Lib.hid (fr_setCell (F := fun i => i = w1.heap.size) (w := w3) ⟨w1.heap.size, 2, none⟩ (.int .i64 ((k : Int) + (8 + (d.length : Int)))) rfl)
      clear hb3
      go_upto_region 9 with fail
      generalize w3.setCell ⟨w1.heap.size, 2, none⟩ (.int .i64 ((k : Int) + (8 + (d.length : Int)))) = w4 at *
      clear g2 gf
      have hb4 := HG4.out
      have g0 : w4.cell? ⟨w1.heap.size, 0, none⟩ = some (.int .u32 s) := by simp [World.cell?, hb4]
      have g1 : w4.cell? ⟨w1.heap.size, 1, none⟩ = some (.slice A1 d.length c1) := by simp [World.cell?, hb4]
      have g2 : w4.cell? ⟨w1.heap.size, 2, none⟩ = some (.int .i64 ((k : Int) + (8 + (d.length : Int)))) := by simp [World.cell?, hb4]
      have hs1 := HB1.out.size
      have HB4 := Lib.hid (HB3.out.trans (HF4.out.below wr.heap.size HB3.out.size (fun i e => by omega)))
      have H14 := Lib.hid (fr_same H13.out HF4.out)
      have HNEW := Lib.hid (nt_new_at w4 s A1 d c1 k)
      have HBN := Lib.hid (below_new w4 (.cells (nta s A1 d.length c1 ((k : Int) + (8 + (d.length : Int)))) 33))
      have HOW := Lib.hid ((HR.out.nts.own.fr (Fr.ofBelow HB4.out (fun _ => False)) (fun _ _ h => h)).fr (Fr.ofBelow HBN.out (fun _ => False)) (fun _ _ h => h))
      have HFA := Lib.hid (fr_same H14.out (fr_alloc (fun i => i = w1.heap.size) w4 (.cells (nta s A1 d.length c1 ((k : Int) + (8 + (d.length : Int)))) 33)))
      clear hb4 hs1
      go_wp2_with (at_builtin; go_must (refine wpList_append_fr ntT ntc_len ntc_one rfl _ _ rfl _ [] rfl HOW.out _ _ _ [⟨⟨s, d, k + (8 + d.length)⟩, A1, c1⟩] rfl HNEW.out (by have := HK.out; have := HNY.out; omega) (by have := HK.out; have := HNY.out; omega) ?_); intro v' wc hown1 hg1 hf1; clear g0 g1 g2)
      have hl := HL.out
      have hxl := HRS.out.len
      exact ⟨⟨_, k + (8 + d.length), by go_num, RNI.push HR.out (below_step HB4.out HBN.out) (HD1.out.fr HFA.out (fun b o e e2 => by have := HD1.out.blk b o e; omega)) HF.out HX.out ((Fr.ofGrown hg1).mono (fun i _ e => e.symm)) hown1 hf1⟩, by simp [intOf]; omega⟩
    rw [List.concat_eq_append] at *
    obtain ⟨g, c9, e9, hg9, hr9⟩ := nts_last HR.out.nts (by have := HK.out; have := HNY.out; rw [List.length_append] at this; simp at this; omega)
    have hnz : ny = zs.length + 1 := by have := HNY.out; rw [List.length_append] at this; simpa using this.symm
    cases e9
    have z0 : ∀ w', Below w2.heap.size w2 w' → w'.cell? ⟨g, zs.length * 3, none⟩ = some (.int .u32 z.nt.seq) := fun w' hb => ((HB2.out.trans (hb.mono HB2.out.size)).cell (p := ⟨g, zs.length * 3, none⟩) hg9).trans (hr9 0 _ rfl)
    have h32 := HR.out.u32 z (by simp)
    have HNX := Lib.hid (show (zs ++ [z]).getLast?.map (·.nt.seq) = some z.nt.seq by simp)
    have HDONE := Lib.hid (HR.out.done)
    have HNY := Lib.hid (show (zs ++ [z]).length = zs.length + 1 by simp)
    clear hnz hr9 hg9
    generalize zs.length = mz at *
    have hp0 : 0 < (mz : Int) + 1 := by omega
    have hp1 : (mz : Int) < (mz : Int) + 1 := by omega
    have ew3 : IntKind.i64.wrap (mz : Int) = mz := by simp [IntKind.wrap, IntKind.bits, IntKind.signed]; omega
    have hs32 := HL.out.2.2.2
    by_cases hq1 : z.nt.seq = 4294967295
    · have e1 : ((z.nt.seq : Int) == 4294967295) = true := by simp [hq1]
      have HD := Lib.hid (HDONE.out (fun s9 d9 h9 => by have h8 := HF.out; rw [h8] at h9; cases h9; rw [HNX.out]; simp [bkNext]; omega))
      generalize z.nt.seq = q at *
      have HQ := Lib.hid hq1
      clear hq1 hs32 h32
      generalize zs ++ [z] = ys at *
      refine wp_region_held (S := fun w' => Below w2.heap.size w2 w') (by kernel_rfl) ?_
      change wpAnyH _ _ _ _ _ _ _ _ w2.drew
      have hS0 : Below w2.heap.size w2 w2.drew := ⟨rfl, rfl, rfl, Nat.le_refl _, fun _ _ => rfl⟩
      change wpAnyH _ _ _ _ _ 27 (Array.replicate 27 false) _ _
      refine wpAnyH_take (i := 0) (oi := ?_) (v := ?_) ?_ (by kernel_rfl) (by kernel_rfl) (by kernel_rfl) ?_ ?_ (by assumption) ?_
      rotate_left 2; (simp only [List.getElem?_toArray, List.getElem?_cons_succ, List.getElem?_cons_zero]; rfl)
      rotate_left; (first | (refine .inl ⟨by rfl, ?_⟩; intro w9 hS9; go_simp; try with_reducible rfl) | (refine .inr ⟨by rfl, ?_⟩; with_reducible rfl))
      rotate_left; (intro _ _ _ h9; exact h9)
      try simp only [Act.put, List.setIfInBounds_toArray, List.set_cons_zero, List.set_cons_succ]
      refine wpAnyH_take (i := 1) (oi := ?_) (v := ?_) ?_ (by kernel_rfl) (by kernel_rfl) (by kernel_rfl) ?_ ?_ (by assumption) ?_
      rotate_left 2; (simp only [List.getElem?_toArray, List.getElem?_cons_succ, List.getElem?_cons_zero]; rfl)
      rotate_left; (first | (refine .inl ⟨by rfl, ?_⟩; intro w9 hS9; go_simp; try with_reducible rfl) | (refine .inr ⟨by rfl, ?_⟩; with_reducible rfl))
      rotate_left; (intro _ _ _ h9; exact h9)
      try simp only [Act.put, List.setIfInBounds_toArray, List.set_cons_zero, List.set_cons_succ]
      refine wpAnyH_take (i := 2) (oi := ?_) (v := ?_) ?_ (by kernel_rfl) (by kernel_rfl) (by kernel_rfl) ?_ ?_ (by assumption) ?_
      rotate_left 2; (simp only [List.getElem?_toArray, List.getElem?_cons_succ, List.getElem?_cons_zero]; rfl)
      rotate_left; (first | (refine .inl ⟨by rfl, ?_⟩; intro w9 hS9; go_simp; try with_reducible rfl) | (refine .inr ⟨by rfl, ?_⟩; with_reducible rfl))
      rotate_left; (intro _ _ _ h9; exact h9)
      try simp only [Act.put, List.setIfInBounds_toArray, List.set_cons_zero, List.set_cons_succ]
      refine wpAnyH_take (i := 3) (oi := ?_) (v := ?_) ?_ (by kernel_rfl) (by kernel_rfl) (by kernel_rfl) ?_ ?_ (by assumption) ?_
      rotate_left 2; (simp only [List.getElem?_toArray, List.getElem?_cons_succ, List.getElem?_cons_zero]; rfl)
      rotate_left; (first | (refine .inl ⟨by rfl, ?_⟩; intro w9 hS9; go_simp; try with_reducible rfl) | (refine .inr ⟨by rfl, ?_⟩; with_reducible rfl))
      rotate_left; (intro _ _ _ h9; exact h9)
      try simp only [Act.put, List.setIfInBounds_toArray, List.set_cons_zero, List.set_cons_succ]
      refine wpAnyH_take (i := 4) (oi := ?_) (v := ?_) ?_ (by kernel_rfl) (by kernel_rfl) (by kernel_rfl) ?_ ?_ (by assumption) ?_
      rotate_left 2; (simp only [List.getElem?_toArray, List.getElem?_cons_succ, List.getElem?_cons_zero]; rfl)
      rotate_left; (first | (refine .inl ⟨by rfl, ?_⟩; intro w9 hS9; go_simp; try with_reducible rfl) | (refine .inr ⟨by rfl, ?_⟩; with_reducible rfl))
      rotate_left; (intro _ _ _ h9; exact h9)
      try simp only [Act.put, List.setIfInBounds_toArray, List.set_cons_zero, List.set_cons_succ]
      refine wpAnyH_take (i := 5) (oi := ?_) (v := ?_) ?_ (by kernel_rfl) (by kernel_rfl) (by kernel_rfl) ?_ ?_ (by assumption) ?_
      rotate_left 2; (simp only [List.getElem?_toArray, List.getElem?_cons_succ, List.getElem?_cons_zero]; rfl)
      rotate_left; (first | (refine .inl ⟨by rfl, ?_⟩; intro w9 hS9; go_simp; try with_reducible rfl) | (refine .inr ⟨by rfl, ?_⟩; with_reducible rfl))
      rotate_left; (intro _ _ _ h9; exact h9)
      try simp only [Act.put, List.setIfInBounds_toArray, List.set_cons_zero, List.set_cons_succ]
      refine wpAnyH_take (i := 6) (oi := ?_) (v := ?_) ?_ (by kernel_rfl) (by kernel_rfl) (by kernel_rfl) ?_ ?_ (by assumption) ?_
      rotate_left 2; (simp only [List.getElem?_toArray, List.getElem?_cons_succ, List.getElem?_cons_zero]; rfl)
      rotate_left; (first | (refine .inl ⟨by rfl, ?_⟩; intro w9 hS9; go_simp; try with_reducible rfl) | (refine .inr ⟨by rfl, ?_⟩; with_reducible rfl))
      rotate_left; (intro _ _ _ h9; exact h9)
      try simp only [Act.put, List.setIfInBounds_toArray, List.set_cons_zero, List.set_cons_succ]
      refine wpAnyH_take (i := 7) (oi := ?_) (v := ?_) ?_ (by kernel_rfl) (by kernel_rfl) (by kernel_rfl) ?_ ?_ (by assumption) ?_
      rotate_left 2; (simp only [List.getElem?_toArray, List.getElem?_cons_succ, List.getElem?_cons_zero]; rfl)
      rotate_left; (first | (refine .inl ⟨by rfl, ?_⟩; intro w9 hS9; go_simp; try with_reducible rfl) | (refine .inr ⟨by rfl, ?_⟩; with_reducible rfl))
      rotate_left; (intro _ _ _ h9; exact h9)
      try simp only [Act.put, List.setIfInBounds_toArray, List.set_cons_zero, List.set_cons_succ]
      refine wpAnyH_take (i := 8) (oi := ?_) (v := ?_) ?_ (by kernel_rfl) (by kernel_rfl) (by kernel_rfl) ?_ ?_ (by assumption) ?_
      rotate_left 2; (simp only [List.getElem?_toArray, List.getElem?_cons_succ, List.getElem?_cons_zero]; rfl)
      rotate_left; (first | (refine .inl ⟨by rfl, ?_⟩; intro w9 hS9; go_simp; try with_reducible rfl) | (refine .inr ⟨by rfl, ?_⟩; with_reducible rfl))
      rotate_left; (intro _ _ _ h9; exact h9)
      try simp only [Act.put, List.setIfInBounds_toArray, List.set_cons_zero, List.set_cons_succ]
      refine wpAnyH_take (i := 9) (oi := ?_) (v := ?_) ?_ (by kernel_rfl) (by kernel_rfl) (by kernel_rfl) ?_ ?_ (by assumption) ?_
      rotate_left 2; (simp only [List.getElem?_toArray, List.getElem?_cons_succ, List.getElem?_cons_zero]; rfl)
      rotate_left; (first | (refine .inl ⟨by rfl, ?_⟩; intro w9 hS9; go_simp; try with_reducible rfl) | (refine .inr ⟨by rfl, ?_⟩; with_reducible rfl))
      rotate_left; (intro _ _ _ h9; exact h9)
      try simp only [Act.put, List.setIfInBounds_toArray, List.set_cons_zero, List.set_cons_succ]
      refine wpAnyH_take (i := 10) (oi := ?_) (v := ?_) ?_ (by kernel_rfl) (by kernel_rfl) (by kernel_rfl) ?_ ?_ (by assumption) ?_
      rotate_left 2; (simp only [List.getElem?_toArray, List.getElem?_cons_succ, List.getElem?_cons_zero]; rfl)
      rotate_left; (first | (refine .inl ⟨by rfl, ?_⟩; intro w9 hS9; go_simp; try with_reducible rfl) | (refine .inr ⟨by rfl, ?_⟩; with_reducible rfl))
      rotate_left; (intro _ _ _ h9; exact h9)
      try simp only [Act.put, List.setIfInBounds_toArray, List.set_cons_zero, List.set_cons_succ]
      refine wpAnyH_take (i := 11) (oi := ?_) (v := ?_) ?_ (by kernel_rfl) (by kernel_rfl) (by kernel_rfl) ?_ ?_ (by assumption) ?_
      rotate_left 2; (simp only [List.getElem?_toArray, List.getElem?_cons_succ, List.getElem?_cons_zero]; rfl)
      rotate_left; (first | (refine .inl ⟨by rfl, ?_⟩; intro w9 hS9; go_simp; try with_reducible rfl) | (refine .inr ⟨by rfl, ?_⟩; with_reducible rfl))
      rotate_left; (intro _ _ _ h9; exact h9)
      try simp only [Act.put, List.setIfInBounds_toArray, List.set_cons_zero, List.set_cons_succ]
      refine wpAnyH_take (i := 12) (oi := ?_) (v := ?_) ?_ (by kernel_rfl) (by kernel_rfl) (by kernel_rfl) ?_ ?_ (by assumption) ?_
      rotate_left 2; (simp only [List.getElem?_toArray, List.getElem?_cons_succ, List.getElem?_cons_zero]; rfl)
      rotate_left; (first | (refine .inl ⟨by rfl, ?_⟩; intro w9 hS9; go_simp; try with_reducible rfl) | (refine .inr ⟨by rfl, ?_⟩; with_reducible rfl))
      rotate_left; (intro _ _ _ h9; exact h9)
      try simp only [Act.put, List.setIfInBounds_toArray, List.set_cons_zero, List.set_cons_succ]
      refine wpAnyH_take (i := 13) (oi := ?_) (v := ?_) ?_ (by kernel_rfl) (by kernel_rfl) (by kernel_rfl) ?_ ?_ (by assumption) ?_
      rotate_left 2; (simp only [List.getElem?_toArray, List.getElem?_cons_succ, List.getElem?_cons_zero]; rfl)
      rotate_left; (first | (refine .inl ⟨by rfl, ?_⟩; intro w9 hS9; go_simp; try with_reducible rfl) | (refine .inr ⟨by rfl, ?_⟩; with_reducible rfl))
      rotate_left; (intro _ _ _ h9; exact h9)
      try simp only [Act.put, List.setIfInBounds_toArray, List.set_cons_zero, List.set_cons_succ]
      refine wpAnyH_take (i := 14) (oi := ?_) (v := ?_) ?_ (by kernel_rfl) (by kernel_rfl) (by kernel_rfl) ?_ ?_ (by assumption) ?_
      rotate_left 2; (simp only [List.getElem?_toArray, List.getElem?_cons_succ, List.getElem?_cons_zero]; rfl)
      rotate_left; (first | (refine .inl ⟨by rfl, ?_⟩; intro w9 hS9; go_simp; try with_reducible rfl) | (refine .inr ⟨by rfl, ?_⟩; with_reducible rfl))
      rotate_left; (intro _ _ _ h9; exact h9)
      try simp only [Act.put, List.setIfInBounds_toArray, List.set_cons_zero, List.set_cons_succ]
      refine wpAnyH_take (i := 15) (oi := ?_) (v := ?_) ?_ (by kernel_rfl) (by kernel_rfl) (by kernel_rfl) ?_ ?_ (by assumption) ?_
      rotate_left 2; (simp only [List.getElem?_toArray, List.getElem?_cons_succ, List.getElem?_cons_zero]; rfl)
      rotate_left; (first | (refine .inl ⟨by rfl, ?_⟩; intro w9 hS9; go_simp; try with_reducible rfl) | (refine .inr ⟨by rfl, ?_⟩; with_reducible rfl))
      rotate_left; (intro _ _ _ h9; exact h9)
      try simp only [Act.put, List.setIfInBounds_toArray, List.set_cons_zero, List.set_cons_succ]
      refine wpAnyH_take (i := 16) (oi := ?_) (v := ?_) ?_ (by kernel_rfl) (by kernel_rfl) (by kernel_rfl) ?_ ?_ (by assumption) ?_
      rotate_left 2; (simp only [List.getElem?_toArray, List.getElem?_cons_succ, List.getElem?_cons_zero]; rfl)
      rotate_left; (first | (refine .inl ⟨by rfl, ?_⟩; intro w9 hS9; go_simp; try with_reducible rfl) | (refine .inr ⟨by rfl, ?_⟩; with_reducible rfl))
      rotate_left; (intro _ _ _ h9; exact h9)
      try simp only [Act.put, List.setIfInBounds_toArray, List.set_cons_zero, List.set_cons_succ]
      refine wpAnyH_take (i := 17) (oi := ?_) (v := ?_) ?_ (by kernel_rfl) (by kernel_rfl) (by kernel_rfl) ?_ ?_ (by assumption) ?_
      rotate_left 2; (simp only [List.getElem?_toArray, List.getElem?_cons_succ, List.getElem?_cons_zero]; rfl)
      rotate_left; (first | (refine .inl ⟨by rfl, ?_⟩; intro w9 hS9; go_simp; try with_reducible rfl) | (refine .inr ⟨by rfl, ?_⟩; with_reducible rfl))
      rotate_left; (intro _ _ _ h9; exact h9)
      try simp only [Act.put, List.setIfInBounds_toArray, List.set_cons_zero, List.set_cons_succ]
      refine wpAnyH_take (i := 18) (oi := ?_) (v := ?_) ?_ (by kernel_rfl) (by kernel_rfl) (by kernel_rfl) ?_ ?_ (by assumption) ?_
      rotate_left 2; (simp only [List.getElem?_toArray, List.getElem?_cons_succ, List.getElem?_cons_zero]; rfl)
      rotate_left; (first | (refine .inl ⟨by rfl, ?_⟩; intro w9 hS9; go_simp; try with_reducible rfl) | (refine .inr ⟨by rfl, ?_⟩; with_reducible rfl))
      rotate_left; (intro _ _ _ h9; exact h9)
      try simp only [Act.put, List.setIfInBounds_toArray, List.set_cons_zero, List.set_cons_succ]
      refine wpAnyH_take (i := 19) (oi := ?_) (v := ?_) ?_ (by kernel_rfl) (by kernel_rfl) (by kernel_rfl) ?_ ?_ (by assumption) ?_
      rotate_left 2; (simp only [List.getElem?_toArray, List.getElem?_cons_succ, List.getElem?_cons_zero]; rfl)
      rotate_left; (first | (refine .inl ⟨by rfl, ?_⟩; intro w9 hS9; go_simp; try with_reducible rfl) | (refine .inr ⟨by rfl, ?_⟩; with_reducible rfl))
      rotate_left; (intro _ _ _ h9; exact h9)
      try simp only [Act.put, List.setIfInBounds_toArray, List.set_cons_zero, List.set_cons_succ]
      refine wpAnyH_take (i := 20) (oi := ?_) (v := ?_) ?_ (by kernel_rfl) (by kernel_rfl) (by kernel_rfl) ?_ ?_ (by assumption) ?_
      rotate_left 2; (simp only [List.getElem?_toArray, List.getElem?_cons_succ, List.getElem?_cons_zero]; rfl)
      rotate_left; (first | (refine .inl ⟨by rfl, ?_⟩; intro w9 hS9; go_simp; try with_reducible rfl) | (refine .inr ⟨by rfl, ?_⟩; with_reducible rfl))
      rotate_left; (intro _ _ _ h9; exact h9)
      try simp only [Act.put, List.setIfInBounds_toArray, List.set_cons_zero, List.set_cons_succ]
      refine wpAnyH_take (i := 21) (oi := ?_) (v := ?_) ?_ (by kernel_rfl) (by kernel_rfl) (by kernel_rfl) ?_ ?_ (by assumption) ?_
      rotate_left 2; (simp only [List.getElem?_toArray, List.getElem?_cons_succ, List.getElem?_cons_zero]; rfl)
      rotate_left; (first | (refine .inl ⟨by rfl, ?_⟩; intro w9 hS9; go_simp; try with_reducible rfl) | (refine .inr ⟨by rfl, ?_⟩; with_reducible rfl))
      rotate_left; (intro _ _ _ h9; exact h9)
      try simp only [Act.put, List.setIfInBounds_toArray, List.set_cons_zero, List.set_cons_succ]
      refine wpAnyH_take (i := 22) (oi := ?_) (v := ?_) ?_ (by kernel_rfl) (by kernel_rfl) (by kernel_rfl) ?_ ?_ (by assumption) ?_
      rotate_left 2; (simp only [List.getElem?_toArray, List.getElem?_cons_succ, List.getElem?_cons_zero]; rfl)
      rotate_left; (first | (refine .inl ⟨by rfl, ?_⟩; intro w9 hS9; go_simp; try with_reducible rfl) | (refine .inr ⟨by rfl, ?_⟩; with_reducible rfl))
      rotate_left; (intro _ _ _ h9; exact h9)
      try simp only [Act.put, List.setIfInBounds_toArray, List.set_cons_zero, List.set_cons_succ]
      refine wpAnyH_take (i := 23) (oi := ?_) (v := ?_) ?_ (by kernel_rfl) (by kernel_rfl) (by kernel_rfl) ?_ ?_ (by assumption) ?_
      rotate_left 2; (simp only [List.getElem?_toArray, List.getElem?_cons_succ, List.getElem?_cons_zero]; rfl)
      rotate_left; (first | (refine .inl ⟨by rfl, ?_⟩; intro w9 hS9; go_simp; try with_reducible rfl) | (refine .inr ⟨by rfl, ?_⟩; with_reducible rfl))
      rotate_left; (intro _ _ _ h9; exact h9)
      try simp only [Act.put, List.setIfInBounds_toArray, List.set_cons_zero, List.set_cons_succ]
      refine wpAnyH_take (i := 24) (oi := ?_) (v := ?_) ?_ (by kernel_rfl) (by kernel_rfl) (by kernel_rfl) ?_ ?_ (by assumption) ?_
      rotate_left 2; (simp only [List.getElem?_toArray, List.getElem?_cons_succ, List.getElem?_cons_zero]; rfl)
      rotate_left; (first | (refine .inl ⟨by rfl, ?_⟩; intro w9 hS9; go_simp; try with_reducible rfl) | (refine .inr ⟨by rfl, ?_⟩; with_reducible rfl))
      rotate_left; (intro _ _ _ h9; exact h9)
      try simp only [Act.put, List.setIfInBounds_toArray, List.set_cons_zero, List.set_cons_succ]
      refine wpAnyH_take (i := 25) (oi := ?_) (v := ?_) ?_ (by kernel_rfl) (by kernel_rfl) (by kernel_rfl) ?_ ?_ (by assumption) ?_
      rotate_left 2; (simp only [List.getElem?_toArray, List.getElem?_cons_succ, List.getElem?_cons_zero]; rfl)
      rotate_left; (first | (refine .inl ⟨by rfl, ?_⟩; intro w9 hS9; go_simp; try with_reducible rfl) | (refine .inr ⟨by rfl, ?_⟩; with_reducible rfl))
      rotate_left; (intro _ _ _ h9; exact h9)
      try simp only [Act.put, List.setIfInBounds_toArray, List.set_cons_zero, List.set_cons_succ]
      refine wpAnyH_take (i := 26) (oi := ?_) (v := ?_) ?_ (by kernel_rfl) (by kernel_rfl) (by kernel_rfl) ?_ ?_ (by assumption) ?_
      rotate_left 2; (simp only [List.getElem?_toArray, List.getElem?_cons_succ, List.getElem?_cons_zero]; rfl)
      rotate_left; (first | (refine .inl ⟨by rfl, ?_⟩; intro w9 hS9; go_simp; try with_reducible rfl) | (refine .inr ⟨by rfl, ?_⟩; with_reducible rfl))
      rotate_left; (intro _ _ _ h9; exact h9)
      try simp only [Act.put, List.setIfInBounds_toArray, List.set_cons_zero, List.set_cons_succ]
      refine wpAnyH_done (by kernel_rfl) ?_ _
      go_wp2_with fail
      go_ret
      exact ⟨_, ys, rfl, HD.out, (HR.out.nts.below HB2.out).below hS0, HR.out.bel.trans ((HB2.out.mono HR.out.bel.size).trans (hS0.mono (Nat.le_trans HR.out.bel.size HB2.out.size)))⟩
    have e1 : ((z.nt.seq : Int) == 4294967295) = false := by simp; omega
    have ew2 : IntKind.u32.wrap ((z.nt.seq : Int) + 1) = (z.nt.seq : Int) + 1 := by simp [IntKind.wrap, IntKind.bits, IntKind.signed]; omega
    by_cases hq2 : s = z.nt.seq + 1
    · have e2 : ((s : Int) != (z.nt.seq : Int) + 1) = false := by simp; omega
      have HX := Lib.hid (show bkNext ((zs ++ [z]).getLast?.map (·.nt.seq)) s = true by rw [HNX.out]; simp [bkNext]; omega)
      generalize z.nt.seq = q at *
      have HQ := Lib.hid hq1
      have HQ2 := Lib.hid hq2
      clear hq1 hs32 h32 hq2
      generalize zs ++ [z] = ys at *
      refine wp_region_held (S := fun w' => Below w2.heap.size w2 w') (by kernel_rfl) ?_
      change wpAnyH _ _ _ _ _ _ _ _ w2.drew
      have hS0 : Below w2.heap.size w2 w2.drew := ⟨rfl, rfl, rfl, Nat.le_refl _, fun _ _ => rfl⟩
      change wpAnyH _ _ _ _ _ 27 (Array.replicate 27 false) _ _
      refine wpAnyH_take (i := 0) (oi := ?_) (v := ?_) ?_ (by kernel_rfl) (by kernel_rfl) (by kernel_rfl) ?_ ?_ (by assumption) ?_
      rotate_left 2; (simp only [List.getElem?_toArray, List.getElem?_cons_succ, List.getElem?_cons_zero]; rfl)
      rotate_left; (first | (refine .inl ⟨by rfl, ?_⟩; intro w9 hS9; go_simp; try with_reducible rfl) | (refine .inr ⟨by rfl, ?_⟩; with_reducible rfl))
      rotate_left; (intro _ _ _ h9; exact h9)
      try simp only [Act.put, List.setIfInBounds_toArray, List.set_cons_zero, List.set_cons_succ]
      refine wpAnyH_take (i := 1) (oi := ?_) (v := ?_) ?_ (by kernel_rfl) (by kernel_rfl) (by kernel_rfl) ?_ ?_ (by assumption) ?_
      rotate_left 2; (simp only [List.getElem?_toArray, List.getElem?_cons_succ, List.getElem?_cons_zero]; rfl)
      rotate_left; (first | (refine .inl ⟨by rfl, ?_⟩; intro w9 hS9; go_simp; try with_reducible rfl) | (refine .inr ⟨by rfl, ?_⟩; with_reducible rfl))
      rotate_left; (intro _ _ _ h9; exact h9)
      try simp only [Act.put, List.setIfInBounds_toArray, List.set_cons_zero, List.set_cons_succ]
      refine wpAnyH_take (i := 2) (oi := ?_) (v := ?_) ?_ (by kernel_rfl) (by kernel_rfl) (by kernel_rfl) ?_ ?_ (by assumption) ?_
      rotate_left 2; (simp only [List.getElem?_toArray, List.getElem?_cons_succ, List.getElem?_cons_zero]; rfl)
      rotate_left; (first | (refine .inl ⟨by rfl, ?_⟩; intro w9 hS9; go_simp; try with_reducible rfl) | (refine .inr ⟨by rfl, ?_⟩; with_reducible rfl))
      rotate_left; (intro _ _ _ h9; exact h9)
      try simp only [Act.put, List.setIfInBounds_toArray, List.set_cons_zero, List.set_cons_succ]
      refine wpAnyH_take (i := 3) (oi := ?_) (v := ?_) ?_ (by kernel_rfl) (by kernel_rfl) (by kernel_rfl) ?_ ?_ (by assumption) ?_
      rotate_left 2; (simp only [List.getElem?_toArray, List.getElem?_cons_succ, List.getElem?_cons_zero]; rfl)
      rotate_left; (first | (refine .inl ⟨by rfl, ?_⟩; intro w9 hS9; go_simp; try with_reducible rfl) | (refine .inr ⟨by rfl, ?_⟩; with_reducible rfl))
      rotate_left; (intro _ _ _ h9; exact h9)
      try simp only [Act.put, List.setIfInBounds_toArray, List.set_cons_zero, List.set_cons_succ]
      refine wpAnyH_take (i := 4) (oi := ?_) (v := ?_) ?_ (by kernel_rfl) (by kernel_rfl) (by kernel_rfl) ?_ ?_ (by assumption) ?_
      rotate_left 2; (simp only [List.getElem?_toArray, List.getElem?_cons_succ, List.getElem?_cons_zero]; rfl)
      rotate_left; (first | (refine .inl ⟨by rfl, ?_⟩; intro w9 hS9; go_simp; try with_reducible rfl) | (refine .inr ⟨by rfl, ?_⟩; with_reducible rfl))
      rotate_left; (intro _ _ _ h9; exact h9)
      try simp only [Act.put, List.setIfInBounds_toArray, List.set_cons_zero, List.set_cons_succ]
      refine wpAnyH_take (i := 5) (oi := ?_) (v := ?_) ?_ (by kernel_rfl) (by kernel_rfl) (by kernel_rfl) ?_ ?_ (by assumption) ?_
      rotate_left 2; (simp only [List.getElem?_toArray, List.getElem?_cons_succ, List.getElem?_cons_zero]; rfl)
      rotate_left; (first | (refine .inl ⟨by rfl, ?_⟩; intro w9 hS9; go_simp; try with_reducible rfl) | (refine .inr ⟨by rfl, ?_⟩; with_reducible rfl))
      rotate_left; (intro _ _ _ h9; exact h9)
      try simp only [Act.put, List.setIfInBounds_toArray, List.set_cons_zero, List.set_cons_succ]
      refine wpAnyH_take (i := 6) (oi := ?_) (v := ?_) ?_ (by kernel_rfl) (by kernel_rfl) (by kernel_rfl) ?_ ?_ (by assumption) ?_
      rotate_left 2; (simp only [List.getElem?_toArray, List.getElem?_cons_succ, List.getElem?_cons_zero]; rfl)
      rotate_left; (first | (refine .inl ⟨by rfl, ?_⟩; intro w9 hS9; go_simp; try with_reducible rfl) | (refine .inr ⟨by rfl, ?_⟩; with_reducible rfl))
      rotate_left; (intro _ _ _ h9; exact h9)
      try simp only [Act.put, List.setIfInBounds_toArray, List.set_cons_zero, List.set_cons_succ]
      refine wpAnyH_take (i := 7) (oi := ?_) (v := ?_) ?_ (by kernel_rfl) (by kernel_rfl) (by kernel_rfl) ?_ ?_ (by assumption) ?_
      rotate_left 2; (simp only [List.getElem?_toArray, List.getElem?_cons_succ, List.getElem?_cons_zero]; rfl)
      rotate_left; (first | (refine .inl ⟨by rfl, ?_⟩; intro w9 hS9; go_simp; try with_reducible rfl) | (refine .inr ⟨by rfl, ?_⟩; with_reducible rfl))
      rotate_left; (intro _ _ _ h9; exact h9)
      try simp only [Act.put, List.setIfInBounds_toArray, List.set_cons_zero, List.set_cons_succ]
      refine wpAnyH_take (i := 8) (oi := ?_) (v := ?_) ?_ (by kernel_rfl) (by kernel_rfl) (by kernel_rfl) ?_ ?_ (by assumption) ?_
      rotate_left 2; (simp only [List.getElem?_toArray, List.getElem?_cons_succ, List.getElem?_cons_zero]; rfl)
      rotate_left; (first | (refine .inl ⟨by rfl, ?_⟩; intro w9 hS9; go_simp; try with_reducible rfl) | (refine .inr ⟨by rfl, ?_⟩; with_reducible rfl))
      rotate_left; (intro _ _ _ h9; exact h9)
      try simp only [Act.put, List.setIfInBounds_toArray, List.set_cons_zero, List.set_cons_succ]
      refine wpAnyH_take (i := 9) (oi := ?_) (v := ?_) ?_ (by kernel_rfl) (by kernel_rfl) (by kernel_rfl) ?_ ?_ (by assumption) ?_
      rotate_left 2; (simp only [List.getElem?_toArray, List.getElem?_cons_succ, List.getElem?_cons_zero]; rfl)
      rotate_left; (first | (refine .inl ⟨by rfl, ?_⟩; intro w9 hS9; go_simp; try with_reducible rfl) | (refine .inr ⟨by rfl, ?_⟩; with_reducible rfl))
      rotate_left; (intro _ _ _ h9; exact h9)
      try simp only [Act.put, List.setIfInBounds_toArray, List.set_cons_zero, List.set_cons_succ]
      refine wpAnyH_take (i := 10) (oi := ?_) (v := ?_) ?_ (by kernel_rfl) (by kernel_rfl) (by kernel_rfl) ?_ ?_ (by assumption) ?_
      rotate_left 2; (simp only [List.getElem?_toArray, List.getElem?_cons_succ, List.getElem?_cons_zero]; rfl)
      rotate_left; (first | (refine .inl ⟨by rfl, ?_⟩; intro w9 hS9; go_simp; try with_reducible rfl) | (refine .inr ⟨by rfl, ?_⟩; with_reducible rfl))
      rotate_left; (intro _ _ _ h9; exact h9)
      try simp only [Act.put, List.setIfInBounds_toArray, List.set_cons_zero, List.set_cons_succ]
      refine wpAnyH_take (i := 11) (oi := ?_) (v := ?_) ?_ (by kernel_rfl) (by kernel_rfl) (by kernel_rfl) ?_ ?_ (by assumption) ?_
      rotate_left 2; (simp only [List.getElem?_toArray, List.getElem?_cons_succ, List.getElem?_cons_zero]; rfl)
      rotate_left; (first | (refine .inl ⟨by rfl, ?_⟩; intro w9 hS9; go_simp; try with_reducible rfl) | (refine .inr ⟨by rfl, ?_⟩; with_reducible rfl))
      rotate_left; (intro _ _ _ h9; exact h9)
      try simp only [Act.put, List.setIfInBounds_toArray, List.set_cons_zero, List.set_cons_succ]
      refine wpAnyH_take (i := 12) (oi := ?_) (v := ?_) ?_ (by kernel_rfl) (by kernel_rfl) (by kernel_rfl) ?_ ?_ (by assumption) ?_
      rotate_left 2; (simp only [List.getElem?_toArray, List.getElem?_cons_succ, List.getElem?_cons_zero]; rfl)
      rotate_left; (first | (refine .inl ⟨by rfl, ?_⟩; intro w9 hS9; go_simp; try with_reducible rfl) | (refine .inr ⟨by rfl, ?_⟩; with_reducible rfl))
      rotate_left; (intro _ _ _ h9; exact h9)
      try simp only [Act.put, List.setIfInBounds_toArray, List.set_cons_zero, List.set_cons_succ]
      refine wpAnyH_take (i := 13) (oi := ?_) (v := ?_) ?_ (by kernel_rfl) (by kernel_rfl) (by kernel_rfl) ?_ ?_ (by assumption) ?_
      rotate_left 2; (simp only [List.getElem?_toArray, List.getElem?_cons_succ, List.getElem?_cons_zero]; rfl)
      rotate_left; (first | (refine .inl ⟨by rfl, ?_⟩; intro w9 hS9; go_simp; try with_reducible rfl) | (refine .inr ⟨by rfl, ?_⟩; with_reducible rfl))
      rotate_left; (intro _ _ _ h9; exact h9)
      try simp only [Act.put, List.setIfInBounds_toArray, List.set_cons_zero, List.set_cons_succ]
      refine wpAnyH_take (i := 14) (oi := ?_) (v := ?_) ?_ (by kernel_rfl) (by kernel_rfl) (by kernel_rfl) ?_ ?_ (by assumption) ?_
      rotate_left 2; (simp only [List.getElem?_toArray, List.getElem?_cons_succ, List.getElem?_cons_zero]; rfl)
      rotate_left; (first | (refine .inl ⟨by rfl, ?_⟩; intro w9 hS9; go_simp; try with_reducible rfl) | (refine .inr ⟨by rfl, ?_⟩; with_reducible rfl))
      rotate_left; (intro _ _ _ h9; exact h9)
      try simp only [Act.put, List.setIfInBounds_toArray, List.set_cons_zero, List.set_cons_succ]
      refine wpAnyH_take (i := 15) (oi := ?_) (v := ?_) ?_ (by kernel_rfl) (by kernel_rfl) (by kernel_rfl) ?_ ?_ (by assumption) ?_
      rotate_left 2; (simp only [List.getElem?_toArray, List.getElem?_cons_succ, List.getElem?_cons_zero]; rfl)
      rotate_left; (first | (refine .inl ⟨by rfl, ?_⟩; intro w9 hS9; go_simp; try with_reducible rfl) | (refine .inr ⟨by rfl, ?_⟩; with_reducible rfl))
      rotate_left; (intro _ _ _ h9; exact h9)
      try simp only [Act.put, List.setIfInBounds_toArray, List.set_cons_zero, List.set_cons_succ]
      refine wpAnyH_take (i := 16) (oi := ?_) (v := ?_) ?_ (by kernel_rfl) (by kernel_rfl) (by kernel_rfl) ?_ ?_ (by assumption) ?_
      rotate_left 2; (simp only [List.getElem?_toArray, List.getElem?_cons_succ, List.getElem?_cons_zero]; rfl)
      rotate_left; (first | (refine .inl ⟨by rfl, ?_⟩; intro w9 hS9; go_simp; try with_reducible rfl) | (refine .inr ⟨by rfl, ?_⟩; with_reducible rfl))
      rotate_left; (intro _ _ _ h9; exact h9)
      try simp only [Act.put, List.setIfInBounds_toArray, List.set_cons_zero, List.set_cons_succ]
      refine wpAnyH_take (i := 17) (oi := ?_) (v := ?_) ?_ (by kernel_rfl) (by kernel_rfl) (by kernel_rfl) ?_ ?_ (by assumption) ?_
      rotate_left 2; (simp only [List.getElem?_toArray, List.getElem?_cons_succ, List.getElem?_cons_zero]; rfl)
      rotate_left; (first | (refine .inl ⟨by rfl, ?_⟩; intro w9 hS9; go_simp; try with_reducible rfl) | (refine .inr ⟨by rfl, ?_⟩; with_reducible rfl))
      rotate_left; (intro _ _ _ h9; exact h9)
      try simp only [Act.put, List.setIfInBounds_toArray, List.set_cons_zero, List.set_cons_succ]
      refine wpAnyH_take (i := 18) (oi := ?_) (v := ?_) ?_ (by kernel_rfl) (by kernel_rfl) (by kernel_rfl) ?_ ?_ (by assumption) ?_
      rotate_left 2; (simp only [List.getElem?_toArray, List.getElem?_cons_succ, List.getElem?_cons_zero]; rfl)
      rotate_left; (first | (refine .inl ⟨by rfl, ?_⟩; intro w9 hS9; go_simp; try with_reducible rfl) | (refine .inr ⟨by rfl, ?_⟩; with_reducible rfl))
      rotate_left; (intro _ _ _ h9; exact h9)
      try simp only [Act.put, List.setIfInBounds_toArray, List.set_cons_zero, List.set_cons_succ]
      refine wpAnyH_take (i := 19) (oi := ?_) (v := ?_) ?_ (by kernel_rfl) (by kernel_rfl) (by kernel_rfl) ?_ ?_ (by assumption) ?_
      rotate_left 2; (simp only [List.getElem?_toArray, List.getElem?_cons_succ, List.getElem?_cons_zero]; rfl)
      rotate_left; (first | (refine .inl ⟨by rfl, ?_⟩; intro w9 hS9; go_simp; try with_reducible rfl) | (refine .inr ⟨by rfl, ?_⟩; with_reducible rfl))
      rotate_left; (intro _ _ _ h9; exact h9)
      try simp only [Act.put, List.setIfInBounds_toArray, List.set_cons_zero, List.set_cons_succ]
      refine wpAnyH_take (i := 20) (oi := ?_) (v := ?_) ?_ (by kernel_rfl) (by kernel_rfl) (by kernel_rfl) ?_ ?_ (by assumption) ?_
      rotate_left 2; (simp only [List.getElem?_toArray, List.getElem?_cons_succ, List.getElem?_cons_zero]; rfl)
      rotate_left; (first | (refine .inl ⟨by rfl, ?_⟩; intro w9 hS9; go_simp; try with_reducible rfl) | (refine .inr ⟨by rfl, ?_⟩; with_reducible rfl))
      rotate_left; (intro _ _ _ h9; exact h9)
      try simp only [Act.put, List.setIfInBounds_toArray, List.set_cons_zero, List.set_cons_succ]
      refine wpAnyH_take (i := 21) (oi := ?_) (v := ?_) ?_ (by kernel_rfl) (by kernel_rfl) (by kernel_rfl) ?_ ?_ (by assumption) ?_
      rotate_left 2; (simp only [List.getElem?_toArray, List.getElem?_cons_succ, List.getElem?_cons_zero]; rfl)
      rotate_left; (first | (refine .inl ⟨by rfl, ?_⟩; intro w9 hS9; go_simp; try with_reducible rfl) | (refine .inr ⟨by rfl, ?_⟩; with_reducible rfl))
      rotate_left; (intro _ _ _ h9; exact h9)
      try simp only [Act.put, List.setIfInBounds_toArray, List.set_cons_zero, List.set_cons_succ]
      refine wpAnyH_take (i := 22) (oi := ?_) (v := ?_) ?_ (by kernel_rfl) (by kernel_rfl) (by kernel_rfl) ?_ ?_ (by assumption) ?_
      rotate_left 2; (simp only [List.getElem?_toArray, List.getElem?_cons_succ, List.getElem?_cons_zero]; rfl)
      rotate_left; (first | (refine .inl ⟨by rfl, ?_⟩; intro w9 hS9; go_simp; try with_reducible rfl) | (refine .inr ⟨by rfl, ?_⟩; with_reducible rfl))
      rotate_left; (intro _ _ _ h9; exact h9)
      try simp only [Act.put, List.setIfInBounds_toArray, List.set_cons_zero, List.set_cons_succ]
      refine wpAnyH_take (i := 23) (oi := ?_) (v := ?_) ?_ (by kernel_rfl) (by kernel_rfl) (by kernel_rfl) ?_ ?_ (by assumption) ?_
      rotate_left 2; (simp only [List.getElem?_toArray, List.getElem?_cons_succ, List.getElem?_cons_zero]; rfl)
      rotate_left; (first | (refine .inl ⟨by rfl, ?_⟩; intro w9 hS9; go_simp; try with_reducible rfl) | (refine .inr ⟨by rfl, ?_⟩; with_reducible rfl))
      rotate_left; (intro _ _ _ h9; exact h9)
      try simp only [Act.put, List.setIfInBounds_toArray, List.set_cons_zero, List.set_cons_succ]
      refine wpAnyH_take (i := 24) (oi := ?_) (v := ?_) ?_ (by kernel_rfl) (by kernel_rfl) (by kernel_rfl) ?_ ?_ (by assumption) ?_
      rotate_left 2; (simp only [List.getElem?_toArray, List.getElem?_cons_succ, List.getElem?_cons_zero]; rfl)
      rotate_left; (first | (refine .inl ⟨by rfl, ?_⟩; intro w9 hS9; go_simp; try with_reducible rfl) | (refine .inr ⟨by rfl, ?_⟩; with_reducible rfl))
      rotate_left; (intro _ _ _ h9; exact h9)
      try simp only [Act.put, List.setIfInBounds_toArray, List.set_cons_zero, List.set_cons_succ]
      refine wpAnyH_take (i := 25) (oi := ?_) (v := ?_) ?_ (by kernel_rfl) (by kernel_rfl) (by kernel_rfl) ?_ ?_ (by assumption) ?_
      rotate_left 2; (simp only [List.getElem?_toArray, List.getElem?_cons_succ, List.getElem?_cons_zero]; rfl)
      rotate_left; (first | (refine .inl ⟨by rfl, ?_⟩; intro w9 hS9; go_simp; try with_reducible rfl) | (refine .inr ⟨by rfl, ?_⟩; with_reducible rfl))
      rotate_left; (intro _ _ _ h9; exact h9)
      try simp only [Act.put, List.setIfInBounds_toArray, List.set_cons_zero, List.set_cons_succ]
      refine wpAnyH_take (i := 26) (oi := ?_) (v := ?_) ?_ (by kernel_rfl) (by kernel_rfl) (by kernel_rfl) ?_ ?_ (by assumption) ?_
      rotate_left 2; (simp only [List.getElem?_toArray, List.getElem?_cons_succ, List.getElem?_cons_zero]; rfl)
      rotate_left; (first | (refine .inl ⟨by rfl, ?_⟩; intro w9 hS9; go_simp; try with_reducible rfl) | (refine .inr ⟨by rfl, ?_⟩; with_reducible rfl))
      rotate_left; (intro _ _ _ h9; exact h9)
      try simp only [Act.put, List.setIfInBounds_toArray, List.set_cons_zero, List.set_cons_succ]
      refine wpAnyH_done (by kernel_rfl) ?_ _
      have hw3c : ∃ w3, w3 = w2.drew := ⟨_, rfl⟩
      obtain ⟨w3, hw3⟩ := hw3c
      have HB3 := Lib.hid (show Below wr.heap.size wr w3 by rw [hw3]; exact below_step HB2.out hS0)
      have H13 := Lib.hid (show Fr (fun i => i = w1.heap.size) w1 w3 by rw [hw3]; exact Fr.ofBelow (below_step HBA.out hS0) _)
      have HG3 := Lib.hid (show w3.heap[w1.heap.size]? = some (.cells (nta s A1 d.length c1 0) 33 (0, 0)) by rw [hw3]; exact HG2.out)
      clear x0
      go_upto_region 7 with fail
      rw [← hw3]
      clear hS0 hw3
      have hb3 := HG3.out
      have g2 : w3.cell? ⟨w1.heap.size, 2, none⟩ = some (.int .i64 0) := by simp [World.cell?, hb3]
      have gf : w3.frozen? ⟨w1.heap.size, 2, none⟩ = false := by simp [World.frozen?, hb3]
      have HG4 := Lib.hid (nt_fin hb3 ((k : Int) + (8 + (d.length : Int))))
      have HF4 := Lib.hid (fr_setCell (F := fun i => i = w1.heap.size) (w := w3) ⟨w1.heap.size, 2, none⟩ (.int .i64 ((k : Int) + (8 + (d.length : Int)))) rfl)
      clear hb3
      go_upto_region 9 with fail
      generalize w3.setCell ⟨w1.heap.size, 2, none⟩ (.int .i64 ((k : Int) + (8 + (d.length : Int)))) = w4 at *
      clear g2 gf
      have hb4 := HG4.out
      have g0 : w4.cell? ⟨w1.heap.size, 0, none⟩ = some (.int .u32 s) := by simp [World.cell?, hb4]
      have g1 : w4.cell? ⟨w1.heap.size, 1, none⟩ = some (.slice A1 d.length c1) := by simp [World.cell?, hb4]
      have g2 : w4.cell? ⟨w1.heap.size, 2, none⟩ = some (.int .i64 ((k : Int) + (8 + (d.length : Int)))) := by simp [World.cell?, hb4]
      have hs1 := HB1.out.size
      have HB4 := Lib.hid (HB3.out.trans (HF4.out.below wr.heap.size HB3.out.size (fun i e => by omega)))
      have H14 := Lib.hid (fr_same H13.out HF4.out)
      have HNEW := Lib.hid (nt_new_at w4 s A1 d c1 k)
      have HBN := Lib.hid (below_new w4 (.cells (nta s A1 d.length c1 ((k : Int) + (8 + (d.length : Int)))) 33))
      have HOW := Lib.hid ((HR.out.nts.own.fr (Fr.ofBelow HB4.out (fun _ => False)) (fun _ _ h => h)).fr (Fr.ofBelow HBN.out (fun _ => False)) (fun _ _ h => h))
      have HFA := Lib.hid (fr_same H14.out (fr_alloc (fun i => i = w1.heap.size) w4 (.cells (nta s A1 d.length c1 ((k : Int) + (8 + (d.length : Int)))) 33)))
      clear hb4 hs1
      go_wp2_with (at_builtin; go_must (refine wpList_append_fr ntT ntc_len ntc_one rfl _ _ rfl _ ys rfl HOW.out _ _ _ [⟨⟨s, d, k + (8 + d.length)⟩, A1, c1⟩] rfl HNEW.out (by have := HK.out; have := HNY.out; omega) (by have := HK.out; have := HNY.out; omega) ?_); intro v' wc hown1 hg1 hf1; clear g0 g1 g2)
      have hl := HL.out
      have hxl := HRS.out.len
      exact ⟨⟨_, k + (8 + d.length), by go_num, RNI.push HR.out (below_step HB4.out HBN.out) (HD1.out.fr HFA.out (fun b o e e2 => by have := HD1.out.blk b o e; omega)) HF.out HX.out ((Fr.ofGrown hg1).mono (fun i _ e => e.symm)) hown1 hf1⟩, by simp [intOf]; omega⟩
    have e2 : ((s : Int) != (z.nt.seq : Int) + 1) = true := by simp; omega
    have HD := Lib.hid (HDONE.out (fun s9 d9 h9 => by have h8 := HF.out; rw [h8] at h9; cases h9; rw [HNX.out]; simp [bkNext]; omega))
    generalize z.nt.seq = q at *
    have HQ := Lib.hid hq1
    have HQ2 := Lib.hid hq2
    clear hq1 hs32 h32 hq2
    generalize zs ++ [z] = ys at *
    refine wp_region_held (S := fun w' => Below w2.heap.size w2 w') (by kernel_rfl) ?_
    change wpAnyH _ _ _ _ _ _ _ _ w2.drew
    have hS0 : Below w2.heap.size w2 w2.drew := ⟨rfl, rfl, rfl, Nat.le_refl _, fun _ _ => rfl⟩
    change wpAnyH _ _ _ _ _ 27 (Array.replicate 27 false) _ _
    refine wpAnyH_take (i := 0) (oi := ?_) (v := ?_) ?_ (by kernel_rfl) (by kernel_rfl) (by kernel_rfl) ?_ ?_ (by assumption) ?_
    rotate_left 2; (simp only [List.getElem?_toArray, List.getElem?_cons_succ, List.getElem?_cons_zero]; rfl)
    rotate_left; (first | (refine .inl ⟨by rfl, ?_⟩; intro w9 hS9; go_simp; try with_reducible rfl) | (refine .inr ⟨by rfl, ?_⟩; with_reducible rfl))
    rotate_left; (intro _ _ _ h9; exact h9)
    try simp only [Act.put, List.setIfInBounds_toArray, List.set_cons_zero, List.set_cons_succ]
    refine wpAnyH_take (i := 1) (oi := ?_) (v := ?_) ?_ (by kernel_rfl) (by kernel_rfl) (by kernel_rfl) ?_ ?_ (by assumption) ?_
    rotate_left 2; (simp only [List.getElem?_toArray, List.getElem?_cons_succ, List.getElem?_cons_zero]; rfl)
    rotate_left; (first | (refine .inl ⟨by rfl, ?_⟩; intro w9 hS9; go_simp; try with_reducible rfl) | (refine .inr ⟨by rfl, ?_⟩; with_reducible rfl))
    rotate_left; (intro _ _ _ h9; exact h9)
    try simp only [Act.put, List.setIfInBounds_toArray, List.set_cons_zero, List.set_cons_succ]
    refine wpAnyH_take (i := 2) (oi := ?_) (v := ?_) ?_ (by kernel_rfl) (by kernel_rfl) (by kernel_rfl) ?_ ?_ (by assumption) ?_
    rotate_left 2; (simp only [List.getElem?_toArray, List.getElem?_cons_succ, List.getElem?_cons_zero]; rfl)
    rotate_left; (first | (refine .inl ⟨by rfl, ?_⟩; intro w9 hS9; go_simp; try with_reducible rfl) | (refine .inr ⟨by rfl, ?_⟩; with_reducible rfl))
    rotate_left; (intro _ _ _ h9; exact h9)
    try simp only [Act.put, List.setIfInBounds_toArray, List.set_cons_zero, List.set_cons_succ]
    refine wpAnyH_take (i := 3) (oi := ?_) (v := ?_) ?_ (by kernel_rfl) (by kernel_rfl) (by kernel_rfl) ?_ ?_ (by assumption) ?_
    rotate_left 2; (simp only [List.getElem?_toArray, List.getElem?_cons_succ, List.getElem?_cons_zero]; rfl)
    rotate_left; (first | (refine .inl ⟨by rfl, ?_⟩; intro w9 hS9; go_simp; try with_reducible rfl) | (refine .inr ⟨by rfl, ?_⟩; with_reducible rfl))
    rotate_left; (intro _ _ _ h9; exact h9)
    try simp only [Act.put, List.setIfInBounds_toArray, List.set_cons_zero, List.set_cons_succ]
    refine wpAnyH_take (i := 4) (oi := ?_) (v := ?_) ?_ (by kernel_rfl) (by kernel_rfl) (by kernel_rfl) ?_ ?_ (by assumption) ?_
    rotate_left 2; (simp only [List.getElem?_toArray, List.getElem?_cons_succ, List.getElem?_cons_zero]; rfl)
    rotate_left; (first | (refine .inl ⟨by rfl, ?_⟩; intro w9 hS9; go_simp; try with_reducible rfl) | (refine .inr ⟨by rfl, ?_⟩; with_reducible rfl))
    rotate_left; (intro _ _ _ h9; exact h9)
    try simp only [Act.put, List.setIfInBounds_toArray, List.set_cons_zero, List.set_cons_succ]
    refine wpAnyH_take (i := 5) (oi := ?_) (v := ?_) ?_ (by kernel_rfl) (by kernel_rfl) (by kernel_rfl) ?_ ?_ (by assumption) ?_
    rotate_left 2; (simp only [List.getElem?_toArray, List.getElem?_cons_succ, List.getElem?_cons_zero]; rfl)
    rotate_left; (first | (refine .inl ⟨by rfl, ?_⟩; intro w9 hS9; go_simp; try with_reducible rfl) | (refine .inr ⟨by rfl, ?_⟩; with_reducible rfl))
    rotate_left; (intro _ _ _ h9; exact h9)
    try simp only [Act.put, List.setIfInBounds_toArray, List.set_cons_zero, List.set_cons_succ]
    refine wpAnyH_take (i := 6) (oi := ?_) (v := ?_) ?_ (by kernel_rfl) (by kernel_rfl) (by kernel_rfl) ?_ ?_ (by assumption) ?_
    rotate_left 2; (simp only [List.getElem?_toArray, List.getElem?_cons_succ, List.getElem?_cons_zero]; rfl)
    rotate_left; (first | (refine .inl ⟨by rfl, ?_⟩; intro w9 hS9; go_simp; try with_reducible rfl) | (refine .inr ⟨by rfl, ?_⟩; with_reducible rfl))
    rotate_left; (intro _ _ _ h9; exact h9)
    try simp only [Act.put, List.setIfInBounds_toArray, List.set_cons_zero, List.set_cons_succ]
    refine wpAnyH_take (i := 7) (oi := ?_) (v := ?_) ?_ (by kernel_rfl) (by kernel_rfl) (by kernel_rfl) ?_ ?_ (by assumption) ?_
    rotate_left 2; (simp only [List.getElem?_toArray, List.getElem?_cons_succ, List.getElem?_cons_zero]; rfl)
    rotate_left; (first | (refine .inl ⟨by rfl, ?_⟩; intro w9 hS9; go_simp; try with_reducible rfl) | (refine .inr ⟨by rfl, ?_⟩; with_reducible rfl))
    rotate_left; (intro _ _ _ h9; exact h9)
    try simp only [Act.put, List.setIfInBounds_toArray, List.set_cons_zero, List.set_cons_succ]
    refine wpAnyH_take (i := 8) (oi := ?_) (v := ?_) ?_ (by kernel_rfl) (by kernel_rfl) (by kernel_rfl) ?_ ?_ (by assumption) ?_
    rotate_left 2; (simp only [List.getElem?_toArray, List.getElem?_cons_succ, List.getElem?_cons_zero]; rfl)
    rotate_left; (first | (refine .inl ⟨by rfl, ?_⟩; intro w9 hS9; go_simp; try with_reducible rfl) | (refine .inr ⟨by rfl, ?_⟩; with_reducible rfl))
    rotate_left; (intro _ _ _ h9; exact h9)
    try simp only [Act.put, List.setIfInBounds_toArray, List.set_cons_zero, List.set_cons_succ]
    refine wpAnyH_take (i := 9) (oi := ?_) (v := ?_) ?_ (by kernel_rfl) (by kernel_rfl) (by kernel_rfl) ?_ ?_ (by assumption) ?_
    rotate_left 2; (simp only [List.getElem?_toArray, List.getElem?_cons_succ, List.getElem?_cons_zero]; rfl)
    rotate_left; (first | (refine .inl ⟨by rfl, ?_⟩; intro w9 hS9; go_simp; try with_reducible rfl) | (refine .inr ⟨by rfl, ?_⟩; with_reducible rfl))
    rotate_left; (intro _ _ _ h9; exact h9)
    try simp only [Act.put, List.setIfInBounds_toArray, List.set_cons_zero, List.set_cons_succ]
    refine wpAnyH_take (i := 10) (oi := ?_) (v := ?_) ?_ (by kernel_rfl) (by kernel_rfl) (by kernel_rfl) ?_ ?_ (by assumption) ?_
    rotate_left 2; (simp only [List.getElem?_toArray, List.getElem?_cons_succ, List.getElem?_cons_zero]; rfl)
    rotate_left; (first | (refine .inl ⟨by rfl, ?_⟩; intro w9 hS9; go_simp; try with_reducible rfl) | (refine .inr ⟨by rfl, ?_⟩; with_reducible rfl))
    rotate_left; (intro _ _ _ h9; exact h9)
    try simp only [Act.put, List.setIfInBounds_toArray, List.set_cons_zero, List.set_cons_succ]
    refine wpAnyH_take (i := 11) (oi := ?_) (v := ?_) ?_ (by kernel_rfl) (by kernel_rfl) (by kernel_rfl) ?_ ?_ (by assumption) ?_
    rotate_left 2; (simp only [List.getElem?_toArray, List.getElem?_cons_succ, List.getElem?_cons_zero]; rfl)
    rotate_left; (first | (refine .inl ⟨by rfl, ?_⟩; intro w9 hS9; go_simp; try with_reducible rfl) | (refine .inr ⟨by rfl, ?_⟩; with_reducible rfl))
    rotate_left; (intro _ _ _ h9; exact h9)
    try simp only [Act.put, List.setIfInBounds_toArray, List.set_cons_zero, List.set_cons_succ]
    refine wpAnyH_take (i := 12) (oi := ?_) (v := ?_) ?_ (by kernel_rfl) (by kernel_rfl) (by kernel_rfl) ?_ ?_ (by assumption) ?_
    rotate_left 2; (simp only [List.getElem?_toArray, List.getElem?_cons_succ, List.getElem?_cons_zero]; rfl)
    rotate_left; (first | (refine .inl ⟨by rfl, ?_⟩; intro w9 hS9; go_simp; try with_reducible rfl) | (refine .inr ⟨by rfl, ?_⟩; with_reducible rfl))
    rotate_left; (intro _ _ _ h9; exact h9)
    try simp only [Act.put, List.setIfInBounds_toArray, List.set_cons_zero, List.set_cons_succ]
    refine wpAnyH_take (i := 13) (oi := ?_) (v := ?_) ?_ (by kernel_rfl) (by kernel_rfl) (by kernel_rfl) ?_ ?_ (by assumption) ?_
    rotate_left 2; (simp only [List.getElem?_toArray, List.getElem?_cons_succ, List.getElem?_cons_zero]; rfl)
    rotate_left; (first | (refine .inl ⟨by rfl, ?_⟩; intro w9 hS9; go_simp; try with_reducible rfl) | (refine .inr ⟨by rfl, ?_⟩; with_reducible rfl))
    rotate_left; (intro _ _ _ h9; exact h9)
    try simp only [Act.put, List.setIfInBounds_toArray, List.set_cons_zero, List.set_cons_succ]
    refine wpAnyH_take (i := 14) (oi := ?_) (v := ?_) ?_ (by kernel_rfl) (by kernel_rfl) (by kernel_rfl) ?_ ?_ (by assumption) ?_
    rotate_left 2; (simp only [List.getElem?_toArray, List.getElem?_cons_succ, List.getElem?_cons_zero]; rfl)
    rotate_left; (first | (refine .inl ⟨by rfl, ?_⟩; intro w9 hS9; go_simp; try with_reducible rfl) | (refine .inr ⟨by rfl, ?_⟩; with_reducible rfl))
    rotate_left; (intro _ _ _ h9; exact h9)
    try simp only [Act.put, List.setIfInBounds_toArray, List.set_cons_zero, List.set_cons_succ]
    refine wpAnyH_take (i := 15) (oi := ?_) (v := ?_) ?_ (by kernel_rfl) (by kernel_rfl) (by kernel_rfl) ?_ ?_ (by assumption) ?_
    rotate_left 2; (simp only [List.getElem?_toArray, List.getElem?_cons_succ, List.getElem?_cons_zero]; rfl)
    rotate_left; (first | (refine .inl ⟨by rfl, ?_⟩; intro w9 hS9; go_simp; try with_reducible rfl) | (refine .inr ⟨by rfl, ?_⟩; with_reducible rfl))
    rotate_left; (intro _ _ _ h9; exact h9)
    try simp only [Act.put, List.setIfInBounds_toArray, List.set_cons_zero, List.set_cons_succ]
    refine wpAnyH_take (i := 16) (oi := ?_) (v := ?_) ?_ (by kernel_rfl) (by kernel_rfl) (by kernel_rfl) ?_ ?_ (by assumption) ?_
    rotate_left 2; (simp only [List.getElem?_toArray, List.getElem?_cons_succ, List.getElem?_cons_zero]; rfl)
    rotate_left; (first | (refine .inl ⟨by rfl, ?_⟩; intro w9 hS9; go_simp; try with_reducible rfl) | (refine .inr ⟨by rfl, ?_⟩; with_reducible rfl))
    rotate_left; (intro _ _ _ h9; exact h9)
    try simp only [Act.put, List.setIfInBounds_toArray, List.set_cons_zero, List.set_cons_succ]
    refine wpAnyH_take (i := 17) (oi := ?_) (v := ?_) ?_ (by kernel_rfl) (by kernel_rfl) (by kernel_rfl) ?_ ?_ (by assumption) ?_
    rotate_left 2; (simp only [List.getElem?_toArray, List.getElem?_cons_succ, List.getElem?_cons_zero]; rfl)
    rotate_left; (first | (refine .inl ⟨by rfl, ?_⟩; intro w9 hS9; go_simp; try with_reducible rfl) | (refine .inr ⟨by rfl, ?_⟩; with_reducible rfl))
    rotate_left; (intro _ _ _ h9; exact h9)
    try simp only [Act.put, List.setIfInBounds_toArray, List.set_cons_zero, List.set_cons_succ]
    refine wpAnyH_take (i := 18) (oi := ?_) (v := ?_) ?_ (by kernel_rfl) (by kernel_rfl) (by kernel_rfl) ?_ ?_ (by assumption) ?_
    rotate_left 2; (simp only [List.getElem?_toArray, List.getElem?_cons_succ, List.getElem?_cons_zero]; rfl)
    rotate_left; (first | (refine .inl ⟨by rfl, ?_⟩; intro w9 hS9; go_simp; try with_reducible rfl) | (refine .inr ⟨by rfl, ?_⟩; with_reducible rfl))
    rotate_left; (intro _ _ _ h9; exact h9)
    try simp only [Act.put, List.setIfInBounds_toArray, List.set_cons_zero, List.set_cons_succ]
    refine wpAnyH_take (i := 19) (oi := ?_) (v := ?_) ?_ (by kernel_rfl) (by kernel_rfl) (by kernel_rfl) ?_ ?_ (by assumption) ?_
    rotate_left 2; (simp only [List.getElem?_toArray, List.getElem?_cons_succ, List.getElem?_cons_zero]; rfl)
    rotate_left; (first | (refine .inl ⟨by rfl, ?_⟩; intro w9 hS9; go_simp; try with_reducible rfl) | (refine .inr ⟨by rfl, ?_⟩; with_reducible rfl))
    rotate_left; (intro _ _ _ h9; exact h9)
    try simp only [Act.put, List.setIfInBounds_toArray, List.set_cons_zero, List.set_cons_succ]
    refine wpAnyH_take (i := 20) (oi := ?_) (v := ?_) ?_ (by kernel_rfl) (by kernel_rfl) (by kernel_rfl) ?_ ?_ (by assumption) ?_
    rotate_left 2; (simp only [List.getElem?_toArray, List.getElem?_cons_succ, List.getElem?_cons_zero]; rfl)
    rotate_left; (first | (refine .inl ⟨by rfl, ?_⟩; intro w9 hS9; go_simp; try with_reducible rfl) | (refine .inr ⟨by rfl, ?_⟩; with_reducible rfl))
    rotate_left; (intro _ _ _ h9; exact h9)
    try simp only [Act.put, List.setIfInBounds_toArray, List.set_cons_zero, List.set_cons_succ]
    refine wpAnyH_take (i := 21) (oi := ?_) (v := ?_) ?_ (by kernel_rfl) (by kernel_rfl) (by kernel_rfl) ?_ ?_ (by assumption) ?_
    rotate_left 2; (simp only [List.getElem?_toArray, List.getElem?_cons_succ, List.getElem?_cons_zero]; rfl)
    rotate_left; (first | (refine .inl ⟨by rfl, ?_⟩; intro w9 hS9; go_simp; try with_reducible rfl) | (refine .inr ⟨by rfl, ?_⟩; with_reducible rfl))
    rotate_left; (intro _ _ _ h9; exact h9)
    try simp only [Act.put, List.setIfInBounds_toArray, List.set_cons_zero, List.set_cons_succ]
    refine wpAnyH_take (i := 22) (oi := ?_) (v := ?_) ?_ (by kernel_rfl) (by kernel_rfl) (by kernel_rfl) ?_ ?_ (by assumption) ?_
    rotate_left 2; (simp only [List.getElem?_toArray, List.getElem?_cons_succ, List.getElem?_cons_zero]; rfl)
    rotate_left; (first | (refine .inl ⟨by rfl, ?_⟩; intro w9 hS9; go_simp; try with_reducible rfl) | (refine .inr ⟨by rfl, ?_⟩; with_reducible rfl))
    rotate_left; (intro _ _ _ h9; exact h9)
    try simp only [Act.put, List.setIfInBounds_toArray, List.set_cons_zero, List.set_cons_succ]
    refine wpAnyH_take (i := 23) (oi := ?_) (v := ?_) ?_ (by kernel_rfl) (by kernel_rfl) (by kernel_rfl) ?_ ?_ (by assumption) ?_
    rotate_left 2; (simp only [List.getElem?_toArray, List.getElem?_cons_succ, List.getElem?_cons_zero]; rfl)
    rotate_left; (first | (refine .inl ⟨by rfl, ?_⟩; intro w9 hS9; go_simp; try with_reducible rfl) | (refine .inr ⟨by rfl, ?_⟩; with_reducible rfl))
    rotate_left; (intro _ _ _ h9; exact h9)
    try simp only [Act.put, List.setIfInBounds_toArray, List.set_cons_zero, List.set_cons_succ]
    refine wpAnyH_take (i := 24) (oi := ?_) (v := ?_) ?_ (by kernel_rfl) (by kernel_rfl) (by kernel_rfl) ?_ ?_ (by assumption) ?_
    rotate_left 2; (simp only [List.getElem?_toArray, List.getElem?_cons_succ, List.getElem?_cons_zero]; rfl)
    rotate_left; (first | (refine .inl ⟨by rfl, ?_⟩; intro w9 hS9; go_simp; try with_reducible rfl) | (refine .inr ⟨by rfl, ?_⟩; with_reducible rfl))
    rotate_left; (intro _ _ _ h9; exact h9)
    try simp only [Act.put, List.setIfInBounds_toArray, List.set_cons_zero, List.set_cons_succ]
    refine wpAnyH_take (i := 25) (oi := ?_) (v := ?_) ?_ (by kernel_rfl) (by kernel_rfl) (by kernel_rfl) ?_ ?_ (by assumption) ?_
    rotate_left 2; (simp only [List.getElem?_toArray, List.getElem?_cons_succ, List.getElem?_cons_zero]; rfl)
    rotate_left; (first | (refine .inl ⟨by rfl, ?_⟩; intro w9 hS9; go_simp; try with_reducible rfl) | (refine .inr ⟨by rfl, ?_⟩; with_reducible rfl))
    rotate_left; (intro _ _ _ h9; exact h9)
    try simp only [Act.put, List.setIfInBounds_toArray, List.set_cons_zero, List.set_cons_succ]
    refine wpAnyH_take (i := 26) (oi := ?_) (v := ?_) ?_ (by kernel_rfl) (by kernel_rfl) (by kernel_rfl) ?_ ?_ (by assumption) ?_
    rotate_left 2; (simp only [List.getElem?_toArray, List.getElem?_cons_succ, List.getElem?_cons_zero]; rfl)
    rotate_left; (first | (refine .inl ⟨by rfl, ?_⟩; intro w9 hS9; go_simp; try with_reducible rfl) | (refine .inr ⟨by rfl, ?_⟩; with_reducible rfl))
    rotate_left; (intro _ _ _ h9; exact h9)
    try simp only [Act.put, List.setIfInBounds_toArray, List.set_cons_zero, List.set_cons_succ]
    refine wpAnyH_done (by kernel_rfl) ?_ _
    go_wp2_with fail
    go_ret
    exact ⟨_, ys, rfl, HD.out, (HR.out.nts.below HB2.out).below hS0, HR.out.bel.trans ((HB2.out.mono HR.out.bel.size).trans (hS0.mono (Nat.le_trans HR.out.bel.size HB2.out.size)))⟩
end Go.Proofs.Ytafpkfnegfjohaa
