/- crossbuckref05.Wheel: New, at, Left, Free, Cancel, Arm, Tick. -/
import Derived.Test.YtpfoocndohpbbaaDoorWhOnceW
namespace Go.Proofs.YtpfoocndohpbbaaDoor
open Go Go.RowKit
set_option linter.unusedVariables false
set_option linter.unusedSimpArgs false
/-- A timer of the document's. -/
structure Rt where
  num : Int
  tag : Int
  left : Int
  deriving DecidableEq
def rtc (t : Rt) : List Value := [.int .i64 t.num, .int .i64 t.tag, .int .i64 t.left]
theorem rtc_len (t : Rt) : (rtc t).length = 3 := rfl
theorem rtc_one (t : Rt) : ∀ v ∈ rtc t, v.oneCell' = true := by
  intro v hv
  simp only [rtc, List.mem_cons, List.not_mem_nil, or_false] at hv
  rcases hv with rfl | rfl | rfl <;> rfl
theorem rtT : ElT Tryd.prog 53 63 3 24 (.agg #[.int .i64 0, .int .i64 0, .int .i64 0]) := ⟨Tryd.underlying53, by kernel_rfl, rfl, by omega⟩
abbrev ORt (w : World) := OwnE rtc 3 63 w
/-- The document's wheel at g: its pool, its row v. -/
structure RfW (w : World) (g : Nat) (v : Value) (P : Nat) (L : List Rt) : Prop where
  heap : w.heap[g]? = some (.cells #[.int .i64 P, v] 55 (0, 0))
  own : ORt w v L
  apart : v.ownBlock ≠ some g
  few : L.length ≤ 64
  pool : P ≤ 64
theorem RfW.lt {w : World} {g : Nat} {v : Value} {P : Nat} {L : List Rt} (h : RfW w g v P L) : g < w.heap.size := (Array.getElem?_eq_some_iff.1 h.heap).1
theorem RfW.fr {w w' : World} {g : Nat} {v : Value} {P : Nat} {L : List Rt} (h : RfW w g v P L) {F : Nat → Prop} (hf : Fr F w w') (h1 : ¬ F g) (h2 : ∀ k, v.ownBlock = some k → ¬ F k) : RfW w' g v P L :=
  ⟨(hf.block g h.lt h1).trans h.heap, h.own.fr hf h2, h.apart, h.few, h.pool⟩
theorem RfW.below {w w' : World} {g : Nat} {v : Value} {P : Nat} {L : List Rt} (h : RfW w g v P L) (hb : Below w.heap.size w w') : RfW w' g v P L := h.fr (Fr.ofBelow hb (fun _ => False)) id (fun _ _ => id)
theorem RfW.cells {w : World} {g : Nat} {v : Value} {P : Nat} {L : List Rt} (h : RfW w g v P L) : (∀ w', Below w.heap.size w w' → w'.cell? ⟨g, 0, none⟩ = some (.int .i64 P)) ∧ (∀ w', Below w.heap.size w w' → w'.cell? ⟨g, 1, none⟩ = some v) :=
  ⟨fun w' hb => by simp [World.cell?, (h.below hb).heap], fun w' hb => by simp [World.cell?, (h.below hb).heap]⟩
theorem RfW.setRow {w : World} {g : Nat} {v0 v : Value} {P : Nat} {L : List Rt} (h : w.heap[g]? = some (.cells #[.int .i64 P, v0] 55 (0, 0))) (ho : ORt w v L) (ha : v.ownBlock ≠ some g) (hf : L.length ≤ 64) (hp : P ≤ 64) : RfW (w.setCell ⟨g, 1, none⟩ v) g v P L :=
  ⟨by simp [World.setCell, Array.getElem?_modify, h], ho.fr (fr_setCell (F := fun k => k = g) _ _ rfl) (fun k hk e => ha (by rw [hk, e])), ha, hf, hp⟩
theorem rt_cells (w0 : World) (b o : Nat) (x : Rt) (h : w0.rangeAt b o (rtc x)) (hb : b < w0.heap.size) : ∀ w', Below w0.heap.size w0 w' → w'.cell? ⟨b, o, none⟩ = some (.int .i64 x.num) ∧ w'.cell? ⟨b, o + 1, none⟩ = some (.int .i64 x.tag) ∧ w'.cell? ⟨b, o + 2, none⟩ = some (.int .i64 x.left) :=
  fun w' hw => ⟨(hw.cell (p := ⟨b, o, none⟩) hb).trans (h 0 _ rfl), (hw.cell (p := ⟨b, o + 1, none⟩) hb).trans (h 1 _ rfl), (hw.cell (p := ⟨b, o + 2, none⟩) hb).trans (h 2 _ rfl)⟩
set_option maxHeartbeats 4000000 in
set_option maxRecDepth 100000 in
theorem rw_new (P : Nat) (z : Int) (hP : (P : Int) = max 0 (min z 64)) (w : World) :
    Calls Tryd.prog 11 #[.int .i64 z] w fun e w' => e = .returned (.pointer (some ⟨w.heap.size, 0, none⟩)) ∧ RfW w' w.heap.size (.slice none 0 0) P [] ∧ Below w.heap.size w w' := by
  have hb := below_new w (.cells #[.int .i64 P, .slice none 0 0] 55)
  have HB := Lib.hid hb
  have HX := Lib.hid (show RfW (w.alloc (.cells #[.int .i64 P, .slice none 0 0] 55)) w.heap.size (.slice none 0 0) P [] from ⟨heap_alloc_new _ _, OwnE.nil _ _, (fun h => by cases h), by simp, by omega⟩)
  have hmx : min (max z 0) 64 = (P : Int) := by omega
  clear hb hP
  go_enter Tryd.func11, Tryd.ntmps11
  go_wp2_with fail
  go_ret
  exact ⟨rfl, HX.out, HB.out⟩
def rAt (L : List Rt) (k : Int) : Option Nat := L.findIdx? (fun e => e.num == k)
def rAtI (L : List Rt) (k : Int) : Int := match rAt L k with
  | none => -1
  | some i => i
theorem rAt_none {L : List Rt} {k : Int} (h : ∀ (j : Nat) (hj : j < L.length), L[j].num ≠ k) : rAtI L k = -1 := by
  unfold rAtI rAt
  rw [List.findIdx?_eq_none_iff.2]
  intro x hx
  obtain ⟨j, hj, rfl⟩ := List.mem_iff_getElem.1 hx
  simpa using h j hj
theorem rAt_some {L : List Rt} {k : Int} {i : Nat} (hi : i < L.length) (he : L[i].num = k) (h : ∀ (j : Nat) (hj : j < i), L[j].num ≠ k) : rAtI L k = i := by
  unfold rAtI rAt
  have : L.findIdx? (fun e => e.num == k) = some i := by
    rw [List.findIdx?_eq_some_iff_getElem]
    exact ⟨hi, by simpa using he, fun j hj => by simpa using h j hj⟩
  rw [this]
set_option maxHeartbeats 4000000 in
set_option maxRecDepth 100000 in
theorem rw_at (g : Nat) (v : Value) (P : Nat) (L : List Rt) (k : Int) (w : World) (h : RfW w g v P L) :
    Calls Tryd.prog 28 #[.pointer (some ⟨g, 0, none⟩), .int .i64 k] w fun e w' => e = .returned (.int .i64 (rAtI L k)) ∧ w = w' := by
  have hfew := h.few
  obtain ⟨A0, c0, rfl, hre, hob, ha0⟩ := h.own.re (by omega)
  have y1 := h.cells.2 w (Below.refl _ _)
  have HRE := Lib.hid hre
  have HF := Lib.hid hfew
  generalize hm : L.length = n at *
  have HL := Lib.hid hm
  clear h hre hob ha0 hfew hm
  go_enter Tryd.func28, Tryd.ntmps28
  go_wp2_with fail
  go_loopw [5] (fun s5 wr => w = wr ∧ ∃ i : Nat, i ≤ n ∧ s5 = .int .i64 i ∧ ∀ (j : Nat) (hj : j < i) (hl : j < L.length), L[j].num ≠ k) (fun s5 _ => n - (intOf s5).toNat)
  case atStart => exact ⟨rfl, 0, Nat.zero_le _, rfl, fun j hj => by omega⟩
  case round =>
    obtain ⟨rfl, i, hi, rfl, hall⟩ := hrel
    have HALL := Lib.hid hall
    by_cases hlt : i < n
    · have hlt' : (i : Int) < n := by omega
      have HI := Lib.hid hlt
      have hn9 : (n : Int) ≤ 64 := by have := HF.out; omega
      obtain ⟨b, off, rfl, hbl, _⟩ := HRE.out.cells (by omega)
      have hkl : i < L.length := by rw [HL.out]; exact hlt
      have x0 := (rt_cells w b _ _ (HRE.out.elem rtc_len i hkl) hbl w (Below.refl _ _)).1
      have HX := Lib.hid (List.getElem?_eq_getElem hkl)
      generalize L[i] = x at x0 HX
      clear hlt hi hall hkl
      by_cases hx : x.num = k
      · have hx2 : (x.num == k) = true := by simpa using hx
        have HE := Lib.hid hx
        clear hx
        go_wp2_with fail
        go_ret
        refine ⟨by rw [rAt_some (i := i) (by rw [HL.out]; exact HI.out) (by have := HX.out; rw [List.getElem?_eq_getElem (by rw [HL.out]; exact HI.out)] at this; rw [Option.some.inj this]; exact HE.out) (fun j hj => HALL.out j hj _)] <;> rfl, rfl⟩
      · have hx2 : (x.num == k) = false := by simpa using hx
        have HE := Lib.hid hx
        clear hx
        go_wp2_with fail
        exact ⟨⟨trivial, i + 1, by have := HI.out; omega, by go_num, fun j hj hl => by
          by_cases hj2 : j = i
          · subst hj2
            have := HX.out
            rw [List.getElem?_eq_getElem hl] at this
            rw [Option.some.inj this]; exact HE.out
          · exact HALL.out j (by omega) hl⟩, by have := HI.out; simp [intOf]; omega⟩
    · obtain rfl : i = n := by omega
      clear hlt hi hall
      go_wp2_with fail
      go_ret
      exact ⟨by rw [rAt_none (fun j hj => HALL.out j (by have := HL.out; omega) hj)] <;> rfl, rfl⟩
theorem rAt_bd (L : List Rt) (k : Int) : rAtI L k = -1 ∨ ∃ (i : Nat) (hi : i < L.length), rAtI L k = i ∧ L[i].num = k := by
  unfold rAtI rAt
  cases hf : L.findIdx? (fun e => e.num == k) with
  | none => exact .inl rfl
  | some i =>
    rw [List.findIdx?_eq_some_iff_getElem] at hf
    obtain ⟨hi, h1, _⟩ := hf
    exact .inr ⟨i, hi, rfl, by simpa using h1⟩
def rLeft (L : List Rt) (k : Int) : Int := match rAt L k with
  | none => 0
  | some i => (L[i]?.map (·.left)).getD 0
theorem rLeft_no {L : List Rt} {k : Int} (h : rAtI L k = -1) : rLeft L k = 0 := by
  unfold rAtI at h
  unfold rLeft
  cases hq : rAt L k with
  | none => rfl
  | some i => rw [hq] at h; exact absurd h (by show ((i : Nat) : Int) ≠ -1; omega)
theorem rLeft_at {L : List Rt} {k : Int} {i : Nat} {x : Rt} (h : rAtI L k = i) (hx : L[i]? = some x) : rLeft L k = x.left := by
  unfold rAtI at h
  unfold rLeft
  cases hq : rAt L k with
  | none => rw [hq] at h; exact absurd h (by show (-1 : Int) ≠ (i : Int); omega)
  | some j =>
    rw [hq] at h
    obtain rfl : j = i := by have h2 : ((j : Nat) : Int) = i := h; omega
    simp [hx]
set_option maxHeartbeats 4000000 in
set_option maxRecDepth 100000 in
theorem rw_left (g : Nat) (v : Value) (P : Nat) (L : List Rt) (k : Int) (w : World) (h : RfW w g v P L) :
    Calls Tryd.prog 23 #[.pointer (some ⟨g, 0, none⟩), .int .i64 k] w fun e w' => e = .returned (.int .i64 (rLeft L k)) ∧ w = w' := by
  have H := Lib.hid h
  have hfew := h.few
  obtain ⟨A0, c0, rfl, hre, hob, ha0⟩ := h.own.re (by omega)
  have y1 := h.cells.2 w (Below.refl _ _)
  have HRE := Lib.hid hre
  clear h hre hob ha0
  rcases rAt_bd L k with hr | ⟨i, hi, hr, hx⟩
  · have HQ := Lib.hid (rLeft_no hr)
    have HR := Lib.hid hr
    clear hr y1
    go_enter Tryd.func23, Tryd.ntmps23
    go_wp2_with fail
    refine (rw_at g _ P L k w H.out).mono ?_
    rintro e w' ⟨rfl, rfl⟩
    rw [HR.out]
    go_wp2_with fail
    go_ret
    exact ⟨by rw [HQ.out] <;> rfl, rfl⟩
  · obtain ⟨b, off, rfl, hbl, _⟩ := HRE.out.cells (by omega)
    have x2 := (rt_cells w b _ _ (HRE.out.elem rtc_len i hi) hbl w (Below.refl _ _)).2.2
    have HQ := Lib.hid (rLeft_at hr (List.getElem?_eq_getElem hi))
    have hlt' : (i : Int) < L.length := by omega
    generalize L[i] = x at x2 HQ
    have HR := Lib.hid hr
    clear hr hx hi hfew
    go_enter Tryd.func23, Tryd.ntmps23
    go_wp2_with fail
    refine (rw_at g _ P L k w H.out).mono ?_
    rintro e w' ⟨rfl, rfl⟩
    rw [HR.out]
    generalize L.length = n at *
    go_wp2_with fail
    go_ret
    exact ⟨by rw [HQ.out] <;> rfl, rfl⟩
set_option maxHeartbeats 4000000 in
set_option maxRecDepth 100000 in
theorem rw_free (g : Nat) (v : Value) (P : Nat) (L : List Rt) (w : World) (h : RfW w g v P L) :
    Calls Tryd.prog 21 #[.pointer (some ⟨g, 0, none⟩)] w fun e w' => e = .returned (.int .i64 ((P : Int) - L.length)) ∧ Below w.heap.size w w' := by
  have hfew := h.few
  have hp := h.pool
  obtain ⟨A0, c0, rfl, hre, hob, ha0⟩ := h.own.re (by omega)
  obtain ⟨y0, y1⟩ := h.cells
  generalize L.length = n at *
  have hw1 : IntKind.i64.wrap ((P : Int) - n) = (P : Int) - n := by rw [IntKind.wrap_i64]; omega
  clear h hre hob ha0 hfew hp
  have hS0 : Below w.heap.size w w.drew := ⟨rfl, rfl, rfl, Nat.le_refl _, fun _ _ => rfl⟩
  go_enter Tryd.func21, Tryd.ntmps21
  go_wp2_with fail
  refine wp_region_held (S := fun w' => Below w.heap.size w w') (by kernel_rfl) ?_
  change wpAnyH _ _ _ _ _ _ _ _ w.drew
  change wpAnyH _ _ _ _ _ 11 (Array.replicate 11 false) _ _
  refine wpAnyH_take (i := 0) (oi := ?_) (v := ?_) ?_ (by kernel_rfl) (by kernel_rfl) (by kernel_rfl) ?_ ?_ (by assumption) ?_
  rotate_left 2; (simp only [List.getElem?_toArray, List.getElem?_cons_succ, List.getElem?_cons_zero]; rfl)
  rotate_left; (first | (refine .inl ⟨by rfl, ?_⟩; intro w9 hS9; go_simp; try with_reducible rfl) | (refine .inr ⟨by rfl, ?_⟩; with_reducible rfl))
  rotate_left; (intro _ _ _ h9; exact h9)
  try simp only [Act.put, List.setIfInBounds_toArray, List.set_cons_zero, List.set_cons_succ]
  refine wpAnyH_take (i := 1) (oi := ?_) (v := ?_) ?_ (by kernel_rfl) (by kernel_rfl) (by kernel_rfl) ?_ ?_ (by assumption) ?_
  rotate_left 2; (simp only [List.getElem?_toArray, List.getElem?_cons_succ, List.getElem?_cons_zero]; rfl)
  rotate_left; (first | (refine .inl ⟨by rfl, ?_⟩; intro w9 hS9; go_simp; try with_reducible rfl) | (refine .inr ⟨by rfl, ?_⟩; with_reducible rfl))
  rotate_left; (intro _ _ _ h9; exact h9)
  try simp only [Act.put, List.setIfInBounds_toArray, List.set_cons_zero, List.set_cons_succ]
  refine wpAnyH_take (i := 2) (oi := ?_) (v := ?_) ?_ (by kernel_rfl) (by kernel_rfl) (by kernel_rfl) ?_ ?_ (by assumption) ?_
  rotate_left 2; (simp only [List.getElem?_toArray, List.getElem?_cons_succ, List.getElem?_cons_zero]; rfl)
  rotate_left; (first | (refine .inl ⟨by rfl, ?_⟩; intro w9 hS9; go_simp; try with_reducible rfl) | (refine .inr ⟨by rfl, ?_⟩; with_reducible rfl))
  rotate_left; (intro _ _ _ h9; exact h9)
  try simp only [Act.put, List.setIfInBounds_toArray, List.set_cons_zero, List.set_cons_succ]
  refine wpAnyH_take (i := 3) (oi := ?_) (v := ?_) ?_ (by kernel_rfl) (by kernel_rfl) (by kernel_rfl) ?_ ?_ (by assumption) ?_
  rotate_left 2; (simp only [List.getElem?_toArray, List.getElem?_cons_succ, List.getElem?_cons_zero]; rfl)
  rotate_left; (first | (refine .inl ⟨by rfl, ?_⟩; intro w9 hS9; go_simp; try with_reducible rfl) | (refine .inr ⟨by rfl, ?_⟩; with_reducible rfl))
  rotate_left; (intro _ _ _ h9; exact h9)
  try simp only [Act.put, List.setIfInBounds_toArray, List.set_cons_zero, List.set_cons_succ]
  refine wpAnyH_take (i := 4) (oi := ?_) (v := ?_) ?_ (by kernel_rfl) (by kernel_rfl) (by kernel_rfl) ?_ ?_ (by assumption) ?_
  rotate_left 2; (simp only [List.getElem?_toArray, List.getElem?_cons_succ, List.getElem?_cons_zero]; rfl)
  rotate_left; (first | (refine .inl ⟨by rfl, ?_⟩; intro w9 hS9; go_simp; try with_reducible rfl) | (refine .inr ⟨by rfl, ?_⟩; with_reducible rfl))
  rotate_left; (intro _ _ _ h9; exact h9)
  try simp only [Act.put, List.setIfInBounds_toArray, List.set_cons_zero, List.set_cons_succ]
  refine wpAnyH_take (i := 5) (oi := ?_) (v := ?_) ?_ (by kernel_rfl) (by kernel_rfl) (by kernel_rfl) ?_ ?_ (by assumption) ?_
  rotate_left 2; (simp only [List.getElem?_toArray, List.getElem?_cons_succ, List.getElem?_cons_zero]; rfl)
  rotate_left; (first | (refine .inl ⟨by rfl, ?_⟩; intro w9 hS9; go_simp; try with_reducible rfl) | (refine .inr ⟨by rfl, ?_⟩; with_reducible rfl))
  rotate_left; (intro _ _ _ h9; exact h9)
  try simp only [Act.put, List.setIfInBounds_toArray, List.set_cons_zero, List.set_cons_succ]
  refine wpAnyH_take (i := 6) (oi := ?_) (v := ?_) ?_ (by kernel_rfl) (by kernel_rfl) (by kernel_rfl) ?_ ?_ (by assumption) ?_
  rotate_left 2; (simp only [List.getElem?_toArray, List.getElem?_cons_succ, List.getElem?_cons_zero]; rfl)
  rotate_left; (first | (refine .inl ⟨by rfl, ?_⟩; intro w9 hS9; go_simp; try with_reducible rfl) | (refine .inr ⟨by rfl, ?_⟩; with_reducible rfl))
  rotate_left; (intro _ _ _ h9; exact h9)
  try simp only [Act.put, List.setIfInBounds_toArray, List.set_cons_zero, List.set_cons_succ]
  refine wpAnyH_take (i := 7) (oi := ?_) (v := ?_) ?_ (by kernel_rfl) (by kernel_rfl) (by kernel_rfl) ?_ ?_ (by assumption) ?_
  rotate_left 2; (simp only [List.getElem?_toArray, List.getElem?_cons_succ, List.getElem?_cons_zero]; rfl)
  rotate_left; (first | (refine .inl ⟨by rfl, ?_⟩; intro w9 hS9; go_simp; try with_reducible rfl) | (refine .inr ⟨by rfl, ?_⟩; with_reducible rfl))
  rotate_left; (intro _ _ _ h9; exact h9)
  try simp only [Act.put, List.setIfInBounds_toArray, List.set_cons_zero, List.set_cons_succ]
  refine wpAnyH_take (i := 8) (oi := ?_) (v := ?_) ?_ (by kernel_rfl) (by kernel_rfl) (by kernel_rfl) ?_ ?_ (by assumption) ?_
  rotate_left 2; (simp only [List.getElem?_toArray, List.getElem?_cons_succ, List.getElem?_cons_zero]; rfl)
  rotate_left; (first | (refine .inl ⟨by rfl, ?_⟩; intro w9 hS9; go_simp; try with_reducible rfl) | (refine .inr ⟨by rfl, ?_⟩; with_reducible rfl))
  rotate_left; (intro _ _ _ h9; exact h9)
  try simp only [Act.put, List.setIfInBounds_toArray, List.set_cons_zero, List.set_cons_succ]
  refine wpAnyH_take (i := 9) (oi := ?_) (v := ?_) ?_ (by kernel_rfl) (by kernel_rfl) (by kernel_rfl) ?_ ?_ (by assumption) ?_
  rotate_left 2; (simp only [List.getElem?_toArray, List.getElem?_cons_succ, List.getElem?_cons_zero]; rfl)
  rotate_left; (first | (refine .inl ⟨by rfl, ?_⟩; intro w9 hS9; go_simp; try with_reducible rfl) | (refine .inr ⟨by rfl, ?_⟩; with_reducible rfl))
  rotate_left; (intro _ _ _ h9; exact h9)
  try simp only [Act.put, List.setIfInBounds_toArray, List.set_cons_zero, List.set_cons_succ]
  refine wpAnyH_take (i := 10) (oi := ?_) (v := ?_) ?_ (by kernel_rfl) (by kernel_rfl) (by kernel_rfl) ?_ ?_ (by assumption) ?_
  rotate_left 2; (simp only [List.getElem?_toArray, List.getElem?_cons_succ, List.getElem?_cons_zero]; rfl)
  rotate_left; (first | (refine .inl ⟨by rfl, ?_⟩; intro w9 hS9; go_simp; try with_reducible rfl) | (refine .inr ⟨by rfl, ?_⟩; with_reducible rfl))
  rotate_left; (intro _ _ _ h9; exact h9)
  try simp only [Act.put, List.setIfInBounds_toArray, List.set_cons_zero, List.set_cons_succ]
  refine wpAnyH_done (by kernel_rfl) ?_ _
  go_wp2_with fail
  go_ret
  exact ⟨rfl, hS0⟩
end Go.Proofs.YtpfoocndohpbbaaDoor
