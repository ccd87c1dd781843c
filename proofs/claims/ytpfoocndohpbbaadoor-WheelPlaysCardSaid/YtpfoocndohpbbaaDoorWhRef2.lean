/- crossbuckref05.Wheel: Cancel, Arm, Tick. -/
import Derived.Test.YtpfoocndohpbbaaDoorWhRef
namespace Go.Proofs.YtpfoocndohpbbaaDoor
open Go Go.RowKit
set_option linter.unusedVariables false
set_option linter.unusedSimpArgs false
/-- What a call leaves of the document's wheel. -/
structure RfTo (w w' : World) (g : Nat) (v : Value) (P : Nat) (L : List Rt) : Prop where
  ex : ∃ v', RfW w' g v' P L ∧ ∀ b, v'.ownBlock = some b → v.ownBlock = some b ∨ w.heap.size ≤ b
  fr : Fr (fun b => b = g ∨ v.ownBlock = some b) w w'
theorem RfTo.same {w : World} {g : Nat} {v : Value} {P : Nat} {L : List Rt} (h : RfW w g v P L) : RfTo w w g v P L := ⟨⟨v, h, fun b hb => .inl hb⟩, Fr.refl _ _⟩
def rDrop (L : List Rt) (k : Int) : List Rt := match rAt L k with
  | none => L
  | some i => L.take i ++ L.drop (i + 1)
theorem rDrop_no {L : List Rt} {k : Int} (h : rAtI L k = -1) : rDrop L k = L := by
  unfold rAtI at h
  unfold rDrop
  cases hq : rAt L k with
  | none => rfl
  | some i => rw [hq] at h; exact absurd h (by show ((i : Nat) : Int) ≠ -1; omega)
theorem rDrop_at {L : List Rt} {k : Int} {i : Nat} (h : rAtI L k = i) : rDrop L k = L.take i ++ L.drop (i + 1) := by
  unfold rAtI at h
  unfold rDrop
  cases hq : rAt L k with
  | none => rw [hq] at h; exact absurd h (by show (-1 : Int) ≠ (i : Int); omega)
  | some j =>
    rw [hq] at h
    obtain rfl : j = i := by have h2 : ((j : Nat) : Int) = i := h; omega
    rfl
set_option maxHeartbeats 4000000 in
set_option maxRecDepth 100000 in
theorem rw_cancel (g : Nat) (v : Value) (P : Nat) (L : List Rt) (k : Int) (w : World) (h : RfW w g v P L) :
    Calls Tryd.prog 16 #[.pointer (some ⟨g, 0, none⟩), .int .i64 k] w fun e w' => e = .returned (.bool (!(rAtI L k == -1))) ∧ RfTo w w' g v P (rDrop L k) := by
  have H := Lib.hid h
  rcases rAt_bd L k with hr | ⟨i, hi, hr, hx⟩
  · have HR := Lib.hid hr
    have HD := Lib.hid (rDrop_no hr)
    clear hr h
    go_enter Tryd.func16, Tryd.ntmps16
    go_wp2_with fail
    refine (rw_at g _ P L k w H.out).mono ?_
    rintro e w' ⟨rfl, rfl⟩
    rw [HR.out]
    go_wp2_with fail
    go_ret
    exact ⟨by rw [HR.out] <;> rfl, by rw [HD.out]; exact RfTo.same H.out⟩
  · have hfew := h.few
    have hgl := h.lt
    obtain ⟨A0, c0, rfl, hre, hob, ha0⟩ := h.own.re (by omega)
    obtain ⟨y0, y1⟩ := h.cells
    have HD := Lib.hid (rDrop_at hr)
    have HR := Lib.hid hr
    have hlc := hre.cap
    have HT := Lib.hid (hre.take rtc_len i (by omega))
    have HS := Lib.hid (hre.sub rtc_len (i + 1) (by omega))
    have hs1 := fun w => run_slice_hi rtT w A0 L.length c0 i (by omega) (i : Int) rfl
    have hs2 := fun w => run_slice_lo rtT w A0 L.length c0 (i + 1) (by omega) ((i : Int) + 1) (by omega)
    have hwr : IntKind.i64.wrap ((i : Int) + 1) = (i : Int) + 1 := by rw [IntKind.wrap_i64]; omega
    have HI := Lib.hid hi
    have HF := Lib.hid hfew
    have hlt1 := Lib.hid (show (L.take i).length ≤ 64 by simp; omega)
    have hlt2 := Lib.hid (show (L.drop (i + 1)).length ≤ 64 by simp; omega)
    have hlt3 := Lib.hid (show (L.take i ++ L.drop (i + 1)).length ≤ 64 by simp; omega)
    have hnn : ((i : Int) == -1) = false := by simp <;> omega
    have HHP := Lib.hid h.heap
    have HPP := Lib.hid h.pool
    clear hx h hre
    generalize L.length = n at *
    generalize hLT : L.take i = LT at *
    generalize hLS : L.drop (i + 1) = LS at *
    clear hLT hLS hr hob ha0 hfew hi hlc y0
    go_enter Tryd.func16, Tryd.ntmps16
    go_wp2_with fail
    refine (rw_at g _ P L k w H.out).mono ?_
    rintro e w' ⟨rfl, rfl⟩
    rw [HR.out]
    go_wp2_with fail
    have hS1 : Below w.heap.size w w.drew := ⟨rfl, rfl, rfl, Nat.le_refl _, fun _ _ => rfl⟩
    refine wp_region_piv 19 (fun w' => Below w.heap.size w w') (by kernel_rfl) ?_
    change wpAnyP _ _ _ _ 19 _ 20 (Array.replicate 20 false) _ _
    refine wpAnyP_read (i := 0) (oi := ?_) (v := ?_) ?_ (by kernel_rfl) (by kernel_rfl) (by kernel_rfl) (by rfl) (by kernel_rfl) ?_ ?_ (by kernel_rfl) (by assumption) ?_
    rotate_left 2; (simp only [List.getElem?_toArray, List.getElem?_cons_succ, List.getElem?_cons_zero]; rfl)
    rotate_left; (first | (refine .inl ⟨by rfl, ?_⟩; intro w9 hS9; go_simp; try with_reducible rfl) | (refine .inr ⟨by rfl, ?_⟩; with_reducible rfl))
    rotate_left; (intro _ _ _ h9; exact h9)
    try simp only [Act.put, List.setIfInBounds_toArray, List.set_cons_zero, List.set_cons_succ]
    refine wpAnyP_read (i := 2) (oi := ?_) (v := ?_) ?_ (by kernel_rfl) (by kernel_rfl) (by kernel_rfl) (by rfl) (by kernel_rfl) ?_ ?_ (by kernel_rfl) (by assumption) ?_
    rotate_left 2; (simp only [List.getElem?_toArray, List.getElem?_cons_succ, List.getElem?_cons_zero]; rfl)
    rotate_left; (first | (refine .inl ⟨by rfl, ?_⟩; intro w9 hS9; go_simp; try with_reducible rfl) | (refine .inr ⟨by rfl, ?_⟩; with_reducible rfl))
    rotate_left; (intro _ _ _ h9; exact h9)
    try simp only [Act.put, List.setIfInBounds_toArray, List.set_cons_zero, List.set_cons_succ]
    refine wpAnyP_read (i := 3) (oi := ?_) (v := ?_) ?_ (by kernel_rfl) (by kernel_rfl) (by kernel_rfl) (by rfl) (by kernel_rfl) ?_ ?_ (by kernel_rfl) (by assumption) ?_
    rotate_left 2; (simp only [List.getElem?_toArray, List.getElem?_cons_succ, List.getElem?_cons_zero]; rfl)
    rotate_left; (first | (refine .inl ⟨by rfl, ?_⟩; intro w9 hS9; go_simp; try with_reducible rfl) | (refine .inr ⟨by rfl, ?_⟩; with_reducible rfl))
    rotate_left; (intro _ _ _ h9; exact h9)
    try simp only [Act.put, List.setIfInBounds_toArray, List.set_cons_zero, List.set_cons_succ]
    refine wpAnyP_read (i := 4) (oi := ?_) (v := ?_) ?_ (by kernel_rfl) (by kernel_rfl) (by kernel_rfl) (by rfl) (by kernel_rfl) ?_ ?_ (by kernel_rfl) (by assumption) ?_
    rotate_left 2; (simp only [List.getElem?_toArray, List.getElem?_cons_succ, List.getElem?_cons_zero]; rfl)
    rotate_left; (first | (refine .inl ⟨by rfl, ?_⟩; intro w9 hS9; go_simp; try with_reducible rfl) | (refine .inr ⟨by rfl, ?_⟩; with_reducible rfl))
    rotate_left; (intro _ _ _ h9; exact h9)
    try simp only [Act.put, List.setIfInBounds_toArray, List.set_cons_zero, List.set_cons_succ]
    refine wpAnyP_read (i := 5) (oi := ?_) (v := ?_) ?_ (by kernel_rfl) (by kernel_rfl) (by kernel_rfl) (by rfl) (by kernel_rfl) ?_ ?_ (by kernel_rfl) (by assumption) ?_
    rotate_left 2; (simp only [List.getElem?_toArray, List.getElem?_cons_succ, List.getElem?_cons_zero]; rfl)
    rotate_left; (first | (refine .inl ⟨by rfl, ?_⟩; intro w9 hS9; go_simp; try with_reducible rfl) | (refine .inr ⟨by rfl, ?_⟩; with_reducible rfl))
    rotate_left; (intro _ _ _ h9; exact h9)
    try simp only [Act.put, List.setIfInBounds_toArray, List.set_cons_zero, List.set_cons_succ]
    refine wpAnyP_read (i := 6) (oi := ?_) (v := ?_) ?_ (by kernel_rfl) (by kernel_rfl) (by kernel_rfl) (by rfl) (by kernel_rfl) ?_ ?_ (by kernel_rfl) (by assumption) ?_
    rotate_left 2; (simp only [List.getElem?_toArray, List.getElem?_cons_succ, List.getElem?_cons_zero]; rfl)
    rotate_left; (first | (refine .inl ⟨by rfl, ?_⟩; intro w9 hS9; go_simp; try with_reducible rfl) | (refine .inr ⟨by rfl, ?_⟩; with_reducible rfl))
    rotate_left; (intro _ _ _ h9; exact h9)
    try simp only [Act.put, List.setIfInBounds_toArray, List.set_cons_zero, List.set_cons_succ]
    refine wpAnyP_read (i := 7) (oi := ?_) (v := ?_) ?_ (by kernel_rfl) (by kernel_rfl) (by kernel_rfl) (by rfl) (by kernel_rfl) ?_ ?_ (by kernel_rfl) (by assumption) ?_
    rotate_left 2; (simp only [List.getElem?_toArray, List.getElem?_cons_succ, List.getElem?_cons_zero]; rfl)
    rotate_left; (first | (refine .inl ⟨by rfl, ?_⟩; intro w9 hS9; go_simp; try with_reducible rfl) | (refine .inr ⟨by rfl, ?_⟩; with_reducible rfl))
    rotate_left; (intro _ _ _ h9; exact h9)
    try simp only [Act.put, List.setIfInBounds_toArray, List.set_cons_zero, List.set_cons_succ]
    refine wpAnyP_read (i := 9) (oi := ?_) (v := ?_) ?_ (by kernel_rfl) (by kernel_rfl) (by kernel_rfl) (by rfl) (by kernel_rfl) ?_ ?_ (by kernel_rfl) (by assumption) ?_
    rotate_left 2; (simp only [List.getElem?_toArray, List.getElem?_cons_succ, List.getElem?_cons_zero]; rfl)
    rotate_left; (first | (refine .inl ⟨by rfl, ?_⟩; intro w9 hS9; go_simp; try with_reducible rfl) | (refine .inr ⟨by rfl, ?_⟩; with_reducible rfl))
    rotate_left; (intro _ _ _ h9; exact h9)
    try simp only [Act.put, List.setIfInBounds_toArray, List.set_cons_zero, List.set_cons_succ]
    refine wpAnyP_read (i := 10) (oi := ?_) (v := ?_) ?_ (by kernel_rfl) (by kernel_rfl) (by kernel_rfl) (by rfl) (by kernel_rfl) ?_ ?_ (by kernel_rfl) (by assumption) ?_
    rotate_left 2; (simp only [List.getElem?_toArray, List.getElem?_cons_succ, List.getElem?_cons_zero]; rfl)
    rotate_left; (first | (refine .inl ⟨by rfl, ?_⟩; intro w9 hS9; go_simp; try with_reducible rfl) | (refine .inr ⟨by rfl, ?_⟩; with_reducible rfl))
    rotate_left; (intro _ _ _ h9; exact h9)
    try simp only [Act.put, List.setIfInBounds_toArray, List.set_cons_zero, List.set_cons_succ]
    refine wpAnyP_read (i := 11) (oi := ?_) (v := ?_) ?_ (by kernel_rfl) (by kernel_rfl) (by kernel_rfl) (by rfl) (by kernel_rfl) ?_ ?_ (by kernel_rfl) (by assumption) ?_
    rotate_left 2; (simp only [List.getElem?_toArray, List.getElem?_cons_succ, List.getElem?_cons_zero]; rfl)
    rotate_left; (first | (refine .inl ⟨by rfl, ?_⟩; intro w9 hS9; go_simp; try with_reducible rfl) | (refine .inr ⟨by rfl, ?_⟩; with_reducible rfl))
    rotate_left; (intro _ _ _ h9; exact h9)
    try simp only [Act.put, List.setIfInBounds_toArray, List.set_cons_zero, List.set_cons_succ]
    refine wpAnyP_read (i := 12) (oi := ?_) (v := ?_) ?_ (by kernel_rfl) (by kernel_rfl) (by kernel_rfl) (by rfl) (by kernel_rfl) ?_ ?_ (by kernel_rfl) (by assumption) ?_
    rotate_left 2; (simp only [List.getElem?_toArray, List.getElem?_cons_succ, List.getElem?_cons_zero]; rfl)
    rotate_left; (first | (refine .inl ⟨by rfl, ?_⟩; intro w9 hS9; go_simp; try with_reducible rfl) | (refine .inr ⟨by rfl, ?_⟩; with_reducible rfl))
    rotate_left; (intro _ _ _ h9; exact h9)
    try simp only [Act.put, List.setIfInBounds_toArray, List.set_cons_zero, List.set_cons_succ]
    refine wpAnyP_read (i := 13) (oi := ?_) (v := ?_) ?_ (by kernel_rfl) (by kernel_rfl) (by kernel_rfl) (by rfl) (by kernel_rfl) ?_ ?_ (by kernel_rfl) (by assumption) ?_
    rotate_left 2; (simp only [List.getElem?_toArray, List.getElem?_cons_succ, List.getElem?_cons_zero]; rfl)
    rotate_left; (first | (refine .inl ⟨by rfl, ?_⟩; intro w9 hS9; go_simp; try with_reducible rfl) | (refine .inr ⟨by rfl, ?_⟩; with_reducible rfl))
    rotate_left; (intro _ _ _ h9; exact h9)
    try simp only [Act.put, List.setIfInBounds_toArray, List.set_cons_zero, List.set_cons_succ]
    refine wpAnyP_read (i := 14) (oi := ?_) (v := ?_) ?_ (by kernel_rfl) (by kernel_rfl) (by kernel_rfl) (by rfl) (by kernel_rfl) ?_ ?_ (by kernel_rfl) (by assumption) ?_
    rotate_left 2; (simp only [List.getElem?_toArray, List.getElem?_cons_succ, List.getElem?_cons_zero]; rfl)
    rotate_left; (first | (refine .inl ⟨by rfl, ?_⟩; intro w9 hS9; go_simp; try with_reducible rfl) | (refine .inr ⟨by rfl, ?_⟩; with_reducible rfl))
    rotate_left; (intro _ _ _ h9; exact h9)
    try simp only [Act.put, List.setIfInBounds_toArray, List.set_cons_zero, List.set_cons_succ]
    refine wpAnyP_read (i := 15) (oi := ?_) (v := ?_) ?_ (by kernel_rfl) (by kernel_rfl) (by kernel_rfl) (by rfl) (by kernel_rfl) ?_ ?_ (by kernel_rfl) (by assumption) ?_
    rotate_left 2; (simp only [List.getElem?_toArray, List.getElem?_cons_succ, List.getElem?_cons_zero]; rfl)
    rotate_left; (first | (refine .inl ⟨by rfl, ?_⟩; intro w9 hS9; go_simp; try with_reducible rfl) | (refine .inr ⟨by rfl, ?_⟩; with_reducible rfl))
    rotate_left; (intro _ _ _ h9; exact h9)
    try simp only [Act.put, List.setIfInBounds_toArray, List.set_cons_zero, List.set_cons_succ]
    refine wpAnyP_one (i := 1) (by kernel_rfl) rfl (fun K9 hK9 => ?_)
    go_simp
    have hb1 : Below w.heap.size w (w.alloc (.cells #[] 63)).drew := hS1.alloc (Nat.le_refl _) (.cells #[] 63)
    have ho1 : ORt (w.alloc (.cells #[] 63)).drew (.slice (some ⟨w.heap.size, 0, none⟩) 0 0) [] := own_lit (f := rtc) (e := 63) rtc_len w.drew [] (by simp)
    refine hK9.out _ _ (fun _ => hb1) ?_
    generalize (w.alloc (.cells #[] 63)).drew = w6 at hb1 ho1 ⊢
    have HT2 := Lib.hid (HT.out.below hb1)
    have HS2 := Lib.hid (HS.out.below hb1)
    refine wpAnyP_one (i := 8) (by kernel_rfl) rfl (fun K9 hK9 => ?_)
    rw [if_pos (by rfl)]
    refine wp_append_fr rtT rtc_len rtc_one _ _ rfl _ [] rfl ho1 _ _ _ LT rfl HT2.out (by have := hlt1.out; have := HI.out; have := HF.out; simp; omega) (by have := hlt1.out; have := HI.out; have := HF.out; simp; omega) ?_
    intro v7 w7 hown7 hg7 hf7
    have hb7 : Below w.heap.size w w7 := hb1.grown hg7 hb1.size (fun b hb => by cases hb; exact Nat.le_refl _)
    have hv7 : ∀ b, v7.ownBlock = some b → w.heap.size ≤ b := fun b hb => by rcases hf7 b hb with h | h; cases h; exact Nat.le_refl _; have := hb1.size; omega
    rw [List.nil_append] at hown7
    refine hK9.out _ _ (fun _ => hb7) ?_
    clear hb1 ho1 hg7 hf7 HT2 HS2
    have HS7 := Lib.hid (HS.out.below hb7)
    have HV7 := Lib.hid hv7
    refine wpAnyP_one (i := 16) (by kernel_rfl) rfl (fun K9 hK9 => ?_)
    rw [if_pos (by rfl)]
    obtain ⟨A7, c7, rfl, _⟩ := hown7.re (by have := hlt1.out; omega)
    refine wp_append_fr rtT rtc_len rtc_one _ _ rfl _ LT rfl hown7 _ _ _ LS rfl HS7.out (by have := hlt1.out; have := hlt2.out; have := HI.out; have := HF.out; omega) (by have := hlt1.out; have := hlt2.out; have := HI.out; have := HF.out; omega) ?_
    intro v8 w8 hown8 hg8 hf8
    have hb8 : Below w.heap.size w w8 := hb7.grown hg8 hb7.size HV7.out
    have hv8 : ∀ b, v8.ownBlock = some b → w.heap.size ≤ b := fun b hb => by rcases hf8 b hb with h | h; exact HV7.out b h; have := hb7.size; omega
    obtain ⟨A8, l8, c8, rfl⟩ : ∃ A l c, v8 = .slice A l c := by
      obtain ⟨A, c, e, _⟩ := hown8.re (by have := hlt3.out; omega)
      exact ⟨_, _, _, e⟩
    refine hK9.out _ _ (fun _ => hb8) ?_
    have hh8 : w8.heap[g]? = some (.cells #[.int .i64 P, .slice A0 n c0] 55 (0, 0)) := (hb8.block g hgl).trans HHP.out
    have z0 : w8.cell? ⟨g, 1, none⟩ = some (.slice A0 n c0) := by simp [World.cell?, hh8]
    have z1 : w8.frozen? ⟨g, 1, none⟩ = false := by simp [World.frozen?, hh8]
    have HX := Lib.hid (RfW.setRow hh8 hown8 (fun e => by have := hv8 g e; omega) hlt3.out HPP.out)
    have f8 := fr_setCell (F := fun b => b = g) (w := w8) ⟨g, 1, none⟩ (.slice A8 l8 c8) rfl
    have HFR := Lib.hid (((Fr.ofBelow hb8 (fun b => b = g ∨ (Value.slice A0 n c0).ownBlock = some b)).trans f8 (fun b hb => .inl (.inl hb))))
    have HV8 := Lib.hid hv8
    clear hb7 hown7 hown8 hg8 hf8 hv8 hv7 f8 hh8 HS7 HV7
    have hS8 := hb8
    clear hb8
    refine wpAnyP_read (i := 17) (oi := ?_) (v := ?_) ?_ (by kernel_rfl) (by kernel_rfl) (by kernel_rfl) (by rfl) (by kernel_rfl) ?_ ?_ (by kernel_rfl) (by assumption) ?_
    rotate_left 2; (simp only [List.getElem?_toArray, List.getElem?_cons_succ, List.getElem?_cons_zero]; rfl)
    rotate_left; (first | (refine .inl ⟨by rfl, ?_⟩; intro w9 hS9; go_simp; try with_reducible rfl) | (refine .inr ⟨by rfl, ?_⟩; with_reducible rfl))
    rotate_left; (intro _ _ _ h9; exact h9)
    try simp only [Act.put, List.setIfInBounds_toArray, List.set_cons_zero, List.set_cons_succ]
    refine wpAnyP_read (i := 18) (oi := ?_) (v := ?_) ?_ (by kernel_rfl) (by kernel_rfl) (by kernel_rfl) (by rfl) (by kernel_rfl) ?_ ?_ (by kernel_rfl) (by assumption) ?_
    rotate_left 2; (simp only [List.getElem?_toArray, List.getElem?_cons_succ, List.getElem?_cons_zero]; rfl)
    rotate_left; (first | (refine .inl ⟨by rfl, ?_⟩; intro w9 hS9; go_simp; try with_reducible rfl) | (refine .inr ⟨by rfl, ?_⟩; with_reducible rfl))
    rotate_left; (intro _ _ _ h9; exact h9)
    try simp only [Act.put, List.setIfInBounds_toArray, List.set_cons_zero, List.set_cons_succ]
    refine wpAnyP_one (i := 19) (by kernel_rfl) rfl (fun K9 hK9 => ?_)
    go_simp
    refine hK9.out _ _ (fun h9 => nomatch (show true = false from h9)) ?_
    refine wpAnyP_done (by kernel_rfl) ?_ _
    generalize w8.setCell ⟨g, 1, none⟩ (.slice A8 l8 c8) = w9 at *
    clear hK9 z0 z1 hs1 hs2 y1 hS1
    go_wp2_with fail
    go_ret
    exact ⟨by rw [HR.out, hnn] <;> rfl, by rw [HD.out]; exact ⟨⟨_, HX.out, fun b hb => .inr (HV8.out b hb)⟩, HFR.out⟩⟩
/-- What the document's Arm answers. -/
structure IsRArm (g : Nat) (v : Value) (P : Nat) (L : List Rt) (ticks tag : Int) (k : Nat) (w : World) (e : Ending) (w' : World) : Prop where
  ex : ∃ n c L', e = .returned (.tuple #[.int .i64 n, .int .i64 c]) ∧ RfTo w w' g v P L' ∧
    (((ticks < 1 ∨ 16777215 < ticks) ∧ n = 0 ∧ c = 6 ∧ L' = L) ∨ ((1 ≤ ticks ∧ ticks ≤ 16777215) ∧ P ≤ L.length ∧ n = 0 ∧ c = 5 ∧ L' = L) ∨
      ((1 ≤ ticks ∧ ticks ≤ 16777215) ∧ L.length < P ∧ n = k ∧ c = 0 ∧ L' = L ++ [⟨k, tag, ticks⟩]))
set_option maxHeartbeats 4000000 in
set_option maxRecDepth 100000 in
theorem rw_arm (g : Nat) (v : Value) (P : Nat) (L : List Rt) (ticks tag : Int) (k : Nat) (w : World) (h : RfW w g v P L) (hq : (1 ≤ ticks ∧ ticks ≤ 16777215) → L.length < P → (∀ j : Nat, j < k → rAtI L j ≠ -1) ∧ rAtI L k = -1 ∧ k ≤ 64) :
    Calls Tryd.prog 13 #[.pointer (some ⟨g, 0, none⟩), .int .i64 ticks, .int .i64 tag] w (IsRArm g v P L ticks tag k w) := by
  have H := Lib.hid h
  by_cases ht1 : ticks < 1
  · have HB := Lib.hid (show ticks < 1 ∨ 16777215 < ticks from .inl ht1)
    clear h hq
    go_enter Tryd.func13, Tryd.ntmps13
    go_wp2_with fail
    go_ret2
    exact ⟨0, 6, L, rfl, RfTo.same H.out, .inl ⟨HB.out, rfl, rfl, rfl⟩⟩
  by_cases ht2 : 16777215 < ticks
  · have HB := Lib.hid (show ticks < 1 ∨ 16777215 < ticks from .inr ht2)
    clear h hq
    go_enter Tryd.func13, Tryd.ntmps13
    go_wp2_with fail
    go_ret2
    exact ⟨0, 6, L, rfl, RfTo.same H.out, .inl ⟨HB.out, rfl, rfl, rfl⟩⟩
  have HT := Lib.hid (show 1 ≤ ticks ∧ ticks ≤ 16777215 by omega)
  have hfew := h.few
  have hp := h.pool
  have hgl := h.lt
  obtain ⟨A0, c0, rfl, hre, hob, ha0⟩ := h.own.re (by omega)
  obtain ⟨y0, y1⟩ := h.cells
  have HF := Lib.hid hfew
  have HP := Lib.hid hp
  have HHP := Lib.hid h.heap
  have HOW := Lib.hid h.own
  have HAP := Lib.hid h.apart
  generalize hm : L.length = m at *
  have HM := Lib.hid hm
  clear h hre hob ha0 hfew hp hm
  have hS0 : Below w.heap.size w w.drew := ⟨rfl, rfl, rfl, Nat.le_refl _, fun _ _ => rfl⟩
  by_cases hfull : P ≤ m
  · have hf2 : (P : Int) ≤ m := by omega
    have HFU := Lib.hid hfull
    have hf3 : P ≤ m := hfull
    clear hq hfull
    go_enter Tryd.func13, Tryd.ntmps13
    go_wp2_with fail
    refine wp_region_held (S := fun w' => Below w.heap.size w w') (by kernel_rfl) ?_
    change wpAnyH _ _ _ _ _ _ _ _ w.drew
    change wpAnyH _ _ _ _ _ 10 (Array.replicate 10 false) _ _
    refine wpAnyH_take (i := 0) (oi := ?_) (v := ?_) ?_ (by kernel_rfl) (by kernel_rfl) (by kernel_rfl) ?_ ?_ (by assumption) ?_
    rotate_left 2; (simp only [List.getElem?_toArray, List.getElem?_cons_succ, List.getElem?_cons_zero]; rfl)
    rotate_left; (first | (refine .inl ⟨by rfl, ?_⟩; intro w9 hS9; go_simp; try with_reducible rfl) | (refine .inr ⟨by rfl, ?_⟩; with_reducible rfl))
    rotate_left; (intro _ _ _ h9; exact h9)
    try simp only [Act.put, List.setIfInBounds_toArray, List.set_cons_zero, List.set_cons_succ]
    refine wpAnyH_take (i := 1) (oi := ?_) (v := ?_) ?_ (by kernel_rfl) (by kernel_rfl) (by kernel_rfl) ?_ ?_ (by assumption) ?_
    rotate_left 2; (simp only [List.getElem?_toArray, List.getElem?_cons_succ, List.getElem?_cons_zero]; rfl)
    rotate_left; (first | (refine .inl ⟨by rfl, ?_⟩; intro w9 hS9; go_simp; try with_reducible rfl) | (refine .inr ⟨by rfl, ?_⟩; with_reducible rfl))
    rotate_left; (intro _ _ _ h9; exact h9)
    try simp only [Act.put, List.setIfInBounds_toArray, List.set_cons_zero, List.set_cons_succ]
    refine wpAnyH_take (i := 2) (oi := ?_) (v := ?_) ?_ (by kernel_rfl) (by kernel_rfl) (by kernel_rfl) ?_ ?_ (by assumption) ?_
    rotate_left 2; (simp only [List.getElem?_toArray, List.getElem?_cons_succ, List.getElem?_cons_zero]; rfl)
    rotate_left; (first | (refine .inl ⟨by rfl, ?_⟩; intro w9 hS9; go_simp; try with_reducible rfl) | (refine .inr ⟨by rfl, ?_⟩; with_reducible rfl))
    rotate_left; (intro _ _ _ h9; exact h9)
    try simp only [Act.put, List.setIfInBounds_toArray, List.set_cons_zero, List.set_cons_succ]
    refine wpAnyH_take (i := 3) (oi := ?_) (v := ?_) ?_ (by kernel_rfl) (by kernel_rfl) (by kernel_rfl) ?_ ?_ (by assumption) ?_
    rotate_left 2; (simp only [List.getElem?_toArray, List.getElem?_cons_succ, List.getElem?_cons_zero]; rfl)
    rotate_left; (first | (refine .inl ⟨by rfl, ?_⟩; intro w9 hS9; go_simp; try with_reducible rfl) | (refine .inr ⟨by rfl, ?_⟩; with_reducible rfl))
    rotate_left; (intro _ _ _ h9; exact h9)
    try simp only [Act.put, List.setIfInBounds_toArray, List.set_cons_zero, List.set_cons_succ]
    refine wpAnyH_take (i := 4) (oi := ?_) (v := ?_) ?_ (by kernel_rfl) (by kernel_rfl) (by kernel_rfl) ?_ ?_ (by assumption) ?_
    rotate_left 2; (simp only [List.getElem?_toArray, List.getElem?_cons_succ, List.getElem?_cons_zero]; rfl)
    rotate_left; (first | (refine .inl ⟨by rfl, ?_⟩; intro w9 hS9; go_simp; try with_reducible rfl) | (refine .inr ⟨by rfl, ?_⟩; with_reducible rfl))
    rotate_left; (intro _ _ _ h9; exact h9)
    try simp only [Act.put, List.setIfInBounds_toArray, List.set_cons_zero, List.set_cons_succ]
    refine wpAnyH_take (i := 5) (oi := ?_) (v := ?_) ?_ (by kernel_rfl) (by kernel_rfl) (by kernel_rfl) ?_ ?_ (by assumption) ?_
    rotate_left 2; (simp only [List.getElem?_toArray, List.getElem?_cons_succ, List.getElem?_cons_zero]; rfl)
    rotate_left; (first | (refine .inl ⟨by rfl, ?_⟩; intro w9 hS9; go_simp; try with_reducible rfl) | (refine .inr ⟨by rfl, ?_⟩; with_reducible rfl))
    rotate_left; (intro _ _ _ h9; exact h9)
    try simp only [Act.put, List.setIfInBounds_toArray, List.set_cons_zero, List.set_cons_succ]
    refine wpAnyH_take (i := 6) (oi := ?_) (v := ?_) ?_ (by kernel_rfl) (by kernel_rfl) (by kernel_rfl) ?_ ?_ (by assumption) ?_
    rotate_left 2; (simp only [List.getElem?_toArray, List.getElem?_cons_succ, List.getElem?_cons_zero]; rfl)
    rotate_left; (first | (refine .inl ⟨by rfl, ?_⟩; intro w9 hS9; go_simp; try with_reducible rfl) | (refine .inr ⟨by rfl, ?_⟩; with_reducible rfl))
    rotate_left; (intro _ _ _ h9; exact h9)
    try simp only [Act.put, List.setIfInBounds_toArray, List.set_cons_zero, List.set_cons_succ]
    refine wpAnyH_take (i := 7) (oi := ?_) (v := ?_) ?_ (by kernel_rfl) (by kernel_rfl) (by kernel_rfl) ?_ ?_ (by assumption) ?_
    rotate_left 2; (simp only [List.getElem?_toArray, List.getElem?_cons_succ, List.getElem?_cons_zero]; rfl)
    rotate_left; (first | (refine .inl ⟨by rfl, ?_⟩; intro w9 hS9; go_simp; try with_reducible rfl) | (refine .inr ⟨by rfl, ?_⟩; with_reducible rfl))
    rotate_left; (intro _ _ _ h9; exact h9)
    try simp only [Act.put, List.setIfInBounds_toArray, List.set_cons_zero, List.set_cons_succ]
    refine wpAnyH_take (i := 8) (oi := ?_) (v := ?_) ?_ (by kernel_rfl) (by kernel_rfl) (by kernel_rfl) ?_ ?_ (by assumption) ?_
    rotate_left 2; (simp only [List.getElem?_toArray, List.getElem?_cons_succ, List.getElem?_cons_zero]; rfl)
    rotate_left; (first | (refine .inl ⟨by rfl, ?_⟩; intro w9 hS9; go_simp; try with_reducible rfl) | (refine .inr ⟨by rfl, ?_⟩; with_reducible rfl))
    rotate_left; (intro _ _ _ h9; exact h9)
    try simp only [Act.put, List.setIfInBounds_toArray, List.set_cons_zero, List.set_cons_succ]
    refine wpAnyH_take (i := 9) (oi := ?_) (v := ?_) ?_ (by kernel_rfl) (by kernel_rfl) (by kernel_rfl) ?_ ?_ (by assumption) ?_
    rotate_left 2; (simp only [List.getElem?_toArray, List.getElem?_cons_succ, List.getElem?_cons_zero]; rfl)
    rotate_left; (first | (refine .inl ⟨by rfl, ?_⟩; intro w9 hS9; go_simp; try with_reducible rfl) | (refine .inr ⟨by rfl, ?_⟩; with_reducible rfl))
    rotate_left; (intro _ _ _ h9; exact h9)
    try simp only [Act.put, List.setIfInBounds_toArray, List.set_cons_zero, List.set_cons_succ]
    refine wpAnyH_done (by kernel_rfl) ?_ _
    have HR := Lib.hid (show RfTo w w.drew g (.slice A0 m c0) P L from ⟨⟨_, H.out.below hS0, fun b hb => .inl hb⟩, Fr.ofBelow hS0 _⟩)
    clear hS0 y0 y1
    go_wp2_with fail
    go_ret2
    exact ⟨0, 5, L, rfl, HR.out, .inr (.inl ⟨HT.out, by rw [HM.out]; exact HFU.out, rfl, rfl, rfl⟩)⟩
  · have hf2 : ¬ (P : Int) ≤ m := by omega
    have hf3 : ¬ P ≤ m := hfull
    have hf4 : m < P := by omega
    have HFU := Lib.hid (show m < P by omega)
    obtain ⟨h1, h2, hk⟩ := hq HT.out (by omega)
    have H1 := Lib.hid h1
    have H2 := Lib.hid h2
    have HK := Lib.hid hk
    clear h1 h2 hk hq hfull
    go_enter Tryd.func13, Tryd.ntmps13
    go_wp2_with fail
    refine wp_region_held (S := fun w' => Below w.heap.size w w') (by kernel_rfl) ?_
    change wpAnyH _ _ _ _ _ _ _ _ w.drew
    change wpAnyH _ _ _ _ _ 10 (Array.replicate 10 false) _ _
    refine wpAnyH_take (i := 0) (oi := ?_) (v := ?_) ?_ (by kernel_rfl) (by kernel_rfl) (by kernel_rfl) ?_ ?_ (by assumption) ?_
    rotate_left 2; (simp only [List.getElem?_toArray, List.getElem?_cons_succ, List.getElem?_cons_zero]; rfl)
    rotate_left; (first | (refine .inl ⟨by rfl, ?_⟩; intro w9 hS9; go_simp; try with_reducible rfl) | (refine .inr ⟨by rfl, ?_⟩; with_reducible rfl))
    rotate_left; (intro _ _ _ h9; exact h9)
    try simp only [Act.put, List.setIfInBounds_toArray, List.set_cons_zero, List.set_cons_succ]
    refine wpAnyH_take (i := 1) (oi := ?_) (v := ?_) ?_ (by kernel_rfl) (by kernel_rfl) (by kernel_rfl) ?_ ?_ (by assumption) ?_
    rotate_left 2; (simp only [List.getElem?_toArray, List.getElem?_cons_succ, List.getElem?_cons_zero]; rfl)
    rotate_left; (first | (refine .inl ⟨by rfl, ?_⟩; intro w9 hS9; go_simp; try with_reducible rfl) | (refine .inr ⟨by rfl, ?_⟩; with_reducible rfl))
    rotate_left; (intro _ _ _ h9; exact h9)
    try simp only [Act.put, List.setIfInBounds_toArray, List.set_cons_zero, List.set_cons_succ]
    refine wpAnyH_take (i := 2) (oi := ?_) (v := ?_) ?_ (by kernel_rfl) (by kernel_rfl) (by kernel_rfl) ?_ ?_ (by assumption) ?_
    rotate_left 2; (simp only [List.getElem?_toArray, List.getElem?_cons_succ, List.getElem?_cons_zero]; rfl)
    rotate_left; (first | (refine .inl ⟨by rfl, ?_⟩; intro w9 hS9; go_simp; try with_reducible rfl) | (refine .inr ⟨by rfl, ?_⟩; with_reducible rfl))
    rotate_left; (intro _ _ _ h9; exact h9)
    try simp only [Act.put, List.setIfInBounds_toArray, List.set_cons_zero, List.set_cons_succ]
    refine wpAnyH_take (i := 3) (oi := ?_) (v := ?_) ?_ (by kernel_rfl) (by kernel_rfl) (by kernel_rfl) ?_ ?_ (by assumption) ?_
    rotate_left 2; (simp only [List.getElem?_toArray, List.getElem?_cons_succ, List.getElem?_cons_zero]; rfl)
    rotate_left; (first | (refine .inl ⟨by rfl, ?_⟩; intro w9 hS9; go_simp; try with_reducible rfl) | (refine .inr ⟨by rfl, ?_⟩; with_reducible rfl))
    rotate_left; (intro _ _ _ h9; exact h9)
    try simp only [Act.put, List.setIfInBounds_toArray, List.set_cons_zero, List.set_cons_succ]
    refine wpAnyH_take (i := 4) (oi := ?_) (v := ?_) ?_ (by kernel_rfl) (by kernel_rfl) (by kernel_rfl) ?_ ?_ (by assumption) ?_
    rotate_left 2; (simp only [List.getElem?_toArray, List.getElem?_cons_succ, List.getElem?_cons_zero]; rfl)
    rotate_left; (first | (refine .inl ⟨by rfl, ?_⟩; intro w9 hS9; go_simp; try with_reducible rfl) | (refine .inr ⟨by rfl, ?_⟩; with_reducible rfl))
    rotate_left; (intro _ _ _ h9; exact h9)
    try simp only [Act.put, List.setIfInBounds_toArray, List.set_cons_zero, List.set_cons_succ]
    refine wpAnyH_take (i := 5) (oi := ?_) (v := ?_) ?_ (by kernel_rfl) (by kernel_rfl) (by kernel_rfl) ?_ ?_ (by assumption) ?_
    rotate_left 2; (simp only [List.getElem?_toArray, List.getElem?_cons_succ, List.getElem?_cons_zero]; rfl)
    rotate_left; (first | (refine .inl ⟨by rfl, ?_⟩; intro w9 hS9; go_simp; try with_reducible rfl) | (refine .inr ⟨by rfl, ?_⟩; with_reducible rfl))
    rotate_left; (intro _ _ _ h9; exact h9)
    try simp only [Act.put, List.setIfInBounds_toArray, List.set_cons_zero, List.set_cons_succ]
    refine wpAnyH_take (i := 6) (oi := ?_) (v := ?_) ?_ (by kernel_rfl) (by kernel_rfl) (by kernel_rfl) ?_ ?_ (by assumption) ?_
    rotate_left 2; (simp only [List.getElem?_toArray, List.getElem?_cons_succ, List.getElem?_cons_zero]; rfl)
    rotate_left; (first | (refine .inl ⟨by rfl, ?_⟩; intro w9 hS9; go_simp; try with_reducible rfl) | (refine .inr ⟨by rfl, ?_⟩; with_reducible rfl))
    rotate_left; (intro _ _ _ h9; exact h9)
    try simp only [Act.put, List.setIfInBounds_toArray, List.set_cons_zero, List.set_cons_succ]
    refine wpAnyH_take (i := 7) (oi := ?_) (v := ?_) ?_ (by kernel_rfl) (by kernel_rfl) (by kernel_rfl) ?_ ?_ (by assumption) ?_
    rotate_left 2; (simp only [List.getElem?_toArray, List.getElem?_cons_succ, List.getElem?_cons_zero]; rfl)
    rotate_left; (first | (refine .inl ⟨by rfl, ?_⟩; intro w9 hS9; go_simp; try with_reducible rfl) | (refine .inr ⟨by rfl, ?_⟩; with_reducible rfl))
    rotate_left; (intro _ _ _ h9; exact h9)
    try simp only [Act.put, List.setIfInBounds_toArray, List.set_cons_zero, List.set_cons_succ]
    refine wpAnyH_take (i := 8) (oi := ?_) (v := ?_) ?_ (by kernel_rfl) (by kernel_rfl) (by kernel_rfl) ?_ ?_ (by assumption) ?_
    rotate_left 2; (simp only [List.getElem?_toArray, List.getElem?_cons_succ, List.getElem?_cons_zero]; rfl)
    rotate_left; (first | (refine .inl ⟨by rfl, ?_⟩; intro w9 hS9; go_simp; try with_reducible rfl) | (refine .inr ⟨by rfl, ?_⟩; with_reducible rfl))
    rotate_left; (intro _ _ _ h9; exact h9)
    try simp only [Act.put, List.setIfInBounds_toArray, List.set_cons_zero, List.set_cons_succ]
    refine wpAnyH_take (i := 9) (oi := ?_) (v := ?_) ?_ (by kernel_rfl) (by kernel_rfl) (by kernel_rfl) ?_ ?_ (by assumption) ?_
    rotate_left 2; (simp only [List.getElem?_toArray, List.getElem?_cons_succ, List.getElem?_cons_zero]; rfl)
    rotate_left; (first | (refine .inl ⟨by rfl, ?_⟩; intro w9 hS9; go_simp; try with_reducible rfl) | (refine .inr ⟨by rfl, ?_⟩; with_reducible rfl))
    rotate_left; (intro _ _ _ h9; exact h9)
    try simp only [Act.put, List.setIfInBounds_toArray, List.set_cons_zero, List.set_cons_succ]
    refine wpAnyH_done (by kernel_rfl) ?_ _
    have HH := Lib.hid (H.out.below hS0)
    have HB := Lib.hid hS0
    clear hS0 y0 y1
    generalize w.drew = wd at *
    go_wp2_with fail
    go_loopw [8] (fun s8 wr => wd = wr ∧ ∃ j : Nat, j ≤ k ∧ s8 = .int .i64 j) (fun s8 _ => k - (intOf s8).toNat)
    case atStart => exact ⟨rfl, 0, Nat.zero_le _, rfl⟩
    case round =>
      obtain ⟨rfl, j, hj, rfl⟩ := hrel
      by_cases hlt : j < k
      · have HJ := Lib.hid hlt
        have hjk : (j : Int) ≤ 64 := by have := HK.out; omega
        clear hlt hj
        go_wp2_with fail
        refine (rw_at g _ P L j wd HH.out).mono ?_
        rintro e w' ⟨rfl, rfl⟩
        obtain ⟨i, hi⟩ : ∃ i : Nat, rAtI L j = i := by
          rcases rAt_bd L j with h | ⟨i, _, h, _⟩
          · exact absurd h (H1.out j HJ.out)
          · exact ⟨i, h⟩
        rw [hi]
        have hi0 : (0 : Int) ≤ (i : Int) := by omega
        clear hi
        go_wp2_with fail
        first
          | exact ⟨⟨trivial, j + 1, by have := HJ.out; omega, by go_num⟩, by have := HJ.out; simp [intOf]; omega⟩
          | (refine ⟨⟨_, _, _, _, _, _, _, ⟨trivial, j + 1, ?_, ?_⟩, rfl⟩, ?_⟩; (have := HJ.out; omega); go_num; (have := HJ.out; simp [intOf]; omega))
      · obtain rfl : j = k := by omega
        clear hlt hj
        go_wp2_with fail
        refine (rw_at g _ P L j wd HH.out).mono ?_
        rintro e w' ⟨rfl, rfl⟩
        rw [H2.out]
        have hgl2 : g < wd.heap.size := Nat.lt_of_lt_of_le hgl HB.out.size
        have y1 := HH.out.cells.2 wd (Below.refl _ _)
        have hbn := below_new wd (.cells #[.int .i64 j, .int .i64 tag, .int .i64 ticks] 63)
        have HN := Lib.hid (show RE rtc (wd.alloc (.cells #[.int .i64 j, .int .i64 tag, .int .i64 ticks] 63)) (some ⟨wd.heap.size, 0, none⟩) 1 1 [⟨j, tag, ticks⟩] from re_lit (f := rtc) (e := 63) rtc_len wd [⟨j, tag, ticks⟩] (by simp))
        have HO2 := Lib.hid ((HH.out.below hbn).own)
        have HHP2 := Lib.hid ((HH.out.below hbn).heap)
        have HBN := Lib.hid hbn
        have HML := Lib.hid (show m ≤ 64 from HF.out)
        clear hbn
        go_wp2_with (at_builtin; go_must (refine wpList_append_fr rtT rtc_len rtc_one rfl _ _ rfl _ L rfl HO2.out _ _ _ [⟨j, tag, ticks⟩] rfl HN.out (by have := HML.out; have := HM.out; simp; omega) (by have := HML.out; have := HM.out; simp; omega) ?_); intro v7 w7 hown7 hg7 hf7; go_must (obtain ⟨A7, l7, c7, rfl⟩ : ∃ A l c, v7 = .slice A l c := (by obtain ⟨A, c, e, _⟩ := hown7.re (by have := HML.out; have := HM.out; simp; omega); exact ⟨_, _, _, e⟩); have hh7 : w7.heap[g]? = some (.cells #[.int .i64 P, .slice A0 m c0] 55 (0, 0)) := ((hg7.block g (Nat.lt_of_lt_of_le hgl2 HBN.out.size) (fun e => HAP.out e.symm)).trans HHP2.out); have z0 : w7.cell? ⟨g, 1, none⟩ = some (.slice A0 m c0) := (by simp [World.cell?, hh7]); have z1 : w7.frozen? ⟨g, 1, none⟩ = false := (by simp [World.frozen?, hh7]); have HOWN7 := Lib.hid hown7; have HG7 := Lib.hid hg7; have HF7 := Lib.hid hf7; have HH7 := Lib.hid hh7; clear hown7 hg7 hf7 hh7))
        go_ret2
        have ha7 : (Value.slice A7 l7 c7).ownBlock ≠ some g := fun e => by
          rcases HF7.out g e with h | h
          · exact HAP.out h
          · have := HBN.out.size; omega
        refine ⟨j, 0, _, rfl, ⟨⟨_, RfW.setRow HH7.out HOWN7.out ha7 (by have := HM.out; have := HFU.out; have := HP.out; simp; omega) HP.out, fun b hb => ?_⟩, ?_⟩, .inr (.inr ⟨HT.out, by rw [HM.out]; exact HFU.out, rfl, rfl, rfl⟩)⟩
        · rcases HF7.out b hb with h | h
          · exact .inl h
          · exact .inr (Nat.le_trans (Nat.le_trans HB.out.size HBN.out.size) h)
        · have f1 : Fr (fun b => b = g ∨ (Value.slice A0 m c0).ownBlock = some b) w _ := (Fr.ofBelow HB.out _).trans (Fr.ofBelow HBN.out (fun _ => False)) (fun _ h => h.elim)
          exact (f1.trans (Fr.ofGrown HG7.out) (fun b hb => .inl (.inr hb.symm))).trans (fr_setCell (F := fun b => b = g) _ _ rfl) (fun b hb => .inl (.inl hb))
end Go.Proofs.YtpfoocndohpbbaaDoor
