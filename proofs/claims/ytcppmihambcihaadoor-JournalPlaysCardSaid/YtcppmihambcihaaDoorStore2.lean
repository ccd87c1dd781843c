/- store.Store: Read, Write. -/
import Derived.Test.YtcppmihambcihaaDoorStore
namespace Go.Proofs.YtcppmihambcihaaDoor
open Go.RowKit
set_option linter.unusedVariables false
set_option linter.unusedSimpArgs false

/-- What is read. -/
def stRead (xs : List UInt8) (at_ k : Int) : List UInt8 := if 1 ≤ k ∧ stIn xs.length at_ k = true then (xs.drop at_.toNat).take k.toNat else []
theorem stIn_iff {n : Nat} {at_ k : Int} : stIn n at_ k = true ↔ 0 ≤ at_ ∧ at_ ≤ n ∧ k ≤ n - at_ := by simp [stIn, and_assoc]

set_option maxHeartbeats 2000000 in
theorem st_read (g gb : Nat) (xs : List UInt8) (lim : Option Nat) (dead : Bool) (at_ k : Int) (w : World) (h : StIs w g gb xs lim dead) :
    Calls Tryd.prog 15 #[.pointer (some ⟨g, 0, none⟩), .int .i64 at_, .int .i64 k] w fun e w' => ∃ v, e = .returned v ∧ OwnB w' w.heap.size v (stRead xs at_ k) ∧ Below w.heap.size w w' := by
  unfold stRead
  have hin := Lib.hid (fun w => st_in g gb xs lim dead at_ k w)
  by_cases h1 : 1 ≤ k
  · have h1' : ¬ k < 1 := by omega
    cases hb : stIn xs.length at_ k with
    | false =>
      have Hb := Lib.hid hb
      rw [if_neg (by simp)]
      clear hb
      go_enter Tryd.func15, Tryd.ntmps15
      go_wp2_with fail
      refine (hin.out _ h).mono ?_
      rintro e w' ⟨rfl, rfl⟩
      rw [Hb.out]
      clear h
      go_wp2_with fail
      go_ret
      exact ⟨_, rfl, OwnB.nil _ _, Below.refl _ _⟩
    | true =>
      have Hb := Lib.hid hb
      rw [if_pos ⟨h1, rfl⟩]
      obtain ⟨i0, i1, i2⟩ := stIn_iff.1 hb
      obtain ⟨a, rfl⟩ := Int.eq_ofNat_of_zero_le i0
      obtain ⟨m, rfl⟩ := Int.eq_ofNat_of_zero_le (show 0 ≤ k by omega)
      rw [show ((a : Int)).toNat = a from rfl, show ((m : Int)).toNat = m from rfl]
      have hh := h
      obtain ⟨cur, left, h9⟩ := hh
      obtain ⟨c0, c1, c2, c3⟩ := h9.cells
      have hs := h9.small
      have hrs := ((h9.buf.rs xs.length xs.length rfl (Nat.le_refl _) (by omega)).sub a (by omega)).take m (by omega)
      have sl := fun w => by_slice_lh w (some ⟨gb, 0, none⟩) xs.length xs.length a (a + m) (by omega) (by omega) (a : Int) ((a : Int) + m) rfl (by omega)
      rw [show a + m - a = m by omega] at sl
      have hcl := Lib.hid (by_clone (subA (some ⟨gb, 0, none⟩) xs.length a) m (xs.length - a) _ w hrs (by omega))
      have HI := Lib.hid h
      clear h9 hrs hb c1 c2 c3 h
      generalize subA (some ⟨gb, 0, none⟩) xs.length a = D at sl hcl
      generalize hL : xs.length = L at *
      have HL := Lib.hid hL
      clear hL
      go_enter Tryd.func15, Tryd.ntmps15
      go_wp2_with fail
      refine (hin.out _ HI.out).mono ?_
      rintro e w' ⟨rfl, rfl⟩
      rw [Hb.out]
      go_wp2_with fail
      refine hcl.out.mono ?_
      rintro e w' ⟨v, rfl, hown, hbw⟩
      have H1 := Lib.hid hown
      have H2 := Lib.hid hbw
      obtain ⟨Av, cv, rfl, _⟩ := hown.reads
      clear hown hbw
      generalize (List.take m (List.drop a xs)).length = N at H1 ⊢
      go_wp2_with fail
      go_ret
      exact ⟨_, rfl, H1.out, H2.out⟩
  · have h1' : k < 1 := by omega
    rw [if_neg (fun h => h1 h.1)]
    go_enter Tryd.func15, Tryd.ntmps15
    go_wp2_with fail
    go_ret
    exact ⟨_, rfl, OwnB.nil _ _, Below.refl _ _⟩

/-! ### Write -/
set_option maxHeartbeats 2000000 in
theorem st_write_dead (g gb : Nat) (xs : List UInt8) (lim : Option Nat) (at_ : Int) (A : Option Addr) (m c : Nat) (w : World) (h : StIs w g gb xs lim true) :
    Calls Tryd.prog 31 #[.pointer (some ⟨g, 0, none⟩), .int .i64 at_, .slice A m c] w fun e w' => ∃ v, e = .returned v ∧ ErrN w' 1 v 7 ∧ Below w.heap.size w w' := by
  obtain ⟨cur, left, h⟩ := h
  obtain ⟨c0, c1, c2, c3⟩ := h.cells
  clear h
  go_enter Tryd.func31, Tryd.ntmps31
  go_wp2_with fail
  refine (fault_new 7 _ _ (by decide)).mono ?_
  rintro e w' ⟨v, rfl, he, hb⟩
  have H1 := Lib.hid he
  have H2 := Lib.hid hb
  obtain ⟨t, u, rfl⟩ := he.iface
  clear he hb c0 c1 c2 c3
  go_wp2_with fail
  go_ret
  exact ⟨_, rfl, H1.out, H2.out⟩
set_option maxHeartbeats 2000000 in
theorem st_write_range (g gb : Nat) (xs : List UInt8) (lim : Option Nat) (at_ : Int) (A : Option Addr) (m c : Nat) (w : World) (h : StIs w g gb xs lim false) (hin : stIn xs.length at_ m = false) :
    Calls Tryd.prog 31 #[.pointer (some ⟨g, 0, none⟩), .int .i64 at_, .slice A m c] w fun e w' => ∃ v, e = .returned v ∧ ErrN w' 1 v 6 ∧ Below w.heap.size w w' := by
  have hi := Lib.hid (fun w => st_in g gb xs lim false at_ m w)
  have HI := Lib.hid h
  have Hn := Lib.hid hin
  obtain ⟨cur, left, h⟩ := h
  obtain ⟨c0, c1, c2, c3⟩ := h.cells
  clear h hin
  go_enter Tryd.func31, Tryd.ntmps31
  go_wp2_with fail
  refine (hi.out _ HI.out).mono ?_
  rintro e w' ⟨rfl, rfl⟩
  rw [Hn.out]
  go_wp2_with fail
  refine (fault_new 6 _ _ (by decide)).mono ?_
  rintro e w' ⟨v, rfl, he, hb⟩
  have H1 := Lib.hid he
  have H2 := Lib.hid hb
  obtain ⟨t, u, rfl⟩ := he.iface
  clear he hb c0 c1 c2 c3
  go_wp2_with fail
  go_ret
  exact ⟨_, rfl, H1.out, H2.out⟩

set_option maxHeartbeats 4000000 in
set_option maxRecDepth 100000 in
theorem st_write_fits (g gb : Nat) (xs : List UInt8) (lim : Option Nat) (a : Nat) (A : Option Addr) (m c : Nat) (ys : List UInt8) (w : World) (h : StIs w g gb xs lim false) (hr : RS w A m c ys) (hin : a + m ≤ xs.length) (hlim : ∀ k, lim = some k → m ≤ k) :
    Calls Tryd.prog 31 #[.pointer (some ⟨g, 0, none⟩), .int .i64 a, .slice A m c] w fun e w' => e = .returned .nilIface ∧ StIs w' g gb (splice xs a ys) (lim.map (· - m)) false ∧ Fr (fun k => k = g ∨ k = gb) w w' := by
  have hi := Lib.hid (fun w => st_in g gb xs lim false a m w)
  have Hn := Lib.hid (show stIn xs.length a m = true from stIn_iff.2 ⟨by omega, by omega, by omega⟩)
  have HI := Lib.hid h
  obtain ⟨cur, left, h⟩ := h
  obtain ⟨c0, c1, c2, c3⟩ := h.cells
  have hs := h.small
  have f2 := h.frees 2
  have hap := h.apart
  have sl : ∀ w', (Instr.slice 29 (.slice (some ⟨gb, 0, none⟩) xs.length xs.length) (some (.int .i64 (a : Int))) none none).run Tryd.prog w' = .ok (.slice (subA (some ⟨gb, 0, none⟩) xs.length a) (xs.length - a) (xs.length - a)) w' := fun w' => by_slice_l w' (some ⟨gb, 0, none⟩) xs.length xs.length a (by omega) (a : Int) rfl
  have hD : 0 < m → subA (some ⟨gb, 0, none⟩) xs.length a = some ⟨gb, a, none⟩ := fun h0 => by
    unfold subA
    rw [if_neg (by omega)]
    simp [add_at]
  generalize subA (some ⟨gb, 0, none⟩) xs.length a = D at sl hD
  have hle := h.buf.le
  have hml := hr.len
  have hhp := h.buf.heap
  have hrb := hr.rb
  have HS := Lib.hid (show ∀ (wb : World) (z : Int), wb.heap[gb]? = some (.cells (Go.splice cur a ((ys.take m).map bv)).toArray 5 (0, 0)) → Fr (fun i => i = gb) w wb → (∀ k, lim = some k → z = ((k - m : Nat) : Int)) →
      wb.cell? ⟨g, 2, none⟩ = some (.int .i64 left) ∧ wb.frozen? ⟨g, 2, none⟩ = false ∧ StIs (wb.setCell ⟨g, 2, none⟩ (.int .i64 z)) g gb (Go.splice xs a ys) (lim.map (· - m)) false ∧ Fr (fun k => k = g ∨ k = gb) w (wb.setCell ⟨g, 2, none⟩ (.int .i64 z)) from by
    intro wb z hh hf hz
    rw [List.take_of_length_le (by omega)] at hh
    have hbf := h.buf.splice (by omega) hh
    have hg : wb.heap[g]? = _ := (hf.block g h.lt (fun e => hap e.symm)).trans h.heap
    have hfs := fr_setCell (F := fun k => k = g) (w := wb) ⟨g, 2, none⟩ (.int .i64 z) rfl
    refine ⟨(hf.cell (p := ⟨g, 2, none⟩) h.lt (fun e => hap e.symm)).trans c2, (hf.frozen (p := ⟨g, 2, none⟩) h.lt (fun e => hap e.symm)).trans f2, ⟨_, z, ?_, hbf.fr hfs hap, hap, by rw [length_splice _ _ _ (by omega)]; exact hs, ?_⟩, ?_⟩
    · rw [length_splice _ _ _ (by omega), Option.isSome_map]
      simp [World.setCell, Array.getElem?_modify, hg]
    · intro k hk
      cases hl : lim with
      | none => rw [hl] at hk; cases hk
      | some k' =>
        rw [hl] at hk
        simp only [Option.map_some, Option.some.injEq] at hk
        have := h.lim k' hl
        exact ⟨by rw [hz k' hl, ← hk], by omega⟩
    · exact (hf.mono (fun _ _ e => .inr e)).trans hfs (fun _ e => .inl (.inl e)))
  have HL := Lib.hid hle
  have hfit : a + m ≤ cur.length := by omega
  have hmin : m = min m (xs.length - a) := by omega
  have HM := Lib.hid hmin
  have hlm := Lib.hid (show ∀ k, lim = some k → left = k ∧ k ≤ 9223372036854775807 from h.lim)
  clear h hle hmin hml hr
  generalize hLn : xs.length = L at *
  clear hLn
  cases lim with
  | none =>
    go_enter Tryd.func31, Tryd.ntmps31
    go_wp2_with fail
    refine (hi.out _ HI.out).mono ?_
    rintro e w' ⟨rfl, rfl⟩
    rw [Hn.out]
    go_wp2_with (with_reducible show wpList _ _ _ (Oper.mk _ (Op.call { callee := Callee.builtin Builtin.copy, args := _, argTypes := _ }) _ _ _ _ :: _) _ _; go_must (refine wpList_copy_raw rfl _ _ rfl gb a cur hhp _ _ _ rfl _ _ _ ys rfl hrb m HM.out hD hfit ?_); intro wb hh hf; have Hh := Lib.hid hh; have Hf := Lib.hid hf; obtain ⟨d2, g2, _, _⟩ := HS.out wb 0 hh hf (fun _ h => by cases h); clear hh hf)
    go_ret
    exact ⟨rfl, (HS.out wb _ Hh.out Hf.out (fun _ h => by cases h)).2.2.1, (HS.out wb _ Hh.out Hf.out (fun _ h => by cases h)).2.2.2⟩
  | some k =>
    obtain ⟨rfl, hk63⟩ := hlm.out k rfl
    have hmk := hlim k rfl
    have hmk' : ¬ (k : Int) < m := by omega
    have hk64 : (k : Int) ≤ 9223372036854775807 := by omega
    clear hlim
    go_enter Tryd.func31, Tryd.ntmps31
    go_wp2_with fail
    refine (hi.out _ HI.out).mono ?_
    rintro e w' ⟨rfl, rfl⟩
    rw [Hn.out]
    go_wp2_with (with_reducible show wpList _ _ _ (Oper.mk _ (Op.call { callee := Callee.builtin Builtin.copy, args := _, argTypes := _ }) _ _ _ _ :: _) _ _; go_must (refine wpList_copy_raw rfl _ _ rfl gb a cur hhp _ _ _ rfl _ _ _ ys rfl hrb m HM.out hD hfit ?_); intro wb hh hf; have Hh := Lib.hid hh; have Hf := Lib.hid hf; obtain ⟨d2, g2, _, _⟩ := HS.out wb ((k : Int) - m) hh hf (fun k' h => by cases h; omega); clear hh hf)
    go_ret
    exact ⟨rfl, (HS.out wb _ Hh.out Hf.out (fun k' h => by cases h; omega)).2.2.1, (HS.out wb _ Hh.out Hf.out (fun k' h => by cases h; omega)).2.2.2⟩

set_option maxHeartbeats 4000000 in
set_option maxRecDepth 100000 in
theorem st_write_torn (g gb : Nat) (xs : List UInt8) (k : Nat) (a : Nat) (A : Option Addr) (m c : Nat) (ys : List UInt8) (w : World) (h : StIs w g gb xs (some k) false) (hr : RS w A m c ys) (hA : 0 < m → ∀ b off, A = some ⟨b, off, none⟩ → True) (hin : a + m ≤ xs.length) (hk : k < m) :
    Calls Tryd.prog 31 #[.pointer (some ⟨g, 0, none⟩), .int .i64 a, .slice A m c] w fun e w' => ∃ v, e = .returned v ∧ ErrN w' 1 v 7 ∧ StIs w' g gb (splice xs a (ys.take k)) (some 0) true ∧ Fr (fun k => k = g ∨ k = gb) w w' := by
  have hi := Lib.hid (fun w => st_in g gb xs (some k) false a m w)
  have Hn := Lib.hid (show stIn xs.length a m = true from stIn_iff.2 ⟨by omega, by omega, by omega⟩)
  have HI := Lib.hid h
  obtain ⟨cur, left, h⟩ := h
  obtain ⟨rfl, hk63⟩ := h.lim k rfl
  obtain ⟨c0, c1, c2, c3⟩ := h.cells
  have hs := h.small
  have f2 := h.frees 2
  have f3 := h.frees 3
  have hap := h.apart
  have sl : ∀ w', (Instr.slice 29 (.slice (some ⟨gb, 0, none⟩) xs.length xs.length) (some (.int .i64 (a : Int))) none none).run Tryd.prog w' = .ok (.slice (subA (some ⟨gb, 0, none⟩) xs.length a) (xs.length - a) (xs.length - a)) w' := fun w' => by_slice_l w' (some ⟨gb, 0, none⟩) xs.length xs.length a (by omega) (a : Int) rfl
  have hcap := hr.cap
  have sh : ∀ w', (Instr.slice 29 (.slice A m c) none (some (.int .i64 (k : Int))) none).run Tryd.prog w' = .ok (.slice A k c) w' := fun w' => by_slice_h w' A m c k (by omega) (k : Int) rfl
  have hD : 0 < m → subA (some ⟨gb, 0, none⟩) xs.length a = some ⟨gb, a, none⟩ := fun h0 => by
    unfold subA
    rw [if_neg (by omega)]
    simp [add_at]
  generalize subA (some ⟨gb, 0, none⟩) xs.length a = D at sl hD
  have hle := h.buf.le
  have hml := hr.len
  have hhp := h.buf.heap
  have hrb := hr.rb.take k (by omega)
  have HS := Lib.hid (show ∀ (wb : World), wb.heap[gb]? = some (.cells (Go.splice cur a (((ys.take k).take k).map bv)).toArray 5 (0, 0)) → Fr (fun i => i = gb) w wb →
      (wb.cell? ⟨g, 2, none⟩ = some (.int .i64 k) ∧ wb.frozen? ⟨g, 2, none⟩ = false ∧ wb.cell? ⟨g, 3, none⟩ = some (.bool false) ∧ wb.frozen? ⟨g, 3, none⟩ = false) ∧ StIs ((wb.setCell ⟨g, 2, none⟩ (.int .i64 0)).setCell ⟨g, 3, none⟩ (.bool true)) g gb (Go.splice xs a (ys.take k)) (some 0) true ∧ Fr (fun k => k = g ∨ k = gb) w ((wb.setCell ⟨g, 2, none⟩ (.int .i64 0)).setCell ⟨g, 3, none⟩ (.bool true)) from by
    intro wb hh hf
    rw [List.take_take, Nat.min_self] at hh
    have hbf := h.buf.splice (by rw [List.length_take]; omega) hh
    have hg : wb.heap[g]? = _ := (hf.block g h.lt (fun e => hap e.symm)).trans h.heap
    have hfs := fr_same (fr_setCell (F := fun k => k = g) (w := wb) ⟨g, 2, none⟩ (.int .i64 0) rfl) (fr_setCell (F := fun k => k = g) ⟨g, 3, none⟩ (.bool true) rfl)
    refine ⟨⟨(hf.cell (p := ⟨g, 2, none⟩) h.lt (fun e => hap e.symm)).trans c2, (hf.frozen (p := ⟨g, 2, none⟩) h.lt (fun e => hap e.symm)).trans f2, (hf.cell (p := ⟨g, 3, none⟩) h.lt (fun e => hap e.symm)).trans c3, (hf.frozen (p := ⟨g, 3, none⟩) h.lt (fun e => hap e.symm)).trans f3⟩, ⟨_, 0, ?_, hbf.fr hfs hap, hap, by rw [length_splice _ _ _ (by rw [List.length_take]; omega)]; exact hs, fun k e => by cases e; omega⟩, (hf.mono (fun _ _ e => .inr e)).trans hfs (fun _ e => .inl (.inl e))⟩
    rw [length_splice _ _ _ (by rw [List.length_take]; omega)]
    simp [World.setCell, Array.getElem?_modify, hg])
  have HX := Lib.hid (show ∀ w', Fr (fun i => i = gb) w w' → w'.cell? ⟨g, 0, none⟩ = some (.slice (some ⟨gb, 0, none⟩) xs.length xs.length) ∧ w'.cell? ⟨g, 2, none⟩ = some (.int .i64 k) from
    fun w' hf => ⟨(hf.cell (p := ⟨g, 0, none⟩) h.lt (fun e => hap e.symm)).trans c0, (hf.cell (p := ⟨g, 2, none⟩) h.lt (fun e => hap e.symm)).trans c2⟩)
  have hfit : a + k ≤ cur.length := by omega
  have HM := Lib.hid (show k = min k (xs.length - a) by omega)
  have hmk' : (k : Int) < m := by omega
  have hk64 : (k : Int) ≤ 9223372036854775807 := by omega
  clear h hle hml hr
  generalize hLn : xs.length = L at *
  clear hLn
  go_enter Tryd.func31, Tryd.ntmps31
  go_wp2_with fail
  refine (hi.out _ HI.out).mono ?_
  rintro e w' ⟨rfl, rfl⟩
  rw [Hn.out]
  go_wp2_with fail
  have x0 : ∀ w', Fr (fun i => i = gb) w w' → w'.cell? ⟨g, 0, none⟩ = some (.slice (some ⟨gb, 0, none⟩) L L) := fun w' hf => (HX.out w' hf).1
  have x2 : ∀ w', Fr (fun i => i = gb) w w' → w'.cell? ⟨g, 2, none⟩ = some (.int .i64 k) := fun w' hf => (HX.out w' hf).2
  have hS0 : Fr (fun i => i = gb) w w.drew := fr_drew _ w
  refine wp_region_held (S := fun w' => Fr (fun i => i = gb) w w') (by kernel_rfl) ?_
  change wpAnyH _ _ _ _ _ _ _ _ w.drew
  change wpAnyH _ _ _ _ _ 13 (Array.replicate 13 false) _ _
  refine wpAnyH_take (i := 0) (oi := ?_) (v := ?_) ?_ (by kernel_rfl) (by kernel_rfl) (by kernel_rfl) ?_ ?_ (by assumption) ?_
  rotate_left 2; (simp only [List.getElem?_toArray, List.getElem?_cons_succ, List.getElem?_cons_zero]; rfl)
  rotate_left; (first | (refine .inl ⟨by rfl, ?_⟩; intro w9 hS9; go_simp; try with_reducible rfl) | (refine .inr ⟨by rfl, ?_⟩; with_reducible rfl))
  rotate_left; (intro _ _ _ h9; exact h9)
  try simp only [Act.put, List.setIfInBounds_toArray, List.set_cons_zero, List.set_cons_succ]
  refine wpAnyH_take (i := 1) (oi := ?_) (v := ?_) ?_ (by kernel_rfl) (by kernel_rfl) (by kernel_rfl) ?_ ?_ (by assumption) ?_
  rotate_left 2; (simp only [List.getElem?_toArray, List.getElem?_cons_succ, List.getElem?_cons_zero]; rfl)
  rotate_left; (first | (refine .inl ⟨by rfl, ?_⟩; intro w9 hS9; go_simp; try with_reducible rfl) | (refine .inr ⟨by rfl, ?_⟩; with_reducible rfl))
  rotate_left; (intro _ _ _ h9; exact h9)
  try simp only [Act.put, List.setIfInBounds_toArray, List.set_cons_zero, List.set_cons_succ]
  refine wpAnyH_take (i := 2) (oi := ?_) (v := ?_) ?_ (by kernel_rfl) (by kernel_rfl) (by kernel_rfl) ?_ ?_ (by assumption) ?_
  rotate_left 2; (simp only [List.getElem?_toArray, List.getElem?_cons_succ, List.getElem?_cons_zero]; rfl)
  rotate_left; (first | (refine .inl ⟨by rfl, ?_⟩; intro w9 hS9; go_simp; try with_reducible rfl) | (refine .inr ⟨by rfl, ?_⟩; with_reducible rfl))
  rotate_left; (intro _ _ _ h9; exact h9)
  try simp only [Act.put, List.setIfInBounds_toArray, List.set_cons_zero, List.set_cons_succ]
  refine wpAnyH_take (i := 3) (oi := ?_) (v := ?_) ?_ (by kernel_rfl) (by kernel_rfl) (by kernel_rfl) ?_ ?_ (by assumption) ?_
  rotate_left 2; (simp only [List.getElem?_toArray, List.getElem?_cons_succ, List.getElem?_cons_zero]; rfl)
  rotate_left; (first | (refine .inl ⟨by rfl, ?_⟩; intro w9 hS9; go_simp; try with_reducible rfl) | (refine .inr ⟨by rfl, ?_⟩; with_reducible rfl))
  rotate_left; (intro _ _ _ h9; exact h9)
  try simp only [Act.put, List.setIfInBounds_toArray, List.set_cons_zero, List.set_cons_succ]
  refine wpAnyH_take (i := 4) (oi := ?_) (v := ?_) ?_ (by kernel_rfl) (by kernel_rfl) (by kernel_rfl) ?_ ?_ (by assumption) ?_
  rotate_left 2; (simp only [List.getElem?_toArray, List.getElem?_cons_succ, List.getElem?_cons_zero]; rfl)
  rotate_left; (first | (refine .inl ⟨by rfl, ?_⟩; intro w9 hS9; go_simp; try with_reducible rfl) | (refine .inr ⟨by rfl, ?_⟩; with_reducible rfl))
  rotate_left; (intro _ _ _ h9; exact h9)
  try simp only [Act.put, List.setIfInBounds_toArray, List.set_cons_zero, List.set_cons_succ]
  refine wpAnyH_take (i := 5) (oi := ?_) (v := ?_) ?_ (by kernel_rfl) (by kernel_rfl) (by kernel_rfl) ?_ ?_ (by assumption) ?_
  rotate_left 2; (simp only [List.getElem?_toArray, List.getElem?_cons_succ, List.getElem?_cons_zero]; rfl)
  rotate_left; (first | (refine .inl ⟨by rfl, ?_⟩; intro w9 hS9; go_simp; try with_reducible rfl) | (refine .inr ⟨by rfl, ?_⟩; with_reducible rfl))
  rotate_left; (intro _ _ _ h9; exact h9)
  try simp only [Act.put, List.setIfInBounds_toArray, List.set_cons_zero, List.set_cons_succ]
  refine wpAnyH_take (i := 6) (oi := ?_) (v := ?_) ?_ (by kernel_rfl) (by kernel_rfl) (by kernel_rfl) ?_ ?_ (by assumption) ?_
  rotate_left 2; (simp only [List.getElem?_toArray, List.getElem?_cons_succ, List.getElem?_cons_zero]; rfl)
  rotate_left; (first | (refine .inl ⟨by rfl, ?_⟩; intro w9 hS9; go_simp; try with_reducible rfl) | (refine .inr ⟨by rfl, ?_⟩; with_reducible rfl))
  rotate_left; (intro _ _ _ h9; exact h9)
  try simp only [Act.put, List.setIfInBounds_toArray, List.set_cons_zero, List.set_cons_succ]
  refine wpAnyH_take (i := 7) (oi := ?_) (v := ?_) ?_ (by kernel_rfl) (by kernel_rfl) (by kernel_rfl) ?_ ?_ (by assumption) ?_
  rotate_left 2; (simp only [List.getElem?_toArray, List.getElem?_cons_succ, List.getElem?_cons_zero]; rfl)
  rotate_left; (first | (refine .inl ⟨by rfl, ?_⟩; intro w9 hS9; go_simp; try with_reducible rfl) | (refine .inr ⟨by rfl, ?_⟩; with_reducible rfl))
  rotate_left; (intro _ _ _ h9; exact h9)
  try simp only [Act.put, List.setIfInBounds_toArray, List.set_cons_zero, List.set_cons_succ]
  refine wpAnyH_take (i := 8) (oi := ?_) (v := ?_) ?_ (by kernel_rfl) (by kernel_rfl) (by kernel_rfl) ?_ ?_ (by assumption) ?_
  rotate_left 2; (simp only [List.getElem?_toArray, List.getElem?_cons_succ, List.getElem?_cons_zero]; rfl)
  rotate_left; (first | (refine .inl ⟨by rfl, ?_⟩; intro w9 hS9; go_simp; try with_reducible rfl) | (refine .inr ⟨by rfl, ?_⟩; with_reducible rfl))
  rotate_left; (intro _ _ _ h9; exact h9)
  try simp only [Act.put, List.setIfInBounds_toArray, List.set_cons_zero, List.set_cons_succ]
  refine wpAnyH_take (i := 9) (oi := ?_) (v := ?_) ?_ (by kernel_rfl) (by kernel_rfl) (by kernel_rfl) ?_ ?_ (by assumption) ?_
  rotate_left 2; (simp only [List.getElem?_toArray, List.getElem?_cons_succ, List.getElem?_cons_zero]; rfl)
  rotate_left; (first | (refine .inl ⟨by rfl, ?_⟩; intro w9 hS9; go_simp; try with_reducible rfl) | (refine .inr ⟨by rfl, ?_⟩; with_reducible rfl))
  rotate_left; (intro _ _ _ h9; exact h9)
  try simp only [Act.put, List.setIfInBounds_toArray, List.set_cons_zero, List.set_cons_succ]
  refine wpAnyH_take (i := 10) (oi := ?_) (v := ?_) ?_ (by kernel_rfl) (by kernel_rfl) (by kernel_rfl) ?_ ?_ (by assumption) ?_
  rotate_left 2; (simp only [List.getElem?_toArray, List.getElem?_cons_succ, List.getElem?_cons_zero]; rfl)
  rotate_left; (first | (refine .inl ⟨by rfl, ?_⟩; intro w9 hS9; go_simp; try with_reducible rfl) | (refine .inr ⟨by rfl, ?_⟩; with_reducible rfl))
  rotate_left; (intro _ _ _ h9; exact h9)
  try simp only [Act.put, List.setIfInBounds_toArray, List.set_cons_zero, List.set_cons_succ]
  refine wpAnyH_take (i := 11) (oi := ?_) (v := ?_) ?_ (by kernel_rfl) (by kernel_rfl) (by kernel_rfl) ?_ ?_ (by assumption) ?_
  rotate_left 2; (simp only [List.getElem?_toArray, List.getElem?_cons_succ, List.getElem?_cons_zero]; rfl)
  rotate_left; (first | (refine .inl ⟨by rfl, ?_⟩; intro w9 hS9; go_simp; try with_reducible rfl) | (refine .inr ⟨by rfl, ?_⟩; with_reducible rfl))
  rotate_left; (intro _ _ _ h9; exact h9)
  try simp only [Act.put, List.setIfInBounds_toArray, List.set_cons_zero, List.set_cons_succ]
  refine wpAnyH_ready (rs := [12]) (by kernel_rfl) (by simp) (AllReadyH.cons (o := ?_) ?_ (fun K9 hK9 => ?_) AllReadyH.nil)
  rotate_left; (simp only [List.getElem?_toArray, List.getElem?_cons_succ, List.getElem?_cons_zero]; rfl)
  rw [if_pos (by rfl)]
  refine wp_copy_raw _ _ rfl gb a cur hhp _ _ _ rfl _ _ _ (ys.take k) rfl (hrb.below (below_drew1 w)) k HM.out (fun h0 => hD (by omega)) hfit ?_
  intro wb hh hf
  have hf2 := fr_same hS0 hf
  refine hK9.out _ _ hf2 (fun _ => ?_)
  refine wpAnyH_done (by kernel_rfl) ?_ _
  have Hh := Lib.hid hh
  have Hf := Lib.hid hf2
  obtain ⟨⟨d2, g2, d3, g3⟩, _, _⟩ := HS.out wb hh hf2
  clear hh hf hf2 hK9 hS0 x0 x2 c0 c1 c2 c3 f2 f3 sl sh hhp
  go_wp2_with fail
  refine (fault_new 7 _ _ (by decide)).mono ?_
  rintro e w' ⟨v, rfl, he, hb⟩
  obtain ⟨_, q1, q2⟩ := HS.out wb Hh.out Hf.out
  have H1 := Lib.hid he
  have H2 := Lib.hid (And.intro (q1.below hb) (fr_new q2 hb))
  obtain ⟨t, u, rfl⟩ := he.iface
  clear he hb q1 q2
  go_wp2_with fail
  go_ret
  exact ⟨_, rfl, H1.out, H2.out⟩
end Go.Proofs.YtcppmihambcihaaDoor
