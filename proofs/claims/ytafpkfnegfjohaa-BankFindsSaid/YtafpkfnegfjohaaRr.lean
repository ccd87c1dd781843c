/- The document's Reader: Num, Rest, Fine. -/
import Derived.Test.YtafpkfnegfjohaaRdr2
namespace Go.Proofs.Ytafpkfnegfjohaa
open Go.RowKit
set_option linter.unusedVariables false
set_option linter.unusedSimpArgs false

structure RrAt (w : World) (g bl : Nat) (A : Option Addr) (n c : Nat) (xs : List UInt8) (bad : Bool) : Prop where
  heap : w.heap[g]? = some (.cells #[.slice A n c, .bool bad] 62 (0, 0))
  rs : RS w A n c xs
  blk : 0 < n → ∃ off, A = some ⟨bl, off, none⟩
  apart : 0 < n → bl ≠ g
  small : n ≤ 140737488355328
def RrIs (w : World) (g bl : Nat) (xs : List UInt8) (bad : Bool) : Prop := ∃ A n c, RrAt w g bl A n c xs bad
theorem RrAt.lt {w : World} {g bl : Nat} {A : Option Addr} {n c : Nat} {xs : List UInt8} {bad : Bool} (h : RrAt w g bl A n c xs bad) : g < w.heap.size := (Array.getElem?_eq_some_iff.1 h.heap).1
theorem RrIs.lt {w : World} {g bl : Nat} {xs : List UInt8} {bad : Bool} (h : RrIs w g bl xs bad) : g < w.heap.size := by obtain ⟨A, n, c, h⟩ := h; exact h.lt
theorem RrIs.len {w : World} {g bl : Nat} {xs : List UInt8} {bad : Bool} (h : RrIs w g bl xs bad) : xs.length ≤ 140737488355328 := by obtain ⟨A, n, c, h⟩ := h; rw [h.rs.len]; exact h.small
theorem RrIs.fr {w w' : World} {g bl : Nat} {xs : List UInt8} {bad : Bool} (h : RrIs w g bl xs bad) {F : Nat → Prop} (hf : Fr F w w') (hg : ¬ F g) (hb : xs ≠ [] → ¬ F bl) : RrIs w' g bl xs bad := by
  obtain ⟨A, n, c, h⟩ := h
  have hne : 0 < n → xs ≠ [] := fun h0 e => by have := h.rs.len; rw [e] at this; simp at this; omega
  refine ⟨A, n, c, (hf.block g h.lt hg).trans h.heap, h.rs.fr hf (fun h0 b off e => ?_), h.blk, h.apart, h.small⟩
  obtain ⟨o, e2⟩ := h.blk h0
  rw [e2] at e; cases e; exact hb (hne h0)
theorem RrIs.below {w w' : World} {g bl : Nat} {xs : List UInt8} {bad : Bool} (h : RrIs w g bl xs bad) (hb : Below w.heap.size w w') : RrIs w' g bl xs bad := h.fr (Fr.ofBelow hb (fun _ => False)) id (fun _ => id)
theorem RrIs.noStep {w : World} {g bl : Nat} {xs : List UInt8} {bad : Bool} (h : RrIs w g bl xs bad) : NoStep w (fun k => k = g) := by
  obtain ⟨A, n, c, h⟩ := h
  exact noStep_block h.heap (by decide)
theorem RrAt.cell {w : World} {g bl : Nat} {A : Option Addr} {n c : Nat} {xs : List UInt8} {bad : Bool} (h : RrAt w g bl A n c xs bad) : w.cell? ⟨g, 0, none⟩ = some (.slice A n c) ∧ w.cell? ⟨g, 1, none⟩ = some (.bool bad) ∧ w.frozen? ⟨g, 0, none⟩ = false ∧ w.frozen? ⟨g, 1, none⟩ = false := by
  refine ⟨?_, ?_, ?_, ?_⟩ <;> simp [World.cell?, World.frozen?, h.heap]
theorem RrAt.setLeft {w : World} {g bl : Nat} {A : Option Addr} {n c : Nat} {xs : List UInt8} {bad : Bool} (h : RrAt w g bl A n c xs bad) {A' : Option Addr} {n' c' : Nat} {ys : List UInt8} (rs : RS w A' n' c' ys) (hn : n' ≤ n) (hblk : 0 < n' → ∃ off, A' = some ⟨bl, off, none⟩) :
    RrAt (w.setCell ⟨g, 0, none⟩ (.slice A' n' c')) g bl A' n' c' ys bad := by
  have hf := fr_setCell (F := fun k => k = g) (w := w) ⟨g, 0, none⟩ (.slice A' n' c') rfl
  refine ⟨by simp [World.setCell, Array.getElem?_modify, h.heap], rs.fr hf (fun h0 b off e e2 => ?_), hblk, fun h0 => h.apart (by omega), by have := h.small; omega⟩
  obtain ⟨o, e3⟩ := hblk h0
  rw [e3] at e; cases e
  exact h.apart (by omega) e2
theorem RrAt.setBad {w : World} {g bl : Nat} {A : Option Addr} {n c : Nat} {xs : List UInt8} {bad : Bool} (h : RrAt w g bl A n c xs bad) : RrAt (w.setCell ⟨g, 1, none⟩ (.bool true)) g bl A n c xs true := by
  have hf := fr_setCell (F := fun k => k = g) (w := w) ⟨g, 1, none⟩ (.bool true) rfl
  refine ⟨by simp [World.setCell, Array.getElem?_modify, h.heap], h.rs.fr hf (fun h0 b off e e2 => ?_), h.blk, h.apart, h.small⟩
  obtain ⟨o, e3⟩ := h.blk h0
  rw [e3] at e; cases e
  exact h.apart h0 e2

set_option maxHeartbeats 2000000 in
set_option maxRecDepth 100000 in
theorem rr_num (k : Nat) (hk0 : 0 < k) (hk : k ≤ 4) (g bl : Nat) (xs : List UInt8) (bad : Bool) (w : World) (h : RrIs w g bl xs bad) (hb : bad = true → xs = []) :
    Calls Try.prog 36 #[.pointer (some ⟨g, 0, none⟩), .int .i64 k] w fun e w' => e = .returned (.int .u32 (rdVal k xs)) ∧ RrIs w' g bl (rdLeft k xs) (rdBad k xs bad) ∧ Fr (fun k => k = g) w w' := by
  obtain ⟨A, n, c, h⟩ := h
  obtain ⟨c0, c1, f0, f1⟩ := h.cell
  have hl := h.rs.len
  have hsm := h.small
  by_cases hs : xs.length < k
  · unfold rdVal rdLeft rdBad
    rw [if_pos hs, if_pos hs, if_pos hs]
    have h1 := h.setBad
    have hres := Lib.hid (h1.setLeft (RS.none _) (Nat.zero_le _) (fun h0 => absurd h0 (by omega)))
    have hfr := Lib.hid (fr_same (fr_setCell (F := fun k => k = g) (w := w) ⟨g, 1, none⟩ (.bool true) rfl) (fr_setCell (F := fun k => k = g) ⟨g, 0, none⟩ (.slice none 0 0) rfl))
    obtain ⟨d0, d1, e0, e1⟩ := h1.cell
    have hnk : (n : Int) < k := by omega
    clear hl hb h h1 d1 e1
    cases bad with
    | true =>
      go_enter Try.func36, Try.ntmps36
      go_wp2_with fail
      go_ret
      exact ⟨rfl, ⟨_, _, _, hres.out⟩, hfr.out⟩
    | false =>
      go_enter Try.func36, Try.ntmps36
      go_wp2_with fail
      go_ret
      exact ⟨rfl, ⟨_, _, _, hres.out⟩, hfr.out⟩
  · have hbf : bad = false := by
      cases bad with
      | false => rfl
      | true => have := hb rfl; rw [this] at hs; simp at hs; omega
    subst hbf
    unfold rdVal rdLeft rdBad
    rw [if_neg hs, if_neg hs, if_neg hs]
    have hnk : ¬ (n : Int) < k := by omega
    have hkn : k ≤ n := by omega
    obtain ⟨b, off, rfl, _, hc⟩ := h.rs.rb.cells (by omega)
    have hsub := h.rs.sub k hkn
    have sl := fun w => by_slice_l w (some ⟨b, off, none⟩) n c k hkn k rfl
    obtain rfl : b = bl := by
      obtain ⟨o, e⟩ := h.blk (by omega)
      cases e; rfl
    have hres := Lib.hid (h.setLeft hsub (by omega) (fun h0 => by
      unfold subA
      split
      · exact ⟨_, rfl⟩
      · exact ⟨off + k, by simp [add_at]⟩))
    have hfr := Lib.hid (fr_setCell (F := fun k => k = g) (w := w) ⟨g, 0, none⟩ (.slice (subA (some ⟨b, off, none⟩) c k) (n - k) (c - k)) rfl)
    have hL := Lib.hid hl
    clear h hl hb hsub f1 hs
    generalize subA (some ⟨b, off, none⟩) c k = A2 at sl hres hfr
    go_enter Try.func36, Try.ntmps36
    go_wp2_with fail
    go_loop [5, 6] (fun s5 s6 => ∃ j : Nat, j ≤ k ∧ s5 = .int .u32 ((beVal (xs.take j) : Nat) : Int) ∧ s6 = .int .i64 j) (fun _ i => k - (intOf i).toNat)
    case atStart => exact ⟨0, by omega, rfl, rfl⟩
    case round =>
      obtain ⟨j, hj, rfl, rfl⟩ := hrel
      by_cases hlt : j < k
      · have hlt' : (j : Int) < k := by omega
        have hv : beVal (xs.take j) < 16777216 := by
          have := beVal_lt (xs.take j)
          rw [List.length_take, Nat.min_eq_left (by rw [hL.out]; omega)] at this
          have h3 : 256 ^ j ≤ 256 ^ 3 := Nat.pow_le_pow_right (by omega) (by omega)
          omega
        have hth := Lib.hid (take_head xs j (by rw [hL.out]; omega))
        have x0 := hc j (by omega)
        have e9 : xs.getD j 0 = (xs.drop j).headD 0 := by rw [List.drop_eq_getElem_cons (by rw [hL.out]; omega)]; simp [List.getD_eq_getElem?_getD, List.getElem?_eq_getElem (show j < xs.length by rw [hL.out]; omega)]
        rw [e9] at x0
        unfold bv at x0
        have hvs := Lib.hid (beVal_snoc (xs.take j) ((xs.drop j).headD 0))
        have hbd := nb_bd ((xs.drop j).headD 0)
        have hnb := Lib.hid (show nb ((xs.drop j).headD 0) = (((xs.drop j).headD 0).toNat : Int) from rfl)
        clear hc e9 sl hnk
        generalize (xs.drop j).headD 0 = y at hth x0 hvs hbd hnb
        generalize beVal (xs.take j) = s at hvs hv ⊢
        have hv' : (s : Int) < 16777216 := by omega
        have hjn : (j : Int) < n := by omega
        go_wp2_with fail
        exact ⟨⟨j + 1, by omega, by rw [hth.out, hvs.out, hnb.out]; simp, by go_num⟩, by simp [intOf]; omega⟩
      · obtain rfl : j = k := by omega
        have hv : beVal (xs.take j) < 4294967296 := by
          have := beVal_lt (xs.take j)
          rw [List.length_take, Nat.min_eq_left (by rw [hL.out]; omega)] at this
          have h3 : 256 ^ j ≤ 256 ^ 4 := Nat.pow_le_pow_right (by omega) (by omega)
          omega
        clear hc hnk
        go_wp2_with fail
        go_ret
        exact ⟨rfl, ⟨_, _, _, hres.out⟩, hfr.out⟩

set_option maxHeartbeats 1000000 in
theorem rr_rest (g bl : Nat) (xs : List UInt8) (bad : Bool) (w : World) (h : RrIs w g bl xs bad) :
    Calls Try.prog 37 #[.pointer (some ⟨g, 0, none⟩)] w fun e w' => ∃ v, e = .returned v ∧ OwnB w' w.heap.size v xs ∧ RrIs w' g bl [] bad ∧ Fr (fun k => k = g) w w' := by
  obtain ⟨A, n, c, h⟩ := h
  obtain ⟨c0, c1, f0, f1⟩ := h.cell
  have hl := Lib.hid h.rs.len
  have hb0 : Below w.heap.size w (w.alloc (.cells #[] 5)) := below_new _ _
  have hown := by_lit0 w w.heap.size (Nat.le_refl _)
  have hA := h.rs.nil
  have hrb := h.rs.rb.below hb0
  have hsm := h.small
  have hlen0 : ([] : List UInt8).length + n ≤ 140737488355328 := by simp; omega
  have H := Lib.hid h
  have hgl := h.lt
  clear h c1 f1
  go_enter Try.func37, Try.ntmps37
  go_wp2_with (at_builtin; go_must (refine wpList_append_by rfl _ _ rfl w hb0 _ [] rfl hown _ _ _ xs rfl hA hrb hlen0 ?_; intro v1 w1 hown1 hb _; have d0 := (hb.cell (p := ⟨g, 0, none⟩) hgl).trans c0; have d1 := (hb.frozen (p := ⟨g, 0, none⟩) hgl).trans f0))
  go_ret
  rw [List.nil_append] at hown1
  have h1 : RrAt w1 g bl A n c xs bad := by
    have h := H.out
    exact ⟨(hb.block g hgl).trans h.heap, h.rs.below hb, h.blk, h.apart, h.small⟩
  have hf := fr_setCell (F := fun k => k = g) (w := w1) ⟨g, 0, none⟩ (.slice none 0 0) rfl
  exact ⟨_, rfl, hown1.fr hf (fun k hk e => by have := hown1.own k hk; omega), ⟨_, _, _, h1.setLeft (RS.none _) (Nat.zero_le _) (fun h0 => absurd h0 (by omega))⟩, fr_pre hb hf⟩

end Go.Proofs.Ytafpkfnegfjohaa
