/- The walk of CrcLinear. -/
import Derived.Test.YtknmgpaekgjjhaaCrcLaws
import Derived.LoopTactic
namespace Go.Proofs.Ytknmgpaekgjjhaa
open Go.RowKit
set_option linter.unusedVariables false
set_option linter.unusedSimpArgs false

theorem xor8 (a b : UInt8) : bits .xor .u8 (nb a) (nb b) = nb (a ^^^ b) := by
  have h : ∀ x : UInt8, BitVec.ofInt 8 (nb x) = x.toBitVec := by
    intro x; unfold nb; rw [BitVec.ofInt_natCast]; simp
  show IntKind.u8.wrap ((BitVec.ofInt 8 (nb a) ^^^ BitVec.ofInt 8 (nb b)).toNat : Int) = _
  rw [h, h, ← UInt8.toBitVec_xor, IntKind.wrap_u8]
  have := (a ^^^ b).toNat_lt
  show ((a ^^^ b).toNat : Int) % 256 = _
  unfold nb
  omega
/-- The bytes that are xored as far as k. -/
def xorTo (xs ys : List UInt8) (k : Nat) : List UInt8 := (List.zipWith (· ^^^ ·) xs ys).take k ++ List.replicate (xs.length - k) 0
theorem xorTo_zero (xs ys : List UInt8) : xorTo xs ys 0 = List.replicate xs.length 0 := by simp [xorTo]
theorem xorTo_len (xs ys : List UInt8) (h : xs.length = ys.length) (k : Nat) (hk : k ≤ xs.length) : (xorTo xs ys k).length = xs.length := by
  simp [xorTo]; omega
theorem xorTo_full (xs ys : List UInt8) (h : xs.length = ys.length) : xorTo xs ys xs.length = List.zipWith (· ^^^ ·) xs ys := by
  simp [xorTo, List.take_of_length_le, h]
theorem xorTo_succ (xs ys : List UInt8) (h : xs.length = ys.length) (k : Nat) (hk : k < xs.length) : (xorTo xs ys k).set k (xs[k]?.getD 0 ^^^ ys[k]?.getD 0) = xorTo xs ys (k + 1) := by
  have hy : k < ys.length := by omega
  apply List.ext_getElem?
  intro i
  unfold xorTo
  have hl : ((List.zipWith (· ^^^ ·) xs ys).take k).length = k := by simp; omega
  have hl2 : ((List.zipWith (· ^^^ ·) xs ys).take (k + 1)).length = k + 1 := by simp; omega
  rw [List.getElem?_set]
  by_cases e : k = i
  · subst e
    rw [if_pos rfl, if_pos (by simp; omega), List.getElem?_append_left (by omega), List.getElem?_take, if_pos (by omega)]
    simp [List.getElem?_zipWith, List.getElem?_eq_getElem, hk, hy]
  · rw [if_neg e]
    rcases Nat.lt_or_ge i k with hi | hi
    · rw [List.getElem?_append_left (by omega), List.getElem?_append_left (by omega), List.getElem?_take, List.getElem?_take, if_pos hi, if_pos (by omega)]
    · rw [List.getElem?_append_right (by omega), List.getElem?_append_right (by omega), hl, hl2, List.getElem?_replicate, List.getElem?_replicate]
      by_cases h' : i < xs.length
      · rw [if_pos (by omega), if_pos (by omega)]
      · rw [if_neg (by omega), if_neg (by omega)]
theorem n16_xor (a b : BitVec 16) : bits .xor .u16 (n16 a) (n16 b) = n16 (a ^^^ b) := xor16 a b

set_option maxRecDepth 100000 in
set_option maxHeartbeats 4000000 in
theorem crcLinear_walk (a0 : Option Addr) (len0 cap0 : Nat) (z0 : List Int) (a1 : Option Addr) (len1 cap1 : Nat) (z1 : List Int) (w : World) (w0 : IsRow .u8 w a0 len0 cap0 z0) (w1 : IsRow .u8 w a1 len1 cap1 z1) :
    Calls Try.prog 7 #[.slice a0 len0 cap0, .slice a1 len1 cap1] w fun e w' => e = .returned (.bool true) ∧ Below w.heap.size w w' := by
  obtain ⟨xs, hr⟩ := w0.bytes
  obtain ⟨ys, kr⟩ := w1.bytes
  have hmx := hr.rb.2.1
  have kmx := kr.rb.2.1
  clear w0 w1
  by_cases h1 : 500 < len0
  · have h1' : (500 : Int) < len0 := by omega
    clear hr kr
    go_enter Try.func7, Try.ntmps7
    go_wp2_with (go_at_call 9; refine (crc_small _).mono ?_; rintro e w' ⟨rfl, hb⟩)
    go_ret
    exact ⟨rfl, hb⟩
  have h1' : ¬ (500 : Int) < len0 := by omega
  by_cases h2 : len0 = len1
  · subst h2
    have hl := Lib.hid hr.len
    have kl := Lib.hid kr.len
    have hmk := fun w => by_make2 w len0 len0 (Nat.le_refl _) (by omega) (len0 : Int) (len0 : Int) rfl rfl
    go_enter Try.func7, Try.ntmps7
    go_wp2_with fail
    refine (crc_small _).mono ?_
    rintro e wa ⟨rfl, hb⟩
    replace hr := hr.below hb
    replace kr := kr.below hb
    have hown := by_make2_own wa wa.heap.size len0 len0 (Nat.le_refl _) (by omega) (Nat.le_refl _)
    have hbn := below_new wa (.cells (madeCells #[.int .u8 0] len0) 5)
    go_wp2_with fail
    go_loopw [7] (fun i wr => ∃ k : Nat, k ≤ len0 ∧ i = .int .i64 k ∧ Below wa.heap.size wa wr ∧ OwnB wr wa.heap.size (.slice (some ⟨wa.heap.size, 0, none⟩) len0 len0) (xorTo xs ys k)) (fun i _ => len0 - (intOf i).toNat)
    case atStart => exact ⟨0, Nat.zero_le _, rfl, hbn, by rw [xorTo_zero, hl.out]; exact hown⟩
    case round =>
      obtain ⟨k, hk, rfl, hbr, hor⟩ := hrel
      have hlk := Lib.hid (xorTo_len xs ys (by rw [hl.out, kl.out]) k (by rw [hl.out]; exact hk))
      clear hown hbn hmk
      by_cases hlt : k < len0
      · obtain ⟨b0, o0, rfl, hb0, hc0⟩ := hr.rb.cells (by omega)
        obtain ⟨b1, o1, rfl, hb1, hc1⟩ := kr.rb.cells (by omega)
        obtain ⟨_, _, hg, hfz⟩ := hor.free rfl
        have x0 := (hbr.cell (p := ⟨b0, o0 + k, none⟩) hb0).trans (hc0 k hlt)
        have x1 := (hbr.cell (p := ⟨b1, o1 + k, none⟩) hb1).trans (hc1 k hlt)
        have x2 : wr.cell? ⟨wa.heap.size, k, none⟩ = some (bv ((xorTo xs ys k).getD k 0)) := by
          obtain ⟨b9, o9, e8, _, hc9⟩ := hor.rs.rb.cells (by omega)
          cases e8
          have := hc9 k hlt
          rwa [Nat.zero_add] at this
        have x3 := hfz k
        have exo := xor8 (xs[k]?.getD 0) (ys[k]?.getD 0)
        have hset := hor.set k (by rw [hlk.out, hl.out]; exact hlt) (xs[k]?.getD 0 ^^^ ys[k]?.getD 0)
        have hbs := hbr.setCell (p := ⟨wa.heap.size, k, none⟩) (Nat.le_refl _) (bv (xs[k]?.getD 0 ^^^ ys[k]?.getD 0))
        rw [xorTo_succ xs ys (by rw [hl.out, kl.out]) k (by rw [hl.out]; exact hlt)] at hset
        unfold bv at x0 x1 x2 hset hbs
        have n0 : wa.heap.size ≠ b0 := by omega
        have n1 : wa.heap.size ≠ b1 := by omega
        clear hc0 hc1 hor hbr hfz hr kr
        go_wp2_with fail
        refine wp_region_held (S := fun w' => w'.cell? ⟨b0, o0 + k, none⟩ = some (.int .u8 (nb (xs.getD k 0))) ∧ w'.cell? ⟨b1, o1 + k, none⟩ = some (.int .u8 (nb (ys.getD k 0)))) (by kernel_rfl) ?_
        change wpAnyH _ _ _ _ _ _ _ _ wr.drew
        have hS0 : wr.drew.cell? ⟨b0, o0 + k, none⟩ = some (.int .u8 (nb (xs.getD k 0))) ∧ wr.drew.cell? ⟨b1, o1 + k, none⟩ = some (.int .u8 (nb (ys.getD k 0))) := ⟨x0, x1⟩
        change wpAnyH _ _ _ _ _ 13 (Array.replicate 13 false) _ _
        refine wpAnyH_take (i := 0) (oi := ?_) (v := ?_) ?_ (by kernel_rfl) (by kernel_rfl) (by kernel_rfl) ?_ ?_ (by assumption) ?_
        rotate_left 2; (simp only [List.getElem?_toArray, List.getElem?_cons_succ, List.getElem?_cons_zero]; rfl)
        rotate_left; (first | (refine .inl ⟨by rfl, ?_⟩; intro w9 hS9; go_simp; try with_reducible rfl) | exact .inr ⟨by rfl, rfl⟩)
        rotate_left; (intro _ _ _ h9; exact h9)
        try simp only [Act.put, List.setIfInBounds_toArray, List.set_cons_zero, List.set_cons_succ]
        refine wpAnyH_take (i := 1) (oi := ?_) (v := ?_) ?_ (by kernel_rfl) (by kernel_rfl) (by kernel_rfl) ?_ ?_ (by assumption) ?_
        rotate_left 2; (simp only [List.getElem?_toArray, List.getElem?_cons_succ, List.getElem?_cons_zero]; rfl)
        rotate_left; (first | (refine .inl ⟨by rfl, ?_⟩; intro w9 hS9; go_simp; try with_reducible rfl) | exact .inr ⟨by rfl, rfl⟩)
        rotate_left; (intro _ _ _ h9; exact h9)
        try simp only [Act.put, List.setIfInBounds_toArray, List.set_cons_zero, List.set_cons_succ]
        refine wpAnyH_take (i := 2) (oi := ?_) (v := ?_) ?_ (by kernel_rfl) (by kernel_rfl) (by kernel_rfl) ?_ ?_ (by assumption) ?_
        rotate_left 2; (simp only [List.getElem?_toArray, List.getElem?_cons_succ, List.getElem?_cons_zero]; rfl)
        rotate_left; (first | (refine .inl ⟨by rfl, ?_⟩; intro w9 hS9; go_simp; try with_reducible rfl) | exact .inr ⟨by rfl, rfl⟩)
        rotate_left; (intro _ _ _ h9; exact h9)
        try simp only [Act.put, List.setIfInBounds_toArray, List.set_cons_zero, List.set_cons_succ]
        refine wpAnyH_take (i := 3) (oi := ?_) (v := ?_) ?_ (by kernel_rfl) (by kernel_rfl) (by kernel_rfl) ?_ ?_ (by assumption) ?_
        rotate_left 2; (simp only [List.getElem?_toArray, List.getElem?_cons_succ, List.getElem?_cons_zero]; rfl)
        rotate_left; (first | (refine .inl ⟨by rfl, ?_⟩; intro w9 hS9; go_simp; try with_reducible rfl) | exact .inr ⟨by rfl, rfl⟩)
        rotate_left; (intro _ _ _ h9; exact h9)
        try simp only [Act.put, List.setIfInBounds_toArray, List.set_cons_zero, List.set_cons_succ]
        refine wpAnyH_take (i := 4) (oi := ?_) (v := ?_) ?_ (by kernel_rfl) (by kernel_rfl) (by kernel_rfl) ?_ ?_ (by assumption) ?_
        rotate_left 2; (simp only [List.getElem?_toArray, List.getElem?_cons_succ, List.getElem?_cons_zero]; rfl)
        rotate_left; (first | (refine .inl ⟨by rfl, ?_⟩; intro w9 hS9; go_simp; try with_reducible rfl) | exact .inr ⟨by rfl, rfl⟩)
        rotate_left; (intro _ _ _ h9; exact h9)
        try simp only [Act.put, List.setIfInBounds_toArray, List.set_cons_zero, List.set_cons_succ]
        refine wpAnyH_take (i := 5) (oi := ?_) (v := ?_) ?_ (by kernel_rfl) (by kernel_rfl) (by kernel_rfl) ?_ ?_ (by assumption) ?_
        rotate_left 2; (simp only [List.getElem?_toArray, List.getElem?_cons_succ, List.getElem?_cons_zero]; rfl)
        rotate_left; (first | (refine .inl ⟨by rfl, ?_⟩; intro w9 hS9; go_simp; try with_reducible rfl) | exact .inr ⟨by rfl, rfl⟩)
        rotate_left; (intro _ _ _ h9; exact h9)
        try simp only [Act.put, List.setIfInBounds_toArray, List.set_cons_zero, List.set_cons_succ]
        refine wpAnyH_take (i := 6) (oi := ?_) (v := ?_) ?_ (by kernel_rfl) (by kernel_rfl) (by kernel_rfl) ?_ ?_ (by assumption) ?_
        rotate_left 2; (simp only [List.getElem?_toArray, List.getElem?_cons_succ, List.getElem?_cons_zero]; rfl)
        rotate_left; (first | (refine .inl ⟨by rfl, ?_⟩; intro w9 hS9; go_simp; try with_reducible rfl) | exact .inr ⟨by rfl, rfl⟩)
        rotate_left; (intro _ _ _ h9; exact h9)
        try simp only [Act.put, List.setIfInBounds_toArray, List.set_cons_zero, List.set_cons_succ]
        refine wpAnyH_take (i := 7) (oi := ?_) (v := ?_) ?_ (by kernel_rfl) (by kernel_rfl) (by kernel_rfl) ?_ ?_ (by assumption) ?_
        rotate_left 2; (simp only [List.getElem?_toArray, List.getElem?_cons_succ, List.getElem?_cons_zero]; rfl)
        rotate_left; (first | (refine .inl ⟨by rfl, ?_⟩; intro w9 hS9; go_simp; try with_reducible rfl) | exact .inr ⟨by rfl, rfl⟩)
        rotate_left; (intro _ _ _ h9; exact h9)
        try simp only [Act.put, List.setIfInBounds_toArray, List.set_cons_zero, List.set_cons_succ]
        refine wpAnyH_take (i := 8) (oi := ?_) (v := ?_) ?_ (by kernel_rfl) (by kernel_rfl) (by kernel_rfl) ?_ ?_ (by assumption) ?_
        rotate_left 2; (simp only [List.getElem?_toArray, List.getElem?_cons_succ, List.getElem?_cons_zero]; rfl)
        rotate_left; (first | (refine .inl ⟨by rfl, ?_⟩; intro w9 hS9; go_simp; try with_reducible rfl) | exact .inr ⟨by rfl, rfl⟩)
        rotate_left; (intro _ _ _ h9; exact h9)
        try simp only [Act.put, List.setIfInBounds_toArray, List.set_cons_zero, List.set_cons_succ]
        refine wpAnyH_take (i := 9) (oi := ?_) (v := ?_) ?_ (by kernel_rfl) (by kernel_rfl) (by kernel_rfl) ?_ ?_ (by assumption) ?_
        rotate_left 2; (simp only [List.getElem?_toArray, List.getElem?_cons_succ, List.getElem?_cons_zero]; rfl)
        rotate_left; (first | (refine .inl ⟨by rfl, ?_⟩; intro w9 hS9; go_simp; try with_reducible rfl) | exact .inr ⟨by rfl, rfl⟩)
        rotate_left; (intro _ _ _ h9; exact h9)
        try simp only [Act.put, List.setIfInBounds_toArray, List.set_cons_zero, List.set_cons_succ]
        refine wpAnyH_take (i := 10) (oi := ?_) (v := ?_) ?_ (by kernel_rfl) (by kernel_rfl) (by kernel_rfl) ?_ ?_ (by assumption) ?_
        rotate_left 2; (simp only [List.getElem?_toArray, List.getElem?_cons_succ, List.getElem?_cons_zero]; rfl)
        rotate_left; (first | (refine .inl ⟨by rfl, ?_⟩; intro w9 hS9; go_simp; try with_reducible rfl) | exact .inr ⟨by rfl, rfl⟩)
        rotate_left; (intro _ _ _ h9; exact h9)
        try simp only [Act.put, List.setIfInBounds_toArray, List.set_cons_zero, List.set_cons_succ]
        refine wpAnyH_take (i := 11) (oi := ?_) (v := ?_) ?_ (by kernel_rfl) (by kernel_rfl) (by kernel_rfl) ?_ ?_ (by assumption) ?_
        rotate_left 2; (simp only [List.getElem?_toArray, List.getElem?_cons_succ, List.getElem?_cons_zero]; rfl)
        rotate_left; (first | (refine .inl ⟨by rfl, ?_⟩; intro w9 hS9; go_simp; try with_reducible rfl) | exact .inr ⟨by rfl, rfl⟩)
        rotate_left; (intro _ _ _ h9; exact h9)
        try simp only [Act.put, List.setIfInBounds_toArray, List.set_cons_zero, List.set_cons_succ]
        refine wpAnyH_ready (rs := [12]) (by kernel_rfl) (by simp) (AllReadyH.cons rfl (fun K9 hK9 => ?_) AllReadyH.nil)
        go_simp
        refine hK9.out _ _ ⟨?_, ?_⟩ (fun _ => ?_)
        · exact (World.cell?_setCell_far wr ⟨wa.heap.size, k, none⟩ ⟨b0, o0 + k, none⟩ _ n0).trans x0
        · exact (World.cell?_setCell_far wr ⟨wa.heap.size, k, none⟩ ⟨b1, o1 + k, none⟩ _ n1).trans x1
        refine wpAnyH_done (by kernel_rfl) ?_ _
        go_wp2
        exact ⟨⟨k + 1, by omega, by go_num, hbs.drew, hset.below (below_drew1 _)⟩, by simp [intOf]; omega⟩
      · obtain rfl : k = len0 := by omega
        rw [show xorTo xs ys k = List.zipWith (· ^^^ ·) xs ys by rw [← hl.out]; exact xorTo_full xs ys (by rw [hl.out, kl.out])] at hor hlk
        have hz := crcSum_xor xs ys (by rw [hl.out, kl.out])
        have hz2 := crcAdd_xor xs ys (by rw [hl.out, kl.out]) 0#16 0#16
        rw [BitVec.xor_zero] at hz2
        have e1 := n16_xor (crcAdd 0#16 xs) (crcAdd 0#16 ys)
        have e2 := n16_xor (crcSum xs) (crcSum ys)
        rw [← hz2] at e1
        rw [← hz] at e2
        have hx9 := hor.rs.rb
        replace hr := (hr.below hbr).rb
        replace kr := (kr.below hbr).rb
        clear hz hz2 hor
        go_wp2_with (first
          | (go_at_call 16; with_reducible refine (crc_add_zero _ _ _ _ _ hx9).mono ?_; rintro e w' ⟨rfl, rfl⟩)
          | (go_at_call 16; with_reducible refine (crc_add_zero _ _ _ _ _ hr).mono ?_; rintro e w' ⟨rfl, rfl⟩)
          | (go_at_call 16; with_reducible refine (crc_add_zero _ _ _ _ _ kr).mono ?_; rintro e w' ⟨rfl, rfl⟩)
          | (go_at_call 14; with_reducible refine (crc_sum _ _ _ _ _ hr).mono ?_; rintro e w' ⟨rfl, rfl⟩)
          | (go_at_call 14; with_reducible refine (crc_sum _ _ _ _ _ kr).mono ?_; rintro e w' ⟨rfl, rfl⟩))
        go_ret
        exact ⟨rfl, below_step hb hbr⟩
  · have h2' : ((len0 : Int) == len1) = false := by simp; omega
    have h2'' : ((len0 : Int) != len1) = true := by simp; omega
    clear hr kr
    go_enter Try.func7, Try.ntmps7
    go_wp2_with (go_at_call 9; refine (crc_small _).mono ?_; rintro e w' ⟨rfl, hb⟩)
    go_ret
    exact ⟨rfl, hb⟩
end Go.Proofs.Ytknmgpaekgjjhaa
