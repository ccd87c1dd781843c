/- The walk of CrcBursts. -/
import Derived.Test.YtknmgpaekgjjhaaCrcLin
namespace Go.Proofs.Ytknmgpaekgjjhaa
open Go.RowKit
set_option linter.unusedVariables false
set_option linter.unusedSimpArgs false

theorem n16_nat (m : BitVec 16) : n16 m = (m.toNat : Int) := rfl
theorem mask_bit (m : BitVec 16) (k : Nat) : (n16 m / 2 ^ k).tmod 2 = ((m.toNat / 2 ^ k % 2 : Nat) : Int) := by
  have e : n16 m / 2 ^ k = ((m.toNat / 2 ^ k : Nat) : Int) := by unfold n16; rw [Int.natCast_ediv]; simp
  rw [e, Int.tmod_eq_emod_of_nonneg (Int.natCast_nonneg _)]
  omega
theorem turn8 (x : UInt8) (j : Nat) (hj : j < 8) : bits .xor .u8 (nb x) (128 / 2 ^ j) = nb (x ^^^ (128 >>> (UInt8.ofNat j))) := by
  have h : ∀ j : Fin 8, (128 : Int) / (2 : Int) ^ j.1 = nb (128 >>> (UInt8.ofNat j.1)) := by decide
  have := h ⟨j, hj⟩
  rw [show (128 : Int) / (2 : Int) ^ j = nb (128 >>> (UInt8.ofNat j)) from this, xor8]
theorem burst_sum_ne (s : List UInt8) (at_ : Nat) (m : BitVec 16) (h : at_ + 16 ≤ 8 * s.length) (h0 : n16 m ≠ 0) : crcSum (burst s at_ m.toNat 16) ≠ crcSum s :=
  burst_sum s at_ m.toNat h (fun e => h0 (by unfold n16; omega)) m.isLt

set_option maxRecDepth 100000 in
set_option maxHeartbeats 4000000 in
theorem crcBursts_walk (a0 : Option Addr) (len0 cap0 : Nat) (z0 : List Int) (a1 : Int) (a2 : Int) (w : World) (w0 : IsRow .u8 w a0 len0 cap0 z0) (w1 : (Lit.int .i64 a1).wf = true) (w2 : (Lit.int .u16 a2).wf = true) :
    Calls Try.prog 6 #[.slice a0 len0 cap0, .int .i64 a1, .int .u16 a2] w fun e w' => e = .returned (.bool true) ∧ Below w.heap.size w w' := by
  obtain ⟨xs, hr⟩ := w0.bytes
  obtain ⟨m, rfl⟩ := u16_of w2
  have hmx := hr.rb.2.1
  clear w0 w1 w2
  by_cases h1 : 500 < len0
  · have h1' : (500 : Int) < len0 := by omega
    clear hr
    go_enter Try.func6, Try.ntmps6
    go_wp2_with (go_at_call 9; refine (crc_small _).mono ?_; rintro e w' ⟨rfl, hb⟩)
    go_ret
    exact ⟨rfl, hb⟩
  have h1' : ¬ (500 : Int) < len0 := by omega
  by_cases h2 : a1 < 0
  · clear hr
    go_enter Try.func6, Try.ntmps6
    go_wp2_with (go_at_call 9; refine (crc_small _).mono ?_; rintro e w' ⟨rfl, hb⟩)
    go_ret
    exact ⟨rfl, hb⟩
  obtain ⟨p, rfl⟩ := Int.eq_ofNat_of_zero_le (show 0 ≤ a1 by omega)
  by_cases h3 : 8 * (len0 : Int) < p
  · clear hr
    go_enter Try.func6, Try.ntmps6
    go_wp2_with (go_at_call 9; refine (crc_small _).mono ?_; rintro e w' ⟨rfl, hb⟩)
    go_ret
    exact ⟨rfl, hb⟩
  by_cases h4 : n16 m = 0
  · have h4' : (n16 m == 0) = true := by simp [h4]
    clear hr h4
    go_enter Try.func6, Try.ntmps6
    go_wp2_with (go_at_call 9; refine (crc_small _).mono ?_; rintro e w' ⟨rfl, hb⟩)
    go_ret
    exact ⟨rfl, hb⟩
  have h4' : (n16 m == 0) = false := by simp [h4]
  have H4 := Lib.hid h4
  clear h4
  have hl := Lib.hid hr.len
  have bm := n16_bd m
  go_enter Try.func6, Try.ntmps6
  go_wp2_with fail
  refine (crc_small _).mono ?_
  rintro e wa ⟨rfl, hb⟩
  replace hr := hr.below hb
  have hra := hr
  go_wp2_with fail
  refine (crc_seal _ _ _ _ _ hr (by omega)).mono ?_
  rintro e wb ⟨vb, rfl, hown, hb2⟩
  replace hr := hr.below hb2
  have hbW := below_step hb hb2
  have hsl := crcSum_seal_len xs
  have hw0 : wa.heap.size ≤ wb.heap.size := hb2.size
  obtain ⟨A1, c1, rfl, hr1⟩ := hown.reads
  obtain ⟨g, o1, hA1, hg0, _⟩ := hr1.rb.cells (by rw [hsl]; omega)
  subst hA1
  obtain ⟨ho1, hgb, hgw, _⟩ := hown.free rfl
  subst ho1
  rw [hsl, hl.out] at hown hr1 ⊢
  clear hsl
  have hsm := Lib.hid (show p ≤ 4000 ∧ len0 ≤ 500 by omega)
  have hp8 := Lib.hid (show p + 16 ≤ 8 * (len0 + 2) by omega)
  go_wp2_with fail
  go_loopw [9, 10] (fun i kk wr => ∃ k : Nat, k ≤ 16 ∧ i = .int .i64 k ∧ Below wa.heap.size wa wr ∧ wb.heap.size ≤ wr.heap.size ∧ OwnB wr wa.heap.size (.slice (some ⟨g, 0, none⟩) (len0 + 2) c1) (burst (crcSeal xs) p m.toNat k)) (fun i _ _ => 16 - (intOf i).toNat)
  case atStart => exact ⟨0, Nat.zero_le _, rfl, hb2, Nat.le_refl _, hown⟩
  case round =>
    obtain ⟨k, hk, rfl, hbr, hsz, hor⟩ := hrel
    clear hown hr1
    by_cases hlt : k < 16
    · have hbl := Lib.hid (show (burst (crcSeal xs) p m.toNat k).length = len0 + 2 by rw [burst_len, crcSum_seal_len, hl.out])
      have hpk : p + k < 8 * (len0 + 2) := by have := hp8.out; omega
      have hx0 : wr.cell? ⟨g, (p + k) / 8, none⟩ = some (bv ((burst (crcSeal xs) p m.toNat k).getD ((p + k) / 8) 0)) := by
        obtain ⟨b9, o9, e8, _, hc9⟩ := hor.rs.rb.cells (by omega)
        cases e8
        have := hc9 ((p + k) / 8) (by omega)
        rwa [Nat.zero_add] at this
      have hfz : wr.frozen? ⟨g, (p + k) / 8, none⟩ = false := (hor.free rfl).2.2.2 _
      unfold bv at hx0
      have hmb := mask_bit m k
      clear hr h3 h1'
      by_cases hbit : m.toNat / 2 ^ k % 2 = 1
      · rw [hbit] at hmb
        have hmb' : (n16 m / 2 ^ k).tmod 2 = 1 := hmb
        clear hmb
        have ht := turn8 ((burst (crcSeal xs) p m.toNat k)[(p + k) / 8]?.getD 0) ((p + k) % 8) (by omega)
        have hset := Lib.hid (hor.set ((p + k) / 8) (by rw [hbl.out]; omega) ((burst (crcSeal xs) p m.toNat k)[(p + k) / 8]?.getD 0 ^^^ (128 >>> (UInt8.ofNat ((p + k) % 8)))))
        have hst : burst (crcSeal xs) p m.toNat (k + 1) = (burst (crcSeal xs) p m.toNat k).set ((p + k) / 8) ((burst (crcSeal xs) p m.toNat k)[(p + k) / 8]?.getD 0 ^^^ (128 >>> (UInt8.ofNat ((p + k) % 8)))) := by
          conv => lhs; unfold burst
          rw [if_pos ⟨hbit, by rw [crcSum_seal_len, hl.out]; omega⟩]
          rfl
        have hst := Lib.hid hst
        clear hbit
        go_wp2_with fail
        refine ⟨⟨k + 1, by omega, by go_num, hbr.setCell hgb _, by simp [World.setCell]; exact hsz, ?_⟩, by simp [intOf]; omega⟩
        rw [hst.out]
        exact hset.out
      · have hmb' : ¬ (n16 m / 2 ^ k).tmod 2 = 1 := by rw [hmb]; omega
        have hst : burst (crcSeal xs) p m.toNat k = burst (crcSeal xs) p m.toNat (k + 1) := by
          conv => rhs; unfold burst
          rw [if_neg (fun h => hbit h.1)]
        clear hmb
        have hst := Lib.hid hst
        go_wp2_with fail
        exact ⟨⟨k + 1, by omega, by go_num, hbr, hsz, by rw [← hst.out]; exact hor⟩, by simp [intOf]; omega⟩
    · obtain rfl : k = 16 := by omega
      have hne := Lib.hid (burst_sum_ne (crcSeal xs) p m (by rw [crcSum_seal_len, hl.out]; exact hp8.out) H4.out)
      have hlen := Lib.hid (burst_len (crcSeal xs) p m.toNat 16)
      have htk : p + 16 ≤ 8 * len0 → crcSum ((burst (crcSeal xs) p m.toNat 16).take len0) ≠ crcSum xs := by
        intro h
        rw [burst_take _ _ _ _ _ (by rw [crcSum_seal_len, hl.out]; omega) h]
        have : (crcSeal xs).take len0 = xs := by unfold crcSeal; rw [← hl.out]; simp
        rw [this]
        exact burst_sum_ne xs p m (by rw [hl.out]; exact h) H4.out
      have htk := Lib.hid htk
      have hseal := Lib.hid (crcSum_seal xs)
      generalize hys : burst (crcSeal xs) p m.toNat 16 = ys at hor hne hlen htk
      clear hys
      replace hra := hra.below hbr
      have hbr2 := Lib.hid (below_step hb hbr)
      replace hor := hor.rs
      clear hr hbr hb hb2 hbW h3 h1'
      obtain ⟨wo, rfl⟩ : ∃ wo : World, wo = wr := ⟨_, rfl⟩
      go_wp2_with fail
      go_loopw [11, 12] (fun same i wq => ∃ (j : Nat) (b : Bool), j ≤ len0 ∧ i = .int .i64 j ∧ same = .bool b ∧ Below wo.heap.size wo wq) (fun _ i _ => len0 - (intOf i).toNat)
      case atStart => exact ⟨0, true, Nat.zero_le _, rfl, rfl, Below.refl _ _⟩
      case round =>
        obtain ⟨j, b, hj, rfl, rfl, hbq⟩ := hrel
        by_cases hjt : j < len0
        · obtain ⟨b0, o0, rfl, _, hc0⟩ := (hra.below hbq).rb.cells (by omega)
          obtain ⟨b9, o9, e8, _, hc9⟩ := (hor.below hbq).rb.cells (by omega)
          cases e8
          have x0 := fun w' (h : Below wr.heap.size wr w') => cell_later h (hc0 j hjt)
          have x1 := fun w' (h : Below wr.heap.size wr w') => cell_later h (hc9 j (by omega))
          unfold bv at x0 x1
          simp only [Nat.zero_add] at x1
          clear hc0 hc9 hra hor
          have b1 : (j : Int) < (len0 : Int) + 2 := by omega
          have b2 : (j : Int) < (len0 : Int) := by omega
          have hQ := Lib.hid hbq
          clear hbq
          cases b
          · go_wp2_with fail
            refine wp_region_held (S := fun w' => Below wr.heap.size wr w') (by kernel_rfl) ?_
            change wpAnyH _ _ _ _ _ _ _ _ wr.drew
            have hS0 := below_drew1 wr
            change wpAnyH _ _ _ _ _ 13 (Array.replicate 13 false) _ _
            refine wpAnyH_take (i := 0) (oi := ?_) (v := ?_) ?_ (by kernel_rfl) (by kernel_rfl) (by kernel_rfl) ?_ ?_ (by assumption) ?_
            rotate_left 2; (simp only [List.getElem?_toArray, List.getElem?_cons_succ, List.getElem?_cons_zero]; rfl)
            rotate_left; (first | (refine .inl ⟨by rfl, ?_⟩; intro w9 hS9; go_simp; try with_reducible rfl) | (refine .inr ⟨by rfl, ?_⟩; with_reducible rfl))
            rotate_left; (intro _ _ _ h9; exact h9)
            try simp only [Act.put, List.setIfInBounds_toArray, List.set_cons_zero, List.set_cons_succ]
            refine wpAnyH_take (i := 1) (oi := ?_) (v := ?_) ?_ (by kernel_rfl) (by kernel_rfl) (by kernel_rfl) ?_ ?_ (by assumption) ?_
            rotate_left 2; (simp only [List.getElem?_toArray, List.getElem?_cons_succ, List.getElem?_cons_zero]; rfl)
            rotate_left; (first | (refine .inl ⟨by rfl, ?_⟩; intro w9 hS9; go_simp; try with_reducible rfl) | (refine .inr ⟨by rfl, ?_⟩; with_reducible rfl))
            rotate_left; (intro _ _ _ h9; exact h9)
            try simp only [Act.put, List.setIfInBounds_toArray, List.set_cons_zero, List.set_cons_succ]
            refine wpAnyH_take (i := 2) (oi := ?_) (v := ?_) ?_ (by kernel_rfl) (by kernel_rfl) (by kernel_rfl) ?_ ?_ (by assumption) ?_
            rotate_left 2; (simp only [List.getElem?_toArray, List.getElem?_cons_succ, List.getElem?_cons_zero]; rfl)
            rotate_left; (first | (refine .inl ⟨by rfl, ?_⟩; intro w9 hS9; go_simp; try with_reducible rfl) | (refine .inr ⟨by rfl, ?_⟩; with_reducible rfl))
            rotate_left; (intro _ _ _ h9; exact h9)
            try simp only [Act.put, List.setIfInBounds_toArray, List.set_cons_zero, List.set_cons_succ]
            refine wpAnyH_take (i := 3) (oi := ?_) (v := ?_) ?_ (by kernel_rfl) (by kernel_rfl) (by kernel_rfl) ?_ ?_ (by assumption) ?_
            rotate_left 2; (simp only [List.getElem?_toArray, List.getElem?_cons_succ, List.getElem?_cons_zero]; rfl)
            rotate_left; (first | (refine .inl ⟨by rfl, ?_⟩; intro w9 hS9; go_simp; try with_reducible rfl) | (refine .inr ⟨by rfl, ?_⟩; with_reducible rfl))
            rotate_left; (intro _ _ _ h9; exact h9)
            try simp only [Act.put, List.setIfInBounds_toArray, List.set_cons_zero, List.set_cons_succ]
            refine wpAnyH_take (i := 4) (oi := ?_) (v := ?_) ?_ (by kernel_rfl) (by kernel_rfl) (by kernel_rfl) ?_ ?_ (by assumption) ?_
            rotate_left 2; (simp only [List.getElem?_toArray, List.getElem?_cons_succ, List.getElem?_cons_zero]; rfl)
            rotate_left; (first | (refine .inl ⟨by rfl, ?_⟩; intro w9 hS9; go_simp; try with_reducible rfl) | (refine .inr ⟨by rfl, ?_⟩; with_reducible rfl))
            rotate_left; (intro _ _ _ h9; exact h9)
            try simp only [Act.put, List.setIfInBounds_toArray, List.set_cons_zero, List.set_cons_succ]
            refine wpAnyH_take (i := 5) (oi := ?_) (v := ?_) ?_ (by kernel_rfl) (by kernel_rfl) (by kernel_rfl) ?_ ?_ (by assumption) ?_
            rotate_left 2; (simp only [List.getElem?_toArray, List.getElem?_cons_succ, List.getElem?_cons_zero]; rfl)
            rotate_left; (first | (refine .inl ⟨by rfl, ?_⟩; intro w9 hS9; go_simp; try with_reducible rfl) | (refine .inr ⟨by rfl, ?_⟩; with_reducible rfl))
            rotate_left; (intro _ _ _ h9; exact h9)
            try simp only [Act.put, List.setIfInBounds_toArray, List.set_cons_zero, List.set_cons_succ]
            refine wpAnyH_take (i := 6) (oi := ?_) (v := ?_) ?_ (by kernel_rfl) (by kernel_rfl) (by kernel_rfl) ?_ ?_ (by assumption) ?_
            rotate_left 2; (simp only [List.getElem?_toArray, List.getElem?_cons_succ, List.getElem?_cons_zero]; rfl)
            rotate_left; (first | (refine .inl ⟨by rfl, ?_⟩; intro w9 hS9; go_simp; try with_reducible rfl) | (refine .inr ⟨by rfl, ?_⟩; with_reducible rfl))
            rotate_left; (intro _ _ _ h9; exact h9)
            try simp only [Act.put, List.setIfInBounds_toArray, List.set_cons_zero, List.set_cons_succ]
            refine wpAnyH_take (i := 7) (oi := ?_) (v := ?_) ?_ (by kernel_rfl) (by kernel_rfl) (by kernel_rfl) ?_ ?_ (by assumption) ?_
            rotate_left 2; (simp only [List.getElem?_toArray, List.getElem?_cons_succ, List.getElem?_cons_zero]; rfl)
            rotate_left; (first | (refine .inl ⟨by rfl, ?_⟩; intro w9 hS9; go_simp; try with_reducible rfl) | (refine .inr ⟨by rfl, ?_⟩; with_reducible rfl))
            rotate_left; (intro _ _ _ h9; exact h9)
            try simp only [Act.put, List.setIfInBounds_toArray, List.set_cons_zero, List.set_cons_succ]
            refine wpAnyH_take (i := 8) (oi := ?_) (v := ?_) ?_ (by kernel_rfl) (by kernel_rfl) (by kernel_rfl) ?_ ?_ (by assumption) ?_
            rotate_left 2; (simp only [List.getElem?_toArray, List.getElem?_cons_succ, List.getElem?_cons_zero]; rfl)
            rotate_left; (first | (refine .inl ⟨by rfl, ?_⟩; intro w9 hS9; go_simp; try with_reducible rfl) | (refine .inr ⟨by rfl, ?_⟩; with_reducible rfl))
            rotate_left; (intro _ _ _ h9; exact h9)
            try simp only [Act.put, List.setIfInBounds_toArray, List.set_cons_zero, List.set_cons_succ]
            refine wpAnyH_take (i := 9) (oi := ?_) (v := ?_) ?_ (by kernel_rfl) (by kernel_rfl) (by kernel_rfl) ?_ ?_ (by assumption) ?_
            rotate_left 2; (simp only [List.getElem?_toArray, List.getElem?_cons_succ, List.getElem?_cons_zero]; rfl)
            rotate_left; (first | (refine .inl ⟨by rfl, ?_⟩; intro w9 hS9; go_simp; try with_reducible rfl) | (refine .inr ⟨by rfl, ?_⟩; with_reducible rfl))
            rotate_left; (intro _ _ _ h9; exact h9)
            try simp only [Act.put, List.setIfInBounds_toArray, List.set_cons_zero, List.set_cons_succ]
            refine wpAnyH_take (i := 10) (oi := ?_) (v := ?_) ?_ (by kernel_rfl) (by kernel_rfl) (by kernel_rfl) ?_ ?_ (by assumption) ?_
            rotate_left 2; (simp only [List.getElem?_toArray, List.getElem?_cons_succ, List.getElem?_cons_zero]; rfl)
            rotate_left; (first | (refine .inl ⟨by rfl, ?_⟩; intro w9 hS9; go_simp; try with_reducible rfl) | (refine .inr ⟨by rfl, ?_⟩; with_reducible rfl))
            rotate_left; (intro _ _ _ h9; exact h9)
            try simp only [Act.put, List.setIfInBounds_toArray, List.set_cons_zero, List.set_cons_succ]
            refine wpAnyH_take (i := 11) (oi := ?_) (v := ?_) ?_ (by kernel_rfl) (by kernel_rfl) (by kernel_rfl) ?_ ?_ (by assumption) ?_
            rotate_left 2; (simp only [List.getElem?_toArray, List.getElem?_cons_succ, List.getElem?_cons_zero]; rfl)
            rotate_left; (first | (refine .inl ⟨by rfl, ?_⟩; intro w9 hS9; go_simp; try with_reducible rfl) | (refine .inr ⟨by rfl, ?_⟩; with_reducible rfl))
            rotate_left; (intro _ _ _ h9; exact h9)
            try simp only [Act.put, List.setIfInBounds_toArray, List.set_cons_zero, List.set_cons_succ]
            refine wpAnyH_take (i := 12) (oi := ?_) (v := ?_) ?_ (by kernel_rfl) (by kernel_rfl) (by kernel_rfl) ?_ ?_ (by assumption) ?_
            rotate_left 2; (simp only [List.getElem?_toArray, List.getElem?_cons_succ, List.getElem?_cons_zero]; rfl)
            rotate_left; (first | (refine .inl ⟨by rfl, ?_⟩; intro w9 hS9; go_simp; try with_reducible rfl) | (refine .inr ⟨by rfl, ?_⟩; with_reducible rfl))
            rotate_left; (intro _ _ _ h9; exact h9)
            try simp only [Act.put, List.setIfInBounds_toArray, List.set_cons_zero, List.set_cons_succ]
            refine wpAnyH_done (by kernel_rfl) ?_ _
            go_wp2
            exact ⟨⟨j + 1, _, by omega, by go_num, rfl, below_step hQ.out hS0⟩, by simp [intOf]; omega⟩
          · go_wp2_with fail
            refine wp_region_held (S := fun w' => Below wr.heap.size wr w') (by kernel_rfl) ?_
            change wpAnyH _ _ _ _ _ _ _ _ wr.drew
            have hS0 := below_drew1 wr
            change wpAnyH _ _ _ _ _ 13 (Array.replicate 13 false) _ _
            refine wpAnyH_take (i := 0) (oi := ?_) (v := ?_) ?_ (by kernel_rfl) (by kernel_rfl) (by kernel_rfl) ?_ ?_ (by assumption) ?_
            rotate_left 2; (simp only [List.getElem?_toArray, List.getElem?_cons_succ, List.getElem?_cons_zero]; rfl)
            rotate_left; (first | (refine .inl ⟨by rfl, ?_⟩; intro w9 hS9; go_simp; try with_reducible rfl) | (refine .inr ⟨by rfl, ?_⟩; with_reducible rfl))
            rotate_left; (intro _ _ _ h9; exact h9)
            try simp only [Act.put, List.setIfInBounds_toArray, List.set_cons_zero, List.set_cons_succ]
            refine wpAnyH_take (i := 1) (oi := ?_) (v := ?_) ?_ (by kernel_rfl) (by kernel_rfl) (by kernel_rfl) ?_ ?_ (by assumption) ?_
            rotate_left 2; (simp only [List.getElem?_toArray, List.getElem?_cons_succ, List.getElem?_cons_zero]; rfl)
            rotate_left; (first | (refine .inl ⟨by rfl, ?_⟩; intro w9 hS9; go_simp; try with_reducible rfl) | (refine .inr ⟨by rfl, ?_⟩; with_reducible rfl))
            rotate_left; (intro _ _ _ h9; exact h9)
            try simp only [Act.put, List.setIfInBounds_toArray, List.set_cons_zero, List.set_cons_succ]
            refine wpAnyH_take (i := 2) (oi := ?_) (v := ?_) ?_ (by kernel_rfl) (by kernel_rfl) (by kernel_rfl) ?_ ?_ (by assumption) ?_
            rotate_left 2; (simp only [List.getElem?_toArray, List.getElem?_cons_succ, List.getElem?_cons_zero]; rfl)
            rotate_left; (first | (refine .inl ⟨by rfl, ?_⟩; intro w9 hS9; go_simp; try with_reducible rfl) | (refine .inr ⟨by rfl, ?_⟩; with_reducible rfl))
            rotate_left; (intro _ _ _ h9; exact h9)
            try simp only [Act.put, List.setIfInBounds_toArray, List.set_cons_zero, List.set_cons_succ]
            refine wpAnyH_take (i := 3) (oi := ?_) (v := ?_) ?_ (by kernel_rfl) (by kernel_rfl) (by kernel_rfl) ?_ ?_ (by assumption) ?_
            rotate_left 2; (simp only [List.getElem?_toArray, List.getElem?_cons_succ, List.getElem?_cons_zero]; rfl)
            rotate_left; (first | (refine .inl ⟨by rfl, ?_⟩; intro w9 hS9; go_simp; try with_reducible rfl) | (refine .inr ⟨by rfl, ?_⟩; with_reducible rfl))
            rotate_left; (intro _ _ _ h9; exact h9)
            try simp only [Act.put, List.setIfInBounds_toArray, List.set_cons_zero, List.set_cons_succ]
            refine wpAnyH_take (i := 4) (oi := ?_) (v := ?_) ?_ (by kernel_rfl) (by kernel_rfl) (by kernel_rfl) ?_ ?_ (by assumption) ?_
            rotate_left 2; (simp only [List.getElem?_toArray, List.getElem?_cons_succ, List.getElem?_cons_zero]; rfl)
            rotate_left; (first | (refine .inl ⟨by rfl, ?_⟩; intro w9 hS9; go_simp; try with_reducible rfl) | (refine .inr ⟨by rfl, ?_⟩; with_reducible rfl))
            rotate_left; (intro _ _ _ h9; exact h9)
            try simp only [Act.put, List.setIfInBounds_toArray, List.set_cons_zero, List.set_cons_succ]
            refine wpAnyH_take (i := 5) (oi := ?_) (v := ?_) ?_ (by kernel_rfl) (by kernel_rfl) (by kernel_rfl) ?_ ?_ (by assumption) ?_
            rotate_left 2; (simp only [List.getElem?_toArray, List.getElem?_cons_succ, List.getElem?_cons_zero]; rfl)
            rotate_left; (first | (refine .inl ⟨by rfl, ?_⟩; intro w9 hS9; go_simp; try with_reducible rfl) | (refine .inr ⟨by rfl, ?_⟩; with_reducible rfl))
            rotate_left; (intro _ _ _ h9; exact h9)
            try simp only [Act.put, List.setIfInBounds_toArray, List.set_cons_zero, List.set_cons_succ]
            refine wpAnyH_take (i := 6) (oi := ?_) (v := ?_) ?_ (by kernel_rfl) (by kernel_rfl) (by kernel_rfl) ?_ ?_ (by assumption) ?_
            rotate_left 2; (simp only [List.getElem?_toArray, List.getElem?_cons_succ, List.getElem?_cons_zero]; rfl)
            rotate_left; (first | (refine .inl ⟨by rfl, ?_⟩; intro w9 hS9; go_simp; try with_reducible rfl) | (refine .inr ⟨by rfl, ?_⟩; with_reducible rfl))
            rotate_left; (intro _ _ _ h9; exact h9)
            try simp only [Act.put, List.setIfInBounds_toArray, List.set_cons_zero, List.set_cons_succ]
            refine wpAnyH_take (i := 7) (oi := ?_) (v := ?_) ?_ (by kernel_rfl) (by kernel_rfl) (by kernel_rfl) ?_ ?_ (by assumption) ?_
            rotate_left 2; (simp only [List.getElem?_toArray, List.getElem?_cons_succ, List.getElem?_cons_zero]; rfl)
            rotate_left; (first | (refine .inl ⟨by rfl, ?_⟩; intro w9 hS9; go_simp; try with_reducible rfl) | (refine .inr ⟨by rfl, ?_⟩; with_reducible rfl))
            rotate_left; (intro _ _ _ h9; exact h9)
            try simp only [Act.put, List.setIfInBounds_toArray, List.set_cons_zero, List.set_cons_succ]
            refine wpAnyH_take (i := 8) (oi := ?_) (v := ?_) ?_ (by kernel_rfl) (by kernel_rfl) (by kernel_rfl) ?_ ?_ (by assumption) ?_
            rotate_left 2; (simp only [List.getElem?_toArray, List.getElem?_cons_succ, List.getElem?_cons_zero]; rfl)
            rotate_left; (first | (refine .inl ⟨by rfl, ?_⟩; intro w9 hS9; go_simp; try with_reducible rfl) | (refine .inr ⟨by rfl, ?_⟩; with_reducible rfl))
            rotate_left; (intro _ _ _ h9; exact h9)
            try simp only [Act.put, List.setIfInBounds_toArray, List.set_cons_zero, List.set_cons_succ]
            refine wpAnyH_take (i := 9) (oi := ?_) (v := ?_) ?_ (by kernel_rfl) (by kernel_rfl) (by kernel_rfl) ?_ ?_ (by assumption) ?_
            rotate_left 2; (simp only [List.getElem?_toArray, List.getElem?_cons_succ, List.getElem?_cons_zero]; rfl)
            rotate_left; (first | (refine .inl ⟨by rfl, ?_⟩; intro w9 hS9; go_simp; try with_reducible rfl) | (refine .inr ⟨by rfl, ?_⟩; with_reducible rfl))
            rotate_left; (intro _ _ _ h9; exact h9)
            try simp only [Act.put, List.setIfInBounds_toArray, List.set_cons_zero, List.set_cons_succ]
            refine wpAnyH_take (i := 10) (oi := ?_) (v := ?_) ?_ (by kernel_rfl) (by kernel_rfl) (by kernel_rfl) ?_ ?_ (by assumption) ?_
            rotate_left 2; (simp only [List.getElem?_toArray, List.getElem?_cons_succ, List.getElem?_cons_zero]; rfl)
            rotate_left; (first | (refine .inl ⟨by rfl, ?_⟩; intro w9 hS9; go_simp; try with_reducible rfl) | (refine .inr ⟨by rfl, ?_⟩; with_reducible rfl))
            rotate_left; (intro _ _ _ h9; exact h9)
            try simp only [Act.put, List.setIfInBounds_toArray, List.set_cons_zero, List.set_cons_succ]
            refine wpAnyH_take (i := 11) (oi := ?_) (v := ?_) ?_ (by kernel_rfl) (by kernel_rfl) (by kernel_rfl) ?_ ?_ (by assumption) ?_
            rotate_left 2; (simp only [List.getElem?_toArray, List.getElem?_cons_succ, List.getElem?_cons_zero]; rfl)
            rotate_left; (first | (refine .inl ⟨by rfl, ?_⟩; intro w9 hS9; go_simp; try with_reducible rfl) | (refine .inr ⟨by rfl, ?_⟩; with_reducible rfl))
            rotate_left; (intro _ _ _ h9; exact h9)
            try simp only [Act.put, List.setIfInBounds_toArray, List.set_cons_zero, List.set_cons_succ]
            refine wpAnyH_take (i := 12) (oi := ?_) (v := ?_) ?_ (by kernel_rfl) (by kernel_rfl) (by kernel_rfl) ?_ ?_ (by assumption) ?_
            rotate_left 2; (simp only [List.getElem?_toArray, List.getElem?_cons_succ, List.getElem?_cons_zero]; rfl)
            rotate_left; (first | (refine .inl ⟨by rfl, ?_⟩; intro w9 hS9; go_simp; try with_reducible rfl) | (refine .inr ⟨by rfl, ?_⟩; with_reducible rfl))
            rotate_left; (intro _ _ _ h9; exact h9)
            try simp only [Act.put, List.setIfInBounds_toArray, List.set_cons_zero, List.set_cons_succ]
            refine wpAnyH_done (by kernel_rfl) ?_ _
            go_wp2
            exact ⟨⟨j + 1, _, by omega, by go_num, rfl, below_step hQ.out hS0⟩, by simp [intOf]; omega⟩
        · obtain rfl : j = len0 := by omega
          replace hor := hor.below hbq
          replace hra := hra.below hbq
          replace hbr2 := Lib.hid (below_step hbr2.out hbq)
          clear hbq
          have ho : crcOpen ys = none := by
            unfold crcOpen
            rw [if_neg (fun h => hne.out (h.2.trans hseal.out.symm))]
          go_wp2_with fail
          go_must (refine (crc_open _ _ _ _ _ hor (by omega)).mono ?_)
          rintro e wz ⟨vz, rfl, hownz, hbz⟩
          rw [ho] at hownz
          simp only [Option.getD_none] at hownz
          obtain ⟨Az, cz, rfl, hrz⟩ := hownz.reads
          replace hor := hor.below hbz
          replace hra := hra.below hbz
          replace hbr2 := Lib.hid (below_step hbr2.out hbz)
          clear hbz hownz hrz
          by_cases hfar : 8 * j < p + 16
          · have hfar' : 8 * (j : Int) < p + 16 := by omega
            clear hfar
            cases b <;>
            · go_wp2_with fail
              go_ret
              exact ⟨rfl, hbr2.out⟩
          · have hfar' : ¬ 8 * (j : Int) < p + 16 := by omega
            have hnb : (n16 (crcSum (ys.take j)) != n16 (crcSum xs)) = true := by
              simp; exact fun h => htk.out (by omega) (n16_inj h)
            clear hfar
            have htr := hor.rb.take j (by omega)
            have hcap : (j : Int) ≤ c1 := by have := hor.cap; omega
            cases b <;>
            · go_wp2_with (go_at_call 14; first | (with_reducible refine (crc_sum _ _ _ _ _ htr).mono ?_; rintro e w' ⟨rfl, rfl⟩) | (with_reducible refine (crc_sum _ _ _ _ _ hra.rb).mono ?_; rintro e w' ⟨rfl, rfl⟩))
              go_ret
              exact ⟨rfl, hbr2.out⟩
end Go.Proofs.Ytknmgpaekgjjhaa
