/- Blank. -/
import Derived.Test.YtcppmihambcihaaDoorBkFirst
namespace Go.Proofs.YtcppmihambcihaaDoor
open Go Go.RowKit
set_option linter.unusedVariables false
set_option linter.unusedSimpArgs false
theorem bk_c (x : Int) (w : World) : Calls Tryd.prog 66 #[.int .u8 x] w fun e w' => e = .returned (.bool (x != 255)) ∧ w' = w := by
  go_enter Tryd.func66, Tryd.ntmps66
  go_wp2_with fail
  go_ret
  exact ⟨rfl, rfl⟩
theorem all_take_snoc (xs : List UInt8) (k : Nat) (hk : k < xs.length) (h : (xs.take k).all (· == 255) = true) (h2 : xs.getD k 0 = 255) : (xs.take (k + 1)).all (· == 255) = true := by
  rw [List.take_succ_eq_append_getElem hk, List.all_append, h]
  simp only [List.getD_eq_getElem?_getD, List.getElem?_eq_getElem hk, Option.getD_some] at h2
  simp [h2]
theorem all_not (xs : List UInt8) (k : Nat) (hk : k < xs.length) (h2 : xs.getD k 0 ≠ 255) : xs.all (· == 255) = false := by
  simp only [List.getD_eq_getElem?_getD, List.getElem?_eq_getElem hk, Option.getD_some] at h2
  rw [List.all_eq_false]
  exact ⟨xs[k], List.getElem_mem hk, by simpa using h2⟩
theorem nb255 {x : UInt8} (h : x = 255) : ((nb x : Int) != 255) = false := by subst h; rfl
theorem nb255' {x : UInt8} (h : x ≠ 255) : ((nb x : Int) != 255) = true := by
  simp
  intro h2
  apply h
  apply UInt8.toNat_inj.1
  unfold nb at h2
  simp
  omega
set_option maxHeartbeats 4000000 in
set_option maxRecDepth 100000 in
theorem bk_idx (A : Option Addr) (n c : Nat) (xs : List UInt8) (w : World) (hrs : RS w A n c xs) (hn : n ≤ 140737488350000) :
    Calls Tryd.prog 78 #[.slice A n c, .func (.func 66) #[] #[]] w fun e w' => (∃ r : Int, e = .returned (.int .i64 r) ∧ (decide (0 ≤ r) = !(xs.all (· == 255)))) ∧ Below w.heap.size w w' := by
  have HRS := Lib.hid hrs
  have HL := Lib.hid hrs.len
  have HN := Lib.hid hn
  clear hrs hn
  go_enter Tryd.func78, Tryd.ntmps78
  go_wp2_with fail
  go_loopw [8] (fun s8 wr => ∃ k : Nat, k ≤ n ∧ s8 = .int .i64 k ∧ (xs.take k).all (· == 255) = true ∧ Below w.heap.size w wr) (fun s8 _ => n - (intOf s8).toNat)
  case atStart => exact ⟨0, Nat.zero_le _, rfl, rfl, Below.refl _ _⟩
  case round =>
    obtain ⟨k, hk, rfl, ht, hb⟩ := hrel
    have HT := Lib.hid ht
    have HB := Lib.hid hb
    clear ht hb
    by_cases hlt : k < n
    · have hlt' : (k : Int) < n := by omega
      obtain ⟨b, off, rfl, hbl, hcl⟩ := HRS.out.rb.cells (by omega)
      have y0 := (HB.out.cell (p := ⟨b, off + k, none⟩) hbl).trans (hcl k hlt)
      unfold bv at y0
      rw [List.getD_eq_getElem?_getD] at y0
      clear hcl
      go_wp2_with fail
      refine (bk_c _ _).mono ?_
      rintro e w1 ⟨rfl, rfl⟩
      by_cases h2 : xs[k]?.getD 0 = 255
      · have z := nb255 h2
        have hN := HN.out
        go_wp2_with fail
        exact ⟨⟨k + 1, by omega, by go_num, all_take_snoc xs k (by rw [HL.out]; exact hlt) HT.out (by rw [List.getD_eq_getElem?_getD]; exact h2), HB.out⟩, by simp [intOf]; omega⟩
      · have z := nb255' h2
        go_wp2_with fail
        go_ret
        exact ⟨⟨k, rfl, by rw [all_not xs k (by rw [HL.out]; exact hlt) (by rw [List.getD_eq_getElem?_getD]; exact h2)]; simp⟩, HB.out⟩
    · obtain rfl : k = n := by omega
      go_wp2_with fail
      go_ret
      refine ⟨⟨-1, rfl, ?_⟩, HB.out⟩
      have := HT.out
      rw [List.take_of_length_le (by rw [HL.out]; omega)] at this
      rw [this]
      rfl
set_option maxHeartbeats 4000000 in
set_option maxRecDepth 100000 in
theorem bk_contains (A : Option Addr) (n c : Nat) (xs : List UInt8) (w : World) (hrs : RS w A n c xs) (hn : n ≤ 140737488350000) :
    Calls Tryd.prog 65 #[.slice A n c, .func (.func 66) #[] #[]] w fun e w' => e = .returned (.bool (!(xs.all (· == 255)))) ∧ Below w.heap.size w w' := by
  go_enter Tryd.func65, Tryd.ntmps65
  go_wp2_with fail
  refine (bk_idx A n c xs w hrs hn).mono ?_
  rintro e w1 ⟨⟨r, rfl, hr⟩, hb⟩
  have HB := Lib.hid hb
  have HR := Lib.hid hr
  clear hb hr
  go_wp2_with fail
  go_ret
  exact ⟨by rw [← HR.out]; rfl, HB.out⟩
theorem blank_all {w : World} {A : Option Addr} {n c : Nat} {xs : List UInt8} (hrs : RS w A n c xs) {x : Int} {j : Nat} (hj : (j : Int) = x ∨ (j = 0 ∧ x < 0) ∨ (j = n ∧ n < x)) : (xs.drop j) = xs.drop x.toNat := by
  have hl := hrs.len
  rcases hj with h | ⟨h, h2⟩ | ⟨h, h2⟩
  · congr 1; omega
  · congr 1; omega
  · rw [List.drop_eq_nil_of_le (by omega), List.drop_eq_nil_of_le (by omega)]
set_option maxHeartbeats 4000000 in
set_option maxRecDepth 100000 in
theorem bk_blank (A : Option Addr) (n c : Nat) (xs : List UInt8) (x : Int) (w : World) (hrs : RS w A n c xs) (hn : n ≤ 140737488350000) :
    Calls Tryd.prog 49 #[.slice A n c, .int .i64 x] w fun e w' => e = .returned (.bool (bkBlank xs x.toNat)) ∧ Below w.heap.size w w' := by
  have hm : ∀ j, n - j ≤ 140737488350000 := fun j => by omega
  by_cases h0 : x < 0
  · have h1 : ¬ (n : Int) < x := by omega
    have h2 : x < n := by omega
    have h3 : x ≤ n := by omega
    have h4 : ¬ 0 < x := by omega
    have h5 : x ≤ 0 := by omega
    have h6 : ¬ (n : Int) ≤ x := by omega
    have h7 : ¬ 0 ≤ x := by omega
    have h8 : min x (n : Int) = x := by omega
    have h9 : max 0 x = 0 := by omega
    have hq := Lib.hid (hm 0)
    have HBM := Lib.hid (blank_all hrs (j := 0) (x := x) (by omega))
    have HN := Lib.hid hn
    have HRJ := Lib.hid (hrs.sub 0 (by omega))
    have hs4 := fun w' => by_slice_l w' A n c 0 (by omega) 0 (by omega)
    clear hrs hn
    generalize subA A c 0 = A' at *
    generalize n - 0 = n' at *
    generalize c - 0 = c' at *
    go_enter Tryd.func49, Tryd.ntmps49
    go_wp2_with fail
    refine (bk_contains A' n' c' _ _ HRJ.out hq.out).mono ?_
    rintro e w1 ⟨rfl, hb⟩
    have HB := Lib.hid hb
    clear hb hs4
    go_wp2_with fail
    go_ret
    refine ⟨?_, HB.out⟩
    rw [bkBlank]
    first | (rw [← HBM.out]; simp) | simp
  by_cases h1 : (n : Int) < x
  · obtain ⟨z, hz⟩ : ∃ z : Int, z = (n : Int) := ⟨_, rfl⟩
    have h8 : (if (n : Int) < x then (n : Int) else x) = z := by rw [if_pos h1, hz]
    have h9 : (if 0 < z then z else 0) = z := by split <;> omega
    have hq := Lib.hid (hm n)
    have HZ := Lib.hid hz
    have H0 := Lib.hid h0
    have H1 := Lib.hid h1
    clear hz h0 h1
    have HBM := Lib.hid (blank_all hrs (j := n) (x := x) (by have := HZ.out; have := H0.out; have := H1.out;omega))
    have HN := Lib.hid hn
    have HRJ := Lib.hid (hrs.sub n (by have := HZ.out; have := H0.out; have := H1.out;omega))
    have hs4 := fun w' => by_slice_l w' A n c n (by have := HZ.out; have := H0.out; have := H1.out;omega) z (by have := HZ.out; have := H0.out; have := H1.out;omega)
    clear hrs hn
    generalize subA A c n = A' at *
    generalize n - n = n' at *
    generalize c - n = c' at *
    go_enter Tryd.func49, Tryd.ntmps49
    go_wp2_with fail
    refine (bk_contains A' n' c' _ _ HRJ.out hq.out).mono ?_
    rintro e w1 ⟨rfl, hb⟩
    have HB := Lib.hid hb
    clear hb hs4
    go_wp2_with fail
    go_ret
    refine ⟨?_, HB.out⟩
    rw [bkBlank]
    first | (rw [← HBM.out]; simp) | simp
  have h8 : (if (n : Int) < x then (n : Int) else x) = x := if_neg h1
  have h9 : (if 0 < x then x else 0) = x := by split <;> omega
  have hq := Lib.hid (hm x.toNat)
  have H0 := Lib.hid h0
  have H1 := Lib.hid h1
  clear h0 h1
  have HBM := Lib.hid (blank_all hrs (j := x.toNat) (x := x) (by have := H0.out; have := H1.out;omega))
  have HN := Lib.hid hn
  have HRJ := Lib.hid (hrs.sub x.toNat (by have := H0.out; have := H1.out;omega))
  have hs4 := fun w' => by_slice_l w' A n c x.toNat (by have := H0.out; have := H1.out;omega) x (by have := H0.out; have := H1.out;omega)
  clear hrs hn
  generalize subA A c x.toNat = A' at *
  generalize n - x.toNat = n' at *
  generalize c - x.toNat = c' at *
  go_enter Tryd.func49, Tryd.ntmps49
  go_wp2_with fail
  refine (bk_contains A' n' c' _ _ HRJ.out hq.out).mono ?_
  rintro e w1 ⟨rfl, hb⟩
  have HB := Lib.hid hb
  clear hb hs4
  go_wp2_with fail
  go_ret
  refine ⟨?_, HB.out⟩
  rw [bkBlank]
  first | (rw [← HBM.out]; simp) | simp
set_option maxHeartbeats 4000000 in
set_option maxRecDepth 100000 in
theorem rf_blank (A : Option Addr) (n c : Nat) (xs : List UInt8) (x : Int) (w : World) (hrs : RS w A n c xs) (hn : n ≤ 140737488350000) :
    Calls Tryd.prog 42 #[.slice A n c, .int .i64 x] w fun e w' => e = .returned (.bool (bkBlank xs x.toNat)) ∧ Below w.heap.size w w' := by
  by_cases h0 : x < 0
  · have h4 : ¬ 0 < x := by omega
    have h5 : x ≤ 0 := by omega
    have h7 : ¬ 0 ≤ x := by omega
    have h9 : max x 0 = 0 := by omega
    obtain ⟨j, hj0⟩ : ∃ j : Nat, j = 0 := ⟨0, rfl⟩
    have HJ := Lib.hid hj0
    have HRS := Lib.hid hrs
    have HBM := Lib.hid (blank_all hrs (j := j) (x := x) (by omega))
    have HL := Lib.hid hrs.len
    have HN := Lib.hid hn
    clear hrs hn
    try clear hj0
    go_enter Tryd.func42, Tryd.ntmps42
    go_wp2_with fail
    go_loopw [5] (fun s5 wr => ∃ k : Nat, j ≤ k ∧ s5 = .int .i64 (k : Int) ∧ (n ≤ k → n ≤ j ∨ k = n) ∧ ((xs.drop j).take (k - j)).all (· == 255) = true ∧ Below w.heap.size w wr) (fun s5 _ => n - (intOf s5).toNat)
    case atStart => exact ⟨j, Nat.le_refl _, (by rw [HJ.out]; rfl), (fun h => .inl h), by rw [Nat.sub_self]; rfl, Below.refl _ _⟩
    case round =>
      obtain ⟨k, hk, rfl, hkn, ht, hb⟩ := hrel
      have HT := Lib.hid ht
      have HB := Lib.hid hb
      have HKN := Lib.hid hkn
      clear ht hb hkn
      by_cases hlt : k < n
      · have hlt' : (k : Int) < n := by omega
        obtain ⟨b, off, rfl, hbl, hcl⟩ := HRS.out.rb.cells (by omega)
        have y0 := (HB.out.cell (p := ⟨b, off + k, none⟩) hbl).trans (hcl k hlt)
        unfold bv at y0
        rw [List.getD_eq_getElem?_getD] at y0
        have HD := Lib.hid (show (xs.drop j).getD (k - j) 0 = xs[k]?.getD 0 by rw [List.getD_eq_getElem?_getD, List.getElem?_drop]; congr 2; omega)
        have HDL := Lib.hid (show k - j < (xs.drop j).length by rw [List.length_drop, HL.out]; omega)
        have hN := HN.out
        clear hcl
        by_cases h2 : xs[k]?.getD 0 = 255
        · have z := nb255 h2
          have HH := Lib.hid h2
          clear h2
          go_wp2_with fail
          exact ⟨⟨k + 1, by omega, by go_num, (fun h => .inr (by omega)), by rw [show k + 1 - j = k - j + 1 by omega]; exact all_take_snoc _ _ HDL.out HT.out (HD.out.trans HH.out), HB.out⟩, by simp [intOf]; omega⟩
        · have z := nb255' h2
          have HH := Lib.hid h2
          clear h2
          go_wp2_with fail
          go_ret
          refine ⟨?_, HB.out⟩
          rw [bkBlank, ← HBM.out, all_not _ _ HDL.out (by rw [HD.out]; exact HH.out)]
          rfl
      · have hlt' : ¬ (k : Int) < n := by omega
        go_wp2_with fail
        go_ret
        refine ⟨?_, HB.out⟩
        have ht := HT.out
        have hl := HL.out
        have hkn := HKN.out (by omega)
        rw [List.take_of_length_le (by rw [List.length_drop]; omega)] at ht
        rw [bkBlank]
        first | rw [← HBM.out, ht] | rw [ht]
        rfl
  obtain ⟨j, rfl⟩ : ∃ j : Nat, x = (j : Int) := ⟨x.toNat, by omega⟩
  have h9 : max (j : Int) 0 = j := by omega
  have HRS := Lib.hid hrs
  have HBM := Lib.hid (blank_all hrs (j := j) (x := (j : Int)) (by omega))
  have HL := Lib.hid hrs.len
  have HN := Lib.hid hn
  clear hrs hn
  try clear hj0
  go_enter Tryd.func42, Tryd.ntmps42
  go_wp2_with fail
  go_loopw [5] (fun s5 wr => ∃ k : Nat, j ≤ k ∧ s5 = .int .i64 (k : Int) ∧ (n ≤ k → n ≤ j ∨ k = n) ∧ ((xs.drop j).take (k - j)).all (· == 255) = true ∧ Below w.heap.size w wr) (fun s5 _ => n - (intOf s5).toNat)
  case atStart => exact ⟨j, Nat.le_refl _, rfl, (fun h => .inl h), by rw [Nat.sub_self]; rfl, Below.refl _ _⟩
  case round =>
    obtain ⟨k, hk, rfl, hkn, ht, hb⟩ := hrel
    have HT := Lib.hid ht
    have HB := Lib.hid hb
    have HKN := Lib.hid hkn
    clear ht hb hkn
    by_cases hlt : k < n
    · have hlt' : (k : Int) < n := by omega
      obtain ⟨b, off, rfl, hbl, hcl⟩ := HRS.out.rb.cells (by omega)
      have y0 := (HB.out.cell (p := ⟨b, off + k, none⟩) hbl).trans (hcl k hlt)
      unfold bv at y0
      rw [List.getD_eq_getElem?_getD] at y0
      have HD := Lib.hid (show (xs.drop j).getD (k - j) 0 = xs[k]?.getD 0 by rw [List.getD_eq_getElem?_getD, List.getElem?_drop]; congr 2; omega)
      have HDL := Lib.hid (show k - j < (xs.drop j).length by rw [List.length_drop, HL.out]; omega)
      have hN := HN.out
      clear hcl
      by_cases h2 : xs[k]?.getD 0 = 255
      · have z := nb255 h2
        have HH := Lib.hid h2
        clear h2
        go_wp2_with fail
        exact ⟨⟨k + 1, by omega, by go_num, (fun h => .inr (by omega)), by rw [show k + 1 - j = k - j + 1 by omega]; exact all_take_snoc _ _ HDL.out HT.out (HD.out.trans HH.out), HB.out⟩, by simp [intOf]; omega⟩
      · have z := nb255' h2
        have HH := Lib.hid h2
        clear h2
        go_wp2_with fail
        go_ret
        refine ⟨?_, HB.out⟩
        rw [bkBlank, ← HBM.out, all_not _ _ HDL.out (by rw [HD.out]; exact HH.out)]
        rfl
    · have hlt' : ¬ (k : Int) < n := by omega
      go_wp2_with fail
      go_ret
      refine ⟨?_, HB.out⟩
      have ht := HT.out
      have hl := HL.out
      have hkn := HKN.out (by omega)
      rw [List.take_of_length_le (by rw [List.length_drop]; omega)] at ht
      rw [bkBlank]
      first | rw [← HBM.out, ht] | rw [ht]
      rfl
end Go.Proofs.YtcppmihambcihaaDoor
