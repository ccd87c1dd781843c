/- The walks of CrcParts, CrcBack, CrcZero; bytes that came in, read as a list of bytes. -/
import Derived.Test.YtknmgpaekgjjhaaCrcSmall
import Derived.Test.YtknmgpaekgjjhaaRow
namespace Go.Proofs.Ytknmgpaekgjjhaa
open Go.RowKit
set_option linter.unusedVariables false
set_option linter.unusedSimpArgs false

theorem u8_bd {a : Int} (h : (Lit.int .u8 a).wf = true) : 0 ≤ a ∧ a ≤ 255 := by
  have h1 : IntKind.u8.min = 0 := rfl
  have h2 : IntKind.u8.max = 255 := rfl
  simp only [Lit.wf, Bool.and_eq_true, decide_eq_true_eq] at h
  omega
theorem u16_of {a : Int} (h : (Lit.int .u16 a).wf = true) : ∃ s : BitVec 16, n16 s = a := by
  have h1 : IntKind.u16.min = 0 := rfl
  have h2 : IntKind.u16.max = 65535 := rfl
  simp only [Lit.wf, Bool.and_eq_true, decide_eq_true_eq] at h
  refine ⟨BitVec.ofNat 16 a.toNat, ?_⟩
  unfold n16
  rw [BitVec.toNat_ofNat]
  omega
theorem i64_bd {a : Int} (h : (Lit.int .i64 a).wf = true) : -9223372036854775808 ≤ a ∧ a ≤ 9223372036854775807 := by
  have h1 : IntKind.i64.min = -9223372036854775808 := rfl
  have h2 : IntKind.i64.max = 9223372036854775807 := rfl
  simp only [Lit.wf, Bool.and_eq_true, decide_eq_true_eq] at h
  omega
/-- Bytes that came in. -/
theorem IsRow.bytes {w : World} {a : Option Addr} {len cap : Nat} {zs : List Int} (h : IsRow .u8 w a len cap zs) : ∃ xs : List UInt8, RS w a len cap xs := by
  rcases h with ⟨rfl, rfl, rfl, rfl⟩ | ⟨x, rfl, hl, hm, hz, hc, hw⟩
  · exact ⟨[], RS.none _⟩
  · have hlen : ((zs.take len).map fun n => UInt8.ofNat n.toNat).length = len := by rw [List.length_map, List.length_take]; omega
    refine ⟨(zs.take len).map fun n => UInt8.ofNat n.toNat, ⟨hlen, ?_, fun h0 => ?_⟩, (fun e => by cases e), hl⟩
    · simp only [maxLen] at hm; omega
    · obtain ⟨b, off, spot⟩ := x
      have h1 := hc 0 (by omega)
      have hs : spot = none := by simpa [Addr.add] using World.cell?_spot h1
      subst hs
      refine ⟨b, off, rfl, fun i hi => ?_⟩
      have h2 := hc i (by omega)
      rw [add_at] at h2
      rw [h2]
      have hi' : i < zs.length := by omega
      have hmem : zs[i] ∈ zs := List.getElem_mem hi'
      have bd := u8_bd (hw _ hmem)
      unfold bv nb
      simp [List.getD_eq_getElem?_getD, List.getElem?_eq_getElem hi', hi]
      omega

set_option maxRecDepth 100000 in
set_option maxHeartbeats 2000000 in
theorem crcParts_walk (a0 : Int) (a1 : Option Addr) (len1 cap1 : Nat) (z1 : List Int) (a2 : Int) (w : World) (w0 : (Lit.int .u16 a0).wf = true) (w1 : IsRow .u8 w a1 len1 cap1 z1) (w2 : (Lit.int .i64 a2).wf = true) :
    Calls Try.prog 4 #[.int .u16 a0, .slice a1 len1 cap1, .int .i64 a2] w fun e w' => e = .returned (.bool true) ∧ Below w.heap.size w w' := by
  obtain ⟨s, rfl⟩ := u16_of w0
  obtain ⟨xs, hr, hA, hc⟩ := w1.bytes
  have hmx := hr.2.1
  clear w0 w1 w2
  have early : 1000 < len1 ∨ a2 < 0 ∨ (len1 : Int) < a2 → Calls Try.prog 4 #[.int .u16 (n16 s), .slice a1 len1 cap1, .int .i64 a2] w fun e w' => e = .returned (.bool true) ∧ Below w.heap.size w w' := by
    intro h
    by_cases h1 : 1000 < len1
    · have h1' : (1000 : Int) < len1 := by omega
      clear h hr hA hc
      go_enter Try.func4, Try.ntmps4
      go_wp2_with (go_at_call 9; refine (crc_small _).mono ?_; rintro e w' ⟨rfl, hb⟩)
      go_ret
      exact ⟨rfl, hb⟩
    · have h1' : ¬ (1000 : Int) < len1 := by omega
      by_cases h2 : a2 < 0
      · clear h hr hA hc
        go_enter Try.func4, Try.ntmps4
        go_wp2_with (go_at_call 9; refine (crc_small _).mono ?_; rintro e w' ⟨rfl, hb⟩)
        go_ret
        exact ⟨rfl, hb⟩
      · have h3 : (len1 : Int) < a2 := by omega
        clear h hr hA hc
        go_enter Try.func4, Try.ntmps4
        go_wp2_with (go_at_call 9; refine (crc_small _).mono ?_; rintro e w' ⟨rfl, hb⟩)
        go_ret
        exact ⟨rfl, hb⟩
  by_cases h : 1000 < len1 ∨ a2 < 0 ∨ (len1 : Int) < a2
  · exact early h
  · have h1 : ¬ (1000 : Int) < len1 := by omega
    obtain ⟨k, rfl⟩ := Int.eq_ofNat_of_zero_le (show 0 ≤ a2 by omega)
    have h2 : ¬ len1 < k := by omega
    have hk : k ≤ len1 := by omega
    have h3 : (k : Int) ≤ cap1 := by omega
    clear early h
    go_enter Try.func4, Try.ntmps4
    go_wp2_with fail
    refine (crc_small _).mono ?_
    rintro e w1 ⟨rfl, hb⟩
    have hr1 := hr.below hb
    have hs := fun m => by_slice_l (w1.drewN m) a1 len1 cap1 k (by omega) (k : Int) rfl
    have e1 : crcAdd (crcAdd s (xs.take k)) (xs.drop k) = crcAdd s xs := by rw [← crcAdd_append, List.take_append_drop]
    have e2 : crcAdd 0xffff#16 xs = crcSum xs := rfl
    go_wp2_with fail
    go_quiet (first
      | (go_at_call 16; with_reducible refine quiet_same (crc_add s _ _ _ (xs.take k) _ (RB.drewN (hr1.take k hk) _)))
      | (go_at_call 16; with_reducible refine quiet_same (crc_add (crcAdd s (xs.take k)) _ _ _ (xs.drop k) _ (RB.drewN (hr1.sub k hk hc) _)))
      | (go_at_call 16; with_reducible refine quiet_same (crc_add s _ _ _ xs _ (RB.drewN hr1 _)))
      | (go_at_call 16; with_reducible refine quiet_same (crc_add_first _ _ _ xs _ (RB.drewN hr1 _)))
      | (go_at_call 14; with_reducible refine quiet_same (crc_sum _ _ _ xs _ (RB.drewN hr1 _))))
    go_wp2
    all_goals
      go_ret
      exact ⟨rfl, below_step hb (below_drewN _ _)⟩

theorem crcOpen_none_iff (xs : List UInt8) : (crcOpen xs).isSome = true ↔ 2 ≤ xs.length ∧ crcSum xs = 0#16 := by
  unfold crcOpen; split <;> simp_all
theorem crcOpen_back (xs ys : List UInt8) (h : crcOpen xs = some ys) : crcSeal ys = xs := by
  unfold crcOpen at h
  split at h
  · rename_i hc
    cases h
    exact ((crcSum_zero_iff xs hc.1).1 hc.2).symm
  · cases h
theorem crcOpen_len (xs ys : List UInt8) (h : crcOpen xs = some ys) : ys.length + 2 = xs.length := by
  rw [← crcOpen_back xs ys h, crcSum_seal_len]
theorem n16_zero (s : BitVec 16) : (n16 s == 0) = decide (s = 0#16) := by
  by_cases h : s = 0#16
  · subst h; rfl
  · have : n16 s ≠ 0 := fun e => h (n16_inj (by rw [e]; rfl))
    simp [h, this]

set_option maxRecDepth 100000 in
set_option maxHeartbeats 4000000 in
theorem crcBack_walk (a0 : Option Addr) (len0 cap0 : Nat) (z0 : List Int) (a1 : Option Addr) (len1 cap1 : Nat) (z1 : List Int) (w : World) (w0 : IsRow .u8 w a0 len0 cap0 z0) (w1 : IsRow .u8 w a1 len1 cap1 z1) :
    Calls Try.prog 5 #[.slice a0 len0 cap0, .slice a1 len1 cap1] w fun e w' => e = .returned (.bool true) ∧ Below w.heap.size w w' := by
  obtain ⟨xs, hr⟩ := w0.bytes
  obtain ⟨ys, kr⟩ := w1.bytes
  have hmx := hr.rb.2.1
  have kmx := kr.rb.2.1
  clear w0 w1
  by_cases h1 : 1000 < len0
  · have h1' : (1000 : Int) < len0 := by omega
    clear hr kr
    go_enter Try.func5, Try.ntmps5
    go_wp2_with (go_at_call 9; refine (crc_small _).mono ?_; rintro e w' ⟨rfl, hb⟩)
    go_ret
    exact ⟨rfl, hb⟩
  have h1' : ¬ (1000 : Int) < len0 := by omega
  by_cases h2 : 1000 < len1
  · have h2' : (1000 : Int) < len1 := by omega
    clear hr kr
    go_enter Try.func5, Try.ntmps5
    go_wp2_with (go_at_call 9; refine (crc_small _).mono ?_; rintro e w' ⟨rfl, hb⟩)
    go_ret
    exact ⟨rfl, hb⟩
  have h2' : ¬ (1000 : Int) < len1 := by omega
  have hl := Lib.hid hr.len
  have kl := Lib.hid kr.len
  go_enter Try.func5, Try.ntmps5
  go_wp2_with fail
  refine (crc_small _).mono ?_
  rintro e wa ⟨rfl, hb⟩
  replace hr := hr.below hb
  replace kr := kr.below hb
  go_wp2_with fail
  refine (crc_seal _ _ _ _ _ hr (by omega)).mono ?_
  rintro e wb ⟨vb, rfl, hown, hb2⟩
  replace hr := hr.below hb2
  replace kr := kr.below hb2
  replace hb := below_step hb hb2
  obtain ⟨A1, c1, rfl, hr1⟩ := hown.reads
  clear hb2 hown
  go_wp2_with fail
  refine (crc_open _ _ _ _ _ hr1 (by rw [crcSum_seal_len, hl.out]; omega)).mono ?_
  rintro e wc ⟨vc, rfl, hown, hb2⟩
  rw [crcOpen_seal] at hown
  simp only [Option.getD_some] at hown
  replace hr := hr.below hb2
  replace kr := kr.below hb2
  replace hb := below_step hb hb2
  obtain ⟨A2, c2, rfl, hr2⟩ := hown.reads
  clear hb2 hown hr1
  have ho := crcOpen_seal xs
  go_wp2_with fail
  refine (crc_open _ _ _ _ _ kr (by omega)).mono ?_
  rintro e wd ⟨vd, rfl, hown, hb2⟩
  replace hr := hr.below hb2
  replace kr := kr.below hb2
  replace hr2 := hr2.below hb2
  replace hb := below_step hb hb2
  clear hb2
  have t1 := strB_toList xs
  have t2 := strB_toList ys
  have k1 := by_string _ _ _ cap0 _ hr.rb
  have k2 := by_string _ _ _ c2 _ hr2.rb
  cases hy : crcOpen ys with
  | none =>
    rw [hy] at hown
    simp only [Option.getD_none] at hown
    obtain ⟨A3, c3, rfl, hr3⟩ := hown.reads
    go_wp2_with fail
    go_ret
    exact ⟨rfl, hb⟩
  | some zs =>
    rw [hy] at hown
    simp only [Option.getD_some] at hown
    obtain ⟨A3, c3, rfl, hr3⟩ := hown.reads
    have hz := crcOpen_back ys zs hy
    have hzl := crcOpen_len ys zs hy
    have hlen : zs.length ≤ 140737488350000 := by rw [kl.out] at hzl; omega
    clear hown hzl k1 k2
    go_wp2_with fail
    have hS0 := below_drew1 wd
    have k1 := by_string_of wd _ _ cap0 _ hr.rb
    have k2 := by_string_of wd _ _ c2 _ hr2.rb
    have k3 := by_string_of wd _ _ cap1 _ kr.rb
    refine wp_region_held (S := fun w' => Below wd.heap.size wd w') (by kernel_rfl) ?_
    change wpAnyH _ _ _ _ _ _ _ _ wd.drew
    change wpAnyH _ _ _ _ _ 20 (Array.replicate 20 false) _ _
    refine wpAnyH_take (i := 0) (oi := ?_) (v := ?_) ?_ (by kernel_rfl) (by kernel_rfl) (by kernel_rfl) ?_ ?_ (by assumption) ?_
    rotate_left 2; (simp only [List.getElem?_toArray, List.getElem?_cons_succ, List.getElem?_cons_zero]; rfl)
    rotate_left; (first | (refine .inl ⟨by rfl, ?_⟩; intro w9 hS9; go_simp; try with_reducible rfl) | exact .inr ⟨by rfl, rfl⟩)
    rotate_left; (intro _ _ _ h9; exact h9)
    try simp only [Act.put, List.setIfInBounds_toArray, List.set_cons_zero, List.set_cons_succ]
    refine wpAnyH_take (i := 1) (oi := ?_) (v := ?_) ?_ (by kernel_rfl) (by kernel_rfl) (by kernel_rfl) ?_ ?_ (by assumption) ?_
    rotate_left 2; (simp only [List.getElem?_toArray, List.getElem?_cons_succ, List.getElem?_cons_zero]; rfl)
    rotate_left; (first | (refine .inl ⟨by rfl, ?_⟩; intro w9 hS9; go_simp; try with_reducible rfl) | exact .inr ⟨by rfl, rfl⟩)
    rotate_left; (intro _ _ _ h9; exact h9)
    try simp only [Act.put, List.setIfInBounds_toArray, List.set_cons_zero, List.set_cons_succ]
    refine wpAnyH_take (i := 2) (oi := ?_) (v := ?_) ?_ (by kernel_rfl) (by kernel_rfl) (by kernel_rfl) ?_ ?_ (by assumption) ?_
    rotate_left 2; (simp only [List.getElem?_toArray, List.getElem?_cons_succ, List.getElem?_cons_zero]; rfl)
    rotate_left; (first | (refine .inl ⟨by rfl, ?_⟩; intro w9 hS9; go_simp; try with_reducible rfl) | exact .inr ⟨by rfl, rfl⟩)
    rotate_left; (intro _ _ _ h9; exact h9)
    try simp only [Act.put, List.setIfInBounds_toArray, List.set_cons_zero, List.set_cons_succ]
    refine wpAnyH_take (i := 3) (oi := ?_) (v := ?_) ?_ (by kernel_rfl) (by kernel_rfl) (by kernel_rfl) ?_ ?_ (by assumption) ?_
    rotate_left 2; (simp only [List.getElem?_toArray, List.getElem?_cons_succ, List.getElem?_cons_zero]; rfl)
    rotate_left; (first | (refine .inl ⟨by rfl, ?_⟩; intro w9 hS9; go_simp; try with_reducible rfl) | exact .inr ⟨by rfl, rfl⟩)
    rotate_left; (intro _ _ _ h9; exact h9)
    try simp only [Act.put, List.setIfInBounds_toArray, List.set_cons_zero, List.set_cons_succ]
    refine wpAnyH_take (i := 4) (oi := ?_) (v := ?_) ?_ (by kernel_rfl) (by kernel_rfl) (by kernel_rfl) ?_ ?_ (by assumption) ?_
    rotate_left 2; (simp only [List.getElem?_toArray, List.getElem?_cons_succ, List.getElem?_cons_zero]; rfl)
    rotate_left; (first | (refine .inl ⟨by rfl, ?_⟩; intro w9 hS9; go_simp; try with_reducible rfl) | exact .inr ⟨by rfl, rfl⟩)
    rotate_left; (intro _ _ _ h9; exact h9)
    try simp only [Act.put, List.setIfInBounds_toArray, List.set_cons_zero, List.set_cons_succ]
    refine wpAnyH_take (i := 5) (oi := ?_) (v := ?_) ?_ (by kernel_rfl) (by kernel_rfl) (by kernel_rfl) ?_ ?_ (by assumption) ?_
    rotate_left 2; (simp only [List.getElem?_toArray, List.getElem?_cons_succ, List.getElem?_cons_zero]; rfl)
    rotate_left; (first | (refine .inl ⟨by rfl, ?_⟩; intro w9 hS9; go_simp; try with_reducible rfl) | exact .inr ⟨by rfl, rfl⟩)
    rotate_left; (intro _ _ _ h9; exact h9)
    try simp only [Act.put, List.setIfInBounds_toArray, List.set_cons_zero, List.set_cons_succ]
    refine wpAnyH_take (i := 6) (oi := ?_) (v := ?_) ?_ (by kernel_rfl) (by kernel_rfl) (by kernel_rfl) ?_ ?_ (by assumption) ?_
    rotate_left 2; (simp only [List.getElem?_toArray, List.getElem?_cons_succ, List.getElem?_cons_zero]; rfl)
    rotate_left; (first | (refine .inl ⟨by rfl, ?_⟩; intro w9 hS9; go_simp; try with_reducible rfl) | exact .inr ⟨by rfl, rfl⟩)
    rotate_left; (intro _ _ _ h9; exact h9)
    try simp only [Act.put, List.setIfInBounds_toArray, List.set_cons_zero, List.set_cons_succ]
    refine wpAnyH_take (i := 7) (oi := ?_) (v := ?_) ?_ (by kernel_rfl) (by kernel_rfl) (by kernel_rfl) ?_ ?_ (by assumption) ?_
    rotate_left 2; (simp only [List.getElem?_toArray, List.getElem?_cons_succ, List.getElem?_cons_zero]; rfl)
    rotate_left; (first | (refine .inl ⟨by rfl, ?_⟩; intro w9 hS9; go_simp; try with_reducible rfl) | exact .inr ⟨by rfl, rfl⟩)
    rotate_left; (intro _ _ _ h9; exact h9)
    try simp only [Act.put, List.setIfInBounds_toArray, List.set_cons_zero, List.set_cons_succ]
    refine wpAnyH_take (i := 8) (oi := ?_) (v := ?_) ?_ (by kernel_rfl) (by kernel_rfl) (by kernel_rfl) ?_ ?_ (by assumption) ?_
    rotate_left 2; (simp only [List.getElem?_toArray, List.getElem?_cons_succ, List.getElem?_cons_zero]; rfl)
    rotate_left; (first | (refine .inl ⟨by rfl, ?_⟩; intro w9 hS9; go_simp; try with_reducible rfl) | exact .inr ⟨by rfl, rfl⟩)
    rotate_left; (intro _ _ _ h9; exact h9)
    try simp only [Act.put, List.setIfInBounds_toArray, List.set_cons_zero, List.set_cons_succ]
    refine wpAnyH_take (i := 9) (oi := ?_) (v := ?_) ?_ (by kernel_rfl) (by kernel_rfl) (by kernel_rfl) ?_ ?_ (by assumption) ?_
    rotate_left 2; (simp only [List.getElem?_toArray, List.getElem?_cons_succ, List.getElem?_cons_zero]; rfl)
    rotate_left; (first | (refine .inl ⟨by rfl, ?_⟩; intro w9 hS9; go_simp; try with_reducible rfl) | exact .inr ⟨by rfl, rfl⟩)
    rotate_left; (intro _ _ _ h9; exact h9)
    try simp only [Act.put, List.setIfInBounds_toArray, List.set_cons_zero, List.set_cons_succ]
    refine wpAnyH_take (i := 10) (oi := ?_) (v := ?_) ?_ (by kernel_rfl) (by kernel_rfl) (by kernel_rfl) ?_ ?_ (by assumption) ?_
    rotate_left 2; (simp only [List.getElem?_toArray, List.getElem?_cons_succ, List.getElem?_cons_zero]; rfl)
    rotate_left; (first | (refine .inl ⟨by rfl, ?_⟩; intro w9 hS9; go_simp; try with_reducible rfl) | exact .inr ⟨by rfl, rfl⟩)
    rotate_left; (intro _ _ _ h9; exact h9)
    try simp only [Act.put, List.setIfInBounds_toArray, List.set_cons_zero, List.set_cons_succ]
    refine wpAnyH_take (i := 11) (oi := ?_) (v := ?_) ?_ (by kernel_rfl) (by kernel_rfl) (by kernel_rfl) ?_ ?_ (by assumption) ?_
    rotate_left 2; (simp only [List.getElem?_toArray, List.getElem?_cons_succ, List.getElem?_cons_zero]; rfl)
    rotate_left; (first | (refine .inl ⟨by rfl, ?_⟩; intro w9 hS9; go_simp; try with_reducible rfl) | exact .inr ⟨by rfl, rfl⟩)
    rotate_left; (intro _ _ _ h9; exact h9)
    try simp only [Act.put, List.setIfInBounds_toArray, List.set_cons_zero, List.set_cons_succ]
    refine wpAnyH_take (i := 12) (oi := ?_) (v := ?_) ?_ (by kernel_rfl) (by kernel_rfl) (by kernel_rfl) ?_ ?_ (by assumption) ?_
    rotate_left 2; (simp only [List.getElem?_toArray, List.getElem?_cons_succ, List.getElem?_cons_zero]; rfl)
    rotate_left; (first | (refine .inl ⟨by rfl, ?_⟩; intro w9 hS9; go_simp; try with_reducible rfl) | exact .inr ⟨by rfl, rfl⟩)
    rotate_left; (intro _ _ _ h9; exact h9)
    try simp only [Act.put, List.setIfInBounds_toArray, List.set_cons_zero, List.set_cons_succ]
    refine wpAnyH_take (i := 15) (oi := ?_) (v := ?_) ?_ (by kernel_rfl) (by kernel_rfl) (by kernel_rfl) ?_ ?_ (by assumption) ?_
    rotate_left 2; (simp only [List.getElem?_toArray, List.getElem?_cons_succ, List.getElem?_cons_zero]; rfl)
    rotate_left; (first | (refine .inl ⟨by rfl, ?_⟩; intro w9 hS9; go_simp; try with_reducible rfl) | exact .inr ⟨by rfl, rfl⟩)
    rotate_left; (intro _ _ _ h9; exact h9)
    try simp only [Act.put, List.setIfInBounds_toArray, List.set_cons_zero, List.set_cons_succ]
    refine wpAnyH_take (i := 16) (oi := ?_) (v := ?_) ?_ (by kernel_rfl) (by kernel_rfl) (by kernel_rfl) ?_ ?_ (by assumption) ?_
    rotate_left 2; (simp only [List.getElem?_toArray, List.getElem?_cons_succ, List.getElem?_cons_zero]; rfl)
    rotate_left; (first | (refine .inl ⟨by rfl, ?_⟩; intro w9 hS9; go_simp; try with_reducible rfl) | exact .inr ⟨by rfl, rfl⟩)
    rotate_left; (intro _ _ _ h9; exact h9)
    try simp only [Act.put, List.setIfInBounds_toArray, List.set_cons_zero, List.set_cons_succ]
    refine wpAnyH_ready (rs := [13]) (by kernel_rfl) (by simp) (AllReadyH.cons rfl (fun K9 hK9 => ?_) AllReadyH.nil)
    go_simp
    go_must (refine (crc_seal _ _ _ zs _ hr3.drew hlen).mono ?_)
    rintro e we ⟨ve, rfl, hown, hb2⟩
    obtain ⟨A4, c4, rfl, hr4⟩ := hown.reads
    rw [hz] at hr4
    have k4 := by_string_of we _ _ c4 _ hr4.rb
    clear hown
    refine hK9.out _ _ (below_step hS0 hb2) (fun _ => ?_)
    have hS1 := Below.refl we.heap.size we
    refine wpAnyH_weaken (T := fun w' => Below we.heap.size we w') (fun w' h => below_step (below_step hS0 hb2) h) _ _ _ _ ?_
    refine wpAnyH_take (i := 14) (oi := ?_) (v := ?_) ?_ (by kernel_rfl) (by kernel_rfl) (by kernel_rfl) ?_ ?_ (by assumption) ?_
    rotate_left 2; (simp only [List.getElem?_toArray, List.getElem?_cons_succ, List.getElem?_cons_zero]; rfl)
    rotate_left; (first | (refine .inl ⟨by rfl, ?_⟩; intro w9 hS9; go_simp; try with_reducible rfl) | exact .inr ⟨by rfl, rfl⟩)
    rotate_left; (intro _ _ _ h9; exact h9)
    try simp only [Act.put, List.setIfInBounds_toArray, List.set_cons_zero, List.set_cons_succ]
    refine wpAnyH_take (i := 17) (oi := ?_) (v := ?_) ?_ (by kernel_rfl) (by kernel_rfl) (by kernel_rfl) ?_ ?_ (by assumption) ?_
    rotate_left 2; (simp only [List.getElem?_toArray, List.getElem?_cons_succ, List.getElem?_cons_zero]; rfl)
    rotate_left; (first | (refine .inl ⟨by rfl, ?_⟩; intro w9 hS9; go_simp; try with_reducible rfl) | exact .inr ⟨by rfl, rfl⟩)
    rotate_left; (intro _ _ _ h9; exact h9)
    try simp only [Act.put, List.setIfInBounds_toArray, List.set_cons_zero, List.set_cons_succ]
    refine wpAnyH_take (i := 18) (oi := ?_) (v := ?_) ?_ (by kernel_rfl) (by kernel_rfl) (by kernel_rfl) ?_ ?_ (by assumption) ?_
    rotate_left 2; (simp only [List.getElem?_toArray, List.getElem?_cons_succ, List.getElem?_cons_zero]; rfl)
    rotate_left; (first | (refine .inl ⟨by rfl, ?_⟩; intro w9 hS9; go_simp; try with_reducible rfl) | exact .inr ⟨by rfl, rfl⟩)
    rotate_left; (intro _ _ _ h9; exact h9)
    try simp only [Act.put, List.setIfInBounds_toArray, List.set_cons_zero, List.set_cons_succ]
    refine wpAnyH_take (i := 19) (oi := ?_) (v := ?_) ?_ (by kernel_rfl) (by kernel_rfl) (by kernel_rfl) ?_ ?_ (by assumption) ?_
    rotate_left 2; (simp only [List.getElem?_toArray, List.getElem?_cons_succ, List.getElem?_cons_zero]; rfl)
    rotate_left; (first | (refine .inl ⟨by rfl, ?_⟩; intro w9 hS9; go_simp; try with_reducible rfl) | exact .inr ⟨by rfl, rfl⟩)
    rotate_left; (intro _ _ _ h9; exact h9)
    try simp only [Act.put, List.setIfInBounds_toArray, List.set_cons_zero, List.set_cons_succ]
    refine wpAnyH_done (by kernel_rfl) ?_ _
    go_wp2
    go_ret
    exact ⟨rfl, below_step hb (below_step hS0 hb2)⟩

set_option maxRecDepth 100000 in
set_option maxHeartbeats 4000000 in
theorem crcZero_walk (a0 : Option Addr) (len0 cap0 : Nat) (z0 : List Int) (a1 : Option Addr) (len1 cap1 : Nat) (z1 : List Int) (w : World) (w0 : IsRow .u8 w a0 len0 cap0 z0) (w1 : IsRow .u8 w a1 len1 cap1 z1) :
    Calls Try.prog 8 #[.slice a0 len0 cap0, .slice a1 len1 cap1] w fun e w' => e = .returned (.bool true) ∧ Below w.heap.size w w' := by
  obtain ⟨xs, hr⟩ := w0.bytes
  obtain ⟨ys, kr⟩ := w1.bytes
  have hmx := hr.rb.2.1
  have kmx := kr.rb.2.1
  clear w0 w1
  by_cases h1 : 1000 < len0
  · have h1' : (1000 : Int) < len0 := by omega
    clear hr kr
    go_enter Try.func8, Try.ntmps8
    go_wp2_with (go_at_call 9; refine (crc_small _).mono ?_; rintro e w' ⟨rfl, hb⟩)
    go_ret
    exact ⟨rfl, hb⟩
  have h1' : ¬ (1000 : Int) < len0 := by omega
  by_cases h2 : 1000 < len1
  · have h2' : (1000 : Int) < len1 := by omega
    clear hr kr
    go_enter Try.func8, Try.ntmps8
    go_wp2_with (go_at_call 9; refine (crc_small _).mono ?_; rintro e w' ⟨rfl, hb⟩)
    go_ret
    exact ⟨rfl, hb⟩
  have h2' : ¬ (1000 : Int) < len1 := by omega
  have hl := Lib.hid hr.len
  have kl := Lib.hid kr.len
  go_enter Try.func8, Try.ntmps8
  go_wp2_with fail
  refine (crc_small _).mono ?_
  rintro e wa ⟨rfl, hb⟩
  replace hr := hr.below hb
  replace kr := kr.below hb
  go_wp2_with fail
  refine (crc_open _ _ _ _ _ kr (by omega)).mono ?_
  rintro e wb ⟨vb, rfl, hown, hb2⟩
  replace hr := hr.below hb2
  replace kr := kr.below hb2
  replace hb := below_step hb hb2
  clear hown hb2
  go_wp2_with fail
  refine (crc_seal _ _ _ _ _ hr (by omega)).mono ?_
  rintro e wc ⟨vc, rfl, hown, hb2⟩
  replace kr := kr.below hb2
  replace hb := below_step hb hb2
  obtain ⟨A1, c1, rfl, hr1⟩ := hown.reads
  clear hb2 hown hr
  have e0 : n16 (crcSum (crcSeal xs)) = 0 := by rw [crcSum_seal]; rfl
  have e3 := crcOpen_none_iff ys
  rw [kl.out] at e3
  by_cases h3 : 2 ≤ len1
  · have h3' : (2 : Int) ≤ len1 := by omega
    cases hs : (n16 (crcSum ys) == 0)
    · have e4 : (crcOpen ys).isSome = false := by
        rw [n16_zero] at hs
        rw [Bool.eq_false_iff]; intro h; exact of_decide_eq_false hs (e3.1 h).2
      clear e3 h3
      go_wp2_with (go_at_call 14; first | (with_reducible refine (crc_sum _ _ _ _ _ hr1.rb).mono ?_; rintro e w' ⟨rfl, rfl⟩) | (with_reducible refine (crc_sum _ _ _ _ _ kr.rb).mono ?_; rintro e w' ⟨rfl, rfl⟩))
      go_ret
      exact ⟨rfl, hb⟩
    · have e4 : (crcOpen ys).isSome = true := by
        rw [n16_zero] at hs
        exact e3.2 ⟨h3, of_decide_eq_true hs⟩
      clear e3 h3
      go_wp2_with (go_at_call 14; first | (with_reducible refine (crc_sum _ _ _ _ _ hr1.rb).mono ?_; rintro e w' ⟨rfl, rfl⟩) | (with_reducible refine (crc_sum _ _ _ _ _ kr.rb).mono ?_; rintro e w' ⟨rfl, rfl⟩))
      go_ret
      exact ⟨rfl, hb⟩
  · have h3' : ¬ (2 : Int) ≤ len1 := by omega
    have e4 : (crcOpen ys).isSome = false := by
      rw [Bool.eq_false_iff]; intro h; exact h3 (e3.1 h).1
    clear e3 h3
    go_wp2_with (go_at_call 14; first | (with_reducible refine (crc_sum _ _ _ _ _ hr1.rb).mono ?_; rintro e w' ⟨rfl, rfl⟩) | (with_reducible refine (crc_sum _ _ _ _ _ kr.rb).mono ?_; rintro e w' ⟨rfl, rfl⟩))
    go_ret
    exact ⟨rfl, hb⟩
end Go.Proofs.Ytknmgpaekgjjhaa
