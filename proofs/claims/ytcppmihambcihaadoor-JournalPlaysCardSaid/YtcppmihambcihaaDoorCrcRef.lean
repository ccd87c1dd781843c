/- The document's sums (crossbuckref02), each by a contract. -/
import Derived.Test.YtcppmihambcihaaDoorCrc
namespace Go.Proofs.YtcppmihambcihaaDoor
open Go.RowKit
set_option linter.unusedVariables false
set_option linter.unusedSimpArgs false

theorem msb_ge (a : BitVec 16) : a.msb = true ↔ 32768 ≤ n16 a := by
  rw [BitVec.msb_eq_decide]; unfold n16; simp; omega
theorem div256 (s : BitVec 16) : IntKind.u16.wrap ((n16 s).tdiv 256) % 256 = nb (hi8 s) := by
  have := n16_bd s
  rw [← hi8_of, wrap16, IntKind.wrap_u8, Int.tdiv_eq_ediv_of_nonneg this.1]
  omega
theorem mod256 (s : BitVec 16) : IntKind.u8.wrap (n16 s % 256) = nb (lo8 s) := by
  rw [← lo8_of, IntKind.wrap_u8, IntKind.wrap_u8]; omega
theorem xor_byte (s : BitVec 16) (c : UInt8) : bits .xor .u16 (n16 s) (IntKind.u16.wrap (IntKind.u16.wrap (nb c) * 256)) = n16 (s ^^^ top8 c) := byte_top s c

set_option maxHeartbeats 1000000 in
theorem ref_one (s : BitVec 16) (c : UInt8) (w : World) : Calls Tryd.prog 85 #[.int .u16 (n16 s), .int .u8 (nb c)] w fun e w' => e = .returned (.int .u16 (n16 (crcN 8 (s ^^^ top8 c)))) ∧ w = w' := by
  have e0 := xor_byte s c
  generalize hx : s ^^^ top8 c = x at e0 ⊢
  clear hx
  go_enter Tryd.func85, Tryd.ntmps85
  go_wp2
  go_loop [0, 5, 6] (fun y i h => ∃ k : Nat, k ≤ 8 ∧ i = .int .i64 k ∧ y = .int .u16 (n16 (crcN k x))) (fun _ i _ => 8 - (intOf i).toNat)
  case atStart => exact ⟨0, by omega, rfl, rfl⟩
  case round =>
    obtain ⟨k, hk, rfl, rfl⟩ := hrel
    by_cases hlt : k < 8
    · cases hm : (crcN k x).msb
      · have e3 := Lib.hid (step_low k x hm)
        have e4 : ¬ 32768 ≤ n16 (crcN k x) := by rw [← msb_ge, hm]; simp
        clear hm
        go_wp2
        exact ⟨⟨k + 1, by omega, by go_num, by rw [e3.out]⟩, by simp [intOf]; omega⟩
      · have e3 := Lib.hid (step_high k x hm)
        have e4 : 32768 ≤ n16 (crcN k x) := by rw [← msb_ge, hm]
        clear hm
        go_wp2
        exact ⟨⟨k + 1, by omega, by go_num, by rw [e3.out]⟩, by simp [intOf]; omega⟩
    · obtain rfl : k = 8 := by omega
      go_wp2
      go_ret
      exact ⟨rfl, rfl⟩

set_option maxHeartbeats 1000000 in
theorem ref_crcAdd (s : BitVec 16) (A : Option Addr) (n c : Nat) (xs : List UInt8) (w : World) (hr : RB w A n xs) : Calls Tryd.prog 82 #[.int .u16 (n16 s), .slice A n c] w fun e w' => e = .returned (.int .u16 (n16 (crcAdd s xs))) ∧ w = w' := by
  have hl := Lib.hid hr.len
  have hmx := hr.2.1
  go_enter Tryd.func82, Tryd.ntmps82
  go_wp2
  go_loop [0, 5] (fun x i => ∃ k : Nat, k ≤ n ∧ i = .int .i64 k ∧ x = .int .u16 (n16 (crcAdd s (xs.take k)))) (fun _ i => n - (intOf i).toNat)
  case atStart => exact ⟨0, by omega, rfl, rfl⟩
  case round =>
    obtain ⟨k, hk, rfl, rfl⟩ := hrel
    by_cases hlt : k < n
    · obtain ⟨b, off, rfl, _, hc⟩ := hr.cells (by omega)
      have hck := hc k hlt
      have e2 := Lib.hid (crcAdd_take s xs k (by rw [hl.out]; exact hlt))
      unfold bv at hck
      clear hc hr
      go_wp2_with (go_at_call 85; go_must (refine (ref_one _ _ _).mono ?_); rintro e w' ⟨rfl, rfl⟩)
      exact ⟨⟨k + 1, by omega, by go_num, by rw [e2.out]⟩, by simp [intOf]; omega⟩
    · go_wp2
      go_ret
      exact ⟨by rw [List.take_of_length_le (by rw [hl.out]; omega)]; rfl, rfl⟩

theorem ref_crcSum (A : Option Addr) (n c : Nat) (xs : List UInt8) (w : World) (hr : RB w A n xs) : Calls Tryd.prog 70 #[.slice A n c] w fun e w' => e = .returned (.int .u16 (n16 (crcSum xs))) ∧ w = w' := by
  have h := ref_crcAdd 0xffff#16 A n c xs w hr
  rw [show n16 0xffff#16 = 65535 from rfl] at h
  go_enter Tryd.func70, Tryd.ntmps70
  go_wp2_with (go_at_call 82; refine h.mono ?_; rintro e w' ⟨rfl, rfl⟩)
  go_ret
  exact ⟨rfl, rfl⟩

set_option maxHeartbeats 1000000 in
theorem ref_crcSeal (A : Option Addr) (n c : Nat) (xs : List UInt8) (w : World) (rs : RS w A n c xs) (hn : n ≤ 140737488350000) :
    Calls Tryd.prog 58 #[.slice A n c] w fun e w' => ∃ v, e = .returned v ∧ OwnB w' w.heap.size v (crcSeal xs) ∧ Below w.heap.size w w' := by
  have hr := rs.rb
  have hA := rs.nil
  have hc := rs.cap
  clear rs
  have hl := Lib.hid hr.len
  have hown := by_lit0 w w.heap.size (Nat.le_refl _)
  have hb0 := below_new w (.cells #[] 5)
  have hr1 := hr.below hb0
  have e1 := div256 (crcSum xs)
  have e2 := mod256 (crcSum xs)
  have bd := n16_bd (crcSum xs)
  have hlA : ([] : List UInt8).length + n ≤ 140737488355328 := by simp; omega
  have hlB : Hid (xs.length + 2 ≤ 140737488355328) := by rw [hl.out]; show _ ≤ _; omega
  clear hn
  go_enter Tryd.func58, Tryd.ntmps58
  go_wp2_with (first | (go_at_call 70; refine (ref_crcSum _ _ _ xs _ hr).mono ?_; rintro e w' ⟨rfl, rfl⟩) | (at_builtin; refine wpList_append_by rfl _ _ rfl w hb0 _ [] rfl hown _ _ _ xs rfl hA hr1 hlA ?_; intro v1 w1 hown1 hb1 _) | (at_builtin; go_must (refine wpList_append_by rfl _ _ rfl w (Below.new hb1 _) _ xs rfl (OwnB.alloc hown1 _) _ _ _ [hi8 (crcSum xs), lo8 (crcSum xs)] rfl (fun e => by cases e) (rb_two _ _ _ _) hlB.out ?_; intro v2 w2 hown2 hb2 _)))
  go_ret
  exact ⟨v2, rfl, hown2, hb2⟩

theorem n16_parts (s : BitVec 16) : n16 s = 256 * nb (hi8 s) + nb (lo8 s) := by
  have h1 := hi8_of s
  have h2 := lo8_of s
  have := n16_bd s
  rw [IntKind.wrap_u8] at h1 h2
  omega
theorem nb_inj {x y : UInt8} (h : nb x = nb y) : x = y := UInt8.toNat.inj (by unfold nb at h; omega)

/-- The document's way to ask: do the last two bytes stand for the sum of those ahead? -/
theorem crcOpen_ref (xs : List UInt8) (h : 2 ≤ xs.length) : (crcSum xs = 0#16) ↔ (xs[xs.length - 2]?.getD 0 = hi8 (crcSum (xs.take (xs.length - 2))) ∧ xs[xs.length - 2 + 1]?.getD 0 = lo8 (crcSum (xs.take (xs.length - 2)))) := by
  rw [crcSum_zero_iff xs h]
  have e : xs = xs.take (xs.length - 2) ++ [xs[xs.length - 2]?.getD 0, xs[xs.length - 2 + 1]?.getD 0] := by
    apply List.ext_getElem?
    intro i
    rcases Nat.lt_trichotomy i (xs.length - 2) with hi | hi | hi
    · rw [List.getElem?_append_left (by simp; omega), List.getElem?_take, if_pos hi]
    · subst hi
      rw [List.getElem?_append_right (by simp)]
      simp [List.length_take, Nat.min_eq_left (show xs.length - 2 ≤ xs.length by omega), List.getElem?_eq_getElem (show xs.length - 2 < xs.length by omega)]
    · rw [List.getElem?_append_right (by simp; omega)]
      rcases Nat.lt_or_ge i xs.length with h' | h'
      · obtain rfl : i = xs.length - 2 + 1 := by omega
        simp [Nat.min_eq_left (show xs.length - 2 ≤ xs.length by omega), List.getElem?_eq_getElem (show xs.length - 2 + 1 < xs.length by omega)]
      · rw [List.getElem?_eq_none h', List.getElem?_eq_none (by simp; omega)]
  constructor
  · intro hx
    have := e.symm.trans hx
    unfold crcSeal at this
    have := List.append_cancel_left this
    simpa using this
  · rintro ⟨h1, h2⟩
    rw [h1, h2] at e
    exact e

set_option maxHeartbeats 1000000 in
theorem ref_crcOpen (A : Option Addr) (n c : Nat) (xs : List UInt8) (w : World) (rs : RS w A n c xs) (hn : n ≤ 140737488350000) :
    Calls Tryd.prog 79 #[.slice A n c] w fun e w' => ∃ v, e = .returned (.tuple #[v, .bool (crcOpen xs).isSome]) ∧ OwnB w' w.heap.size v ((crcOpen xs).getD []) ∧ Below w.heap.size w w' := by
  have hr := rs.rb
  have hA := rs.nil
  have hc := rs.cap
  clear rs
  have hl := Lib.hid hr.len
  by_cases h2 : n < 2
  · have ho : crcOpen xs = none := by unfold crcOpen; rw [if_neg (by rw [hl.out]; omega)]
    rw [ho]
    have h2' : (n : Int) - 2 < 0 := by omega
    clear ho
    go_enter Tryd.func79, Tryd.ntmps79
    go_wp2
    go_ret2
    exact ⟨_, rfl, OwnB.nil _ _, Below.refl _ _⟩
  · have h2' : ¬ (n : Int) - 2 < 0 := by omega
    obtain ⟨b, off, rfl, hlt, hcl⟩ := hr.cells (by omega)
    have hi : ((n : Int) - 2).toNat = n - 2 := by omega
    have hi2 : ((n : Int) - 1).toNat = n - 2 + 1 := by omega
    have hb1 : (2 : Int) ≤ n := by omega
    have hb2 : (n : Int) - 2 ≤ c := by omega
    have hr0 := hr.take (n - 2) (by omega)
    have c1 := hcl (n - 2) (by omega)
    have c2 := hcl (n - 2 + 1) (by omega)
    unfold bv at c1 c2
    have hiff := crcOpen_ref xs (by rw [hl.out]; omega)
    rw [hl.out] at hiff
    clear hcl h2
    have e1 := div256 (crcSum (xs.take (n - 2)))
    have e2 := mod256 (crcSum (xs.take (n - 2)))
    have bd := n16_bd (crcSum (xs.take (n - 2)))
    have hown := by_lit0 w w.heap.size (Nat.le_refl _)
    have hb0 := below_new w (.cells #[] 5)
    have hr1 := hr0.below hb0
    have hlA : ([] : List UInt8).length + (n - 2) ≤ 140737488355328 := by simp; omega
    by_cases hx : xs[n - 2]?.getD 0 = hi8 (crcSum (xs.take (n - 2)))
    · have d1 : (nb (xs[n - 2]?.getD 0) != nb (hi8 (crcSum (xs.take (n - 2))))) = false := by rw [hx]; simp
      by_cases hy : xs[n - 2 + 1]?.getD 0 = lo8 (crcSum (xs.take (n - 2)))
      · have d2 : (nb (xs[n - 2 + 1]?.getD 0) != nb (lo8 (crcSum (xs.take (n - 2))))) = false := by rw [hy]; simp
        have ho : crcOpen xs = some (xs.take (n - 2)) := by unfold crcOpen; rw [if_pos ⟨by rw [hl.out]; omega, hiff.2 ⟨hx, hy⟩⟩, hl.out]
        rw [ho]
        clear ho hiff hx hy
        go_enter Tryd.func79, Tryd.ntmps79
        go_wp2_with (first | (go_at_call 70; go_must (refine (ref_crcSum _ _ _ _ _ hr0).mono ?_); rintro e w' ⟨rfl, rfl⟩) | (at_builtin; go_must (refine wpList_append_by rfl _ _ rfl w hb0 _ [] rfl hown _ _ _ (xs.take (n - 2)) rfl (fun e => by cases e) hr1 hlA ?_; intro v1 w1 hown1 hb1 _)))
        go_ret2
        exact ⟨v1, rfl, hown1, hb1⟩
      · have d2 : (nb (xs[n - 2 + 1]?.getD 0) != nb (lo8 (crcSum (xs.take (n - 2))))) = true := by simp; exact fun h => hy (nb_inj h)
        have ho : crcOpen xs = none := by unfold crcOpen; rw [if_neg (fun h => hy (hiff.1 h.2).2)]
        rw [ho]
        clear ho hiff hx hy hown hb0 hr1 hlA
        go_enter Tryd.func79, Tryd.ntmps79
        go_wp2_with (go_at_call 70; go_must (refine (ref_crcSum _ _ _ _ _ hr0).mono ?_); rintro e w' ⟨rfl, rfl⟩)
        go_ret2
        exact ⟨_, rfl, OwnB.nil _ _, Below.refl _ _⟩
    · have d1 : (nb (xs[n - 2]?.getD 0) != nb (hi8 (crcSum (xs.take (n - 2))))) = true := by simp; exact fun h => hx (nb_inj h)
      have ho : crcOpen xs = none := by unfold crcOpen; rw [if_neg (fun h => hx (hiff.1 h.2).1)]
      rw [ho]
      clear ho hiff hx hown hb0 hr1 hlA
      go_enter Tryd.func79, Tryd.ntmps79
      go_wp2_with (go_at_call 70; go_must (refine (ref_crcSum _ _ _ _ _ hr0).mono ?_); rintro e w' ⟨rfl, rfl⟩)
      go_ret2
      exact ⟨_, rfl, OwnB.nil _ _, Below.refl _ _⟩
end Go.Proofs.YtcppmihambcihaaDoor
