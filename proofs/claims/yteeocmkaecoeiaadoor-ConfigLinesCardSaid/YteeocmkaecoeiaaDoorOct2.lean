/- octet: Put16. -/
import Derived.Test.YteeocmkaecoeiaaDoorOct
import Derived.Test.YteeocmkaecoeiaaDoorByGrow
import Derived.LoopTactic
namespace Go.Proofs.YteeocmkaecoeiaaDoor
open Go.RowKit
set_option linter.unusedVariables false
set_option linter.unusedSimpArgs false


set_option maxHeartbeats 2000000 in
set_option maxRecDepth 100000 in
theorem oct_lay2 (A : Option Addr) (n0 c : Nat) (xs : List UInt8) (n : Nat) (w : World) (rs : RS w A n0 c xs) (hn0 : n0 ≤ 100000000) (hn : n < 65536) :
    Calls Tryd.prog 40 #[.slice A n0 c, .int .u32 n, .int .i64 2] w fun e w' => ∃ v, e = .returned v ∧ OwnB w' w.heap.size v (xs ++ beN 2 n) ∧ Below w.heap.size w w' := by
  have hl := Lib.hid rs.len
  go_enter Tryd.func40, Tryd.ntmps40
  go_wp2_with fail
  refine (by_clone _ _ _ _ _ rs (by omega)).mono ?_
  rintro e wa ⟨v0, rfl, hown, hb⟩
  clear rs
  go_wp2_with fail
  refine (by_grow _ v0 xs 2 _ hown hb.size (by omega) (by rw [hl.out]; omega)).mono ?_
  rintro e wb ⟨v1, rfl, hown1, hb1⟩
  replace hb := hb.trans (hb1.mono hb.size)
  clear hown hb1
  go_wp2_with fail
  go_loopw [7, 8, 14] (fun s7 s8 s14 wr => ∃ k : Nat, k ≤ 2 ∧ s14 = .int .i64 k ∧ OwnB wr w.heap.size s7 (xs ++ (beN 2 n).take k) ∧ Below w.heap.size w wr) (fun _ _ i _ => 2 - (intOf i).toNat)
  case atStart => exact ⟨0, by omega, rfl, by simpa using hown1, hb⟩
  case round =>
    obtain ⟨k, hk, rfl, hor, hbr⟩ := hrel
    clear hown1 hb
    by_cases hlt4 : k < 2
    · have htk := Lib.hid (beN_take 2 n k hlt4)
      have hcases : k = 0 ∨ k = 1 := by omega
      have hlen : Hid ((xs ++ (beN 2 n).take k).length + 1 ≤ 140737488355328) := by show _ ≤ _; rw [List.length_append, List.length_take, beN_len, hl.out]; omega
      obtain ⟨A0, c0, hv, _⟩ := hor.reads
      subst hv
      clear hl
      rcases hcases with rfl | rfl
      · have hx := nb_bd (UInt8.ofNat (n / 256 ^ (2 - 1 - 0)))
        have hz : (n : Int) / 256 = ((n / 256 ^ (2 - 1 - 0) : Nat) : Int) := by simp
        have ek : (n : Int) / 256 = nb (UInt8.ofNat (n / 256 ^ (2 - 1 - 0))) := lay_e' _ _ (by simp; omega) _ hz
        clear hz
        generalize UInt8.ofNat (n / 256 ^ (2 - 1 - 0)) = b at hx ek htk
        go_wp2_with (at_builtin; go_must (refine wpList_append_by rfl _ _ rfl w (Below.new hbr _) _ _ rfl (OwnB.alloc hor _) _ _ _ [b] rfl (fun e => by cases e) (rb_one _ _ _) hlen.out ?_; intro v1 w1 hown1 hb1 _))
        rw [snoc_in _ _ _ _ htk.out] at hown1
        exact ⟨⟨1, by omega, rfl, hown1, hb1⟩, by simp [intOf]⟩
      · have hx := nb_bd (UInt8.ofNat (n / 256 ^ (2 - 1 - 1)))
        have hz : (n : Int) = ((n / 256 ^ (2 - 1 - 1) : Nat) : Int) := by simp
        have ek : IntKind.u8.wrap ((n : Int)) = nb (UInt8.ofNat (n / 256 ^ (2 - 1 - 1))) := lay_e _ _ _ hz
        clear hz
        generalize UInt8.ofNat (n / 256 ^ (2 - 1 - 1)) = b at hx ek htk
        go_wp2_with (at_builtin; go_must (refine wpList_append_by rfl _ _ rfl w (Below.new hbr _) _ _ rfl (OwnB.alloc hor _) _ _ _ [b] rfl (fun e => by cases e) (rb_one _ _ _) hlen.out ?_; intro v1 w1 hown1 hb1 _))
        rw [snoc_in _ _ _ _ htk.out] at hown1
        exact ⟨⟨2, by omega, rfl, hown1, hb1⟩, by simp [intOf]⟩
    · obtain rfl : k = 2 := by omega
      rw [List.take_of_length_le (by rw [beN_len]; exact Nat.le_refl _)] at hor
      go_wp2_with fail
      go_ret
      exact ⟨_, rfl, hor, hbr⟩

set_option maxHeartbeats 1000000 in
theorem oct_put16 (A : Option Addr) (n0 c : Nat) (xs : List UInt8) (n : Nat) (w : World) (rs : RS w A n0 c xs) (hn0 : n0 ≤ 100000000) (hn : n < 65536) :
    Calls Tryd.prog 21 #[.slice A n0 c, .int .u16 n] w fun e w' => ∃ v, e = .returned v ∧ OwnB w' w.heap.size v (xs ++ beN 2 n) ∧ Below w.heap.size w w' := by
  have hw : IntKind.u32.wrap (n : Int) = n := by simp [IntKind.wrap, IntKind.bits, IntKind.signed]; omega
  go_enter Tryd.func21, Tryd.ntmps21
  go_wp2_with fail
  refine (oct_lay2 _ _ _ _ _ _ rs hn0 hn).mono ?_
  rintro e wa ⟨v0, rfl, hown, hb⟩
  clear rs
  go_wp2_with fail
  go_ret
  exact ⟨_, rfl, hown, hb⟩
end Go.Proofs.YteeocmkaecoeiaaDoor
