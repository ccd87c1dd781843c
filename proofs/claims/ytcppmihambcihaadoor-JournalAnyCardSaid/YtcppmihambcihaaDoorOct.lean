/- octet: lay, Put16, Put32. -/
import Derived.Test.YtcppmihambcihaaDoorFrBy
import Derived.Test.YtcppmihambcihaaDoorByGrow
import Derived.LoopTactic
namespace Go.Proofs.YtcppmihambcihaaDoor
open Go.RowKit
set_option linter.unusedVariables false
set_option linter.unusedSimpArgs false

/-- The lowest bytes of a number, the highest first. -/
def beN (size n : Nat) : List UInt8 := (List.range size).map fun k => UInt8.ofNat (n / 256 ^ (size - 1 - k))
theorem beN_len (size n : Nat) : (beN size n).length = size := by simp [beN]
theorem beN_take (size n k : Nat) (h : k < size) : (beN size n).take (k + 1) = (beN size n).take k ++ [UInt8.ofNat (n / 256 ^ (size - 1 - k))] := by
  rw [List.take_succ_eq_append_getElem (by rw [beN_len]; exact h)]
  simp [beN]
theorem nb_of (m : Nat) : nb (UInt8.ofNat m) = (m : Int) % 256 := by
  unfold nb
  simp [UInt8.toNat_ofNat']
theorem lay_e (n d : Nat) (z : Int) (hz : z = ((n / d : Nat) : Int)) : IntKind.u8.wrap z = nb (UInt8.ofNat (n / d)) := by
  rw [IntKind.wrap_u8, nb_of, hz]
theorem lay_e' (n d : Nat) (h : n / d < 256) (z : Int) (hz : z = ((n / d : Nat) : Int)) : z = nb (UInt8.ofNat (n / d)) := by
  generalize n / d = m at *
  rw [nb_of, hz]; omega
theorem snoc_in (xs ys zs : List UInt8) (b : UInt8) (h : zs = ys ++ [b]) : (xs ++ ys) ++ [b] = xs ++ zs := by rw [h, List.append_assoc]

set_option maxHeartbeats 2000000 in
set_option maxRecDepth 100000 in
theorem oct_lay4 (A : Option Addr) (n0 c : Nat) (xs : List UInt8) (n : Nat) (w : World) (rs : RS w A n0 c xs) (hn0 : n0 ≤ 100000000) (hn : n < 4294967296) :
    Calls Tryd.prog 64 #[.slice A n0 c, .int .u32 n, .int .i64 4] w fun e w' => ∃ v, e = .returned v ∧ OwnB w' w.heap.size v (xs ++ beN 4 n) ∧ Below w.heap.size w w' := by
  have hl := Lib.hid rs.len
  go_enter Tryd.func64, Tryd.ntmps64
  go_wp2_with fail
  refine (by_clone _ _ _ _ _ rs (by omega)).mono ?_
  rintro e wa ⟨v0, rfl, hown, hb⟩
  clear rs
  go_wp2_with fail
  refine (by_grow _ v0 xs 4 _ hown hb.size (by omega) (by rw [hl.out]; omega)).mono ?_
  rintro e wb ⟨v1, rfl, hown1, hb1⟩
  replace hb := hb.trans (hb1.mono hb.size)
  clear hown hb1
  go_wp2_with fail
  go_loopw [7, 8, 14] (fun s7 s8 s14 wr => ∃ k : Nat, k ≤ 4 ∧ s14 = .int .i64 k ∧ OwnB wr w.heap.size s7 (xs ++ (beN 4 n).take k) ∧ Below w.heap.size w wr) (fun _ _ i _ => 4 - (intOf i).toNat)
  case atStart => exact ⟨0, by omega, rfl, by simpa using hown1, hb⟩
  case round =>
    obtain ⟨k, hk, rfl, hor, hbr⟩ := hrel
    clear hown1 hb
    by_cases hlt4 : k < 4
    · have htk := Lib.hid (beN_take 4 n k hlt4)
      have hcases : k = 0 ∨ k = 1 ∨ k = 2 ∨ k = 3 := by omega
      have hlen : Hid ((xs ++ (beN 4 n).take k).length + 1 ≤ 140737488355328) := by show _ ≤ _; rw [List.length_append, List.length_take, beN_len, hl.out]; omega
      obtain ⟨A0, c0, hv, _⟩ := hor.reads
      subst hv
      clear hl
      rcases hcases with rfl | rfl | rfl | rfl
      · have hx := nb_bd (UInt8.ofNat (n / 256 ^ (4 - 1 - 0)))
        have hz : (n : Int) / 16777216 = ((n / 256 ^ (4 - 1 - 0) : Nat) : Int) := by simp
        have ek : (n : Int) / 16777216 = nb (UInt8.ofNat (n / 256 ^ (4 - 1 - 0))) := lay_e' _ _ (by simp; omega) _ hz
        clear hz
        generalize UInt8.ofNat (n / 256 ^ (4 - 1 - 0)) = b at hx ek htk
        go_wp2_with (at_builtin; go_must (refine wpList_append_by rfl _ _ rfl w (Below.new hbr _) _ _ rfl (OwnB.alloc hor _) _ _ _ [b] rfl (fun e => by cases e) (rb_one _ _ _) hlen.out ?_; intro v1 w1 hown1 hb1 _))
        rw [snoc_in _ _ _ _ htk.out] at hown1
        exact ⟨⟨1, by omega, rfl, hown1, hb1⟩, by simp [intOf]⟩
      · have hx := nb_bd (UInt8.ofNat (n / 256 ^ (4 - 1 - 1)))
        have hz : (n : Int) / 65536 = ((n / 256 ^ (4 - 1 - 1) : Nat) : Int) := by simp
        have ek : IntKind.u8.wrap ((n : Int) / 65536) = nb (UInt8.ofNat (n / 256 ^ (4 - 1 - 1))) := lay_e _ _ _ hz
        clear hz
        generalize UInt8.ofNat (n / 256 ^ (4 - 1 - 1)) = b at hx ek htk
        go_wp2_with (at_builtin; go_must (refine wpList_append_by rfl _ _ rfl w (Below.new hbr _) _ _ rfl (OwnB.alloc hor _) _ _ _ [b] rfl (fun e => by cases e) (rb_one _ _ _) hlen.out ?_; intro v1 w1 hown1 hb1 _))
        rw [snoc_in _ _ _ _ htk.out] at hown1
        exact ⟨⟨2, by omega, rfl, hown1, hb1⟩, by simp [intOf]⟩
      · have hx := nb_bd (UInt8.ofNat (n / 256 ^ (4 - 1 - 2)))
        have hz : (n : Int) / 256 = ((n / 256 ^ (4 - 1 - 2) : Nat) : Int) := by simp
        have ek : IntKind.u8.wrap ((n : Int) / 256) = nb (UInt8.ofNat (n / 256 ^ (4 - 1 - 2))) := lay_e _ _ _ hz
        clear hz
        generalize UInt8.ofNat (n / 256 ^ (4 - 1 - 2)) = b at hx ek htk
        go_wp2_with (at_builtin; go_must (refine wpList_append_by rfl _ _ rfl w (Below.new hbr _) _ _ rfl (OwnB.alloc hor _) _ _ _ [b] rfl (fun e => by cases e) (rb_one _ _ _) hlen.out ?_; intro v1 w1 hown1 hb1 _))
        rw [snoc_in _ _ _ _ htk.out] at hown1
        exact ⟨⟨3, by omega, rfl, hown1, hb1⟩, by simp [intOf]⟩
      · have hx := nb_bd (UInt8.ofNat (n / 256 ^ (4 - 1 - 3)))
        have hz : (n : Int) = ((n / 256 ^ (4 - 1 - 3) : Nat) : Int) := by simp
        have ek : IntKind.u8.wrap ((n : Int)) = nb (UInt8.ofNat (n / 256 ^ (4 - 1 - 3))) := lay_e _ _ _ hz
        clear hz
        generalize UInt8.ofNat (n / 256 ^ (4 - 1 - 3)) = b at hx ek htk
        go_wp2_with (at_builtin; go_must (refine wpList_append_by rfl _ _ rfl w (Below.new hbr _) _ _ rfl (OwnB.alloc hor _) _ _ _ [b] rfl (fun e => by cases e) (rb_one _ _ _) hlen.out ?_; intro v1 w1 hown1 hb1 _))
        rw [snoc_in _ _ _ _ htk.out] at hown1
        exact ⟨⟨4, by omega, rfl, hown1, hb1⟩, by simp [intOf]⟩
    · obtain rfl : k = 4 := by omega
      rw [List.take_of_length_le (by rw [beN_len]; exact Nat.le_refl _)] at hor
      go_wp2_with fail
      go_ret
      exact ⟨_, rfl, hor, hbr⟩

set_option maxHeartbeats 1000000 in
theorem oct_put32 (A : Option Addr) (n0 c : Nat) (xs : List UInt8) (n : Nat) (w : World) (rs : RS w A n0 c xs) (hn0 : n0 ≤ 100000000) (hn : n < 4294967296) :
    Calls Tryd.prog 47 #[.slice A n0 c, .int .u32 n] w fun e w' => ∃ v, e = .returned v ∧ OwnB w' w.heap.size v (xs ++ beN 4 n) ∧ Below w.heap.size w w' := by
  go_enter Tryd.func47, Tryd.ntmps47
  go_wp2_with fail
  refine (oct_lay4 _ _ _ _ _ _ rs hn0 hn).mono ?_
  rintro e wa ⟨v0, rfl, hown, hb⟩
  clear rs
  go_wp2_with fail
  go_ret
  exact ⟨_, rfl, hown, hb⟩
end Go.Proofs.YtcppmihambcihaaDoor
