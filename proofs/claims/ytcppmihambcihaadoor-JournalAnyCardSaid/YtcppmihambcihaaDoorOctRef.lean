/- the document: Put. -/
import Derived.Test.YtcppmihambcihaaDoorOct
import Derived.Test.YtcppmihambcihaaDoorByGrow
import Derived.LoopTactic
namespace Go.Proofs.YtcppmihambcihaaDoor
open Go.RowKit
set_option linter.unusedVariables false
set_option linter.unusedSimpArgs false


set_option maxHeartbeats 2000000 in
set_option maxRecDepth 100000 in
theorem ref_put4 (A : Option Addr) (n0 c : Nat) (xs : List UInt8) (n : Nat) (w : World) (rs : RS w A n0 c xs) (hn0 : n0 ≤ 100000000) (hn : n < 4294967296) :
    Calls Tryd.prog 57 #[.slice A n0 c, .int .u32 n, .int .i64 4] w fun e w' => ∃ v, e = .returned v ∧ OwnB w' w.heap.size v (xs ++ beN 4 n) ∧ Below w.heap.size w w' := by
  have hl := Lib.hid rs.len
  have hown := by_lit0 w w.heap.size (Nat.le_refl _)
  have hb0 : Below w.heap.size w (w.alloc (.cells #[] 5)) := below_new _ _
  have hA := rs.nil
  have hrb := rs.rb.below hb0
  have hlen0 : ([] : List UInt8).length + n0 ≤ 140737488355328 := by simp; omega
  clear rs
  go_enter Tryd.func57, Tryd.ntmps57
  go_wp2_with (at_builtin; go_must (refine wpList_append_by rfl _ _ rfl w hb0 _ [] rfl hown _ _ _ xs rfl hA hrb hlen0 ?_; intro v1 w1 hown1 hb _))
  rw [List.nil_append] at hown1
  clear hown hrb hA hb0 hlen0
  go_loopw [7, 8] (fun s7 s8 wr => ∃ k : Nat, k ≤ 4 ∧ s8 = .int .i64 (3 - (k : Int)) ∧ OwnB wr w.heap.size s7 (xs ++ (beN 4 n).take k) ∧ Below w.heap.size w wr) (fun _ i _ => (intOf i + 1).toNat)
  case atStart => exact ⟨0, by omega, rfl, by simpa using hown1, hb⟩
  case round =>
    obtain ⟨k, hk, rfl, hor, hbr⟩ := hrel
    clear hown1 hb
    by_cases hlt4 : k < 4
    · have htk := Lib.hid (beN_take 4 n k hlt4)
      have hcases : k = 0 ∨ k = 1 ∨ k = 2 ∨ k = 3 := by omega
      have hlen : Hid ((xs ++ (beN 4 n).take k).length + 1 ≤ 140737488355328) := by show _ ≤ _; rw [List.length_append, List.length_take, beN_len, hl.out]; omega
      obtain ⟨A0, c0, hv, _⟩ := hor.reads
      subst hv
      clear hl
      rcases hcases with rfl | rfl | rfl | rfl
      · have hx := nb_bd (UInt8.ofNat (n / 256 ^ (4 - 1 - 0)))
        have hz : (n : Int) / 16777216 = ((n / 256 ^ (4 - 1 - 0) : Nat) : Int) := by simp
        have ek : (n : Int) / 16777216 = nb (UInt8.ofNat (n / 256 ^ (4 - 1 - 0))) := lay_e' _ _ (by simp; omega) _ hz
        clear hz
        generalize UInt8.ofNat (n / 256 ^ (4 - 1 - 0)) = b at hx ek htk
        go_wp2_with (at_builtin; go_must (refine wpList_append_by rfl _ _ rfl w (Below.new hbr _) _ _ rfl (OwnB.alloc hor _) _ _ _ [b] rfl (fun e => by cases e) (rb_one _ _ _) hlen.out ?_; intro v1 w1 hown1 hb1 _))
        rw [snoc_in _ _ _ _ htk.out] at hown1
        exact ⟨⟨1, by omega, rfl, hown1, hb1⟩, by simp [intOf]⟩
      · have hx := nb_bd (UInt8.ofNat (n / 256 ^ (4 - 1 - 1)))
        have hz : (n : Int) / 65536 = ((n / 256 ^ (4 - 1 - 1) : Nat) : Int) := by simp
        have ek : IntKind.u8.wrap ((n : Int) / 65536) = nb (UInt8.ofNat (n / 256 ^ (4 - 1 - 1))) := lay_e _ _ _ hz
        clear hz
        generalize UInt8.ofNat (n / 256 ^ (4 - 1 - 1)) = b at hx ek htk
        go_wp2_with (at_builtin; go_must (refine wpList_append_by rfl _ _ rfl w (Below.new hbr _) _ _ rfl (OwnB.alloc hor _) _ _ _ [b] rfl (fun e => by cases e) (rb_one _ _ _) hlen.out ?_; intro v1 w1 hown1 hb1 _))
        rw [snoc_in _ _ _ _ htk.out] at hown1
        exact ⟨⟨2, by omega, rfl, hown1, hb1⟩, by simp [intOf]⟩
      · have hx := nb_bd (UInt8.ofNat (n / 256 ^ (4 - 1 - 2)))
        have hz : (n : Int) / 256 = ((n / 256 ^ (4 - 1 - 2) : Nat) : Int) := by simp
        have ek : IntKind.u8.wrap ((n : Int) / 256) = nb (UInt8.ofNat (n / 256 ^ (4 - 1 - 2))) := lay_e _ _ _ hz
        clear hz
        generalize UInt8.ofNat (n / 256 ^ (4 - 1 - 2)) = b at hx ek htk
        go_wp2_with (at_builtin; go_must (refine wpList_append_by rfl _ _ rfl w (Below.new hbr _) _ _ rfl (OwnB.alloc hor _) _ _ _ [b] rfl (fun e => by cases e) (rb_one _ _ _) hlen.out ?_; intro v1 w1 hown1 hb1 _))
        rw [snoc_in _ _ _ _ htk.out] at hown1
        exact ⟨⟨3, by omega, rfl, hown1, hb1⟩, by simp [intOf]⟩
      · have hx := nb_bd (UInt8.ofNat (n / 256 ^ (4 - 1 - 3)))
        have hz : (n : Int) = ((n / 256 ^ (4 - 1 - 3) : Nat) : Int) := by simp
        have ek : IntKind.u8.wrap ((n : Int)) = nb (UInt8.ofNat (n / 256 ^ (4 - 1 - 3))) := lay_e _ _ _ hz
        clear hz
        generalize UInt8.ofNat (n / 256 ^ (4 - 1 - 3)) = b at hx ek htk
        go_wp2_with (at_builtin; go_must (refine wpList_append_by rfl _ _ rfl w (Below.new hbr _) _ _ rfl (OwnB.alloc hor _) _ _ _ [b] rfl (fun e => by cases e) (rb_one _ _ _) hlen.out ?_; intro v1 w1 hown1 hb1 _))
        rw [snoc_in _ _ _ _ htk.out] at hown1
        exact ⟨⟨4, by omega, rfl, hown1, hb1⟩, by simp [intOf]⟩
    · obtain rfl : k = 4 := by omega
      rw [List.take_of_length_le (by rw [beN_len]; exact Nat.le_refl _)] at hor
      go_wp2_with fail
      go_ret
      exact ⟨_, rfl, hor, hbr⟩
end Go.Proofs.YtcppmihambcihaaDoor
