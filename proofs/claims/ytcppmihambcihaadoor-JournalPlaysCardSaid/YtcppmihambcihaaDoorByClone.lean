/- slices.Clone of bytes. -/
import Derived.Test.YtcppmihambcihaaDoorBy
namespace Go.Proofs.YtcppmihambcihaaDoor
open Go.RowKit
set_option linter.unusedVariables false
set_option linter.unusedSimpArgs false

/-- slices.Clone of bytes. -/
theorem by_clone (A : Option Addr) (n c : Nat) (xs : List UInt8) (w : World) (rs : RS w A n c xs) (hn : n ≤ 140737488355328) :
    Calls Tryd.prog 34 #[.slice A n c] w fun e w' => ∃ v, e = .returned v ∧ OwnB w' w.heap.size v xs ∧ Below w.heap.size w w' := by
  have hr := rs.rb
  have hA := rs.nil
  have hc := rs.cap
  clear rs
  cases A with
  | none =>
    obtain rfl : c = 0 := hA rfl
    obtain rfl : n = 0 := by
      rcases Nat.eq_zero_or_pos n with h0 | h0
      · exact h0
      · obtain ⟨b, off, e, _⟩ := hr.cells h0; cases e
    obtain rfl : xs = [] := List.eq_nil_of_length_eq_zero hr.len
    have q := fun w => Lib.run_eql_slice_nil (P := Tryd.prog) w 29 5 none 0 0 0 0 Tryd.underlying29
    simp only [Option.isNone_none] at q
    clear hA hr hn
    go_enter Tryd.func34, Tryd.ntmps34
    go_wp2
    go_ret
    exact ⟨_, rfl, OwnB.nil _ _, Below.refl _ _⟩
  | some ad =>
    have q := fun w => Lib.run_eql_slice_nil (P := Tryd.prog) w 29 5 (some ad) n c 0 0 Tryd.underlying29
    simp only [Option.isNone_some] at q
    have hown := by_lit0 w w.heap.size (Nat.le_refl _)
    have hr1 : RB (w.alloc (.cells #[] 5)) (some ad) n xs := hr.below ((Below.refl _ _).alloc (Nat.le_refl _) _)
    have hb0 : Below w.heap.size w (w.alloc (.cells #[] 5)) := (Below.refl _ _).alloc (Nat.le_refl _) _
    have hl : ([] : List UInt8).length + n ≤ 140737488355328 := by simpa using hn
    clear hA hr hn
    go_enter Tryd.func34, Tryd.ntmps34
    go_wp2_with (at_builtin; refine wpList_append_by rfl _ _ rfl w hb0 _ [] rfl hown _ _ _ xs rfl (fun e => by cases e) hr1 hl ?_; intro v' w1 hown1 hb1 _)
    go_ret
    exact ⟨v', rfl, by simpa using hown1, hb1⟩

end Go.Proofs.YtcppmihambcihaaDoor
