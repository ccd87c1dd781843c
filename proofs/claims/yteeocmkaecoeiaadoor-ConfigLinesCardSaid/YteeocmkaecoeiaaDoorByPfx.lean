/- bytes.Equal, HasPrefix, CutPrefix. -/
import Derived.Test.YteeocmkaecoeiaaDoorByCopy
import Derived.LoopTactic
namespace Go.Proofs.YteeocmkaecoeiaaDoor
open Go.RowKit
set_option linter.unusedVariables false
set_option linter.unusedSimpArgs false

theorem strB_eq (xs ys : List UInt8) : ((strB xs).toList == (strB ys).toList) = decide (xs = ys) := by
  rw [strB_toList, strB_toList]
  by_cases h : xs = ys
  · subst h; simp
  · simp [h]
theorem by_equal (A B : Option Addr) (n m c d : Nat) (xs ys : List UInt8) (w : World) (ra : RS w A n c xs) (rb : RS w B m d ys) :
    Calls Tryd.prog 53 #[.slice A n c, .slice B m d] w fun e w' => e = .returned (.bool (decide (xs = ys))) ∧ w = w' := by
  have h1 := by_string w A n c xs ra.rb
  have h2 := by_string w B m d ys rb.rb
  clear ra rb
  go_enter Tryd.func53, Tryd.ntmps53
  go_wp2_with fail
  go_ret
  exact ⟨by rw [← strB_eq]; rfl, rfl⟩
/-- Do bytes begin with these? -/
def pfxB (xs ys : List UInt8) : Bool := decide (xs.take ys.length = ys)
theorem pfxB_short (xs ys : List UInt8) (h : xs.length < ys.length) : pfxB xs ys = false := by
  unfold pfxB
  rw [decide_eq_false_iff_not]
  intro e
  have := congrArg List.length e
  rw [List.length_take] at this
  omega
set_option maxHeartbeats 1000000 in
theorem by_hasPrefix (A B : Option Addr) (n m c d : Nat) (xs ys : List UInt8) (w : World) (ra : RS w A n c xs) (rb : RS w B m d ys) :
    Calls Tryd.prog 43 #[.slice A n c, .slice B m d] w fun e w' => e = .returned (.bool (pfxB xs ys)) ∧ w = w' := by
  have hl := Lib.hid ra.len
  have kl := Lib.hid rb.len
  by_cases h : n < m
  · have hp := Lib.hid (pfxB_short xs ys (by rw [hl.out, kl.out]; exact h))
    have h' : ¬ (m : Int) ≤ n := by omega
    clear ra rb
    go_enter Tryd.func43, Tryd.ntmps43
    go_wp2_with fail
    go_ret
    exact ⟨by rw [hp.out]; simp [h'], rfl⟩
  · have h' : (m : Int) ≤ n := by omega
    have hc := ra.cap
    have hs := fun w' => by_slice_h w' A n c m (by omega) m rfl
    have hr : RS w A m c (xs.take m) := ⟨ra.rb.take m (by omega), ra.nil, by omega⟩
    have HE := Lib.hid (by_equal A B m m c d (xs.take m) ys w hr rb)
    have hp := Lib.hid (show pfxB xs ys = decide (xs.take m = ys) by unfold pfxB; rw [kl.out])
    clear ra rb hr hc
    go_enter Tryd.func43, Tryd.ntmps43
    go_wp2_with fail
    refine HE.out.mono ?_
    rintro e w' ⟨rfl, rfl⟩
    rw [← hp.out]
    go_wp2_with fail
    go_ret
    exact ⟨by simp, rfl⟩
def cutB (xs ys : List UInt8) : List UInt8 := if pfxB xs ys = true then xs.drop ys.length else xs
set_option maxHeartbeats 1000000 in
theorem by_cutPrefix (A B : Option Addr) (n m c d : Nat) (xs ys : List UInt8) (w : World) (ra : RS w A n c xs) (rb : RS w B m d ys) :
    Calls Tryd.prog 28 #[.slice A n c, .slice B m d] w fun e w' => ∃ A' c', e = .returned (.tuple #[.slice A' (cutB xs ys).length c', .bool (pfxB xs ys)]) ∧ RS w A' (cutB xs ys).length c' (cutB xs ys) ∧ w = w' := by
  have hl := Lib.hid ra.len
  have kl := Lib.hid rb.len
  have HP := Lib.hid (by_hasPrefix A B n m c d xs ys w ra rb)
  have RA := Lib.hid ra
  cases hp : pfxB xs ys with
  | false =>
    have H := Lib.hid hp
    have HC := Lib.hid (show cutB xs ys = xs by unfold cutB; rw [hp]; rfl)
    clear ra rb hp
    go_enter Tryd.func28, Tryd.ntmps28
    go_wp2_with fail
    refine HP.out.mono ?_
    rintro e w' ⟨rfl, rfl⟩
    rw [H.out]
    go_wp2_with fail
    go_ret2
    rw [HC.out, hl.out]
    exact ⟨_, _, rfl, RA.out, rfl⟩
  | true =>
    have H := Lib.hid hp
    have hmn : m ≤ n := by
      rcases Nat.lt_or_ge n m with h | h
      · rw [pfxB_short xs ys (by rw [hl.out, kl.out]; exact h)] at hp; cases hp
      · exact h
    have HC := Lib.hid (show cutB xs ys = xs.drop m by unfold cutB; rw [hp, kl.out]; rfl)
    have hs := fun w' => by_slice_l w' A n c m hmn m rfl
    have hr : RS w (subA A c m) (n - m) (c - m) (xs.drop m) := ⟨ra.rb.sub m hmn ra.cap, (fun e => by
      unfold subA at e
      split at e
      · omega
      · cases A with
        | none => have := ra.nil rfl; omega
        | some a => cases e), by have := ra.cap; omega⟩
    have HR := Lib.hid hr
    clear ra rb hp hr
    go_enter Tryd.func28, Tryd.ntmps28
    go_wp2_with fail
    refine HP.out.mono ?_
    rintro e w' ⟨rfl, rfl⟩
    rw [H.out]
    go_wp2_with fail
    go_ret2
    rw [HC.out, List.length_drop, hl.out]
    exact ⟨_, _, rfl, HR.out, rfl⟩
end Go.Proofs.YteeocmkaecoeiaaDoor
