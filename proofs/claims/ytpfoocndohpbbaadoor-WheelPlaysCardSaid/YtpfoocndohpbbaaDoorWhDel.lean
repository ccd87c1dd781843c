/- slices.DeleteFunc at a row of ints, a number taken away; Cancel. -/
import Derived.Test.YtpfoocndohpbbaaDoorWhArm
import Derived.Shelf.SlicesE.DeleteFunc
import Derived.Shelf.Lay
import Derived.Ground.SlgfProg
import Derived.Lib.SliceRun
import Derived.Sort.OwnSortedInts
namespace Go.Proofs
open Go.Shelf
shelf_lay_g SlLaysH.n10 Slgf 10 at Tryd 31 as Tryd.delH
end Go.Proofs
namespace Go.Proofs.YtpfoocndohpbbaaDoor
open Go Go.RowKit Go.Shelf Go.Sort Go.Lib
set_option linter.unusedVariables false
set_option linter.unusedSimpArgs false
/-- Numbers as the kit's laws have them. -/
def nn (xs : List Nat) : List Int := xs.map (fun n : Nat => (n : Int))
theorem nn_kc (xs : List Nat) : (nn xs).map (Value.int .i64) = xs.flatMap kc := by
  induction xs with
  | nil => rfl
  | cons x xs ih =>
    show Value.int .i64 (x : Int) :: (nn xs).map (Value.int .i64) = kc x ++ xs.flatMap kc
    rw [ih]; rfl
theorem nn_len (xs : List Nat) : (nn xs).length = xs.length := by simp [nn]
theorem nn_filter (xs : List Nat) (k : Nat) : (nn xs).filter (fun x => !decide (x = (k : Int))) = nn (xs.filter (fun x => x ≠ k)) := by
  induction xs with
  | nil => rfl
  | cons x xs ih =>
    have e : nn (x :: xs) = (x : Int) :: nn xs := rfl
    rw [e]
    by_cases h : x = k
    · rw [List.filter_cons_of_neg (by simp [h]), List.filter_cons_of_neg (by simp [h])]
      exact ih
    · have h' : ¬ (x : Int) = (k : Int) := by omega
      rw [List.filter_cons_of_pos (by simp [h']), List.filter_cons_of_pos (by simp [h]), ih]
      rfl
theorem del_gives (k : Nat) (x : Int) (B : Nat) (W : World) (hc : W.cell? ⟨B, 0, none⟩ = some (.int .i64 k)) :
    FnGives Tryd.prog 32 #[.pointer (some ⟨B, 0, none⟩)] #[.int .i64 x] (.bool (decide (x = (k : Int)))) W := by
  show Calls Tryd.prog 32 #[.int .i64 x, .pointer (some ⟨B, 0, none⟩)] W _
  by_cases h : x = (k : Int)
  · subst h
    go_enter Tryd.func32, Tryd.ntmps32
    go_wp2_with fail
    go_ret
    exact ⟨by simp, 0, rfl⟩
  · have h' : (x == (k : Int)) = false := by simp; exact h
    go_enter Tryd.func32, Tryd.ntmps32
    go_wp2_with fail
    go_ret
    exact ⟨by simp [h], 0, rfl⟩
theorem idx_nil (cb : Value) (w : World) : Calls Tryd.prog 40 #[.slice none 0 0, cb] w fun e w' => e = .returned (.int .i64 (-1)) ∧ w = w' := by
  go_enter Tryd.func40, Tryd.ntmps40
  go_wp2_with fail
  refine wp_loop_rounds 1 ?_
  rw [rounds_succ]
  go_wp2_with fail
  go_ret
  exact ⟨rfl, rfl⟩
theorem del_nil (cb : Value) (w : World) : Calls Tryd.prog 31 #[.slice none 0 0, cb] w fun e w' => e = .returned (.slice none 0 0) ∧ w = w' := by
  go_enter Tryd.func31, Tryd.ntmps31
  go_wp2_with fail
  refine (idx_nil cb _).mono ?_
  rintro e w1 ⟨rfl, rfl⟩
  go_wp2_with fail
  go_ret
  exact ⟨rfl, rfl⟩
structure IsDel (w : World) (v : Value) (xs : List Nat) (k : Nat) (e : Ending) (w' : World) : Prop where
  ex : ∃ v', e = .returned v' ∧ OwnE kc 1 3 w' v' (xs.filter (fun x => x ≠ k)) ∧ v'.ownBlock = v.ownBlock
  gr : w.grownBy w' v.ownBlock
theorem wh_del (v : Value) (xs : List Nat) (k B : Nat) (w : World) (hown : OwnE kc 1 3 w v xs) (hB : B < w.heap.size) (hne : v.ownBlock ≠ some B) (hc : w.cell? ⟨B, 0, none⟩ = some (.int .i64 k)) :
    Calls Tryd.prog 31 #[v, .func (.func 32) #[] #[.pointer (some ⟨B, 0, none⟩)]] w (IsDel w v xs k) := by
  rcases hown.2 with ⟨rfl, h0⟩ | ⟨g, cap, cur, rfl, hb, hh, h1, h2, h3, h4⟩
  · have hx : xs = [] := List.eq_nil_of_length_eq_zero h0
    subst hx
    refine (del_nil _ w).mono ?_
    rintro e w' ⟨rfl, rfl⟩
    exact ⟨⟨_, rfl, hown, rfl⟩, ⟨rfl, rfl, rfl, Nat.le_refl _, fun _ _ _ => rfl⟩⟩
  · have hgB : B ≠ g := fun e => hne (by rw [e]; rfl)
    rw [Nat.mul_one] at h4
    have hH : Holds (Value.int .i64) w g 0 (nn xs).toArray := holds_of_blockI hh (by rw [nn_len, nn_kc]; exact h4)
    have eg : ∀ args w, (callFunc 32 args).run Tryd.prog w = .ok (.enter 32 args) w := enters_of Tryd.func32 (by kernel_rfl) rfl
    have hcon := AnyE.slices_DeleteFunc Tryd.delH (Value.int .i64) (fun _ => rfl) (fun x => decide (x = (k : Int))) 32 #[.pointer (some ⟨B, 0, none⟩)] eg 0 Tryd.zeroValue3 g 0 cap (nn xs).toArray w
      (fun W x hb => del_gives k x B W ((hb.cell (p := ⟨B, 0, none⟩) hB).trans hc))
      (fun n os dk x _ => del_gives k x B _ (by
        unfold sortWorld
        rw [cell?_grow _ _ _ (by show B < (putRow _ _ _ _ _).heap.size; rw [size_putRow]; exact hB), cell?_putRow_other _ _ g 0 _ _ (Or.inl hgB)]
        exact hc)) hH (by simp only [maxLen] at h2; simp [nn_len]; omega) (by simp [nn_len]; exact h1)
    change Calls Tryd.prog 31 _ _ _ at hcon
    have hsz : (nn xs).toArray.size = xs.length := by simp [nn_len]
    rw [hsz] at hcon
    refine hcon.mono ?_
    rintro e w' ⟨rfl, q, rfl⟩
    rw [show (nn xs).toArray.toList = nn xs from rfl, nn_filter, nn_len]
    have hfl : (xs.filter (fun x => x ≠ k)).length ≤ xs.length := List.length_filter_le _ _
    generalize hz : xs.filter (fun x => x ≠ k) = zs at *
    have hL : (nn zs ++ List.replicate (xs.length - zs.length) 0).length = xs.length := by rw [List.length_append, nn_len, List.length_replicate]; omega
    have hhp := heap_sortedI (n := q) (os := #[]) ((nn zs ++ List.replicate (xs.length - zs.length) 0).toArray) hh
    have hgr := grownBy_sortedI (w := w) (g := g) (n := q) (os := #[]) ((nn zs ++ List.replicate (xs.length - zs.length) 0).toArray)
    rw [grow_empty] at hhp hgr
    refine ⟨⟨_, rfl, ?_, rfl⟩, hgr⟩
    rw [hz]
    refine ⟨flat_len kc_len _, .inr ⟨g, cap, _, rfl, Nat.zero_le _, hhp, by omega, h2, by simp [putCells, h3], ?_⟩⟩
    have ht := take_putCellsI cur (nn zs ++ List.replicate (xs.length - zs.length) 0) (by rw [hL, h3]; omega)
    have ht2 := congrArg (List.take zs.length) ht
    rw [List.take_take, hL, Nat.min_eq_left hfl] at ht2
    rw [Nat.mul_one, ← nn_kc, ht2, List.map_append, List.take_left' (by rw [List.length_map, nn_len])]
end Go.Proofs.YtpfoocndohpbbaaDoor
