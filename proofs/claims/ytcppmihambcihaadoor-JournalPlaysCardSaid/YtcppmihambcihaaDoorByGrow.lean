/- slices.Grow of bytes that the call owns. -/
import Derived.Test.YtcppmihambcihaaDoorByClone
import Derived.Test.YtcppmihambcihaaDoorByCopy
import Derived.Lib.AppendZerosOnto
namespace Go.Proofs.YtcppmihambcihaaDoor
open Go.RowKit
set_option linter.unusedVariables false
set_option linter.unusedSimpArgs false

set_option maxHeartbeats 2000000 in
set_option maxRecDepth 100000 in
theorem by_grow (B : Nat) (v : Value) (xs : List UInt8) (k : Nat) (w : World) (hown : OwnB w B v xs) (hB : B ≤ w.heap.size) (hk : 0 < k) (hx : xs.length + k ≤ 1000000000) :
    Calls Tryd.prog 77 #[v, .int .i64 k] w fun e w' => ∃ v', e = .returned v' ∧ OwnB w' B v' xs ∧ Below w.heap.size w w' := by
  obtain ⟨i0, hi, hz0, hz1, hz2⟩ := info_parts by_info
  have h1 : ¬ ((k : Int) < 0) := by omega
  rcases hown.2 with ⟨rfl, h0⟩ | ⟨g, cap, cur, rfl, hb, hh, hnc, hcm, hcs, htake⟩
  · have hx0 : xs = [] := List.eq_nil_of_length_eq_zero h0
    subst hx0
    simp only [List.length_nil, Nat.zero_add] at hx
    have hrz : ∀ ty, (Builtin.append_ #[29, 3] ty #[.slice none 0 0, .int .i64 k]).run Tryd.prog w = _ := fun ty =>
      Lib.run_append_nil_zeros (P := Tryd.prog) w 29 3 ty 5 i0 (.int .u8 0) .i64 .i64 Tryd.underlying29 Tryd.underlying3 hi hz0 k hk (by omega) (by omega) (by rw [hz2]; omega)
    have hge := grownCap_ge w k 0 5
    have hcm : grownCap w k 0 5 ≤ maxLen := grownCap_le_maxLen w k 0 _ (by simp only [maxLen]; omega)
    generalize hG : grownCap w k 0 5 = G at hrz hge hcm
    have hown2 : OwnB (w.drew.alloc (.cells (Builtin.zeroCells (Value.cells (.int .u8 0)) k ++ Builtin.zeroCells (Value.cells (.int .u8 0)) (G - k)) 5)) B (.slice (some ⟨w.heap.size, 0, none⟩) 0 G) [] :=
      ⟨rfl, .inr ⟨w.heap.size, G, _, rfl, hB, heap_alloc_new w.drew _, Nat.zero_le _, hcm, by rw [Array.size_append, size_zeroCells, size_zeroCells]; simp only [Value.cells]; simp; omega, rfl⟩⟩
    have hb2 : Below w.heap.size w (w.drew.alloc (.cells (Builtin.zeroCells (Value.cells (.int .u8 0)) k ++ Builtin.zeroCells (Value.cells (.int .u8 0)) (G - k)) 5)) := (below_drew1 w).alloc (Nat.le_refl _) _
    have h2 : (0 : Int) < k := by omega
    have hG63 : G ≤ 9223372036854775807 := by unfold maxLen at hcm; omega
    generalize w.drew.alloc (.cells (Builtin.zeroCells (Value.cells (.int .u8 0)) k ++ Builtin.zeroCells (Value.cells (.int .u8 0)) (G - k)) 5) = w1 at hrz hown2 hb2
    clear hG hi hz0 hz1 hz2 hcm hge hown
    go_enter Tryd.func77, Tryd.ntmps77
    go_wp2_with (at_builtin; go_must (refine Lib.wpList_append_run _ rfl _ _ _ _ rfl _ _ rfl rfl _ _ (hrz _) ?_))
    go_ret
    exact ⟨_, rfl, hown2, hb2⟩
  · by_cases hroom : xs.length + k ≤ cap
    · simp only [maxLen] at hcm
      have h2 : IntKind.i64.wrap ((cap : Int) - (xs.length : Int)) = (cap : Int) - (xs.length : Int) := by rw [IntKind.wrap_i64]; omega
      have h3 : IntKind.i64.wrap ((k : Int) - ((cap : Int) - (xs.length : Int))) = (k : Int) - ((cap : Int) - (xs.length : Int)) := by rw [IntKind.wrap_i64]; omega
      have h4 : ¬ (0 < (k : Int) - ((cap : Int) - (xs.length : Int))) := by omega
      clear hcs htake hh hi hz0 hz1 hz2
      generalize hn : xs.length = n at *
      go_enter Tryd.func77, Tryd.ntmps77
      go_wp2
      go_ret
      exact ⟨_, rfl, hown, Below.refl _ _⟩
    · have hcm' := hcm
      simp only [maxLen] at hcm'
      have hroom' : cap < xs.length + k := by omega
      rw [Nat.mul_one] at hcs
      obtain ⟨d, hd⟩ : ∃ d, xs.length + k = cap + d := ⟨xs.length + k - cap, by omega⟩
      have hcl : cur.toList.length = cur.size := Array.length_toList
      have hold : (Builtin.firstCells i0.size cap (.slice (some ⟨g, 0, none⟩) cap cap)).run Tryd.prog w.drew = .ok cur.toList.toArray w.drew :=
        run_firstCells_some w.drew i0.size cap ⟨g, 0, none⟩ cap cap cur.toList (by rw [hz1, hcl, hcs, Nat.mul_one]) (fun j u hu => by
          rw [add_at]
          have hh2 : w.drew.heap[g]? = some (.cells cur 5 (0, 0)) := hh
          simp only [World.cell?, hh2]
          simpa using hu)
      have hfit : Builtin.nextslicecap (cap + d) cap * i0.bytes ≤ 281474976710656 := by
        refine growslice_fits (by omega) ?_
        rw [hz2]; omega
      have hrz : ∀ ty, (Builtin.append_ #[29, 3] ty #[.slice (some ⟨g, 0, none⟩) cap cap, .int .i64 d]).run Tryd.prog w = _ := fun ty =>
        Lib.run_append_grow_zeros (P := Tryd.prog) w 29 3 ty 5 i0 (.int .u8 0) .i64 .i64 Tryd.underlying29 Tryd.underlying3 hi hz0 (some ⟨g, 0, none⟩) cap cap cur.toList hold d (by omega) (by omega) (by omega) (by omega) (by rw [hz2]; omega) hfit
      have hge := grownCap_ge w (cap + d) cap 5
      have hcm2 : grownCap w (cap + d) cap 5 ≤ maxLen := grownCap_le_maxLen w (cap + d) cap _ (by simp only [maxLen]; omega)
      generalize hG : grownCap w (cap + d) cap 5 = G at hrz hge hcm2
      have hown2 : OwnB (w.drew.alloc (.cells (cur.toList.toArray ++ Builtin.zeroCells (Value.cells (.int .u8 0)) d ++ Builtin.zeroCells (Value.cells (.int .u8 0)) (G - (cap + d))) 5)) B (.slice (some ⟨w.heap.size, 0, none⟩) xs.length G) xs := by
        refine ⟨by simp, .inr ⟨w.heap.size, G, _, rfl, hB, heap_alloc_new w.drew _, by omega, hcm2, ?_, ?_⟩⟩
        · rw [Array.size_append, Array.size_append, size_zeroCells, size_zeroCells]; simp only [Value.cells]; simp; omega
        · rw [Nat.mul_one, Array.toList_append, Array.toList_append, List.append_assoc, List.take_append_of_le_length (by simp; omega)]
          rw [Nat.mul_one] at htake
          exact htake
      have hb2 : Below w.heap.size w (w.drew.alloc (.cells (cur.toList.toArray ++ Builtin.zeroCells (Value.cells (.int .u8 0)) d ++ Builtin.zeroCells (Value.cells (.int .u8 0)) (G - (cap + d))) 5)) := (below_drew1 w).alloc (Nat.le_refl _) _
      generalize w.drew.alloc (.cells (cur.toList.toArray ++ Builtin.zeroCells (Value.cells (.int .u8 0)) d ++ Builtin.zeroCells (Value.cells (.int .u8 0)) (G - (cap + d))) 5) = w1 at hrz hown2 hb2
      have h2 : IntKind.i64.wrap ((cap : Int) - (xs.length : Int)) = (cap : Int) - (xs.length : Int) := by rw [IntKind.wrap_i64]; omega
      have h3 : IntKind.i64.wrap ((k : Int) - ((cap : Int) - (xs.length : Int))) = (d : Int) := by rw [IntKind.wrap_i64]; omega
      have h4 : (0 : Int) < d := by omega
      have h5 : xs.length ≤ G := by omega
      have hG63 : G ≤ 9223372036854775807 := by unfold maxLen at hcm2; omega
      have sl1 := fun w => by_slice_h w (some ⟨g, 0, none⟩) xs.length cap cap (Nat.le_refl _) (cap : Int) rfl
      have sl2 := fun w => by_slice_h w (some ⟨w1.heap.size - 0, 0, none⟩) (cap + d) G xs.length h5 (xs.length : Int) rfl
      clear hG hi hz0 hz1 hz2 hcm hcm2 hge hown htake hh hold hfit hcs hcl sl2
      generalize hn : xs.length = n at *
      go_enter Tryd.func77, Tryd.ntmps77
      go_wp2_with (at_builtin; go_must (refine Lib.wpList_append_run _ rfl _ _ _ _ rfl _ _ rfl rfl _ _ (hrz _) ?_))
      go_ret
      exact ⟨_, rfl, hown2, hb2⟩
end Go.Proofs.YtcppmihambcihaaDoor
