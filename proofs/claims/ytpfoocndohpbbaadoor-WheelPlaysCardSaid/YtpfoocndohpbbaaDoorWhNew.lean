/- wheel: New. -/
import Derived.Test.YtpfoocndohpbbaaDoorWhTick
namespace Go.Proofs.YtpfoocndohpbbaaDoor
open Go Go.RowKit
set_option linter.unusedVariables false
set_option linter.unusedSimpArgs false
def tw0 : Tw := ⟨false, 0, 0, 0⟩
theorem tmT : ElT Tryd.prog 48 59 4 32 (.agg #[.bool false, .int .i64 0, .int .i64 0, .int .i64 0]) := ⟨Tryd.underlying48, by kernel_rfl, rfl, by omega⟩
theorem tm_made (c : Nat) : madeCells #[.bool false, .int .i64 0, .int .i64 0, .int .i64 0] (c * 4) = ((List.replicate c tw0).flatMap tmc).toArray := by
  apply Array.ext
  · simp [madeCells, flat_len tmc_len]
  · intro i h1 h2
    have h9 : ∀ (c i : Nat) (h : i < ((List.replicate c tw0).flatMap tmc).length), ((List.replicate c tw0).flatMap tmc)[i] = (#[.bool false, .int .i64 0, .int .i64 0, .int .i64 0] : Array Value)[i % 4]'(by show _ < 4; omega) := by
      intro c
      induction c with
      | zero => intro i h; simp at h
      | succ c ih =>
        intro i h
        simp only [List.replicate_succ, List.flatMap_cons]
        by_cases hi : i < 4
        · rw [List.getElem_append_left (by rw [tmc_len]; exact hi)]
          have : i = 0 ∨ i = 1 ∨ i = 2 ∨ i = 3 := by omega
          rcases this with rfl | rfl | rfl | rfl <;> rfl
        · rw [List.getElem_append_right (by rw [tmc_len]; omega), ih]
          simp only [tmc_len]
          congr 1
          omega
    simp only [madeCells, List.getElem_toArray]
    rw [h9]
    have h4 : i % 4 < 4 := by omega
    simp [h4]
theorem tm_make (w : World) (n : Nat) (hn : n ≤ 64) : (Instr.makeSlice 48 (.int .i64 (n : Int)) (.int .i64 (n : Int))).run Tryd.prog w = .ok (.slice (some ⟨w.heap.size, 0, none⟩) n n) (w.alloc (.cells ((List.replicate n tw0).flatMap tmc).toArray 59)) := by
  obtain ⟨i, hi, hz, hs, hb⟩ := info_parts tmT.info
  have := run_make (P := Tryd.prog) w 48 59 i _ Tryd.underlying48 hi hz .i64 .i64 (n : Int) (n : Int) (by omega) (by omega) (by rw [hb]; omega) (by omega)
  rw [hs] at this
  simp only [Int.toNat_natCast] at this
  rw [← tm_made]
  exact this
theorem wheel_zero : Tryd.zeroCells52 = (List.replicate 257 (.slice none 0 0) ++ [.int .i64 0, .int .i64 0] : List Value).toArray := by kernel_rfl
theorem wheel_size : Tryd.zeroCells52.size = 259 := by kernel_rfl
set_option maxRecDepth 10000 in
theorem wheel_cell (v : Value) (m : Nat) (hm : m < 256) : (Tryd.zeroCells52.setIfInBounds 0 v)[1 + m]? = some (.slice none 0 0) := by
  rw [Array.getElem?_setIfInBounds_ne (by omega), wheel_zero, List.getElem?_toArray, List.getElem?_append_left (by rw [List.length_replicate]; omega), List.getElem?_replicate, if_pos (by omega)]
theorem wheel_now (v : Value) : (Tryd.zeroCells52.setIfInBounds 0 v)[257]? = some (.int .i64 ((0 : Nat) : Int)) := by
  rw [Array.getElem?_setIfInBounds_ne (by omega), wheel_zero, List.getElem?_toArray, List.getElem?_append_right (by rw [List.length_replicate]; omega), List.length_replicate]
  rfl
theorem wheel_cnt (v : Value) : (Tryd.zeroCells52.setIfInBounds 0 v)[258]? = some (.int .i64 ((0 : Nat) : Int)) := by
  rw [Array.getElem?_setIfInBounds_ne (by omega), wheel_zero, List.getElem?_toArray, List.getElem?_append_right (by rw [List.length_replicate]; omega), List.length_replicate]
  rfl
theorem new_x (w : World) (P : Nat) (hP : P ≤ 64) : WhX ((w.alloc (.cells ((List.replicate P tw0).flatMap tmc).toArray 59)).alloc (.cells (Tryd.zeroCells52.setIfInBounds 0 (.slice (some ⟨w.heap.size, 0, none⟩) P P)) 52)) (w.heap.size + 1) w.heap.size P (List.replicate P tw0) (fun _ _ => []) 0 0 (fun _ => .slice none 0 0) (Tryd.zeroCells52.setIfInBounds 0 (.slice (some ⟨w.heap.size, 0, none⟩) P P)) := by
  have hl := own_lit (f := tmc) (e := 59) tmc_len w (List.replicate P tw0) (by simp; omega)
  rw [List.length_replicate] at hl
  refine ⟨⟨?_, ?_, ?_, wheel_cell _, ?_, ?_⟩, ⟨fun l i _ _ => OwnE.nil _ _, (fun m _ b hb => by cases hb), (fun m m' _ _ _ b hb => by cases hb)⟩, ?_, by simp, hP, by omega⟩
  · have := heap_alloc_new (w.alloc (.cells ((List.replicate P tw0).flatMap tmc).toArray 59)) (.cells (Tryd.zeroCells52.setIfInBounds 0 (.slice (some ⟨w.heap.size, 0, none⟩) P P)) 52)
    simpa using this
  · rw [Array.size_setIfInBounds, wheel_size]
  · rw [Array.getElem?_setIfInBounds_self_of_lt (by rw [wheel_size]; omega)]
  · exact wheel_now _
  · exact wheel_cnt _
  · exact hl.fr (Fr.ofBelow (below_new _ _) (fun _ => False)) (fun _ _ h => h)
set_option maxHeartbeats 4000000 in
set_option maxRecDepth 100000 in
theorem wh_new (P : Nat) (z : Int) (hP : (P : Int) = max 0 (min z 64)) (w : World) :
    Calls Tryd.prog 10 #[.int .i64 z] w fun e w' => ∃ g gp cs, e = .returned (.pointer (some ⟨g, 0, none⟩)) ∧ WhX w' g gp P (List.replicate P tw0) (fun _ _ => []) 0 0 (fun _ => .slice none 0 0) cs ∧ w.heap.size ≤ g ∧ w.heap.size ≤ gp ∧ Below w.heap.size w w' := by
  have HX := Lib.hid (new_x w P (by omega))
  have HB := Lib.hid (below_step (below_new w (.cells ((List.replicate P tw0).flatMap tmc).toArray 59)) (below_new _ (.cells (Tryd.zeroCells52.setIfInBounds 0 (.slice (some ⟨w.heap.size, 0, none⟩) P P)) 52)))
  have hmk := fun w => tm_make w P (by omega)
  rw [hP] at hmk
  go_enter Tryd.func10, Tryd.ntmps10
  go_wp2_with fail
  go_ret
  exact ⟨_, _, _, rfl, HX.out, by omega, by omega, HB.out⟩
end Go.Proofs.YtpfoocndohpbbaaDoor
