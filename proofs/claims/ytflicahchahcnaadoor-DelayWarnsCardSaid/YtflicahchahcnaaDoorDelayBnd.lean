/- Bounds: delay.Bound, and the document's Bound, Table, Same. -/
import Derived.Test.YtflicahchahcnaaDoorDelayTab
import Derived.Test.YtflicahchahcnaaDoorDelayROf
import Derived.Test.YtflicahchahcnaaDoorCfgRef
namespace Go.Proofs.YtflicahchahcnaaDoor
open Go.RowKit
set_option linter.unusedVariables false
set_option linter.unusedSimpArgs false

/-- What Bound tells. -/
def bndOf (ls : List Ln) (t : Tm) : Int := if cfOk ls t = true then t.t8 + 2 * t.t7 + t.t3 + 8 else 0
theorem add_ok (a b : Int) (w : World) (ha : 0 ≤ a ∧ a ≤ 1000000) (hb : 0 ≤ b ∧ b ≤ 1000000) : Calls Tryd.prog 10 #[.int .i64 a, .int .i64 b] w fun e w' => e = .returned (.tuple #[.int .i64 (a + b), .nilIface]) ∧ Below w.heap.size w w' := by
  have hs : inI (a + b) := by unfold inI; omega
  refine (d_add a b (by unfold inI; omega) (by unfold inI; omega) w).mono ?_
  rintro e w' ⟨v, rfl, hv, hb⟩
  unfold numOf errOf at *
  rw [if_pos hs] at hv ⊢
  rcases hv with ⟨_, rfl⟩ | ⟨h, _⟩
  · exact ⟨rfl, hb⟩
  · exact absurd h (by decide)
set_option maxHeartbeats 4000000 in
set_option maxRecDepth 100000 in
theorem d_bound (A : Option Addr) (n c : Nat) (ls : List Ln) (t : Tm) (w : World) (rs : RLn w A n c ls) : Calls Tryd.prog 19 #[cfv A n c t] w (IsNe (bndOf ls t) (cfErr ls t) w) := by
  have HR := Lib.hid rs
  have hx := below_st w (.cells (cfa A n c t) 39)
  have HX := Lib.hid hx
  have hz3 : (w.alloc (.cells (cfa A n c t) 39)).cell? ⟨w.heap.size, 4, none⟩ = some (.int .i64 t.t3) := by simp
  have hz7 : (w.alloc (.cells (cfa A n c t) 39)).cell? ⟨w.heap.size, 8, none⟩ = some (.int .i64 t.t7) := by simp
  have hz8 : (w.alloc (.cells (cfa A n c t) 39)).cell? ⟨w.heap.size, 9, none⟩ = some (.int .i64 t.t8) := by simp
  have HC := Lib.hid (cf_check A n c ls t _ (HR.out.below hx))
  clear rs hx
  go_enter Tryd.func19, Tryd.ntmps19
  go_wp2_with fail
  have hlt : w.heap.size < (w.alloc (.cells (cfa A n c t) 39)).heap.size := by simp
  generalize w.alloc _ = w1 at *
  refine HC.out.mono ?_
  rintro e w2 ⟨v, rfl, hv, hb2⟩
  have z3 := (hb2.cell (p := ⟨w.heap.size, 4, none⟩) hlt).trans hz3
  have z7 := (hb2.cell (p := ⟨w.heap.size, 8, none⟩) hlt).trans hz7
  have z8 := (hb2.cell (p := ⟨w.heap.size, 9, none⟩) hlt).trans hz8
  have HX2 := Lib.hid (below_go HX.out hb2)
  clear hb2 hlt hz3 hz7 hz8 HC
  by_cases hok : cfOk ls t = true
  · have e1 : cfErr ls t = 0 := if_pos hok
    have E1 := Lib.hid e1
    have e2 := Lib.hid (show bndOf ls t = t.t8 + 2 * t.t7 + t.t3 + 8 from if_pos hok)
    rw [e1] at hv
    rcases hv with ⟨_, rfl⟩ | ⟨h, _⟩
    rotate_left
    · exact absurd h (by decide)
    have b3 := cfOk_tm ls t hok 3 (by omega)
    have b7 := cfOk_tm ls t hok 7 (by omega)
    have b8 := cfOk_tm ls t hok 8 (by omega)
    simp only [Tm.get] at b3 b7 b8
    clear hok e1
    have hbl := below_st w2 (.cells #[.int .i64 t.t8, .int .i64 t.t7, .int .i64 t.t7, .int .i64 t.t3] 3)
    have HX3 := Lib.hid (below_go HX2.out hbl)
    have c0 : (w2.alloc (.cells #[.int .i64 t.t8, .int .i64 t.t7, .int .i64 t.t7, .int .i64 t.t3] 3)).cell? ⟨w2.heap.size, 0, none⟩ = some (.int .i64 t.t8) := by simp
    have c1 : (w2.alloc (.cells #[.int .i64 t.t8, .int .i64 t.t7, .int .i64 t.t7, .int .i64 t.t3] 3)).cell? ⟨w2.heap.size, 1, none⟩ = some (.int .i64 t.t7) := by simp
    have c2 : (w2.alloc (.cells #[.int .i64 t.t8, .int .i64 t.t7, .int .i64 t.t7, .int .i64 t.t3] 3)).cell? ⟨w2.heap.size, 2, none⟩ = some (.int .i64 t.t7) := by simp
    have c3 : (w2.alloc (.cells #[.int .i64 t.t8, .int .i64 t.t7, .int .i64 t.t7, .int .i64 t.t3] 3)).cell? ⟨w2.heap.size, 3, none⟩ = some (.int .i64 t.t3) := by simp
    have hg : w2.heap.size < (w2.alloc (.cells #[.int .i64 t.t8, .int .i64 t.t7, .int .i64 t.t7, .int .i64 t.t3] 3)).heap.size := by simp
    clear hbl
    go_wp2_with fail
    generalize w2.alloc _ = w3 at *
    generalize w2.heap.size = g at *
    have H0 := Lib.hid (Below.refl w3.heap.size w3)
    clear z3 z7 z8
    refine wp_loop_rounds 5 ?_
    rw [rounds_succ]
    go_wp2_with fail
    refine (add_ok _ _ _ (by omega) (by omega)).mono ?_
    rintro e w4 ⟨rfl, hb⟩
    have H1 := Lib.hid (below_go H0.out hb)
    have y0 := (H1.out.cell (p := ⟨g, 0, none⟩) hg).trans c0
    have y1 := (H1.out.cell (p := ⟨g, 1, none⟩) hg).trans c1
    have y2 := (H1.out.cell (p := ⟨g, 2, none⟩) hg).trans c2
    have y3 := (H1.out.cell (p := ⟨g, 3, none⟩) hg).trans c3
    clear hb
    go_wp2_with fail
    rw [rounds_succ]
    go_wp2_with fail
    refine (add_ok _ _ _ (by omega) (by omega)).mono ?_
    rintro e w5 ⟨rfl, hb⟩
    have H2 := Lib.hid (below_go H1.out hb)
    have y0 := (H2.out.cell (p := ⟨g, 0, none⟩) hg).trans c0
    have y1 := (H2.out.cell (p := ⟨g, 1, none⟩) hg).trans c1
    have y2 := (H2.out.cell (p := ⟨g, 2, none⟩) hg).trans c2
    have y3 := (H2.out.cell (p := ⟨g, 3, none⟩) hg).trans c3
    clear hb
    go_wp2_with fail
    rw [rounds_succ]
    go_wp2_with fail
    refine (add_ok _ _ _ (by omega) (by omega)).mono ?_
    rintro e w6 ⟨rfl, hb⟩
    have H3 := Lib.hid (below_go H2.out hb)
    have y0 := (H3.out.cell (p := ⟨g, 0, none⟩) hg).trans c0
    have y1 := (H3.out.cell (p := ⟨g, 1, none⟩) hg).trans c1
    have y2 := (H3.out.cell (p := ⟨g, 2, none⟩) hg).trans c2
    have y3 := (H3.out.cell (p := ⟨g, 3, none⟩) hg).trans c3
    clear hb
    go_wp2_with fail
    rw [rounds_succ]
    go_wp2_with fail
    refine (add_ok _ _ _ (by omega) (by omega)).mono ?_
    rintro e w7 ⟨rfl, hb⟩
    have H4 := Lib.hid (below_go H3.out hb)
    have y0 := (H4.out.cell (p := ⟨g, 0, none⟩) hg).trans c0
    have y1 := (H4.out.cell (p := ⟨g, 1, none⟩) hg).trans c1
    have y2 := (H4.out.cell (p := ⟨g, 2, none⟩) hg).trans c2
    have y3 := (H4.out.cell (p := ⟨g, 3, none⟩) hg).trans c3
    clear hb
    go_wp2_with fail
    rw [rounds_succ]
    go_wp2_with fail
    go_ret2
    refine ⟨_, ?_, by rw [E1.out]; exact .none _, below_go HX3.out H4.out⟩
    rw [e2.out, show 8 + t.t8 + t.t7 + t.t7 + t.t3 = t.t8 + 2 * t.t7 + t.t3 + 8 by omega] <;> rfl
  · have e1 : cfErr ls t = 6 := if_neg hok
    have E1 := Lib.hid e1
    have e2 := Lib.hid (show bndOf ls t = 0 from if_neg hok)
    rw [e1] at hv
    have HV := Lib.hid (wrap_is v (ByteArray.mk #[100, 101, 108, 97, 121]) w2 hv)
    rcases hv with ⟨h, _⟩ | ⟨_, d, hd⟩
    · exact absurd h (by decide)
    obtain ⟨ty, u, rfl⟩ := hd.iface
    clear hok e1 hd z3 z7 z8
    go_wp2_with fail
    refine HV.out.mono ?_
    rintro e w' ⟨v, rfl, hv, hb⟩
    have HE := Lib.hid hv
    have HW := Lib.hid (below_go HX2.out hb)
    clear hv hb
    go_wp2_with fail
    go_ret2
    exact ⟨_, by rw [e2.out] <;> rfl, by rw [E1.out]; exact HE.out, HW.out⟩
end Go.Proofs.YtflicahchahcnaaDoor
