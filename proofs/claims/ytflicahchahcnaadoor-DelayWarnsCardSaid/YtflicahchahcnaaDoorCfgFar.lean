/- config.Check, delay.Table: crossings of too many lines, whatever these are. -/
import Derived.Test.YtflicahchahcnaaDoorDelayTab
import Derived.Test.YtflicahchahcnaaDoorCrossing
namespace Go.Proofs.YtflicahchahcnaaDoor
open Go.RowKit
set_option linter.unusedVariables false
set_option linter.unusedSimpArgs false

set_option maxHeartbeats 4000000 in
set_option maxRecDepth 100000 in
theorem cf_check_far (A : Option Addr) (n c : Nat) (t : Tm) (w : World) (h8 : 8 < n) (hm : n ≤ 9223372036854775807) : Calls Tryd.prog 30 #[cfv A n c t] w (IsErr 6 w) := by
  have h0 := heap_alloc_new w (.cells (cfa A n c t) 39)
  have hx := below_st w (.cells (cfa A n c t) 39)
  have HX := Lib.hid hx
  have HC := Lib.hid (cf_cells _ _ A n c t _ h0)
  have hz : (w.alloc (.cells (cfa A n c t) 39)).cell? ⟨w.heap.size, 0, none⟩ = some (.slice A n c) := by simp
  have hno : btw n 1 8 = false := by unfold btw; simp; omega
  have HNO := Lib.hid hno
  clear hx h0 hno
  go_enter Tryd.func30, Tryd.ntmps30
  go_wp2_with fail
  have hlt : w.heap.size < (w.alloc (.cells (cfa A n c t) 39)).heap.size := by simp
  generalize hw1 : w.alloc _ = w1 at *
  refine (cf_in _ _ _ _).mono ?_
  rintro e w' ⟨rfl, rfl⟩
  rw [HNO.out]
  go_wp2_with fail
  refine (cf_times _ _).mono ?_
  rintro e w2 ⟨rfl, hb2⟩
  have HB := Lib.hid hb2
  have HL := Lib.hid hlt
  clear hb2 hz hlt
  go_wp2_with fail
  go_loopw [3, 12] (fun s3 s12 wr => ∃ k : Nat, k ≤ 10 ∧ s12 = .int .i64 k ∧ s3 = .bool false ∧ Below w1.heap.size w1 wr) (fun _ s12 _ => 10 - (intOf s12).toNat)
  case atStart => exact ⟨0, by omega, rfl, rfl, HB.out⟩
  case round =>
    obtain ⟨k, hk, rfl, rfl, hbr⟩ := hrel
    have HBR := Lib.hid hbr
    by_cases hlt : k < 10
    · have hlt' : (k : Int) < 10 := by omega
      have hi := tm_index w.heap.size k hlt
      clear hbr
      go_wp2_with fail
      exact ⟨⟨k + 1, by omega, by go_num, rfl, HBR.out⟩, by simp [intOf]; omega⟩
    · have hk10 : ¬ (k : Int) < 10 := by omega
      have HW := Lib.hid (HX.out.trans (hbr.mono HX.out.size))
      clear hbr
      go_wp2_with fail
      refine (fault_new 6 _ _ (by decide)).mono ?_
      rintro r w' ⟨v, rfl, hv, hb⟩
      have HV := Lib.hid hv
      have HN := Lib.hid hb
      clear hv hb
      go_wp2_with fail
      go_ret
      exact ⟨v, rfl, .inr ⟨by decide, 1, HV.out⟩, below_go HW.out HN.out⟩
set_option maxHeartbeats 4000000 in
set_option maxRecDepth 100000 in
theorem d_table_far (A : Option Addr) (n c : Nat) (t : Tm) (w : World) (h8 : 8 < n) (hm : n ≤ 9223372036854775807) : Calls Tryd.prog 17 #[cfv A n c t] w (IsTab [] 6 w) := by
  have hx := below_st w (.cells (cfa A n c t) 39)
  have HX := Lib.hid hx
  have HC := Lib.hid (fun w' => cf_check_far A n c t w' h8 hm)
  clear hx
  go_enter Tryd.func17, Tryd.ntmps17
  go_wp2_with fail
  generalize w.alloc _ = w1 at *
  refine (HC.out _).mono ?_
  rintro e w2 ⟨v, rfl, hv, hb2⟩
  have HX2 := Lib.hid (below_go HX.out hb2)
  have HV := Lib.hid (wrap_is v (ByteArray.mk #[100, 101, 108, 97, 121]) w2 hv)
  rcases hv with ⟨h, _⟩ | ⟨_, d, hd⟩
  · exact absurd h (by decide)
  obtain ⟨ty, u, rfl⟩ := hd.iface
  clear hb2 HC hd
  go_wp2_with fail
  refine HV.out.mono ?_
  rintro e w' ⟨v, rfl, hv, hb⟩
  have HE := Lib.hid hv
  have HW := Lib.hid (below_go HX2.out hb)
  clear hv hb
  go_wp2_with fail
  go_ret2
  exact ⟨_, _, rfl, OwnE.nil _ _, (fun g h => by cases h), HE.out, HW.out⟩
end Go.Proofs.YtflicahchahcnaaDoor
