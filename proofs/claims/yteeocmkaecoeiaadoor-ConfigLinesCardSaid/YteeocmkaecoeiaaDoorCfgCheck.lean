/- config.Check: which crossings may be. -/
import Derived.Test.YteeocmkaecoeiaaDoorCfgTimes
import Derived.Test.YteeocmkaecoeiaaDoorErrIs
namespace Go.Proofs.YteeocmkaecoeiaaDoor
open Go.RowKit
set_option linter.unusedVariables false
set_option linter.unusedSimpArgs false

/-- A crossing's times. -/
structure Tm where
  t0 : Int
  t1 : Int
  t2 : Int
  t3 : Int
  t4 : Int
  t5 : Int
  t6 : Int
  t7 : Int
  t8 : Int
  t9 : Int
  deriving DecidableEq
def Tm.get (t : Tm) (k : Nat) : Int := match k with | 0 => t.t0 | 1 => t.t1 | 2 => t.t2 | 3 => t.t3 | 4 => t.t4 | 5 => t.t5 | 6 => t.t6 | 7 => t.t7 | 8 => t.t8 | _ => t.t9
abbrev cfa (A : Option Addr) (n c : Nat) (t : Tm) : Array Value := #[.slice A n c, .int .i64 t.t0, .int .i64 t.t1, .int .i64 t.t2, .int .i64 t.t3, .int .i64 t.t4, .int .i64 t.t5, .int .i64 t.t6, .int .i64 t.t7, .int .i64 t.t8, .int .i64 t.t9]
abbrev cfv (A : Option Addr) (n c : Nat) (t : Tm) : Value := .agg (cfa A n c t)
def tmTo (t : Tm) (k : Nat) : Bool := (List.range k).all fun i => btw (t.get i) 1 6000
theorem tmTo_succ (t : Tm) (k : Nat) : tmTo t (k + 1) = (tmTo t k && btw (t.get k) 1 6000) := by simp [tmTo, List.range_succ]
/-- A crossing may be. -/
def cfOk (ls : List Ln) (t : Tm) : Bool := btw ls.length 1 8 && tmTo t 10 && ls.all lnOk
theorem tm_index (g k : Nat) (hk : k < 10) (w : World) : (Instr.index 54 (.agg (tmPs g)) (.int .i64 (k : Int))).run Tryd.prog w = .ok (.pointer (some ⟨g, k + 1, none⟩)) w := by
  rcases (by omega : k = 0 ∨ k = 1 ∨ k = 2 ∨ k = 3 ∨ k = 4 ∨ k = 5 ∨ k = 6 ∨ k = 7 ∨ k = 8 ∨ k = 9) with rfl | rfl | rfl | rfl | rfl | rfl | rfl | rfl | rfl | rfl <;> kernel_rfl
theorem cf_cells (w0 : World) (B : Nat) (A : Option Addr) (n c : Nat) (t : Tm) (ty : TypeId) (h : w0.heap[B]? = some (.cells (cfa A n c t) ty (0, 0))) (k : Nat) (hk : k < 10) : w0.cell? ⟨B, k + 1, none⟩ = some (.int .i64 (t.get k)) := by
  rcases (by omega : k = 0 ∨ k = 1 ∨ k = 2 ∨ k = 3 ∨ k = 4 ∨ k = 5 ∨ k = 6 ∨ k = 7 ∨ k = 8 ∨ k = 9) with rfl | rfl | rfl | rfl | rfl | rfl | rfl | rfl | rfl | rfl <;> simp [World.cell?, h, Tm.get]
/-- What Check says. -/
def cfErr (ls : List Ln) (t : Tm) : Int := if cfOk ls t = true then 0 else 6
def IsErr (c : Int) (w : World) (e : Ending) (w' : World) : Prop := ∃ v, e = .returned v ∧ ErrIs w' v c ∧ Below w.heap.size w w'
set_option maxHeartbeats 4000000 in
set_option maxRecDepth 100000 in
theorem cf_check (A : Option Addr) (n c : Nat) (ls : List Ln) (t : Tm) (w : World) (rs : RLn w A n c ls) : Calls Tryd.prog 15 #[cfv A n c t] w (IsErr (cfErr ls t) w) := by
  have hl := Lib.hid rs.len
  have HR := Lib.hid rs
  have h0 := heap_alloc_new w (.cells (cfa A n c t) 26)
  have hx := below_st w (.cells (cfa A n c t) 26)
  have HX := Lib.hid hx
  have HC := Lib.hid (cf_cells _ _ A n c t _ h0)
  have hz : (w.alloc (.cells (cfa A n c t) 26)).cell? ⟨w.heap.size, 0, none⟩ = some (.slice A n c) := by simp
  clear rs hx h0
  go_enter Tryd.func15, Tryd.ntmps15
  go_wp2_with fail
  have hlt : w.heap.size < (w.alloc (.cells (cfa A n c t) 26)).heap.size := by simp
  generalize hw1 : w.alloc _ = w1 at *
  refine (cf_in _ _ _ _).mono ?_
  rintro e w' ⟨rfl, rfl⟩
  go_wp2_with fail
  refine (cf_times _ _).mono ?_
  rintro e w2 ⟨rfl, hb2⟩
  have HB := Lib.hid hb2
  have HL := Lib.hid hlt
  clear hb2 hz hlt
  go_wp2_with fail
  go_loopw [3, 12] (fun s3 s12 wr => ∃ k : Nat, k ≤ 10 ∧ s12 = .int .i64 k ∧ s3 = .bool (btw n 1 8 && tmTo t k) ∧ Below w1.heap.size w1 wr) (fun _ s12 _ => 10 - (intOf s12).toNat)
  case atStart => exact ⟨0, by omega, rfl, by simp [tmTo], HB.out⟩
  case round =>
    obtain ⟨k, hk, rfl, rfl, hbr⟩ := hrel
    have HBR := Lib.hid hbr
    by_cases hlt : k < 10
    · have hlt' : (k : Int) < 10 := by omega
      have hi := tm_index w.heap.size k hlt
      have hc := (hbr.cell (p := ⟨w.heap.size, k + 1, none⟩) HL.out).trans (HC.out k hlt)
      have hs := tmTo_succ t k
      clear hbr
      cases hok : (btw n 1 8 && tmTo t k) with
      | true =>
        have hs2 := Lib.hid (show (btw n 1 8 && tmTo t (k + 1)) = btw (t.get k) 1 6000 by rw [hs, ← Bool.and_assoc, hok, Bool.true_and])
        clear hok hs
        go_wp2_with fail
        refine (cf_in _ _ _ _).mono ?_
        rintro e w' ⟨rfl, rfl⟩
        go_wp2_with fail
        exact ⟨⟨k + 1, by omega, by go_num, by rw [hs2.out], HBR.out⟩, by simp [intOf]; omega⟩
      | false =>
        have hs2 := Lib.hid (show (btw n 1 8 && tmTo t (k + 1)) = false by rw [hs, ← Bool.and_assoc, hok, Bool.false_and])
        clear hok hs
        go_wp2_with fail
        exact ⟨⟨k + 1, by omega, by go_num, by rw [hs2.out], HBR.out⟩, by simp [intOf]; omega⟩
    · obtain rfl : k = 10 := by omega
      have hk0 : (w.alloc (.cells (cfa A n c t) 26)).cell? ⟨w.heap.size, 0, none⟩ = some (.slice A n c) := by simp
      rw [hw1] at hk0
      have hz := (hbr.cell (p := ⟨w.heap.size, 0, none⟩) HL.out).trans hk0
      have HW := Lib.hid (HX.out.trans (hbr.mono HX.out.size))
      have hokd := Lib.hid (show cfOk ls t = ((btw n 1 8 && tmTo t 10) && ls.all lnOk) by unfold cfOk; rw [hl.out])
      clear hbr hk0
      cases hok : (btw n 1 8 && tmTo t 10) with
      | false =>
        have hno := Lib.hid (show ¬ cfOk ls t = true by rw [hokd.out, hok]; simp)
        clear hok
        go_wp2_with fail
        refine (fault_new 6 _ _ (by decide)).mono ?_
        rintro r w' ⟨v, rfl, hv, hb⟩
        have HV := Lib.hid hv
        have HN := Lib.hid hb
        clear hv hb
        go_wp2_with fail
        go_ret
        refine ⟨v, rfl, ?_, below_go HW.out HN.out⟩
        rw [cfErr, if_neg (hno.out)]
        exact .inr ⟨by decide, 1, HV.out⟩
      | true =>
        have hcf := Lib.hid (show cfOk ls t = ls.all lnOk by rw [hokd.out, hok]; simp)
        clear hok
        go_wp2_with fail
        refine (cf_contains A n c ls _ (HR.out.below HW.out)).mono ?_
        rintro e w3 ⟨rfl, hb3⟩
        have HW3 := Lib.hid (below_go HW.out hb3)
        clear hb3 hz
        cases hall : ls.all lnOk with
        | true =>
          have hyes := Lib.hid (show cfOk ls t = true by rw [hcf.out, hall])
          clear hall
          go_wp2_with fail
          go_ret
          refine ⟨_, rfl, ?_, HW3.out⟩
          rw [cfErr, if_pos hyes.out]
          exact .none _
        | false =>
          have hno := Lib.hid (show ¬ cfOk ls t = true by rw [hcf.out, hall]; simp)
          clear hall
          go_wp2_with fail
          refine (fault_new 6 _ _ (by decide)).mono ?_
          rintro r w' ⟨v, rfl, hv, hb⟩
          have HV := Lib.hid hv
          have HN := Lib.hid hb
          clear hv hb
          go_wp2_with fail
          go_ret
          refine ⟨v, rfl, ?_, below_go HW3.out HN.out⟩
          rw [cfErr, if_neg (hno.out)]
          exact .inr ⟨by decide, 1, HV.out⟩
end Go.Proofs.YteeocmkaecoeiaaDoor
