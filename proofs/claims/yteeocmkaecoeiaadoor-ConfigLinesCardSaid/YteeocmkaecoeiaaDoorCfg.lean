/- Crossings: lines (five cells each), times; config.in, times, right. -/
import Derived.Test.YteeocmkaecoeiaaDoorFault
import Derived.LoopTactic
namespace Go.Proofs.YteeocmkaecoeiaaDoor
open Go.RowKit
set_option linter.unusedVariables false
set_option linter.unusedSimpArgs false

/-- A line. -/
structure Ln where
  strike : Int
  signal : Int
  s0 : Int
  s1 : Int
  s2 : Int
  deriving DecidableEq
def lnc (x : Ln) : List Value := [.int .i64 x.strike, .int .i64 x.signal, .int .i64 x.s0, .int .i64 x.s1, .int .i64 x.s2]
theorem lnc_len (x : Ln) : (lnc x).length = 5 := rfl
theorem lnc_one (x : Ln) : ∀ v ∈ lnc x, v.oneCell' = true := by
  intro v hv
  simp only [lnc, List.mem_cons, List.not_mem_nil, or_false] at hv
  rcases hv with rfl | rfl | rfl | rfl | rfl <;> rfl
def lnz : Value := .agg #[.int .i64 0, .int .i64 0, .int .i64 0, .int .i64 0, .int .i64 0]
theorem lnT : ElT Tryd.prog 22 48 5 40 lnz := ⟨Tryd.underlying22, by kernel_rfl, rfl, by omega⟩
abbrev RLn (w : World) := RE lnc w
abbrev OwnLn (w : World) := OwnE lnc 5 48 w
abbrev lnv (x : Ln) : Value := .agg #[.int .i64 x.strike, .int .i64 x.signal, .int .i64 x.s0, .int .i64 x.s1, .int .i64 x.s2]
/-- A line's cells, as later worlds have them. -/
theorem ln_cells (w0 : World) (b o : Nat) (x : Ln) (h : w0.rangeAt b o (lnc x)) (hb : b < w0.heap.size) : ∀ w', Below w0.heap.size w0 w' → w'.cell? ⟨b, o, none⟩ = some (.int .i64 x.strike) ∧ w'.cell? ⟨b, o + 1, none⟩ = some (.int .i64 x.signal) ∧ w'.cell? ⟨b, o + 2, none⟩ = some (.int .i64 x.s0) ∧ w'.cell? ⟨b, o + 3, none⟩ = some (.int .i64 x.s1) ∧ w'.cell? ⟨b, o + 4, none⟩ = some (.int .i64 x.s2) :=
  fun w' hw => ⟨(hw.cell (p := ⟨b, o, none⟩) hb).trans (h 0 _ rfl), (hw.cell (p := ⟨b, o + 1, none⟩) hb).trans (h 1 _ rfl), (hw.cell (p := ⟨b, o + 2, none⟩) hb).trans (h 2 _ rfl), (hw.cell (p := ⟨b, o + 3, none⟩) hb).trans (h 3 _ rfl), (hw.cell (p := ⟨b, o + 4, none⟩) hb).trans (h 4 _ rfl)⟩

/-- A number between two. -/
def btw (n least most : Int) : Bool := decide (least ≤ n) && decide (n ≤ most)
theorem cf_in (n least most : Int) (w : World) : Calls Tryd.prog 35 #[.int .i64 n, .int .i64 least, .int .i64 most] w fun e w' => e = .returned (.bool (btw n least most)) ∧ w = w' := by
  unfold btw
  by_cases h : least ≤ n
  · go_enter Tryd.func35, Tryd.ntmps35
    go_wp2_with fail
    go_ret
    exact ⟨by simp [h], rfl⟩
  · go_enter Tryd.func35, Tryd.ntmps35
    go_wp2_with fail
    go_ret
    exact ⟨by simp; omega, rfl⟩
/-- A line may be. -/
def lnOk (x : Ln) : Bool := btw x.s0 1 5000 && btw x.s1 1 5000 && btw x.s2 1 5000 && btw x.strike 2 1000000 && btw x.signal 1 (x.strike - 1)

theorem below_st (w : World) (o : Obj) : Below w.heap.size w (w.alloc o) := (Below.refl _ _).alloc (Nat.le_refl _) o
theorem below_go {w0 w w1 : World} (h : Below w0.heap.size w0 w) (k : Below w.heap.size w w1) : Below w0.heap.size w0 w1 := h.trans (k.mono h.size)

set_option maxHeartbeats 2000000 in
set_option maxRecDepth 100000 in
theorem cf_right (x : Ln) (w : World) : Calls Tryd.prog 38 #[lnv x] w fun e w' => e = .returned (.bool (lnOk x)) ∧ Below w.heap.size w w' := by
  obtain ⟨st, sg, a, b, c⟩ := x
  have i0 : ∀ w, (Instr.index 46 (.agg #[.int .i64 a, .int .i64 b, .int .i64 c]) (.int .i64 0)).run Tryd.prog w = .ok (.int .i64 a) w := fun _ => by kernel_rfl
  have i1 : ∀ w, (Instr.index 46 (.agg #[.int .i64 a, .int .i64 b, .int .i64 c]) (.int .i64 1)).run Tryd.prog w = .ok (.int .i64 b) w := fun _ => by kernel_rfl
  have i2 : ∀ w, (Instr.index 46 (.agg #[.int .i64 a, .int .i64 b, .int .i64 c]) (.int .i64 2)).run Tryd.prog w = .ok (.int .i64 c) w := fun _ => by kernel_rfl
  have HB := Lib.hid (below_st w (.cells #[.int .i64 st, .int .i64 sg, .int .i64 a, .int .i64 b, .int .i64 c] 48))
  show Calls _ _ _ _ fun e w' => e = .returned (.bool (btw a 1 5000 && btw b 1 5000 && btw c 1 5000 && btw st 2 1000000 && btw sg 1 (st - 1))) ∧ _
  cases ha : btw a 1 5000 with
  | false =>
    have Ha := Lib.hid ha
    clear ha
    go_enter Tryd.func38, Tryd.ntmps38
    go_wp2_with fail
    refine wp_loop_rounds 1 ?_
    rw [rounds_succ]
    go_wp2_with fail
    refine (cf_in _ _ _ _).mono ?_
    rintro e w' ⟨rfl, rfl⟩
    rw [Ha.out]
    go_wp2_with fail
    go_ret
    exact ⟨rfl, HB.out⟩
  | true =>
  have Ha := Lib.hid ha
  clear ha
  cases hb : btw b 1 5000 with
  | false =>
    have Hb := Lib.hid hb
    clear hb
    go_enter Tryd.func38, Tryd.ntmps38
    go_wp2_with fail
    refine wp_loop_rounds 2 ?_
    rw [rounds_succ]
    go_wp2_with fail
    refine (cf_in _ _ _ _).mono ?_
    rintro e w' ⟨rfl, rfl⟩
    rw [Ha.out]
    go_wp2_with fail
    rw [rounds_succ]
    go_wp2_with fail
    refine (cf_in _ _ _ _).mono ?_
    rintro e w' ⟨rfl, rfl⟩
    rw [Hb.out]
    go_wp2_with fail
    go_ret
    exact ⟨rfl, HB.out⟩
  | true =>
  have Hb := Lib.hid hb
  clear hb
  cases hc : btw c 1 5000 with
  | false =>
    have Hc := Lib.hid hc
    clear hc
    go_enter Tryd.func38, Tryd.ntmps38
    go_wp2_with fail
    refine wp_loop_rounds 3 ?_
    rw [rounds_succ]
    go_wp2_with fail
    refine (cf_in _ _ _ _).mono ?_
    rintro e w' ⟨rfl, rfl⟩
    rw [Ha.out]
    go_wp2_with fail
    rw [rounds_succ]
    go_wp2_with fail
    refine (cf_in _ _ _ _).mono ?_
    rintro e w' ⟨rfl, rfl⟩
    rw [Hb.out]
    go_wp2_with fail
    rw [rounds_succ]
    go_wp2_with fail
    refine (cf_in _ _ _ _).mono ?_
    rintro e w' ⟨rfl, rfl⟩
    rw [Hc.out]
    go_wp2_with fail
    go_ret
    exact ⟨rfl, HB.out⟩
  | true =>
  have Hc := Lib.hid hc
  clear hc
  cases hd : btw st 2 1000000 with
  | false =>
    have Hd := Lib.hid hd
    clear hd
    go_enter Tryd.func38, Tryd.ntmps38
    go_wp2_with fail
    refine wp_loop_rounds 4 ?_
    rw [rounds_succ]
    go_wp2_with fail
    refine (cf_in _ _ _ _).mono ?_
    rintro e w' ⟨rfl, rfl⟩
    rw [Ha.out]
    go_wp2_with fail
    rw [rounds_succ]
    go_wp2_with fail
    refine (cf_in _ _ _ _).mono ?_
    rintro e w' ⟨rfl, rfl⟩
    rw [Hb.out]
    go_wp2_with fail
    rw [rounds_succ]
    go_wp2_with fail
    refine (cf_in _ _ _ _).mono ?_
    rintro e w' ⟨rfl, rfl⟩
    rw [Hc.out]
    go_wp2_with fail
    rw [rounds_succ]
    go_wp2_with fail
    refine (cf_in _ _ _ _).mono ?_
    rintro e w' ⟨rfl, rfl⟩
    rw [Hd.out]
    go_wp2_with fail
    go_ret
    exact ⟨rfl, HB.out⟩
  | true =>
    have hlo : 2 ≤ st := by unfold btw at hd; simp at hd; omega
    have hhi : st ≤ 1000000 := by unfold btw at hd; simp at hd; omega
    have Hd := Lib.hid hd
    clear hd
    go_enter Tryd.func38, Tryd.ntmps38
    go_wp2_with fail
    refine wp_loop_rounds 4 ?_
    rw [rounds_succ]
    go_wp2_with fail
    refine (cf_in _ _ _ _).mono ?_
    rintro e w' ⟨rfl, rfl⟩
    rw [Ha.out]
    go_wp2_with fail
    rw [rounds_succ]
    go_wp2_with fail
    refine (cf_in _ _ _ _).mono ?_
    rintro e w' ⟨rfl, rfl⟩
    rw [Hb.out]
    go_wp2_with fail
    rw [rounds_succ]
    go_wp2_with fail
    refine (cf_in _ _ _ _).mono ?_
    rintro e w' ⟨rfl, rfl⟩
    rw [Hc.out]
    go_wp2_with fail
    rw [rounds_succ]
    go_wp2_with fail
    refine (cf_in _ _ _ _).mono ?_
    rintro e w' ⟨rfl, rfl⟩
    rw [Hd.out]
    go_wp2_with fail
    refine (cf_in _ _ _ _).mono ?_
    rintro e w' ⟨rfl, rfl⟩
    go_wp2_with fail
    go_ret
    exact ⟨by simp, HB.out⟩

/-! ### All lines: slices.IndexFunc, ContainsFunc at Check's closure -/
set_option maxHeartbeats 1000000 in
theorem cf_bad (x : Ln) (w : World) : Calls Tryd.prog 37 #[lnv x] w fun e w' => e = .returned (.bool (!lnOk x)) ∧ Below w.heap.size w w' := by
  have HB := Lib.hid (below_st w (.cells #[.int .i64 x.strike, .int .i64 x.signal, .int .i64 x.s0, .int .i64 x.s1, .int .i64 x.s2] 48))
  go_enter Tryd.func37, Tryd.ntmps37
  go_wp2_with fail
  refine (cf_right x _).mono ?_
  rintro e w' ⟨rfl, hb⟩
  have H := Lib.hid (below_go HB.out hb)
  clear hb
  go_wp2_with fail
  go_ret
  exact ⟨rfl, H.out⟩
def IsBad (ls : List Ln) (w : World) (e : Ending) (w' : World) : Prop := ∃ z : Int, e = .returned (.int .i64 z) ∧ decide (0 ≤ z) = !ls.all lnOk ∧ Below w.heap.size w w'
set_option maxHeartbeats 2000000 in
set_option maxRecDepth 100000 in
theorem cf_index (A : Option Addr) (n c : Nat) (ls : List Ln) (w : World) (rs : RLn w A n c ls) :
    Calls Tryd.prog 49 #[.slice A n c, .func (.func 37) #[] #[]] w (IsBad ls w) := by
  have hl := Lib.hid rs.len
  have hmx := rs.max
  have HR := Lib.hid rs
  clear rs
  go_enter Tryd.func49, Tryd.ntmps49
  go_wp2_with fail
  go_loopw [8] (fun s8 wr => ∃ k : Nat, k ≤ n ∧ s8 = .int .i64 k ∧ (ls.take k).all lnOk = true ∧ Below w.heap.size w wr) (fun s8 _ => n - (intOf s8).toNat)
  case atStart => exact ⟨0, Nat.zero_le _, rfl, rfl, Below.refl _ _⟩
  case round =>
    obtain ⟨k, hk, rfl, hall, hbr⟩ := hrel
    by_cases hlt : k < n
    · have hlt' : (k : Int) < n := by omega
      obtain ⟨b, off, rfl, hbl, _⟩ := HR.out.cells (by omega)
      have hkl : k < ls.length := by rw [hl.out]; exact hlt
      have he := (HR.out.below hbr).elem lnc_len k hkl
      have hts := Lib.hid (show ls.take (k + 1) = ls.take k ++ [ls[k]] from List.take_succ_eq_append_getElem hkl)
      have hmem := Lib.hid (List.getElem_mem hkl)
      generalize ls[k] = x at he hts hmem
      obtain ⟨x0, x1, x2, x3, x4⟩ := ln_cells wr b _ x he (Nat.lt_of_lt_of_le hbl hbr.size) wr (Below.refl _ _)
      have HB := Lib.hid hbr
      have HX := Lib.hid hall
      clear he hbr hall
      go_wp2_with fail
      refine (cf_bad x _).mono ?_
      rintro e w' ⟨rfl, hb⟩
      have HB2 := Lib.hid (below_go HB.out hb)
      clear hb x0 x1 x2 x3 x4
      cases hx : lnOk x with
      | true =>
        have Hx := Lib.hid hx
        clear hx
        go_wp2_with fail
        exact ⟨⟨k + 1, by omega, by go_num, by rw [hts.out, List.all_append, HX.out]; simp [Hx.out], HB2.out⟩, by simp [intOf]; omega⟩
      | false =>
        have Hx := Lib.hid hx
        clear hx
        go_wp2_with fail
        go_ret
        refine ⟨_, rfl, ?_, HB2.out⟩
        have : ls.all lnOk = false := by
          rw [List.all_eq_false]
          exact ⟨x, hmem.out, by rw [Hx.out]; simp⟩
        rw [this]
        simp
    · have hkn : ¬ (k : Int) < n := by omega
      have HX := Lib.hid (show ls.all lnOk = true by rwa [List.take_of_length_le (by rw [hl.out]; omega)] at hall)
      have HB := Lib.hid hbr
      clear hall hbr
      go_wp2_with fail
      go_ret
      exact ⟨_, rfl, by rw [HX.out]; rfl, HB.out⟩
theorem cf_contains (A : Option Addr) (n c : Nat) (ls : List Ln) (w : World) (rs : RLn w A n c ls) :
    Calls Tryd.prog 36 #[.slice A n c, .func (.func 37) #[] #[]] w fun e w' => e = .returned (.bool (!ls.all lnOk)) ∧ Below w.heap.size w w' := by
  go_enter Tryd.func36, Tryd.ntmps36
  go_wp2_with fail
  refine (cf_index A n c ls w rs).mono ?_
  rintro e w' ⟨z, rfl, hz, hb⟩
  have HZ := Lib.hid hz
  have HB := Lib.hid hb
  clear hz hb rs
  go_wp2_with fail
  go_ret
  exact ⟨by first | (rw [← HZ.out]; done) | simp [← HZ.out], HB.out⟩
end Go.Proofs.YteeocmkaecoeiaaDoor
