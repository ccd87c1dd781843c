/- Tables and bounds: delay.Table, Bound. -/
import Derived.Test.YtflicahchahcnaaDoorDelayOf
import Derived.Test.YtflicahchahcnaaDoorCfgCheck
namespace Go.Proofs.YtflicahchahcnaaDoor
open Go.RowKit
set_option linter.unusedVariables false
set_option linter.unusedSimpArgs false

/-- A row of delays. -/
structure Dl where
  d0 : Int
  d1 : Int
  d2 : Int
  deriving DecidableEq
def dlc (x : Dl) : List Value := [.int .i64 x.d0, .int .i64 x.d1, .int .i64 x.d2]
theorem dlc_len (x : Dl) : (dlc x).length = 3 := rfl
theorem dlc_one (x : Dl) : ∀ v ∈ dlc x, v.oneCell' = true := by
  intro v hv
  simp only [dlc, List.mem_cons, List.not_mem_nil, or_false] at hv
  rcases hv with rfl | rfl | rfl <;> rfl
theorem dlT : ElT Tryd.prog 40 32 3 24 (.agg #[.int .i64 0, .int .i64 0, .int .i64 0]) := ⟨Tryd.underlying40, by kernel_rfl, rfl, by omega⟩
abbrev OwnDl (w : World) := OwnE dlc 3 32 w
abbrev RDl (w : World) := RE dlc w
def ofD (warn : Int) (x : Ln) : Dl := ⟨ofN x.strike x.s0 warn, ofN x.strike x.s1 warn, ofN x.strike x.s2 warn⟩
theorem dl_re_new (w : World) (x : Dl) : RDl (w.alloc (.cells #[.int .i64 x.d0, .int .i64 x.d1, .int .i64 x.d2] 32)) (some ⟨w.heap.size, 0, none⟩) 1 1 [x] := re_lit (f := dlc) (e := 32) dlc_len w [x] (by simp)
/-- What Table tells. -/
def tabOf (ls : List Ln) (t : Tm) : List Dl := if cfOk ls t = true then ls.map (ofD t.t9) else []
theorem ln_in (x : Ln) (h : lnOk x = true) : inLn x := by
  unfold lnOk btw at h
  simp at h
  unfold inLn inI
  omega
theorem cfOk_ln (ls : List Ln) (t : Tm) (h : cfOk ls t = true) (x : Ln) (hx : x ∈ ls) : lnOk x = true := by
  unfold cfOk at h
  simp at h
  exact h.2 x hx
theorem cfOk_tm (ls : List Ln) (t : Tm) (h : cfOk ls t = true) (k : Nat) (hk : k < 10) : 1 ≤ t.get k ∧ t.get k ≤ 6000 := by
  unfold cfOk tmTo btw at h
  simp at h
  exact h.1.2 k hk
theorem cfOk_len (ls : List Ln) (t : Tm) (h : cfOk ls t = true) : 1 ≤ ls.length ∧ ls.length ≤ 8 := by
  unfold cfOk btw at h
  simp at h
  omega
/-- A table and an error. -/
def IsTab (xs : List Dl) (c : Int) (w : World) (e : Ending) (w' : World) : Prop := ∃ v u, e = .returned (.tuple #[v, u]) ∧ OwnDl w' v xs ∧ (∀ g, v.ownBlock = some g → w.heap.size ≤ g) ∧ ErrIs w' u c ∧ Below w.heap.size w w'
theorem wrap_is (v : Value) (s : ByteArray) (w : World) (h : ErrIs w v 6) : Calls Tryd.prog 31 #[v, .string s] w (IsErr 6 w) := by
  rcases h with ⟨h, _⟩ | ⟨_, d, hd⟩
  · exact absurd h (by decide)
  · refine (fault_wrap d 6 v s w hd).mono ?_
    rintro e w' ⟨u, rfl, hu, hb⟩
    exact ⟨u, rfl, .inr ⟨by decide, _, hu⟩, hb⟩

set_option maxHeartbeats 4000000 in
set_option maxRecDepth 100000 in
theorem d_table (A : Option Addr) (n c : Nat) (ls : List Ln) (t : Tm) (w : World) (rs : RLn w A n c ls) : Calls Tryd.prog 17 #[cfv A n c t] w (IsTab (tabOf ls t) (cfErr ls t) w) := by
  have hl := Lib.hid rs.len
  have hmx := rs.max
  have HR := Lib.hid rs
  have hx := below_st w (.cells (cfa A n c t) 39)
  have HX := Lib.hid hx
  have hz : (w.alloc (.cells (cfa A n c t) 39)).cell? ⟨w.heap.size, 0, none⟩ = some (.slice A n c) := by simp
  have hz9 : (w.alloc (.cells (cfa A n c t) 39)).cell? ⟨w.heap.size, 10, none⟩ = some (.int .i64 t.t9) := by simp
  have HC := Lib.hid (cf_check A n c ls t _ (HR.out.below hx))
  clear rs hx
  go_enter Tryd.func17, Tryd.ntmps17
  go_wp2_with fail
  have hlt : w.heap.size < (w.alloc (.cells (cfa A n c t) 39)).heap.size := by simp
  generalize w.alloc _ = w1 at *
  refine HC.out.mono ?_
  rintro e w2 ⟨v, rfl, hv, hb2⟩
  have HB := Lib.hid hb2
  have HL := Lib.hid hlt
  have HZ := Lib.hid hz
  have HZ9 := Lib.hid hz9
  have HX2 := Lib.hid (below_go HX.out hb2)
  clear hb2 hlt hz hz9 HC
  by_cases hok : cfOk ls t = true
  · have e1 : cfErr ls t = 0 := if_pos hok
    have E1 := Lib.hid e1
    have e2 := Lib.hid (show tabOf ls t = ls.map (ofD t.t9) from if_pos hok)
    rw [e1] at hv
    rcases hv with ⟨_, rfl⟩ | ⟨h, _⟩
    rotate_left
    · exact absurd h (by decide)
    have HT9 := Lib.hid (show inI t.t9 by have := cfOk_tm ls t hok 9 (by omega); simp [Tm.get] at this; unfold inI; omega)
    have HLN := Lib.hid (fun x hx => ln_in x (cfOk_ln ls t hok x hx))
    have HLE := Lib.hid (cfOk_len ls t hok).2
    clear hok e1
    have z0 := (HB.out.cell (p := ⟨w.heap.size, 0, none⟩) HL.out).trans HZ.out
    go_wp2_with fail
    clear z0
    go_loopw [5, 17] (fun s5 s17 wr => ∃ k : Nat, k ≤ n ∧ s17 = .int .i64 k ∧ OwnDl wr s5 ((ls.take k).map (ofD t.t9)) ∧ (∀ g, s5.ownBlock = some g → w2.heap.size ≤ g) ∧ Below w2.heap.size w2 wr) (fun _ s17 _ => n - (intOf s17).toNat)
    case atStart => exact ⟨0, Nat.zero_le _, rfl, OwnE.nil _ _, (fun g h => by cases h), Below.refl _ _⟩
    case round =>
      obtain ⟨k, hk, rfl, hown, hfr, hbr⟩ := hrel
      have HBR := Lib.hid hbr
      have HOW := Lib.hid hown
      have HFR := Lib.hid hfr
      have z9 := (hbr.cell (p := ⟨w.heap.size, 10, none⟩) (Nat.lt_of_lt_of_le HL.out HB.out.size)).trans ((HB.out.cell (p := ⟨w.heap.size, 10, none⟩) HL.out).trans HZ9.out)
      have HWR := Lib.hid (below_go HX2.out hbr)
      clear hown hfr hbr
      by_cases hlt : k < n
      · have hlt' : (k : Int) < n := by omega
        obtain ⟨b, off, rfl, hbl, _⟩ := HR.out.cells (by omega)
        have hkl : k < ls.length := by rw [hl.out]; exact hlt
        have he := (HR.out.below HWR.out).elem lnc_len k hkl
        have hts := Lib.hid (show ls.take (k + 1) = ls.take k ++ [ls[k]] from List.take_succ_eq_append_getElem hkl)
        have hin := Lib.hid (HLN.out ls[k] (List.getElem_mem hkl))
        have hlk := Lib.hid (show ((ls.take k).map (ofD t.t9)).length ≤ 8 by have := HLE.out; simp; omega)
        generalize ls[k] = x at he hts hin
        obtain ⟨x0, x1, x2, x3, x4⟩ := ln_cells wr b _ x he (Nat.lt_of_lt_of_le hbl HWR.out.size) wr (Below.refl _ _)
        have HN := Lib.hid (below_st wr (.cells #[.int .i64 x.strike, .int .i64 x.signal, .int .i64 x.s0, .int .i64 x.s1, .int .i64 x.s2] 34))
        have z92 := (HN.out.cell (p := ⟨w.heap.size, 10, none⟩) (Nat.lt_of_lt_of_le HL.out (Nat.le_trans HB.out.size HBR.out.size))).trans z9
        clear he z9
        go_wp2_with fail
        generalize wr.alloc _ = wa at *
        clear x0 x1 x2 x3 x4 z92
        refine (d_of x t.t9 _ hin.out HT9.out).mono ?_
        rintro e wb ⟨rfl, hbb⟩
        rw [show ofv x t.t9 = .agg #[.int .i64 (ofD t.t9 x).d0, .int .i64 (ofD t.t9 x).d1, .int .i64 (ofD t.t9 x).d2] from rfl]
        have HBB := Lib.hid (below_go HN.out hbb)
        have HNEW := Lib.hid (dl_re_new wb (ofD t.t9 x))
        have HNB := Lib.hid (below_go HBB.out (below_st wb (.cells #[.int .i64 (ofD t.t9 x).d0, .int .i64 (ofD t.t9 x).d1, .int .i64 (ofD t.t9 x).d2] 32)))
        have HOW2 := Lib.hid (HOW.out.fr (Fr.ofBelow HNB.out (fun _ => False)) (fun _ _ h => h))
        clear hbb
        go_wp2_with (at_builtin; go_must (refine wpList_append_fr dlT dlc_len dlc_one rfl _ _ rfl _ ((ls.take k).map (ofD t.t9)) rfl HOW2.out _ _ _ [ofD t.t9 x] rfl HNEW.out (by have := hlk.out; omega) (by have := hlk.out; omega) ?_); intro v' wc hown1 hg1 hf1)
        have HNB2 := Lib.hid (below_go HBR.out HNB.out)
        exact ⟨⟨k + 1, by omega, by go_num, by rw [hts.out, List.map_append]; exact hown1, fun g hgv => (hf1 g hgv).elim (HFR.out g) (fun h => Nat.le_trans HNB2.out.size h), HNB2.out.grown hg1 HNB2.out.size HFR.out⟩, by simp [intOf]; omega⟩
      · obtain rfl : k = n := by omega
        have hall := Lib.hid (show ls.take k = ls from List.take_of_length_le (by rw [hl.out]; omega))
        rw [hall.out] at HOW
        clear z9
        go_wp2_with fail
        go_ret2
        refine ⟨_, _, rfl, by rw [e2.out]; exact HOW.out, fun g hg => Nat.le_trans HX2.out.size (HFR.out g hg), by rw [E1.out]; exact .none _, HWR.out⟩
  · have e1 : cfErr ls t = 6 := if_neg hok
    have E1 := Lib.hid e1
    have e2 := Lib.hid (show tabOf ls t = [] from if_neg hok)
    rw [e1] at hv
    have HV := Lib.hid (wrap_is v (ByteArray.mk #[100, 101, 108, 97, 121]) w2 hv)
    rcases hv with ⟨h, _⟩ | ⟨_, d, hd⟩
    · exact absurd h (by decide)
    obtain ⟨ty, u, rfl⟩ := hd.iface
    clear hok e1 hd
    go_wp2_with fail
    refine HV.out.mono ?_
    rintro e w' ⟨v, rfl, hv, hb⟩
    have HE := Lib.hid hv
    have HW := Lib.hid (below_go HX2.out hb)
    clear hv hb
    go_wp2_with fail
    go_ret2
    exact ⟨_, _, rfl, by rw [e2.out]; exact OwnE.nil _ _, (fun g h => by cases h), by rw [E1.out]; exact HE.out, HW.out⟩
end Go.Proofs.YtflicahchahcnaaDoor
