/- The walk of ConfigTurned. -/
import Derived.Test.YteeocmkaecoeiaaDoorCfgApartW
import Derived.Test.YteeocmkaecoeiaaDoorXor8
namespace Go.Proofs.YteeocmkaecoeiaaDoor
open Go.RowKit
set_option linter.unusedVariables false
set_option linter.unusedSimpArgs false
set_option maxRecDepth 100000 in
set_option maxHeartbeats 8000000 in
theorem configTurned_walk (a0 : Option Addr) (len0 cap0 : Nat) (t0 : Tm) (a1 : Int) (a2 : Int) (w : World) (w0 : IsLns w a0 len0 cap0) (w1 : (Lit.int .i64 a1).wf = true) (w2 : (Lit.int .u8 a2).wf = true) (hg : HasTy w) :
    Calls Tryd.prog 5 #[cfv a0 len0 cap0 t0, .int .i64 a1, .int .u8 a2] w fun e w' => e = .returned (.bool true) ∧ Below w.heap.size w w' := by
  have m0 := w0.bd
  have ⟨b1, b2⟩ := u8_bd w2
  have HG := Lib.hid hg
  have HW0 := Lib.hid w0
  have HC := Lib.hid (show CfBox _ w.heap.size a0 len0 cap0 t0 from heap_alloc_new w (.cells (cfa a0 len0 cap0 t0) 26))
  have HX := Lib.hid (below_st w (.cells (cfa a0 len0 cap0 t0) 26))
  clear hg w0 w1 w2
  obtain ⟨y, rfl⟩ : ∃ y : UInt8, a2 = nb y := ⟨UInt8.ofNat a2.toNat, by unfold nb; rw [UInt8.toNat_ofNat']; omega⟩
  go_enter Tryd.func5, Tryd.ntmps5
  go_wp2_with fail
  generalize w.alloc _ = W at *
  refine (l_small08 _ (HG.out.below HX.out)).mono ?_
  rintro e x1 ⟨rfl, hb⟩
  have HC := Lib.hid (CfBox.below HC.out hb)
  have B1 := Lib.hid (below_go HX.out hb)
  clear hb
  obtain ⟨q0, q1, q2, q3, q4, q5, q6, q7, q8, q9, qa, _⟩ := cf_cell_all HC.out
  by_cases c1 : (20 : Int) < len0
  · go_wp2_with fail
    go_ret
    exact ⟨rfl, B1.out⟩
  by_cases c2 : y = 0
  · have hy : (nb y == 0) = true := by rw [c2]; rfl
    clear c2
    go_wp2_with fail
    go_ret
    exact ⟨rfl, B1.out⟩
  have hy : (nb y == 0) = false := by
    rw [beq_eq_false_iff_ne]
    intro e
    apply c2
    apply UInt8.toNat_inj.1
    unfold nb at e
    simpa using e
  have HY := Lib.hid c2
  clear c2
  obtain ⟨xs, rx⟩ := HW0.out.re (by omega)
  have RX := Lib.hid rx
  clear rx
  go_wp2_with fail
  refine (cf_encode a0 len0 cap0 xs t0 _ (RX.out.below B1.out)).mono ?_
  rintro e x2 ⟨v2, u2, rfl, hown, he, hb⟩
  have HOW := Lib.hid hown
  have B2 := Lib.hid (below_go B1.out hb)
  clear q0 q1 q2 q3 q4 q5 q6 q7 q8 q9 qa
  by_cases k0 : cfOk xs t0 = true
  rotate_left
  · rw [cfErr_no k0] at he
    obtain ⟨ta, ua, rfl⟩ := he.isErr (by decide)
    obtain ⟨A2, k2, rfl, r2⟩ := hown.reads
    clear k0 he hb hown r2
    go_wp2_with fail
    go_ret
    exact ⟨rfl, B2.out⟩
  rw [cfErr_ok k0] at he
  obtain rfl := he.isNil
  have hsome := Lib.hid (show (crcOpen (cfEnc xs t0)).isSome = true by rw [cfEnc_ok k0, opn_seal]; rfl)
  have hmax := Lib.hid (show (cfEnc xs t0).length ≤ 1000000 by rw [cfEnc_ok k0, crcSum_seal_len, encBody_len]; have := cfOk_len xs t0 k0; omega)
  clear k0 he
  generalize cfEnc xs t0 = bs at *
  rcases hown.form with ⟨rfl, h0⟩ | ⟨gi, ci, rfl, hgi, hgil, hfz, hrs⟩
  · subst h0
    have := hsome.out
    exact absurd this (by decide)
  have hlen := hrs.len
  by_cases d1 : a1 < 0
  · clear hb hown hrs hfz
    go_wp2_with fail
    go_ret
    exact ⟨rfl, B2.out⟩
  by_cases d2 : (bs.length : Int) ≤ a1
  · clear hb hown hrs hfz
    go_wp2_with fail
    go_ret
    exact ⟨rfl, B2.out⟩
  obtain ⟨k, rfl⟩ := Int.eq_ofNat_of_zero_le (show 0 ≤ a1 by omega)
  have hk : k < bs.length := by omega
  obtain ⟨b', o', e', _, hcl⟩ := hrs.rb.cells (by omega)
  cases e'
  have hc := hcl k hk
  rw [Nat.zero_add, List.getD_eq_getElem?_getD, List.getElem?_eq_getElem hk, Option.getD_some] at hc
  have hset := Lib.hid (hown.set k hk (bs[k] ^^^ y))
  have hturn := Lib.hid (crcOpen_turn bs k hk y HY.out hsome.out)
  have hx := xor8 bs[k] y
  have hc' : x2.cell? ⟨gi, k, none⟩ = some (.int .u8 (nb bs[k])) := hc
  have hsl := Lib.hid (show (bs.set k (bs[k] ^^^ y)).length = bs.length from List.length_set)
  generalize bs[k] = b at *
  have B3 := Lib.hid (show Below w.heap.size w (x2.setCell ⟨gi, k, none⟩ (bv (b ^^^ y))) from B2.out.setCell (Nat.le_trans B1.out.size hgi) _)
  generalize bs.set k (b ^^^ y) = cs at *
  clear hb hown hrs hcl hc hlen HOW
  go_wp2_with fail
  change Calls _ _ _ (x2.setCell ⟨gi, k, none⟩ (bv (b ^^^ y))) _
  generalize x2.setCell _ _ = x3 at *
  have r3 := hset.out.rs
  refine (cf_decode _ _ _ cs _ r3 (by have := hmax.out; omega)).mono ?_
  rintro e x4 ⟨A4, k4, u4, rfl, _, he, hb⟩
  rw [(dec_none hturn.out).1] at he
  have hbn := below_st x4 (.cells (cfa A4 (decLs cs).length k4 (decT cs)) 26)
  have E4 := Lib.hid (he.below hbn)
  have B4 := Lib.hid (below_go B3.out (below_go hb hbn))
  clear he hb hbn hc' hx hfz r3
  go_upto_region 9 with fail
  change Code.wp _ _ _ _ (x4.alloc (.cells (cfa A4 (decLs cs).length k4 (decT cs)) 26))
  generalize x4.alloc _ = x5 at *
  go_wp2_with fail
  refine (code_is _ _ _ (HG.out.below B4.out) E4.out).mono ?_
  rintro e x6 ⟨rfl, hb⟩
  have B5 := Lib.hid (below_go B4.out hb)
  clear hb
  go_wp2_with fail
  go_ret
  exact ⟨rfl, B5.out⟩
end Go.Proofs.YteeocmkaecoeiaaDoor
