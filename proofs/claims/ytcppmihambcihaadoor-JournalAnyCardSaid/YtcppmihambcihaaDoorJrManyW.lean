/- The walk of JournalMany. -/
import Derived.Test.YtcppmihambcihaaDoorJrSmall
import Derived.LoopTactic
namespace Go.Proofs.YtcppmihambcihaaDoor
open Go Go.RowKit Go.Shelf
set_option linter.unusedVariables false
set_option linter.unusedSimpArgs false
theorem nb_w8 (k : Nat) : IntKind.u8.wrap (k : Int) = nb (UInt8.ofNat k) := by
  unfold nb
  simp [IntKind.wrap, IntKind.bits, IntKind.signed]
/-- What the loop keeps. -/
structure MR (w : World) (j g gb n k : Nat) (wr : World) : Prop where
  ex : ∃ s t, JI wr j g gb s t ∧ Lv t n ∧ s.nt.seq = k ∧ (0 < k → s.has = true ∧ s.nt.dat = [UInt8.ofNat (k - 1)])
  bel : Below w.heap.size w wr
set_option maxHeartbeats 8000000 in
set_option maxRecDepth 100000 in
theorem journalMany_walk (a0 a1 : Int) (w : World) (w0 : (Lit.int .i64 a0).wf = true) (w1 : (Lit.int .i64 a1).wf = true) (hg : HasTy w) :
    Calls Tryd.prog 5 #[.int .i64 a0, .int .i64 a1] w fun e w' => e = .returned (.bool true) ∧ Below w.heap.size w w' := by
  have HG := Lib.hid hg
  clear w0 w1 hg
  by_cases h1 : a0 < 18
  · go_enter Tryd.func5, Tryd.ntmps5
    go_wp2_with fail
    refine (l_small17 _ HG.out).mono ?_
    rintro e wa ⟨rfl, hb⟩
    have HB := Lib.hid hb
    clear hb
    go_wp2_with fail
    refine (st_new a0 _).mono ?_
    rintro e wb ⟨g, gb, rfl, _, _, _, hb⟩
    replace HB := Lib.hid (below_step HB.out hb)
    clear hb
    go_wp2_with fail
    go_ret
    exact ⟨rfl, HB.out⟩
  by_cases h2 : 600 < a0
  · go_enter Tryd.func5, Tryd.ntmps5
    go_wp2_with fail
    refine (l_small17 _ HG.out).mono ?_
    rintro e wa ⟨rfl, hb⟩
    have HB := Lib.hid hb
    clear hb
    go_wp2_with fail
    refine (st_new a0 _).mono ?_
    rintro e wb ⟨g, gb, rfl, _, _, _, hb⟩
    replace HB := Lib.hid (below_step HB.out hb)
    clear hb
    go_wp2_with fail
    go_ret
    exact ⟨rfl, HB.out⟩
  by_cases h3 : a1 < 1
  · go_enter Tryd.func5, Tryd.ntmps5
    go_wp2_with fail
    refine (l_small17 _ HG.out).mono ?_
    rintro e wa ⟨rfl, hb⟩
    have HB := Lib.hid hb
    clear hb
    go_wp2_with fail
    refine (st_new a0 _).mono ?_
    rintro e wb ⟨g, gb, rfl, _, _, _, hb⟩
    replace HB := Lib.hid (below_step HB.out hb)
    clear hb
    go_wp2_with fail
    go_ret
    exact ⟨rfl, HB.out⟩
  by_cases h4 : 500 < a1
  · go_enter Tryd.func5, Tryd.ntmps5
    go_wp2_with fail
    refine (l_small17 _ HG.out).mono ?_
    rintro e wa ⟨rfl, hb⟩
    have HB := Lib.hid hb
    clear hb
    go_wp2_with fail
    refine (st_new a0 _).mono ?_
    rintro e wb ⟨g, gb, rfl, _, _, _, hb⟩
    replace HB := Lib.hid (below_step HB.out hb)
    clear hb
    go_wp2_with fail
    go_ret
    exact ⟨rfl, HB.out⟩
  obtain ⟨N, rfl⟩ : ∃ N : Nat, a1 = (N : Int) := ⟨a1.toNat, by omega⟩
  obtain ⟨n, hn⟩ : ∃ n : Nat, n = stSize a0 := ⟨_, rfl⟩
  have HN := Lib.hid (show 18 ≤ n ∧ n ≤ 600 ∧ 1 ≤ N ∧ N ≤ 500 by unfold stSize at hn; omega)
  go_enter Tryd.func5, Tryd.ntmps5
  go_wp2_with fail
  refine (l_small17 _ HG.out).mono ?_
  rintro e wa ⟨rfl, hb⟩
  have HB := Lib.hid hb
  clear hb
  go_wp2_with fail
  refine (st_new a0 _).mono ?_
  rintro e wb ⟨g, gb, rfl, hst, hwg, hwb, hb⟩
  rw [← hn] at hst
  have hws := HB.out.size
  replace HB := Lib.hid (below_step HB.out hb)
  have HST := Lib.hid hst
  clear hb hst
  go_wp2_with fail
  refine (op_open g gb ⟨List.replicate n 255, none, false⟩ _ HST.out).mono ?_
  rintro e w2 ⟨j, rfl, hji, hb2, hjl⟩
  rw [show jOpen (Sto.mk (List.replicate n 255) none false).xs = jNone from jOpen_blank n] at hji
  have HLE := Lib.hid (show w.heap.size ≤ j ∧ w.heap.size ≤ g ∧ w.heap.size ≤ gb by have := HB.out.size; omega)
  replace HB := Lib.hid (below_step HB.out hb2)
  have HJI := Lib.hid hji
  have HLV := Lib.hid (show Lv (Sto.mk (List.replicate n 255) none false) n from ⟨rfl, rfl, List.length_replicate⟩)
  clear hb2 hji HST hjl hwg hwb hws
  clear hn
  have hmr : MR w j g gb n 0 w2 := ⟨⟨_, _, HJI.out, HLV.out, rfl, fun h => absurd h (by omega)⟩, HB.out⟩
  clear HJI HLV HB
  go_wp2_with fail
  go_loopw [8] (fun s8 wr => ∃ k : Nat, k ≤ N ∧ s8 = .int .i64 k ∧ MR w j g gb n k wr) (fun s8 _ => N - (intOf s8).toNat)
  case atStart => exact ⟨0, Nat.zero_le _, rfl, hmr⟩
  case round =>
    obtain ⟨k, hk, rfl, ⟨⟨s, t, hji, hlv, hsq, hlast⟩, hb⟩⟩ := hrel
    have HJI := Lib.hid hji
    have HLV := Lib.hid hlv
    have HB := Lib.hid hb
    have HSQ := Lib.hid hsq
    have HLAST := Lib.hid hlast
    clear hji hlv hb hsq hlast hmr
    by_cases hlt : k < N
    · have hlt' : (k : Int) < N := by omega
      have e8 := nb_w8 k
      have hbn := below_new wr (.cells #[.int .u8 (nb (UInt8.ofNat k))] 5)
      have HL := Lib.hid (show RS (wr.alloc (.cells #[.int .u8 (nb (UInt8.ofNat k))] 5)) (some ⟨wr.heap.size, 0, none⟩) 1 1 [UInt8.ofNat k] from rs_new wr [UInt8.ofNat k] 5 (by simp))
      have HFAR := Lib.hid (show 0 < 1 → ∀ b o, some (⟨wr.heap.size, 0, none⟩ : Addr) = some ⟨b, o, none⟩ → b ≠ j ∧ b ≠ g ∧ b ≠ gb from fun _ b o e => by cases e; have := HJI.out.lt; omega)
      replace HB := Lib.hid (below_step HB.out hbn)
      replace HJI := Lib.hid (HJI.out.below hbn)
      have HK := Lib.hid hlt
      clear hbn hlt
      go_wp2_with fail
      refine (ap_live j g gb n _ _ _ 1 1 [UInt8.ofNat k] 0 _ HJI.out HLV.out HL.out HFAR.out (by
        have := HN.out
        have := HK.out
        have := HSQ.out
        unfold jCode
        rw [if_neg (by simp [bkOk]), if_neg (by simp; omega)])).mono ?_
      rintro e w4 ⟨⟨v, rfl, he⟩, ⟨s2, t2, hji2, hlv2, h1, _⟩, hf⟩
      obtain rfl := he.zero
      have HMR := Lib.hid (show MR w j g gb n (k + 1) w4 from ⟨⟨s2, t2, hji2, hlv2, by rw [(h1 rfl).1, HSQ.out], fun _ => ⟨(h1 rfl).2.2, (h1 rfl).2.1⟩⟩, below_three HB.out hf HLE.out.1 HLE.out.2.1 HLE.out.2.2⟩)
      clear he h1 hji2 hlv2 hf HJI HLV HB HLAST HSQ
      go_wp2_with fail
      exact ⟨⟨k + 1, by have := HK.out; omega, by go_num, HMR.out⟩, by have := HK.out; simp [intOf]; omega⟩
    · obtain rfl : k = N := by omega
      have hN := HN.out
      have HHD := Lib.hid (HLAST.out (by omega))
      obtain ⟨k', hk'⟩ : ∃ k' : Nat, k' = k - 1 := ⟨_, rfl⟩
      rw [← hk'] at HHD
      have e1 : IntKind.i64.wrap ((k : Int) - 1) = (k' : Int) := by simp [IntKind.wrap, IntKind.bits, IntKind.signed]; omega
      have e2 := nb_w8 k'
      have e3 : IntKind.u32.wrap (k : Int) = (k : Int) := by simp [IntKind.wrap, IntKind.bits, IntKind.signed]; omega
      generalize nb (UInt8.ofNat k') = y at e2
      have HY := Lib.hid (show y = nb (UInt8.ofNat k') from e2 ▸ nb_w8 k')
      clear HLAST hlt hk hN hk'
      go_wp2_with fail
      refine (op_open g gb t _ HJI.out.st).mono ?_
      rintro e w3 ⟨q, rfl, hqi, hb3, hql⟩
      rw [← HJI.out.eq] at hqi
      have HQI := Lib.hid hqi
      replace HB := Lib.hid (below_step HB.out hb3)
      replace HJI := Lib.hid (HJI.out.below hb3)
      clear hqi hb3 hql
      go_wp2_with fail
      refine (ji_last q g gb s t _ HQI.out).mono ?_
      rintro e w4 ⟨A4, c4, rfl, hr4, ho4, hb4⟩
      rw [HHD.out.1]
      rw [HHD.out.2] at hr4 ⊢
      rw [show ([UInt8.ofNat k'] : List UInt8).length = 1 from rfl] at hr4 ⊢
      obtain ⟨b4, o4, rfl, hbl, hc⟩ := hr4.rb.cells (by decide)
      have y0 : w4.cell? ⟨b4, o4, none⟩ = some (.int .u8 y) := by rw [HY.out]; exact hc 0 (by decide)
      have HQ4 := Lib.hid (HQI.out.below hb4)
      have HJ4 := Lib.hid (HJI.out.below hb4)
      replace HB := Lib.hid (below_step HB.out hb4)
      clear hr4 ho4 hb4 hbl hc HQI HJI
      go_wp2_with fail
      refine (ji_seq q g gb s t _ HQ4.out).mono ?_
      rintro e w5 ⟨rfl, rfl⟩
      rw [HSQ.out]
      go_wp2_with fail
      refine (ji_seq j g gb s t _ HJ4.out).mono ?_
      rintro e w5 ⟨rfl, rfl⟩
      rw [HSQ.out]
      go_wp2_with fail
      refine (ji_seq q g gb s t _ HQ4.out).mono ?_
      rintro e w5 ⟨rfl, rfl⟩
      rw [HSQ.out]
      go_wp2_with fail
      go_ret
      exact ⟨rfl, HB.out⟩
end Go.Proofs.YtcppmihambcihaaDoor
