/- The walk of JournalKeeps. -/
import Derived.Test.YtcppmihambcihaaDoorJrManyW
import Derived.Test.YtcppmihambcihaaDoorOpenR
namespace Go.Proofs.YtcppmihambcihaaDoor
open Go Go.RowKit Go.Shelf
set_option linter.unusedVariables false
set_option linter.unusedSimpArgs false
theorem RS.far {w : World} {A : Option Addr} {n c j g gb : Nat} {xs : List UInt8} (h : RS w A n c xs) (hl : w.heap.size ≤ j ∧ w.heap.size ≤ g ∧ w.heap.size ≤ gb) : 0 < n → ∀ b o, A = some ⟨b, o, Option.none⟩ → b ≠ j ∧ b ≠ g ∧ b ≠ gb := fun h0 b o e => by
  have := h.old h0 b o e
  omega
/-- What the loop keeps. -/
structure KR (w : World) (j g gb n k : Nat) (s8 s9 : Value) (wr : World) : Prop where
  ex : ∃ s t A c, JI wr j g gb s t ∧ Lv t n ∧ s8 = .int .u32 s.nt.seq ∧ s9 = .slice A s.nt.dat.length c ∧ RS w A s.nt.dat.length c s.nt.dat ∧ s.nt.seq ≤ k ∧ s.has = decide (0 < s.nt.seq)
  bel : Below w.heap.size w wr
set_option maxHeartbeats 8000000 in
set_option maxRecDepth 100000 in
theorem journalKeeps_walk (a0 : Int) (a1 : Option Addr) (len1 cap1 : Nat) (w : World) (w0 : (Lit.int .i64 a0).wf = true) (w1 : IsRows w a1 len1 cap1) (hg : HasTy w) :
    Calls Tryd.prog 3 #[.int .i64 a0, .slice a1 len1 cap1] w fun e w' => e = .returned (.bool true) ∧ Below w.heap.size w w' := by
  have HG := Lib.hid hg
  clear w0 hg
  by_cases h2 : 600 < a0
  · clear w1
    go_enter Tryd.func3, Tryd.ntmps3
    go_wp2_with fail
    refine (l_small17 _ HG.out).mono ?_
    rintro e wa ⟨rfl, hb⟩
    have HB := Lib.hid hb
    clear hb
    go_wp2_with fail
    refine (st_new a0 _).mono ?_
    rintro e wb ⟨g, gb, rfl, _, _, _, hb⟩
    replace HB := Lib.hid (below_step HB.out hb)
    clear hb
    go_wp2_with fail
    go_ret
    exact ⟨rfl, HB.out⟩
  by_cases h3 : 60 < len1
  · have h3' : (60 : Int) < len1 := by omega
    clear w1
    go_enter Tryd.func3, Tryd.ntmps3
    go_wp2_with fail
    refine (l_small17 _ HG.out).mono ?_
    rintro e wa ⟨rfl, hb⟩
    have HB := Lib.hid hb
    clear hb
    go_wp2_with fail
    refine (st_new a0 _).mono ?_
    rintro e wb ⟨g, gb, rfl, _, _, _, hb⟩
    replace HB := Lib.hid (below_step HB.out hb)
    clear hb
    go_wp2_with fail
    go_ret
    exact ⟨rfl, HB.out⟩
  have h3' : ¬ (60 : Int) < len1 := by omega
  obtain ⟨rs, hre, hrs⟩ := w1.re (by omega)
  obtain ⟨n, hn⟩ : ∃ n : Nat, n = stSize a0 := ⟨_, rfl⟩
  have HSZ := Lib.hid hn
  have HN := Lib.hid (show n ≤ 600 ∧ len1 ≤ 60 by unfold stSize at hn; omega)
  have hmx : (if a0 < 0 then 0 else a0) = (n : Int) := by unfold stSize at hn; split <;> omega
  have HMX := Lib.hid hmx
  have hqd : ((n : Int)).tdiv 2 = ((n / 2 : Nat) : Int) := by rw [Int.tdiv_eq_ediv_of_nonneg (by omega)]; omega
  have HRE := Lib.hid hre
  have HRS := Lib.hid hrs
  have HL := Lib.hid hre.len
  clear hre hrs w1 hn hmx
  go_enter Tryd.func3, Tryd.ntmps3
  go_wp2_with fail
  refine (l_small17 _ HG.out).mono ?_
  rintro e wa ⟨rfl, hb⟩
  have HB := Lib.hid hb
  clear hb
  go_wp2_with fail
  refine (st_new a0 _).mono ?_
  rintro e wb ⟨g, gb, rfl, hst, hwg, hwb, hb⟩
  rw [← HSZ.out] at hst
  have hws := HB.out.size
  replace HB := Lib.hid (below_step HB.out hb)
  have HST := Lib.hid hst
  clear hb hst
  go_wp2_with fail
  refine (op_open g gb ⟨List.replicate n 255, none, false⟩ _ HST.out).mono ?_
  rintro e w2 ⟨j, rfl, hji, hb2, hjl⟩
  rw [show jOpen (Sto.mk (List.replicate n 255) none false).xs = jNone from jOpen_blank n] at hji
  have HLE := Lib.hid (show w.heap.size ≤ j ∧ w.heap.size ≤ g ∧ w.heap.size ≤ gb by have := HB.out.size; omega)
  replace HB := Lib.hid (below_step HB.out hb2)
  have HJI := Lib.hid hji
  have HLV := Lib.hid (show Lv (Sto.mk (List.replicate n 255) none false) n from ⟨rfl, rfl, List.length_replicate⟩)
  clear hb2 hji HST hjl hwg hwb hws
  have hkr : KR w j g gb n 0 (.int .u32 0) (.slice none 0 0) w2 := ⟨⟨_, _, none, 0, HJI.out, HLV.out, rfl, rfl, RS.none _, Nat.le_refl _, rfl⟩, HB.out⟩
  clear HJI HLV HB
  have hmx := HMX.out
  go_wp2_with fail
  go_loopw [8, 9, 10] (fun s8 s9 s10 wr => ∃ k : Nat, k ≤ len1 ∧ s10 = .int .i64 k ∧ KR w j g gb n k s8 s9 wr) (fun _ _ s10 _ => len1 - (intOf s10).toNat)
  case atStart => exact ⟨0, Nat.zero_le _, rfl, hkr⟩
  case round =>
    obtain ⟨k, hk, rfl, ⟨⟨s, t, A9, c9, hji, hlv, rfl, rfl, hlr, hsq, hhs⟩, hb⟩⟩ := hrel
    have HJI := Lib.hid hji
    have HLV := Lib.hid hlv
    have HB := Lib.hid hb
    have HSQ := Lib.hid hsq
    have HHS := Lib.hid hhs
    have HLR := Lib.hid hlr
    clear hji hlv hb hsq hhs hlr hkr
    by_cases hlt : k < len1
    · have hlt' : (k : Int) < len1 := by omega
      have hkr : k < rs.length := by rw [HL.out]; exact hlt
      obtain ⟨b, off, rfl, hbl, _⟩ := HRE.out.cells (by omega)
      have he := HRE.out.elem brc_len k hkr
      have hrr := HRS.out rs[k] (List.getElem_mem hkr)
      generalize rs[k] = r at *
      have HRR := Lib.hid hrr
      have HE0 := Lib.hid (show w.cell? ⟨b, off + k, none⟩ = some (.slice r.A r.n r.c) by have := he 0 _ rfl; simpa using this)
      have HBL := Lib.hid hbl
      have q0 := (HB.out.cell (p := ⟨b, off + k, none⟩) hbl).trans HE0.out
      have hrl := hrr.len
      have hrm := hrr.rb.2.1
      have HK := Lib.hid hlt
      clear he hrr hbl hkr hlt
      go_wp2_with fail
      refine (ap_live j g gb n s t r.A r.n r.c r.xs _ _ HJI.out HLV.out (HRR.out.below HB.out) (HRR.out.far HLE.out) rfl).mono ?_
      rintro e w4 ⟨⟨v, rfl, hev⟩, ⟨s2, t2, hji2, hlv2, hyes, hno⟩, hf⟩
      have HB4 := Lib.hid (below_three HB.out hf HLE.out.1 HLE.out.2.1 HLE.out.2.2)
      have HJ2 := Lib.hid hji2
      have HLV2 := Lib.hid hlv2
      have q4 := (HB4.out.cell (p := ⟨b, off + k, none⟩) HBL.out).trans HE0.out
      clear hji2 hlv2 hf q0 HB HJI HLV
      by_cases p1 : r.n < 1
      · have p1' : ¬ 1 ≤ (r.n : Int) := by omega
        have hc : jCode (n / 2) s.nt.seq r.xs ≠ 0 := by
          unfold jCode
          rw [if_pos (by rw [Bool.eq_false_iff]; intro h; have := bkOk_iff.1 h; omega)]
          decide
        clear p1
        obtain ⟨rfl, rfl⟩ := hno hc
        obtain ⟨tv, uv, rfl⟩ := hev.some hc
        clear hno hyes hev hc hrl
        go_wp2_with fail
        refine (ji_last j g gb _ _ _ HJ2.out).mono ?_
        rintro e w5 ⟨A5, c5, rfl, hr5, ho5, hb5⟩
        have HB5 := Lib.hid (below_step HB4.out hb5)
        have HJ5 := Lib.hid (HJ2.out.below hb5)
        have k1 := by_string_of _ _ _ c5 _ hr5.rb
        have k2 := by_string_of _ _ _ c9 _ (HLR.out.below HB5.out).rb
        have t1 := strB_toList s2.nt.dat
        have hbr := Below.refl w5.heap.size w5
        clear hr5 ho5 hb5
        by_cases hq : 0 < s2.nt.seq
        · have hq' : (0 : Int) < (s2.nt.seq : Int) := by omega
          have hh : s2.has = true := by rw [HHS.out]; exact decide_eq_true hq
          have HKR := Lib.hid (show KR w j g gb n (k + 1) (.int .u32 s2.nt.seq) (.slice A9 s2.nt.dat.length c9) w5 from ⟨⟨s2, t2, A9, c9, HJ5.out, HLV2.out, rfl, rfl, HLR.out, by have := HSQ.out; omega, HHS.out⟩, HB5.out⟩)
          clear hq
          go_wp2_with fail
          refine (ji_seq j g gb _ _ _ HJ5.out).mono ?_
          rintro e w6 ⟨rfl, rfl⟩
          go_wp2_with fail
          exact ⟨⟨k + 1, by have := HK.out; omega, by go_num, HKR.out⟩, by have := HK.out; simp [intOf]; omega⟩
        · have hq' : ¬ (0 : Int) < (s2.nt.seq : Int) := by omega
          have hh : s2.has = false := by rw [HHS.out]; exact decide_eq_false hq
          have h00 : s2.nt.seq = 0 := by omega
          have HKR := Lib.hid (show KR w j g gb n (k + 1) (.int .u32 0) (.slice A9 s2.nt.dat.length c9) w5 from ⟨⟨s2, t2, A9, c9, HJ5.out, HLV2.out, by rw [h00]; rfl, rfl, HLR.out, by have := HSQ.out; omega, HHS.out⟩, HB5.out⟩)
          have H00 := Lib.hid h00
          clear hq h00
          go_wp2_with fail
          refine (ji_seq j g gb _ _ _ HJ5.out).mono ?_
          rintro e w6 ⟨rfl, rfl⟩
          go_wp2_with fail
          exact ⟨⟨k + 1, by have := HK.out; omega, by go_num, HKR.out⟩, by have := HK.out; simp [intOf]; omega⟩
      have p1' : 1 ≤ (r.n : Int) := by omega
      by_cases p2 : 40 < r.n
      · have p2' : ¬ (r.n : Int) ≤ 40 := by omega
        have hc : jCode (n / 2) s.nt.seq r.xs ≠ 0 := by
          unfold jCode
          rw [if_pos (by rw [Bool.eq_false_iff]; intro h; have := bkOk_iff.1 h; omega)]
          decide
        clear p1 p2
        obtain ⟨rfl, rfl⟩ := hno hc
        obtain ⟨tv, uv, rfl⟩ := hev.some hc
        clear hno hyes hev hc hrl
        go_wp2_with fail
        refine (ji_last j g gb _ _ _ HJ2.out).mono ?_
        rintro e w5 ⟨A5, c5, rfl, hr5, ho5, hb5⟩
        have HB5 := Lib.hid (below_step HB4.out hb5)
        have HJ5 := Lib.hid (HJ2.out.below hb5)
        have k1 := by_string_of _ _ _ c5 _ hr5.rb
        have k2 := by_string_of _ _ _ c9 _ (HLR.out.below HB5.out).rb
        have t1 := strB_toList s2.nt.dat
        have hbr := Below.refl w5.heap.size w5
        clear hr5 ho5 hb5
        by_cases hq : 0 < s2.nt.seq
        · have hq' : (0 : Int) < (s2.nt.seq : Int) := by omega
          have hh : s2.has = true := by rw [HHS.out]; exact decide_eq_true hq
          have HKR := Lib.hid (show KR w j g gb n (k + 1) (.int .u32 s2.nt.seq) (.slice A9 s2.nt.dat.length c9) w5 from ⟨⟨s2, t2, A9, c9, HJ5.out, HLV2.out, rfl, rfl, HLR.out, by have := HSQ.out; omega, HHS.out⟩, HB5.out⟩)
          clear hq
          go_wp2_with fail
          refine (ji_seq j g gb _ _ _ HJ5.out).mono ?_
          rintro e w6 ⟨rfl, rfl⟩
          go_wp2_with fail
          exact ⟨⟨k + 1, by have := HK.out; omega, by go_num, HKR.out⟩, by have := HK.out; simp [intOf]; omega⟩
        · have hq' : ¬ (0 : Int) < (s2.nt.seq : Int) := by omega
          have hh : s2.has = false := by rw [HHS.out]; exact decide_eq_false hq
          have h00 : s2.nt.seq = 0 := by omega
          have HKR := Lib.hid (show KR w j g gb n (k + 1) (.int .u32 0) (.slice A9 s2.nt.dat.length c9) w5 from ⟨⟨s2, t2, A9, c9, HJ5.out, HLV2.out, by rw [h00]; rfl, rfl, HLR.out, by have := HSQ.out; omega, HHS.out⟩, HB5.out⟩)
          have H00 := Lib.hid h00
          clear hq h00
          go_wp2_with fail
          refine (ji_seq j g gb _ _ _ HJ5.out).mono ?_
          rintro e w6 ⟨rfl, rfl⟩
          go_wp2_with fail
          exact ⟨⟨k + 1, by have := HK.out; omega, by go_num, HKR.out⟩, by have := HK.out; simp [intOf]; omega⟩
      have p2' : (r.n : Int) ≤ 40 := by omega
      have ew8 : IntKind.i64.wrap ((r.n : Int) + 8) = (r.n : Int) + 8 := by simp [IntKind.wrap, IntKind.bits, IntKind.signed]; omega
      have hok : bkOk r.xs = true := bkOk_iff.2 (by omega)
      have hn60 := HN.out
      have hs60 := HSQ.out
      have hk60 := HK.out
      by_cases p3 : n / 2 < 8 + r.n
      · have p3' : ¬ (r.n : Int) + 8 ≤ ((n / 2 : Nat) : Int) := by omega
        have hc : jCode (n / 2) s.nt.seq r.xs ≠ 0 := by
          unfold jCode
          rw [if_neg (by rw [hok]; decide), if_pos (.inl (by omega))]
          decide
        have hn2 : n / 2 ≤ 300 := by omega
        clear p1 p2 p3 hn60 hs60 hk60 hok
        generalize n / 2 = n2 at *
        obtain ⟨rfl, rfl⟩ := hno hc
        obtain ⟨tv, uv, rfl⟩ := hev.some hc
        clear hno hyes hev hc hrl
        go_wp2_with fail
        refine (ji_last j g gb _ _ _ HJ2.out).mono ?_
        rintro e w5 ⟨A5, c5, rfl, hr5, ho5, hb5⟩
        have HB5 := Lib.hid (below_step HB4.out hb5)
        have HJ5 := Lib.hid (HJ2.out.below hb5)
        have k1 := by_string_of _ _ _ c5 _ hr5.rb
        have k2 := by_string_of _ _ _ c9 _ (HLR.out.below HB5.out).rb
        have t1 := strB_toList s2.nt.dat
        have hbr := Below.refl w5.heap.size w5
        clear hr5 ho5 hb5
        by_cases hq : 0 < s2.nt.seq
        · have hq' : (0 : Int) < (s2.nt.seq : Int) := by omega
          have hh : s2.has = true := by rw [HHS.out]; exact decide_eq_true hq
          have HKR := Lib.hid (show KR w j g gb n (k + 1) (.int .u32 s2.nt.seq) (.slice A9 s2.nt.dat.length c9) w5 from ⟨⟨s2, t2, A9, c9, HJ5.out, HLV2.out, rfl, rfl, HLR.out, by have := HSQ.out; omega, HHS.out⟩, HB5.out⟩)
          clear hq
          go_wp2_with fail
          refine (ji_seq j g gb _ _ _ HJ5.out).mono ?_
          rintro e w6 ⟨rfl, rfl⟩
          go_wp2_with fail
          exact ⟨⟨k + 1, by have := HK.out; omega, by go_num, HKR.out⟩, by have := HK.out; simp [intOf]; omega⟩
        · have hq' : ¬ (0 : Int) < (s2.nt.seq : Int) := by omega
          have hh : s2.has = false := by rw [HHS.out]; exact decide_eq_false hq
          have h00 : s2.nt.seq = 0 := by omega
          have HKR := Lib.hid (show KR w j g gb n (k + 1) (.int .u32 0) (.slice A9 s2.nt.dat.length c9) w5 from ⟨⟨s2, t2, A9, c9, HJ5.out, HLV2.out, by rw [h00]; rfl, rfl, HLR.out, by have := HSQ.out; omega, HHS.out⟩, HB5.out⟩)
          have H00 := Lib.hid h00
          clear hq h00
          go_wp2_with fail
          refine (ji_seq j g gb _ _ _ HJ5.out).mono ?_
          rintro e w6 ⟨rfl, rfl⟩
          go_wp2_with fail
          exact ⟨⟨k + 1, by have := HK.out; omega, by go_num, HKR.out⟩, by have := HK.out; simp [intOf]; omega⟩
      have p3' : (r.n : Int) + 8 ≤ ((n / 2 : Nat) : Int) := by omega
      have hc : jCode (n / 2) s.nt.seq r.xs = 0 := by
        unfold jCode
        rw [if_neg (by rw [hok]; decide), if_neg (by omega)]
      have ew : IntKind.u32.wrap ((s.nt.seq : Int) + 1) = ((s.nt.seq + 1 : Nat) : Int) := by simp [IntKind.wrap, IntKind.bits, IntKind.signed]; omega
      obtain ⟨h1, h2', h3''⟩ := hyes hc
      rw [hc] at hev
      obtain rfl := hev.zero
      have HH1 := Lib.hid h1
      have HH2 := Lib.hid h2'
      have HH3 := Lib.hid h3''
      have HRL := Lib.hid hrl
      have hq' : (0 : Int) < ((s.nt.seq + 1 : Nat) : Int) := by omega
      have hn2 : n / 2 ≤ 300 := by omega
      clear p1 p2 p3 hn60 hs60 hk60 hok hno hyes hev hc hrl h1 h2' h3''
      obtain ⟨q1, hq1⟩ : ∃ q1 : Nat, q1 = s.nt.seq + 1 := ⟨_, rfl⟩
      rw [← hq1] at ew hq' HH1
      have HQ1 := Lib.hid hq1
      clear hq1
      generalize n / 2 = n2 at *
      go_wp2_with fail
      refine (ji_last j g gb _ _ _ HJ2.out).mono ?_
      rintro e w5 ⟨A5, c5, rfl, hr5, ho5, hb5⟩
      have HB5 := Lib.hid (below_step HB4.out hb5)
      have HJ5 := Lib.hid (HJ2.out.below hb5)
      have k1 := by_string_of _ _ _ c5 _ hr5.rb
      have k2 := by_string_of _ _ _ r.c _ (HRR.out.below HB5.out).rb
      have t1 := strB_toList r.xs
      have hbr := Below.refl w5.heap.size w5
      clear hr5 ho5 hb5
      rw [HH2.out] at k1
      rw [HH2.out, HH3.out]
      rw [HRL.out] at k1 ⊢
      have HKR := Lib.hid (show KR w j g gb n (k + 1) (.int .u32 q1) (.slice r.A r.n r.c) w5 from ⟨⟨s2, t2, r.A, r.c, HJ5.out, HLV2.out, by rw [HH1.out], by rw [HH2.out, HRL.out], by rw [HH2.out, HRL.out]; exact HRR.out, by rw [HH1.out, HQ1.out]; have := HSQ.out; omega, by rw [HH3.out, HH1.out, HQ1.out]; exact (decide_eq_true (Nat.succ_pos _)).symm⟩, HB5.out⟩)
      go_wp2_with fail
      refine (ji_seq j g gb _ _ _ HJ5.out).mono ?_
      rintro e w6 ⟨rfl, rfl⟩
      rw [HH1.out]
      go_wp2_with fail
      exact ⟨⟨k + 1, by have := HK.out; omega, by go_num, HKR.out⟩, by have := HK.out; simp [intOf]; omega⟩
    · obtain rfl : k = len1 := by omega
      go_wp2_with fail
      go_ret
      exact ⟨rfl, HB.out⟩
end Go.Proofs.YtcppmihambcihaaDoor
