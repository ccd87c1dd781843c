/- The walks of BankPrints and BankApart. -/
import Derived.Test.YtafpkfnegfjohaaBkSmall
import Derived.Test.YtafpkfnegfjohaaArgs
import Derived.Test.YtafpkfnegfjohaaBkSame
namespace Go.Proofs.Ytafpkfnegfjohaa
open Go Go.RowKit Go.Shelf
set_option linter.unusedVariables false
set_option linter.unusedSimpArgs false
theorem u32_of {a : Int} (h : (Lit.int .u32 a).wf = true) : ∃ s : Nat, a = s ∧ s < 4294967296 := by
  have := u32_bd h
  exact ⟨a.toNat, by omega, by omega⟩
set_option maxRecDepth 100000 in
set_option maxHeartbeats 4000000 in
theorem bankPrints_walk (a0 : Int) (a1 : Option Addr) (len1 cap1 : Nat) (z1 : List Int) (a2 : Option Addr) (len2 cap2 : Nat) (z2 : List Int) (a3 : Int) (w : World) (w0 : (Lit.int .u32 a0).wf = true) (w1 : IsRow .u8 w a1 len1 cap1 z1) (w2 : IsRow .u8 w a2 len2 cap2 z2) (w3 : (Lit.int .i64 a3).wf = true) :
    Calls Try.prog 3 #[.int .u32 a0, .slice a1 len1 cap1, .slice a2 len2 cap2, .int .i64 a3] w fun e w' => e = .returned (.bool true) ∧ Below w.heap.size w w' := by
  obtain ⟨s, rfl, hs⟩ := u32_of w0
  obtain ⟨xs, hr⟩ := w1.bytes
  obtain ⟨ys, kr⟩ := w2.bytes
  have HR := Lib.hid hr
  have KR := Lib.hid kr
  have HS := Lib.hid hs
  clear w0 w1 w2 w3 hr kr hs
  by_cases h1 : 300 < len1
  · have h1' : (300 : Int) < len1 := by omega
    go_enter Try.func3, Try.ntmps3
    go_wp2_with fail
    refine (l_small16 _).mono ?_
    rintro e wa ⟨rfl, hb⟩
    go_wp2_with fail
    go_ret
    exact ⟨rfl, hb⟩
  have h1' : ¬ (300 : Int) < len1 := by omega
  by_cases h2 : 500 < len2
  · have h2' : (500 : Int) < len2 := by omega
    go_enter Try.func3, Try.ntmps3
    go_wp2_with fail
    refine (l_small16 _).mono ?_
    rintro e wa ⟨rfl, hb⟩
    go_wp2_with fail
    go_ret
    exact ⟨rfl, hb⟩
  have h2' : ¬ (500 : Int) < len2 := by omega
  have H2 := Lib.hid h2
  go_enter Try.func3, Try.ntmps3
  go_wp2_with fail
  refine (l_small16 _).mono ?_
  rintro e wa ⟨rfl, hb⟩
  have HR := Lib.hid (HR.out.below hb)
  have KR := Lib.hid (KR.out.below hb)
  have HB := Lib.hid hb
  clear hb h1 h2
  go_wp2_with fail
  refine (bk_print s a1 len1 cap1 xs _ HR.out HS.out).mono ?_
  rintro e wb ⟨v1, rfl, hown1, hb1⟩
  have HO1 := Lib.hid hown1
  have HR := Lib.hid (HR.out.below hb1)
  have KR := Lib.hid (KR.out.below hb1)
  have HB := Lib.hid (below_step HB.out hb1)
  clear hown1 hb1
  go_wp2_with fail
  refine (rf_print s a1 len1 cap1 xs _ HR.out HS.out).mono ?_
  rintro e wc ⟨v2, rfl, hown2, hb2⟩
  obtain ⟨A1, c1, rfl, r1⟩ := (HO1.out.below hb2).reads
  obtain ⟨A2, c2, rfl, r2⟩ := hown2.reads
  have k1 := by_string _ _ _ c1 _ r1.rb
  have k2 := by_string _ _ _ c2 _ r2.rb
  have KR := Lib.hid (KR.out.below hb2)
  have HB := Lib.hid (below_step HB.out hb2)
  clear hown2 hb2 r1 r2
  go_wp2_with fail
  refine (bk_blank a2 len2 cap2 ys a3 _ KR.out (by have := H2.out; omega)).mono ?_
  rintro e wd ⟨rfl, hb3⟩
  have KR := Lib.hid (KR.out.below hb3)
  have HB := Lib.hid (below_step HB.out hb3)
  clear hb3 k1 k2
  go_wp2_with fail
  refine (rf_blank a2 len2 cap2 ys a3 _ KR.out (by have := H2.out; omega)).mono ?_
  rintro e we ⟨rfl, hb4⟩
  have HB := Lib.hid (below_step HB.out hb4)
  clear hb4
  go_wp2_with fail
  go_ret
  exact ⟨by simp, HB.out⟩
theorem bkOut_yes {s : Nat} {d : List UInt8} (h : bkOk d = true) : bkOut s d = bkPrint s d := by simp [bkOut, h]
theorem apart_eq {s t : Nat} {d e : List UInt8} (hd : bkOk d = true) (he : bkOk e = true) (hs : s < 4294967296) (ht : t < 4294967296) : (bkOut s d == bkOut t e) = (((s : Int) == (t : Int)) && (d == e)) := by
  rw [bkOut_yes hd, bkOut_yes he]
  by_cases h : bkPrint s d = bkPrint t e
  · obtain ⟨rfl, rfl⟩ := bkPrint_inj hd he hs ht h
    simp
  · rw [beq_eq_false_iff_ne.2 h]
    by_cases h1 : s = t
    · subst h1
      have : d ≠ e := fun q => h (by rw [q])
      rw [beq_eq_false_iff_ne.2 this]
      simp
    · have : ((s : Int) == (t : Int)) = false := by simp; omega
      rw [this]; rfl
set_option maxRecDepth 100000 in
set_option maxHeartbeats 4000000 in
theorem bankApart_walk (a0 : Int) (a1 : Option Addr) (len1 cap1 : Nat) (z1 : List Int) (a2 : Int) (a3 : Option Addr) (len3 cap3 : Nat) (z3 : List Int) (w : World) (w0 : (Lit.int .u32 a0).wf = true) (w1 : IsRow .u8 w a1 len1 cap1 z1) (w2 : (Lit.int .u32 a2).wf = true) (w3 : IsRow .u8 w a3 len3 cap3 z3) :
    Calls Try.prog 8 #[.int .u32 a0, .slice a1 len1 cap1, .int .u32 a2, .slice a3 len3 cap3] w fun e w' => e = .returned (.bool true) ∧ Below w.heap.size w w' := by
  obtain ⟨s, rfl, hs⟩ := u32_of w0
  obtain ⟨t, rfl, ht⟩ := u32_of w2
  obtain ⟨xs, hr⟩ := w1.bytes
  obtain ⟨ys, kr⟩ := w3.bytes
  have HR := Lib.hid hr
  have KR := Lib.hid kr
  have HS := Lib.hid hs
  have HT := Lib.hid ht
  clear w0 w1 w2 w3 hr kr hs ht
  by_cases h1 : 300 < len1
  · have h1' : (300 : Int) < len1 := by omega
    go_enter Try.func8, Try.ntmps8
    go_wp2_with fail
    refine (l_small16 _).mono ?_
    rintro e wa ⟨rfl, hb⟩
    go_wp2_with fail
    go_ret
    exact ⟨rfl, hb⟩
  have h1' : ¬ (300 : Int) < len1 := by omega
  by_cases h2 : 300 < len3
  · have h2' : (300 : Int) < len3 := by omega
    go_enter Try.func8, Try.ntmps8
    go_wp2_with fail
    refine (l_small16 _).mono ?_
    rintro e wa ⟨rfl, hb⟩
    go_wp2_with fail
    go_ret
    exact ⟨rfl, hb⟩
  have h2' : ¬ (300 : Int) < len3 := by omega
  go_enter Try.func8, Try.ntmps8
  go_wp2_with fail
  refine (l_small16 _).mono ?_
  rintro e wa ⟨rfl, hb⟩
  have HR := Lib.hid (HR.out.below hb)
  have KR := Lib.hid (KR.out.below hb)
  have HB := Lib.hid hb
  clear hb h1 h2
  go_wp2_with fail
  refine (bk_print s a1 len1 cap1 xs _ HR.out HS.out).mono ?_
  rintro e wb ⟨v1, rfl, hown1, hb1⟩
  have HO1 := Lib.hid hown1
  have HR := Lib.hid (HR.out.below hb1)
  have KR := Lib.hid (KR.out.below hb1)
  have HB := Lib.hid (below_step HB.out hb1)
  clear hown1 hb1
  go_wp2_with fail
  refine (bk_print t a3 len3 cap3 ys _ KR.out HT.out).mono ?_
  rintro e wc ⟨v2, rfl, hown2, hb2⟩
  obtain ⟨A1, c1, rfl, r1⟩ := (HO1.out.below hb2).reads
  obtain ⟨A2, c2, rfl, r2⟩ := hown2.reads
  have k1 := by_string _ _ _ c1 _ r1.rb
  have k2 := by_string _ _ _ c2 _ r2.rb
  have k3 := by_string _ _ _ cap1 _ (HR.out.below hb2).rb
  have k4 := by_string _ _ _ cap3 _ (KR.out.below hb2).rb
  have HB := Lib.hid (below_step HB.out hb2)
  clear hown2 hb2 r1 r2
  cases hd : bkOk xs with
  | false =>
    clear k1 k2 k3 k4 hd
    go_wp2_with fail
    go_ret
    exact ⟨rfl, HB.out⟩
  | true =>
    cases he : bkOk ys with
    | false =>
      clear k1 k2 k3 k4 hd he
      go_wp2_with fail
      go_ret
      exact ⟨rfl, HB.out⟩
    | true =>
      have HEQ := Lib.hid (apart_eq hd he HS.out HT.out)
      clear hd he
      have t1 := strB_toList (bkOut s xs)
      have t2 := strB_toList (bkOut t ys)
      have t3 := strB_toList xs
      have t4 := strB_toList ys
      clear HO1 HR KR
      generalize (bkOut s xs).length = n1 at *
      generalize (bkOut t ys).length = n2 at *
      generalize strB (bkOut s xs) = S1 at *
      generalize strB (bkOut t ys) = S2 at *
      generalize strB xs = S3 at *
      generalize strB ys = S4 at *
      generalize bkOut s xs = L1 at *
      generalize bkOut t ys = L2 at *
      cases hst : ((s : Int) == (t : Int)) with
      | false =>
        have hq := HEQ.out
        rw [hst, Bool.false_and] at hq
        go_wp2_with fail
        go_ret
        exact ⟨rfl, HB.out⟩
      | true =>
        have hq := HEQ.out
        rw [hst, Bool.true_and] at hq
        cases hl : (xs == ys) with
        | false =>
          rw [hl] at hq
          go_wp2_with fail
          go_ret
          exact ⟨rfl, HB.out⟩
        | true =>
          rw [hl] at hq
          go_wp2_with fail
          go_ret
          exact ⟨rfl, HB.out⟩
end Go.Proofs.Ytafpkfnegfjohaa
