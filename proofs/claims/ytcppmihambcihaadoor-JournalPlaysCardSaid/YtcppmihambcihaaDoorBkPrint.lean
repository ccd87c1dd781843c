/- bank.Print, and the document's. -/
import Derived.Test.YtcppmihambcihaaDoorBkPure
import Derived.Test.YtcppmihambcihaaDoorOctRef
import Derived.Test.YtcppmihambcihaaDoorCrcRef
import Derived.Test.YtcppmihambcihaaDoorFr
namespace Go.Proofs.YtcppmihambcihaaDoor
open Go.RowKit
set_option linter.unusedVariables false
set_option linter.unusedSimpArgs false
def bkOut (s : Nat) (d : List UInt8) : List UInt8 := if bkOk d = true then bkPrint s d else []
def IsPr (s : Nat) (d : List UInt8) (w : World) (e : Ending) (w' : World) : Prop := ∃ v, e = .returned (.tuple #[v, .bool (bkOk d)]) ∧ OwnB w' w.heap.size v (bkOut s d) ∧ Below w.heap.size w w'
theorem IsPr_no {s : Nat} {d : List UInt8} {w : World} (h : bkOk d = false) : IsPr s d w = fun e w' => ∃ v, e = .returned (.tuple #[v, .bool false]) ∧ OwnB w' w.heap.size v [] ∧ Below w.heap.size w w' := by
  funext e w'
  simp [IsPr, bkOut, h]
theorem IsPr_yes {s : Nat} {d : List UInt8} {w : World} (h : bkOk d = true) : IsPr s d w = fun e w' => ∃ v, e = .returned (.tuple #[v, .bool true]) ∧ OwnB w' w.heap.size v (bkPrint s d) ∧ Below w.heap.size w w' := by
  funext e w'
  simp [IsPr, bkOut, h]
set_option maxHeartbeats 2000000 in
theorem bk_print (s : Nat) (A : Option Addr) (n c : Nat) (d : List UInt8) (w : World) (rs : RS w A n c d) (hs : s < 4294967296) :
    Calls Tryd.prog 27 #[.int .u32 s, .slice A n c] w (IsPr s d w) := by
  have hr := rs.rb
  have hA := rs.nil
  have hc := rs.cap
  have hl := Lib.hid hr.len
  clear rs
  by_cases h1 : 1 ≤ n
  rotate_left
  · have hz : ((n : Int) == 0) = true := by simp; omega
    have hz1 : (n : Int) < 1 := by omega
    obtain rfl : n = 0 := by omega
    obtain rfl : d = [] := List.eq_nil_of_length_eq_zero hl.out
    rw [IsPr_no (show bkOk [] = false from rfl)]
    clear hr hA hc
    go_enter Tryd.func27, Tryd.ntmps27
    go_wp2_with fail
    go_ret2
    exact ⟨_, rfl, OwnB.nil _ _, Below.refl _ _⟩
  by_cases h2 : n ≤ 40
  rotate_left
  · have hz : ((n : Int) == 0) = false := by simp; omega
    have hz1 : ¬ (n : Int) < 1 := by omega
    have hz2 : 40 < (n : Int) := by omega
    have hk : bkOk d = false := by simp only [bkOk, hl.out]; simp; omega
    rw [IsPr_no hk]
    clear hr hA hc
    go_enter Tryd.func27, Tryd.ntmps27
    go_wp2_with fail
    go_ret2
    exact ⟨_, rfl, OwnB.nil _ _, Below.refl _ _⟩
  have hz : ((n : Int) == 0) = false := by simp; omega
  have hz1 : ¬ (n : Int) < 1 := by omega
  have hz2 : ¬ 40 < (n : Int) := by omega
  have hk : bkOk d = true := by rw [bkOk_iff, hl.out]; omega
  rw [IsPr_yes hk]
  have e1 : IntKind.u8.wrap (n : Int) = nb (UInt8.ofNat n) := by rw [nb_of]; simp [IntKind.wrap, IntKind.bits, IntKind.signed]
  have HR1 := Lib.hid (rs_new w [UInt8.ofNat n] 5 (by simp))
  have HB1 := Lib.hid (below_new w (.cells #[.int .u8 (nb (UInt8.ofNat n))] 5))
  have HD := Lib.hid (hr.below HB1.out)
  have hn40 := Lib.hid h2
  have hk1 : ([UInt8.ofNat n] ++ beN 4 s).length = 5 := by simp [beN_len]
  clear hk h1 h2 hr hc
  go_enter Tryd.func27, Tryd.ntmps27
  go_wp2_with fail
  refine (oct_put32 (some ⟨w.heap.size, 0, none⟩) 1 1 [UInt8.ofNat n] s _ HR1.out (by omega) hs).mono ?_
  rintro e wa ⟨v1, rfl, hown1, hb1⟩
  have HB2 := Lib.hid (below_step HB1.out hb1)
  have HD2 := Lib.hid (HD.out.below hb1)
  have HO1 := Lib.hid (hown1.base (base' := w.heap.size) (by simp))
  have HL1 := Lib.hid hk1
  clear hown1 hb1 hk1
  go_wp2_with (at_builtin; go_must (refine wpList_append_by rfl _ _ rfl w HB2.out _ _ rfl HO1.out _ _ _ d rfl hA HD2.out (by rw [HL1.out]; have := hn40.out; omega) ?_; intro v2 w2 hown2 hb2 _); go_must (obtain ⟨zs, hzs⟩ : ∃ zs, zs = [UInt8.ofNat n] ++ beN 4 s ++ d := ⟨_, rfl⟩; rw [← hzs] at hown2; have HZS := Lib.hid hzs; clear hzs; obtain ⟨A2, c2, rfl, r2⟩ := hown2.reads; have R2 := Lib.hid r2; have HB3 := Lib.hid hb2; clear hown2 hb2 r2))
  have HZL := Lib.hid (show zs.length = 5 + n by rw [HZS.out, List.length_append, HL1.out, hl.out])
  refine (crc_seal A2 zs.length c2 zs _ R2.out (by rw [HZL.out]; have := hn40.out; omega)).mono ?_
  rintro e w3 ⟨v3, rfl, hown3, hb3⟩
  have HO3 := Lib.hid ((hown3.base (base' := w.heap.size) HB3.out.size).alloc (.cells #[.int .u8 0] 5))
  have HB4 := Lib.hid (Below.new (below_step HB3.out hb3) (.cells #[.int .u8 0] 5))
  have HZ := Lib.hid (show RB (w3.alloc (.cells #[.int .u8 0] 5)) (some ⟨w3.heap.size, 0, none⟩) 1 [0] from rb_one w3 0 5)
  clear hown3 hb3
  go_wp2_with (at_builtin; go_must (refine wpList_append_by rfl _ _ rfl w HB4.out _ _ rfl HO3.out _ _ _ [0] rfl (fun e => by cases e) HZ.out (by rw [crcSum_seal_len, HZL.out]; have := hn40.out; omega) ?_; intro v4 w4 hown4 hb4 _))
  go_ret2
  refine ⟨_, rfl, ?_, hb4⟩
  have e9 : bkPrint s d = crcSeal zs ++ [0] := by unfold bkPrint bkBody; rw [HZS.out, hl.out]; rfl
  rw [e9]
  exact hown4
set_option maxHeartbeats 2000000 in
theorem rf_print (s : Nat) (A : Option Addr) (n c : Nat) (d : List UInt8) (w : World) (rs : RS w A n c d) (hs : s < 4294967296) :
    Calls Tryd.prog 41 #[.int .u32 s, .slice A n c] w (IsPr s d w) := by
  have hr := rs.rb
  have hA := rs.nil
  have hc := rs.cap
  have hl := Lib.hid hr.len
  clear rs
  by_cases h1 : 1 ≤ n
  rotate_left
  · have hz : ((n : Int) == 0) = true := by simp; omega
    have hz1 : (n : Int) < 1 := by omega
    obtain rfl : n = 0 := by omega
    obtain rfl : d = [] := List.eq_nil_of_length_eq_zero hl.out
    rw [IsPr_no (show bkOk [] = false from rfl)]
    clear hr hA hc
    go_enter Tryd.func41, Tryd.ntmps41
    go_wp2_with fail
    go_ret2
    exact ⟨_, rfl, OwnB.nil _ _, Below.refl _ _⟩
  by_cases h2 : n ≤ 40
  rotate_left
  · have hz : ((n : Int) == 0) = false := by simp; omega
    have hz1 : ¬ (n : Int) < 1 := by omega
    have hz2 : 40 < (n : Int) := by omega
    have hk : bkOk d = false := by simp only [bkOk, hl.out]; simp; omega
    rw [IsPr_no hk]
    clear hr hA hc
    go_enter Tryd.func41, Tryd.ntmps41
    go_wp2_with fail
    go_ret2
    exact ⟨_, rfl, OwnB.nil _ _, Below.refl _ _⟩
  have hz : ((n : Int) == 0) = false := by simp; omega
  have hz1 : ¬ (n : Int) < 1 := by omega
  have hz2 : ¬ 40 < (n : Int) := by omega
  have hk : bkOk d = true := by rw [bkOk_iff, hl.out]; omega
  rw [IsPr_yes hk]
  have e1 : IntKind.u8.wrap (n : Int) = nb (UInt8.ofNat n) := by rw [nb_of]; simp [IntKind.wrap, IntKind.bits, IntKind.signed]
  have HR1 := Lib.hid (rs_new w [UInt8.ofNat n] 5 (by simp))
  have HB1 := Lib.hid (below_new w (.cells #[.int .u8 (nb (UInt8.ofNat n))] 5))
  have HD := Lib.hid (hr.below HB1.out)
  have hn40 := Lib.hid h2
  have hk1 : ([UInt8.ofNat n] ++ beN 4 s).length = 5 := by simp [beN_len]
  clear hk h1 h2 hr hc
  go_enter Tryd.func41, Tryd.ntmps41
  go_wp2_with fail
  refine (ref_put4 (some ⟨w.heap.size, 0, none⟩) 1 1 [UInt8.ofNat n] s _ HR1.out (by omega) hs).mono ?_
  rintro e wa ⟨v1, rfl, hown1, hb1⟩
  have HB2 := Lib.hid (below_step HB1.out hb1)
  have HD2 := Lib.hid (HD.out.below hb1)
  have HO1 := Lib.hid (hown1.base (base' := w.heap.size) (by simp))
  have HL1 := Lib.hid hk1
  clear hown1 hb1 hk1
  go_wp2_with (at_builtin; go_must (refine wpList_append_by rfl _ _ rfl w HB2.out _ _ rfl HO1.out _ _ _ d rfl hA HD2.out (by rw [HL1.out]; have := hn40.out; omega) ?_; intro v2 w2 hown2 hb2 _); go_must (obtain ⟨zs, hzs⟩ : ∃ zs, zs = [UInt8.ofNat n] ++ beN 4 s ++ d := ⟨_, rfl⟩; rw [← hzs] at hown2; have HZS := Lib.hid hzs; clear hzs; obtain ⟨A2, c2, rfl, r2⟩ := hown2.reads; have R2 := Lib.hid r2; have HB3 := Lib.hid hb2; clear hown2 hb2 r2))
  have HZL := Lib.hid (show zs.length = 5 + n by rw [HZS.out, List.length_append, HL1.out, hl.out])
  refine (ref_crcSeal A2 zs.length c2 zs _ R2.out (by rw [HZL.out]; have := hn40.out; omega)).mono ?_
  rintro e w3 ⟨v3, rfl, hown3, hb3⟩
  have HO3 := Lib.hid ((hown3.base (base' := w.heap.size) HB3.out.size).alloc (.cells #[.int .u8 0] 5))
  have HB4 := Lib.hid (Below.new (below_step HB3.out hb3) (.cells #[.int .u8 0] 5))
  have HZ := Lib.hid (show RB (w3.alloc (.cells #[.int .u8 0] 5)) (some ⟨w3.heap.size, 0, none⟩) 1 [0] from rb_one w3 0 5)
  clear hown3 hb3
  go_wp2_with (at_builtin; go_must (refine wpList_append_by rfl _ _ rfl w HB4.out _ _ rfl HO3.out _ _ _ [0] rfl (fun e => by cases e) HZ.out (by rw [crcSum_seal_len, HZL.out]; have := hn40.out; omega) ?_; intro v4 w4 hown4 hb4 _))
  go_ret2
  refine ⟨_, rfl, ?_, hb4⟩
  have e9 : bkPrint s d = crcSeal zs ++ [0] := by unfold bkPrint bkBody; rw [HZS.out, hl.out]; rfl
  rw [e9]
  exact hown4
end Go.Proofs.YtcppmihambcihaaDoor
