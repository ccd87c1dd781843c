/- The walk of BankTorn. -/
import Derived.Test.YtafpkfnegfjohaaBkPrintsW
import Derived.Test.YtafpkfnegfjohaaByCopy
import Derived.LoopTactic
namespace Go.Proofs.Ytafpkfnegfjohaa
open Go Go.RowKit Go.Shelf
set_option linter.unusedVariables false
set_option linter.unusedSimpArgs false
theorem torn_last {s : Nat} {d e : List UInt8} (hd : bkOk d = true) (he : bkOk e = true) (hs : s + 1 < 4294967296) (cut m : Nat) (hc : cut ≤ 8 + e.length) (hm : 8 + e.length ≤ cut + m) :
    (bkNotes (bkPrint s d ++ (bkPrint (s + 1) e).take cut ++ List.replicate m 255)).getLast? = if cut < 8 + e.length then some ⟨s, d, 8 + d.length⟩ else some ⟨s + 1, e, 8 + d.length + (8 + e.length)⟩ := by
  rw [List.append_assoc, bkNotes_torn hd he hs cut m hc hm]
  split <;> rfl
set_option maxRecDepth 100000 in
set_option maxHeartbeats 8000000 in
theorem bankTorn_walk (a0 : Int) (a1 : Option Addr) (len1 cap1 : Nat) (z1 : List Int) (a2 : Option Addr) (len2 cap2 : Nat) (z2 : List Int) (a3 a4 : Int) (w : World) (w0 : (Lit.int .u32 a0).wf = true) (w1 : IsRow .u8 w a1 len1 cap1 z1) (w2 : IsRow .u8 w a2 len2 cap2 z2) (w3 : (Lit.int .i64 a3).wf = true) (w4 : (Lit.int .i64 a4).wf = true) :
    Calls Try.prog 6 #[.int .u32 a0, .slice a1 len1 cap1, .slice a2 len2 cap2, .int .i64 a3, .int .i64 a4] w fun e w' => e = .returned (.bool true) ∧ Below w.heap.size w w' := by
  obtain ⟨s, rfl, hs⟩ := u32_of w0
  obtain ⟨xs, hr⟩ := w1.bytes
  obtain ⟨ys, kr⟩ := w2.bytes
  have HR := Lib.hid hr
  have KR := Lib.hid kr
  have HS := Lib.hid hs
  clear w0 w1 w2 w3 w4 hr kr hs
  by_cases h1 : 40 < len1
  · have h1' : (40 : Int) < len1 := by omega
    go_enter Try.func6, Try.ntmps6
    go_wp2_with fail
    refine (l_small16 _).mono ?_
    rintro e wa ⟨rfl, hb⟩
    have HB := Lib.hid hb
    clear hb
    go_wp2_with fail
    go_ret
    exact ⟨rfl, HB.out⟩
  have h1' : ¬ (40 : Int) < len1 := by omega
  by_cases h2 : 40 < len2
  · have h2' : (40 : Int) < len2 := by omega
    go_enter Try.func6, Try.ntmps6
    go_wp2_with fail
    refine (l_small16 _).mono ?_
    rintro e wa ⟨rfl, hb⟩
    have HB := Lib.hid hb
    clear hb
    go_wp2_with fail
    go_ret
    exact ⟨rfl, HB.out⟩
  have h2' : ¬ (40 : Int) < len2 := by omega
  by_cases h3 : a3 < 0
  · go_enter Try.func6, Try.ntmps6
    go_wp2_with fail
    refine (l_small16 _).mono ?_
    rintro e wa ⟨rfl, hb⟩
    have HB := Lib.hid hb
    clear hb
    go_wp2_with fail
    go_ret
    exact ⟨rfl, HB.out⟩
  by_cases h4 : a4 < 0
  · go_enter Try.func6, Try.ntmps6
    go_wp2_with fail
    refine (l_small16 _).mono ?_
    rintro e wa ⟨rfl, hb⟩
    have HB := Lib.hid hb
    clear hb
    go_wp2_with fail
    go_ret
    exact ⟨rfl, HB.out⟩
  by_cases h5 : 300 < a4
  · go_enter Try.func6, Try.ntmps6
    go_wp2_with fail
    refine (l_small16 _).mono ?_
    rintro e wa ⟨rfl, hb⟩
    have HB := Lib.hid hb
    clear hb
    go_wp2_with fail
    go_ret
    exact ⟨rfl, HB.out⟩
  by_cases h6 : 4294967266 < s
  · have h6' : (4294967266 : Int) < (s : Int) := by omega
    go_enter Try.func6, Try.ntmps6
    go_wp2_with fail
    refine (l_small16 _).mono ?_
    rintro e wa ⟨rfl, hb⟩
    have HB := Lib.hid hb
    clear hb
    go_wp2_with fail
    go_ret
    exact ⟨rfl, HB.out⟩
  have h6' : ¬ (4294967266 : Int) < (s : Int) := by omega
  obtain ⟨C, rfl⟩ : ∃ C : Nat, a3 = (C : Int) := ⟨a3.toNat, by omega⟩
  obtain ⟨B, rfl⟩ : ∃ B : Nat, a4 = (B : Int) := ⟨a4.toNat, by omega⟩
  have ew1 : IntKind.u32.wrap ((s : Int) + 1) = (s : Int) + 1 := by simp [IntKind.wrap, IntKind.bits, IntKind.signed]; omega
  have HN := Lib.hid (show len1 ≤ 40 ∧ len2 ≤ 40 ∧ B ≤ 300 ∧ s ≤ 4294967266 by omega)
  go_enter Try.func6, Try.ntmps6
  go_wp2_with fail
  refine (l_small16 _).mono ?_
  rintro e wa ⟨rfl, hb⟩
  have HR := Lib.hid (HR.out.below hb)
  have KR := Lib.hid (KR.out.below hb)
  have HB := Lib.hid hb
  clear hb h1 h2 h6
  go_wp2_with fail
  refine (bk_print s a1 len1 cap1 xs _ HR.out HS.out).mono ?_
  rintro e wb ⟨v1, rfl, hown1, hb1⟩
  have HO1 := Lib.hid hown1
  have HR := Lib.hid (HR.out.below hb1)
  have KR := Lib.hid (KR.out.below hb1)
  have HB := Lib.hid (below_step HB.out hb1)
  clear hown1 hb1
  go_wp2_with fail
  have hpr := bk_print (s + 1) a2 len2 cap2 ys _ KR.out (by have := HN.out; omega)
  rw [show ((s + 1 : Nat) : Int) = (s : Int) + 1 by omega] at hpr
  refine hpr.mono ?_
  rintro e wc ⟨v2, rfl, hown2, hb2⟩
  obtain ⟨A1, c1, rfl, r1⟩ := (HO1.out.below hb2).reads
  obtain ⟨A2, c2, rfl, r2⟩ := hown2.reads
  have R1 := Lib.hid r1
  have R2 := Lib.hid r2
  have HR := Lib.hid (HR.out.below hb2)
  have KR := Lib.hid (KR.out.below hb2)
  have HB := Lib.hid (below_step HB.out hb2)
  clear hown2 hb2 r1 r2 hpr HO1
  cases hd : bkOk xs with
  | false =>
    clear hd
    go_wp2_with fail
    go_ret
    exact ⟨rfl, HB.out⟩
  | true =>
  cases he : bkOk ys with
  | false =>
    clear hd he
    go_wp2_with fail
    go_ret
    exact ⟨rfl, HB.out⟩
  | true =>
  have l1 : (bkOut s xs).length = 8 + len1 := by rw [bkOut_yes hd, bkPrint_len, HR.out.len]
  have l2 : (bkOut (s + 1) ys).length = 8 + len2 := by rw [bkOut_yes he, bkPrint_len, KR.out.len]
  rw [l1] at R1 ⊢
  rw [l2] at R2 ⊢
  rw [bkOut_yes hd] at R1
  rw [bkOut_yes he] at R2
  have HD := Lib.hid hd
  have HE := Lib.hid he
  clear hd he l1 l2
  by_cases hcl : 8 + len2 < C
  · have hcl' : 8 + (len2 : Int) < (C : Int) := by omega
    clear hcl
    go_wp2_with fail
    go_ret
    exact ⟨rfl, HB.out⟩
  have hcl' : ¬ 8 + (len2 : Int) < (C : Int) := by omega
  have HC := Lib.hid (show C ≤ 8 + len2 by omega)
  have sl := fun w' => by_slice_h w' A2 (8 + len2) c2 C (by have := R2.out.cap; omega) (C : Int) rfl
  have HOA := Lib.hid (by_lit0 wc wc.heap.size (Nat.le_refl _))
  have HBA := Lib.hid (below_new wc (.cells #[] 5))
  have R2C := Lib.hid (R2.out.take C HC.out)
  have LP := Lib.hid (show (bkPrint s xs).length = 8 + len1 by rw [bkPrint_len, HR.out.len])
  clear hcl
  go_wp2_with (at_builtin; first
    | (refine wpList_append_by rfl _ _ rfl wc HBA.out _ _ rfl HOA.out _ _ _ (bkPrint s xs) rfl R1.out.nil (R1.out.below HBA.out).rb (by have := HN.out; simp; omega) ?_; intro vd wd hownd hbd hgd; rw [List.nil_append] at hownd; have HOB := Lib.hid hownd; have HBB := Lib.hid hbd; clear hownd hbd hgd HOA HBA)
    | (refine wpList_append_by rfl _ _ rfl wc HBB.out _ _ rfl HOB.out _ _ _ ((bkPrint (s + 1) ys).take C) rfl R2C.out.nil (R2C.out.below HBB.out).rb (by have := HN.out; have := HC.out; rw [LP.out]; omega) ?_; intro ve we howne hbe hge; clear HOB HBB; have HOC := Lib.hid howne; have HBC := Lib.hid hbe; clear howne hbe hge))
  have hn := HN.out
  have hc := HC.out
  obtain ⟨M, hM⟩ : ∃ M, M = B + (8 + len2) - C := ⟨_, rfl⟩
  have e1 : IntKind.i64.wrap ((B : Int) + (8 + (len2 : Int))) = (B : Int) + (8 + (len2 : Int)) := by simp [IntKind.wrap, IntKind.bits, IntKind.signed]; omega
  have e2 : IntKind.i64.wrap ((B : Int) + (8 + (len2 : Int)) - (C : Int)) = (M : Int) := by rw [show (B : Int) + (8 + (len2 : Int)) - (C : Int) = (M : Int) by omega]; simp [IntKind.wrap, IntKind.bits, IntKind.signed]; omega
  have HM := Lib.hid hM
  have hm1 : M ≤ 1000 := by omega
  have HX := Lib.hid (show (bkPrint s xs ++ (bkPrint (s + 1) ys).take C).length ≤ 1000 by rw [List.length_append, List.length_take, LP.out, bkPrint_len]; omega)
  clear hn hc hM sl R2C
  have HTL := Lib.hid (torn_last (s := s) HD.out HE.out (by have := HN.out; omega) C M (by rw [KR.out.len]; exact HC.out) (by rw [KR.out.len]; have := HM.out; have := HC.out; omega))
  rw [HR.out.len, KR.out.len] at HTL
  generalize bkPrint s xs ++ (bkPrint (s + 1) ys).take C = X at *
  go_wp2_with fail
  go_loopw [16, 17] (fun s16 s17 wr => ∃ k : Nat, k ≤ M ∧ s17 = .int .i64 k ∧ OwnB wr wc.heap.size s16 (X ++ List.replicate k 255) ∧ Below wc.heap.size wc wr) (fun _ s17 _ => M - (intOf s17).toNat)
  case atStart => exact ⟨0, Nat.zero_le _, rfl, by rw [List.replicate_zero, List.append_nil]; exact HOC.out, HBC.out⟩
  case round =>
    obtain ⟨k, hk, rfl, ho, hbr⟩ := hrel
    by_cases hlt : k < M
    · have hlt' : (k : Int) < M := by omega
      have HON := Lib.hid (ho.alloc (.cells #[.int .u8 255] 5))
      have HBN := Lib.hid (Below.new hbr (.cells #[.int .u8 255] 5))
      have HF := Lib.hid (show RB (wr.alloc (.cells #[.int .u8 255] 5)) (some ⟨wr.heap.size, 0, none⟩) 1 [255] from rb_new wr [255] 5 (by decide))
      have HLN := Lib.hid (show (X ++ List.replicate k 255).length + 1 ≤ 5000 by have := HX.out; rw [List.length_append, List.length_replicate]; omega)
      clear ho hbr
      go_wp2_with (at_builtin; go_must (refine wpList_append_by rfl _ _ rfl wc HBN.out _ _ rfl HON.out _ _ _ [255] rfl (fun e => by cases e) HF.out (by have := HLN.out; omega) ?_; intro v9 w9 hown9 hb9 _))
      exact ⟨⟨k + 1, by omega, by go_num, by rw [List.replicate_succ', ← List.append_assoc]; exact hown9, hb9⟩, by simp [intOf]; omega⟩
    · obtain rfl : k = M := by omega
      have HBR := Lib.hid hbr
      obtain ⟨A6, c6, rfl, r6⟩ := ho.reads
      have R6 := Lib.hid r6
      have HL6 := Lib.hid (show (X ++ List.replicate k 255).length ≤ 5000 by have := HX.out; rw [List.length_append, List.length_replicate]; omega)
      clear ho r6 hbr HX
      generalize X ++ List.replicate k 255 = Z at *
      generalize Z.length = n6 at *
      go_wp2_with fail
      refine (bk_last A6 n6 c6 Z _ R6.out (by have := HL6.out; omega)).mono ?_
      rintro e w7 hq
      rw [HTL.out] at hq
      have hxl := HR.out.len
      have hyl := KR.out.len
      by_cases hcut : C < 8 + len2
      · rw [if_pos hcut] at hq
        obtain ⟨A7, c7, he7, hd7, hb7⟩ := hq
        simp only [hxl] at he7
        have hd7 := hd7.1
        simp only [hxl] at hd7
        subst he7
        have hcut' : (C : Int) < 8 + (len2 : Int) := by omega
        have hne : ((s : Int) == (s : Int) + 1) = false := by simp; omega
        clear hcut
        have HBX := Lib.hid (heap_alloc_new w7 (.cells (nta (s : Nat) A7 len1 c7 ((8 + len1) : Nat)) 33))
        have hb78 := below_new w7 (.cells (nta (s : Nat) A7 len1 c7 ((8 + len1) : Nat)) 33)
        have HD8 := Lib.hid (hd7.below hb78)
        have HB8 := Lib.hid (HBR.out.trans ((below_step hb7 hb78).mono HBR.out.size))
        clear hd7 hb7 hb78 hxl hyl
        go_upto_region 15 with fail
        change Code.wp _ _ _ _ (w7.alloc (.cells (nta (s : Nat) A7 len1 c7 ((8 + len1) : Nat)) 33))
        generalize w7.alloc (.cells (nta (s : Nat) A7 len1 c7 ((8 + len1) : Nat)) 33) = w8 at *
        generalize w7.heap.size = g7 at *
        have hbx := HBX.out
        have y0 : w8.cell? ⟨g7, 0, none⟩ = some (.int .u32 (s : Nat)) := by simp [World.cell?, hbx]
        have y1 : w8.cell? ⟨g7, 1, none⟩ = some (.slice A7 len1 c7) := by simp [World.cell?, hbx]
        have y2 : w8.cell? ⟨g7, 2, none⟩ = some (.int .i64 ((8 + len1) : Nat)) := by simp [World.cell?, hbx]
        have k1 := by_string w8 A7 len1 c7 xs HD8.out.rb
        have k2 := by_string w8 a1 len1 cap1 xs (HR.out.below HB8.out).rb
        have k3 := by_string w8 a2 len2 cap2 ys (KR.out.below HB8.out).rb
        have HBE := Lib.hid (below_step HB.out HB8.out)
        clear hbx
        go_wp2_with fail
        go_ret
        exact ⟨rfl, HBE.out⟩
      · rw [if_neg hcut] at hq
        obtain ⟨A7, c7, he7, hd7, hb7⟩ := hq
        simp only [hyl] at he7
        have hd7 := hd7.1
        simp only [hyl] at hd7
        subst he7
        have hcut' : ¬ (C : Int) < 8 + (len2 : Int) := by omega
        have hcut2 : ((C : Int) == 8 + (len2 : Int)) = true := by have := HC.out; simp; omega
        have hne : ((s : Int) + 1 == (s : Int)) = false := by simp; omega
        have e3 : IntKind.i64.wrap (8 + (len1 : Int) + (8 + (len2 : Int))) = 8 + (len1 : Int) + (8 + (len2 : Int)) := by have := HN.out; simp [IntKind.wrap, IntKind.bits, IntKind.signed]; omega
        clear hcut
        have HBX := Lib.hid (heap_alloc_new w7 (.cells (nta ((s + 1) : Nat) A7 len2 c7 ((8 + len1 + (8 + len2)) : Nat)) 33))
        have hb78 := below_new w7 (.cells (nta ((s + 1) : Nat) A7 len2 c7 ((8 + len1 + (8 + len2)) : Nat)) 33)
        have HD8 := Lib.hid (hd7.below hb78)
        have HB8 := Lib.hid (HBR.out.trans ((below_step hb7 hb78).mono HBR.out.size))
        clear hd7 hb7 hb78 hxl hyl
        go_upto_region 15 with fail
        change Code.wp _ _ _ _ (w7.alloc (.cells (nta ((s + 1) : Nat) A7 len2 c7 ((8 + len1 + (8 + len2)) : Nat)) 33))
        generalize w7.alloc (.cells (nta ((s + 1) : Nat) A7 len2 c7 ((8 + len1 + (8 + len2)) : Nat)) 33) = w8 at *
        generalize w7.heap.size = g7 at *
        have hbx := HBX.out
        have y0 : w8.cell? ⟨g7, 0, none⟩ = some (.int .u32 ((s + 1) : Nat)) := by simp [World.cell?, hbx]
        have y1 : w8.cell? ⟨g7, 1, none⟩ = some (.slice A7 len2 c7) := by simp [World.cell?, hbx]
        have y2 : w8.cell? ⟨g7, 2, none⟩ = some (.int .i64 ((8 + len1 + (8 + len2)) : Nat)) := by simp [World.cell?, hbx]
        have k1 := by_string w8 A7 len2 c7 ys HD8.out.rb
        have k2 := by_string w8 a1 len1 cap1 xs (HR.out.below HB8.out).rb
        have k3 := by_string w8 a2 len2 cap2 ys (KR.out.below HB8.out).rb
        have HBE := Lib.hid (below_step HB.out HB8.out)
        clear hbx
        go_wp2_with fail
        go_ret
        exact ⟨rfl, HBE.out⟩
end Go.Proofs.Ytafpkfnegfjohaa
