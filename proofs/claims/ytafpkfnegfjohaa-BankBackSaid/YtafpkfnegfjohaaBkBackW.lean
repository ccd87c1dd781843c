/- The walk of BankBack. -/
import Derived.Test.YtafpkfnegfjohaaBkBackP
namespace Go.Proofs.Ytafpkfnegfjohaa
open Go Go.RowKit Go.Shelf
set_option linter.unusedVariables false
set_option linter.unusedSimpArgs false
set_option maxRecDepth 100000 in
set_option maxHeartbeats 8000000 in
theorem bankBack_walk (a0 : Int) (a1 : Option Addr) (len1 cap1 : Nat) (a2 : Int) (w : World) (w0 : (Lit.int .u32 a0).wf = true) (w1 : IsRows w a1 len1 cap1) (w2 : (Lit.int .i64 a2).wf = true) :
    Calls Try.prog 5 #[.int .u32 a0, .slice a1 len1 cap1, .int .i64 a2] w fun e w' => e = .returned (.bool true) ∧ Below w.heap.size w w' := by
  obtain ⟨s, rfl, hs⟩ := u32_of w0
  clear w0 w2
  by_cases h1 : 20 < len1
  · have h1' : (20 : Int) < len1 := by omega
    clear w1
    go_enter Try.func5, Try.ntmps5
    go_wp2_with fail
    refine (l_small16 _).mono ?_
    rintro e wa ⟨rfl, hb⟩
    have HB := Lib.hid hb
    clear hb
    go_wp2_with fail
    go_ret
    exact ⟨rfl, HB.out⟩
  have h1' : ¬ (20 : Int) < len1 := by omega
  by_cases h4 : a2 < 0
  · clear w1
    go_enter Try.func5, Try.ntmps5
    go_wp2_with fail
    refine (l_small16 _).mono ?_
    rintro e wa ⟨rfl, hb⟩
    have HB := Lib.hid hb
    clear hb
    go_wp2_with fail
    go_ret
    exact ⟨rfl, HB.out⟩
  by_cases h5 : 300 < a2
  · clear w1
    go_enter Try.func5, Try.ntmps5
    go_wp2_with fail
    refine (l_small16 _).mono ?_
    rintro e wa ⟨rfl, hb⟩
    have HB := Lib.hid hb
    clear hb
    go_wp2_with fail
    go_ret
    exact ⟨rfl, HB.out⟩
  by_cases h6 : 4294967266 < s
  · have h6' : (4294967266 : Int) < (s : Int) := by omega
    clear w1
    go_enter Try.func5, Try.ntmps5
    go_wp2_with fail
    refine (l_small16 _).mono ?_
    rintro e wa ⟨rfl, hb⟩
    have HB := Lib.hid hb
    clear hb
    go_wp2_with fail
    go_ret
    exact ⟨rfl, HB.out⟩
  have h6' : ¬ (4294967266 : Int) < (s : Int) := by omega
  obtain ⟨B, rfl⟩ : ∃ B : Nat, a2 = (B : Int) := ⟨a2.toNat, by omega⟩
  obtain ⟨rs, hre, hrs⟩ := w1.re (by omega)
  have HN := Lib.hid (show len1 ≤ 20 ∧ B ≤ 300 ∧ s ≤ 4294967266 by omega)
  have HRE := Lib.hid hre
  have HRS := Lib.hid hrs
  have HL := Lib.hid hre.len
  clear hre hrs w1
  go_enter Try.func5, Try.ntmps5
  go_wp2_with fail
  refine (l_small16 _).mono ?_
  rintro e wa ⟨rfl, hb⟩
  have HRE := Lib.hid (HRE.out.below hb)
  have HRS := Lib.hid (fun r hr => (HRS.out r hr).below hb)
  have HB := Lib.hid hb
  clear hb h1 h6 hs
  go_wp2_with fail
  go_loopw [8, 9, 10] (fun s8 s9 s10 wr => ∃ k : Nat, k ≤ len1 ∧ s10 = .int .i64 k ∧ (∀ d ∈ dsOf rs k, bkOk d = true) ∧ BB s wa wr s8 s9 (bkRows s (dsOf rs k)) (endsOf s (dsOf rs k))) (fun _ _ s10 _ => len1 - (intOf s10).toNat)
  case atStart => exact ⟨0, Nat.zero_le _, rfl, (fun d hd => by simp [dsOf] at hd), BB.start s wa⟩
  case round =>
    obtain ⟨k, hk, rfl, hok, hbb⟩ := hrel
    have HBB := Lib.hid hbb
    have HOK := Lib.hid hok
    clear hbb hok
    by_cases hlt : k < len1
    · have hlt' : (k : Int) < len1 := by omega
      have hkr : k < rs.length := by rw [HL.out]; exact hlt
      obtain ⟨b, off, rfl, hbl, _⟩ := HRE.out.cells (by omega)
      have he := HRE.out.elem brc_len k hkr
      have hrr := HRS.out rs[k] (List.getElem_mem hkr)
      have HSU := Lib.hid (dsOf_succ rs k hkr)
      generalize rs[k] = r at *
      have HRR := Lib.hid hrr
      have HE0 := Lib.hid (show wa.cell? ⟨b, off + k, none⟩ = some (.slice r.A r.n r.c) by have := he 0 _ rfl; simpa using this)
      have HBL := Lib.hid hbl
      have q0 := (HBB.out.bel.cell (p := ⟨b, off + k, none⟩) hbl).trans HE0.out
      have hn := HN.out
      have ek : IntKind.u32.wrap (k : Int) = (k : Int) := by simp [IntKind.wrap, IntKind.bits, IntKind.signed]; omega
      have ek2 : IntKind.u32.wrap ((s : Int) + (k : Int)) = (s : Int) + (k : Int) := by simp [IntKind.wrap, IntKind.bits, IntKind.signed]; omega
      have HSK := Lib.hid (show s + k < 4294967296 by omega)
      have HRW := Lib.hid (HRR.out.below HBB.out.bel)
      clear he hrr hbl hn hkr
      go_wp2_with fail
      have hpr := bk_print (s + k) r.A r.n r.c r.xs _ HRW.out HSK.out
      rw [show ((s + k : Nat) : Int) = (s : Int) + (k : Int) by omega] at hpr
      refine hpr.mono ?_
      rintro e wb ⟨v1, rfl, hown1, hb1⟩
      obtain ⟨A1, c1, rfl, r1⟩ := hown1.reads
      have R1 := Lib.hid r1
      have HBC := Lib.hid (HBB.out.step hb1)
      have q0 := (HBC.out.bel.cell (p := ⟨b, off + k, none⟩) HBL.out).trans HE0.out
      have hrl := HRR.out.len
      clear hpr hown1 r1 hb1
      cases hd : bkOk r.xs with
      | false =>
        have ho : bkOut (s + k) r.xs = [] := by simp [bkOut, hd]
        rw [ho, List.length_nil]
        have HBE := Lib.hid (below_step HB.out HBC.out.bel)
        by_cases hz : 1 ≤ r.n
        · have hz1 : 1 ≤ (r.n : Int) := by omega
          have hz2 : ¬ (r.n : Int) ≤ 40 := by
            intro h
            have : bkOk r.xs = true := by rw [bkOk_iff]; omega
            rw [hd] at this; cases this
          clear hd ho hz hrl
          go_wp2_with fail
          go_ret
          exact ⟨rfl, HBE.out⟩
        · have hz1 : ¬ 1 ≤ (r.n : Int) := by omega
          clear hd ho hz hrl
          go_wp2_with fail
          go_ret
          exact ⟨rfl, HBE.out⟩
      | true =>
        have hok2 := bkOk_iff.1 hd
        have hz1 : 1 ≤ (r.n : Int) := by omega
        have hz2 : (r.n : Int) ≤ 40 := by omega
        have ho : bkOut (s + k) r.xs = bkPrint (s + k) r.xs := bkOut_yes hd
        rw [ho] at R1 ⊢
        have hlp : (bkPrint (s + k) r.xs).length = 8 + r.n := by rw [bkPrint_len, hrl]
        rw [hlp] at R1 ⊢
        have HMX := Lib.hid (bkRows_max s (dsOf rs k) HOK.out)
        rw [dsOf_len rs k (by rw [HL.out]; omega)] at HMX
        have HRO := Lib.hid (show bkRows s (dsOf rs (k + 1)) = bkRows s (dsOf rs k) ++ bkPrint (s + k) r.xs by rw [HSU.out, bkRows_snoc, dsOf_len rs k (by rw [HL.out]; omega)])
        have HEN := Lib.hid (show endsOf s (dsOf rs (k + 1)) = endsOf s (dsOf rs k) ++ [(bkRows s (dsOf rs (k + 1))).length] by rw [HSU.out, endsOf_snoc])
        have HNL := Lib.hid (show (bkRows s (dsOf rs (k + 1))).length ≤ 2000 by rw [HRO.out, List.length_append, hlp]; have := HMX.out; omega)
        have HEL := Lib.hid (show (endsOf s (dsOf rs k)).length ≤ 20 by rw [endsOf_len, dsOf_len rs k (by rw [HL.out]; omega)]; have := HN.out; omega)
        have HOK2 := Lib.hid (show ∀ d ∈ dsOf rs (k + 1), bkOk d = true by
          intro d h9; rw [HSU.out, List.mem_append, List.mem_singleton] at h9; rcases h9 with h9 | rfl
          · exact HOK.out d h9
          · exact hd)
        clear hd ho hrl hok2 hlp
        go_wp2_with (at_builtin; first
          | (refine wpList_append_byf rfl _ _ rfl wa.heap.size HBC.out.bel.size _ _ rfl HBC.out.own _ _ _ (bkPrint (s + k) r.xs) rfl R1.out (by have := HMX.out; have := HN.out; omega) ?_; intro v8 w8 hown8 hb8 hg8 hf8; rw [← HRO.out] at hown8; have hbb8 := HBC.out.bytes hown8 hb8 hg8 hf8; obtain ⟨A8, c8, rfl, _⟩ := hown8.reads; have hbn := hbb8.step (below_new w8 (.cells #[.int .i64 ((bkRows s (dsOf rs (k + 1))).length : Nat)] 3)); have HBD := Lib.hid hbn; have HNW := Lib.hid (show RE ic (w8.alloc (.cells #[.int .i64 ((bkRows s (dsOf rs (k + 1))).length : Nat)] 3)) (some ⟨w8.heap.size, 0, none⟩) 1 1 [(bkRows s (dsOf rs (k + 1))).length] from re_lit (f := ic) (e := 3) ic_len w8 [(bkRows s (dsOf rs (k + 1))).length] (by simp)); clear hown8 hb8 hg8 hf8 hbb8 hbn HBC; generalize (bkRows s (dsOf rs (k + 1))).length = nl at *)
          | (refine wpList_append_fr icT ic_len ic_one rfl _ _ rfl _ (endsOf s (dsOf rs k)) rfl HBD.out.ends _ _ _ [nl] rfl HNW.out (by have := HEL.out; omega) (by have := HEL.out; omega) ?_; intro v9 w9 hown9 hg9 hf9; rw [← HEN.out] at hown9; have HBF := Lib.hid (HBD.out.endp hown9 hg9 hf9); clear hown9 hg9 hf9))
        exact ⟨⟨k + 1, by omega, by go_num, HOK2.out, HBF.out⟩, by simp [intOf]; omega⟩
    · obtain rfl : k = len1 := by omega
      have hkr : k ≤ rs.length := by rw [HL.out]; exact Nat.le_refl _
      have hdl := dsOf_len rs k hkr
      have hel : (endsOf s (dsOf rs k)).length = k := by rw [endsOf_len, hdl]
      have HXL := Lib.hid (show (bkRows s (dsOf rs k)).length ≤ 1000 by have := bkRows_max s (dsOf rs k) HOK.out; rw [hdl] at this; have := HN.out; omega)
      have HW := Lib.hid (bkNotes_rows s (dsOf rs k) B HOK.out (by rw [hdl]; have := HN.out; omega))
      have HWL := Lib.hid (show (bkWant s 0 (dsOf rs k)).length = k by rw [bkWant_len, hdl])
      have HBK := Lib.hid (bkBlank_rows (bkRows s (dsOf rs k)) B)
      have HAT := Lib.hid (show ∀ i (hi : i < k), ∃ e : Nat, e ≤ 1000 ∧ (bkWant s 0 (dsOf rs k))[i]? = some ⟨s + i, (rs[i]'(Nat.lt_of_lt_of_le hi hkr)).xs, e⟩ ∧ (endsOf s (dsOf rs k))[i]? = some e ∧ (i + 1 = k → e = (bkRows s (dsOf rs k)).length) by
        intro i hi
        have h1 := bkWant_get s 0 (dsOf rs k) i (by rw [hdl]; exact hi)
        have h2 := endsOf_get s (dsOf rs k) i (by rw [hdl]; exact hi)
        have h3 := dsOf_get rs k i hkr hi
        rw [List.getElem?_eq_getElem (by rw [hdl]; exact hi)] at h3
        rw [Option.some.inj h3, Nat.zero_add] at h1
        refine ⟨_, ?_, h1, h2, fun h => by rw [h, List.take_of_length_le (by rw [hdl]; exact Nat.le_refl _)]⟩
        have h4 := bkRows_max s ((dsOf rs k).take (i + 1)) (fun d h => HOK.out d (List.mem_of_mem_take h))
        rw [List.length_take, hdl] at h4
        have := HN.out
        omega)
      have HX0 := Lib.hid (show k = 0 → (bkRows s (dsOf rs k)).length = 0 from fun h => by rw [h]; rfl)
      obtain ⟨A9, c9, e9, _⟩ := HBB.out.ends.re (by rw [hel]; omega)
      subst e9
      rw [hel] at HBB ⊢
      clear hdl HOK
      generalize bkWant s 0 (dsOf rs k) = W at *
      generalize endsOf s (dsOf rs k) = E at *
      generalize bkRows s (dsOf rs k) = X at *
      have HEL := Lib.hid hel
      clear hel hk hlt
      go_wp2_with fail
      go_loopw [8, 13] (fun s8 s13 wr => ∃ j : Nat, j ≤ B ∧ s13 = .int .i64 j ∧ BB s wa wr s8 (.slice A9 k c9) (X ++ List.replicate j 255) E) (fun _ s13 _ => B - (intOf s13).toNat)
      case atStart => exact ⟨0, Nat.zero_le _, rfl, by rw [List.replicate_zero, List.append_nil]; exact HBB.out⟩
      case round =>
        obtain ⟨j, hj, rfl, hbj⟩ := hrel
        by_cases hjl : j < B
        · have hjl' : (j : Int) < B := by omega
          have HBN := Lib.hid (hbj.step (below_new wr (.cells #[.int .u8 255] 5)))
          have HF := Lib.hid (show RS (wr.alloc (.cells #[.int .u8 255] 5)) (some ⟨wr.heap.size, 0, none⟩) 1 1 [255] from rs_new wr [255] 5 (by decide))
          have HLN := Lib.hid (show (X ++ List.replicate j 255).length + 1 ≤ 5000 by have := HXL.out; have := HN.out; rw [List.length_append, List.length_replicate]; omega)
          have hB := HN.out.2.1
          clear hbj
          go_wp2_with (at_builtin; go_must (refine wpList_append_byf rfl _ _ rfl wa.heap.size HBN.out.bel.size _ _ rfl HBN.out.own _ _ _ [255] rfl HF.out (by have := HLN.out; omega) ?_); intro v9 w9 hown9 hb9 hg9 hf9)
          exact ⟨⟨j + 1, by omega, by go_num, by rw [List.replicate_succ', ← List.append_assoc]; exact HBN.out.bytes hown9 hb9 hg9 hf9⟩, by simp [intOf]; omega⟩
        · obtain rfl : j = B := by omega
          have HBJ := Lib.hid hbj
          have HLZ := Lib.hid (show (X ++ List.replicate j 255).length ≤ 5000 by have := HXL.out; have := HN.out; rw [List.length_append, List.length_replicate]; omega)
          generalize X ++ List.replicate j 255 = Z at *
          obtain ⟨A8, c8, rfl, r8⟩ := hbj.own.reads
          have R8 := Lib.hid r8
          generalize Z.length = n8 at *
          clear hbj r8
          go_wp2_with fail
          refine (bk_notes A8 n8 c8 Z _ R8.out (by have := HLZ.out; omega)).mono ?_
          rintro e w2 ⟨v5, ys, rfl, hys, hnt, hb2⟩
          rw [HW.out] at hys
          have hyl : ys.length = k := by rw [← HWL.out, ← hys, List.length_map]
          obtain ⟨A5, c5, rfl, _⟩ := hnt.own.re (by rw [hyl]; omega)
          rw [hyl] at hnt ⊢
          have HNT := Lib.hid hnt
          have HYS := Lib.hid hys
          have HYL := Lib.hid hyl
          have HBJ := Lib.hid (HBJ.out.step hb2)
          have R8 := Lib.hid (R8.out.below hb2)
          clear hnt hys hb2 hyl
          go_wp2_with fail
          go_loopw [15] (fun s15 wr => ∃ i : Nat, i ≤ k ∧ s15 = .int .i64 i ∧ Below w2.heap.size w2 wr) (fun s15 _ => k - (intOf s15).toNat)
          case atStart => exact ⟨0, Nat.zero_le _, rfl, Below.refl _ _⟩
          case round =>
            obtain ⟨i, hi, rfl, hbr⟩ := hrel
            have HBR := Lib.hid hbr
            clear hbr
            by_cases hil : i < k
            · have hil' : (i : Int) < k := by omega
              obtain ⟨e, he9, hw, hen, _⟩ := HAT.out i hil
              have hiy : i < ys.length := by rw [HYL.out]; exact hil
              have hir : i < rs.length := Nat.lt_of_lt_of_le hil hkr
              have hl := nv_nt HYS.out i hiy
              have hxt : ys[i].nt = ⟨s + i, rs[i].xs, e⟩ := Option.some.inj (hl.symm.trans hw)
              obtain ⟨g, rfl, hg, hre⟩ := nts_elem HNT.out (by rw [HYL.out]; omega) i hiy
              have hd := (HNT.out.dat ys[i] (List.getElem_mem hiy)).1.1
              obtain ⟨b, off, rfl, hbl, _⟩ := HRE.out.cells (by omega)
              have hrow := HRE.out.elem brc_len i hir
              have hrr := HRS.out rs[i] (List.getElem_mem hir)
              obtain ⟨A9', c9', e9', hr9, _, ha9⟩ := HBJ.out.ends.re (by rw [HEL.out]; omega)
              rw [HEL.out] at e9' hr9
              cases e9'
              obtain ⟨g9, o9, rfl, hg9, _⟩ := hr9.cells (by omega)
              obtain ⟨ho9, _⟩ := ha9 _ rfl
              simp only at ho9
              subst ho9
              have hend := hr9.elem ic_len i (by rw [HEL.out]; exact hil)
              have hE : E[i]'(by rw [HEL.out]; exact hil) = e := by rw [List.getElem?_eq_getElem (by rw [HEL.out]; exact hil)] at hen; exact Option.some.inj hen
              rw [hE] at hend
              generalize ys[i] = x at *
              generalize rs[i] = r at *
              have hrl := hrr.len
              rw [hxt] at hd
              simp only [hrl] at hd
              have q0 : ∀ w', Below wr.heap.size wr w' → w'.cell? ⟨g, i * 3, none⟩ = some (.int .u32 ((s : Int) + (i : Int))) := fun w' hb => ((below_step HBR.out hb).cell (p := ⟨g, i * 3, none⟩) hg).trans ((hre 0 _ rfl).trans (by rw [hxt]; simp))
              have q1 : ∀ w', Below wr.heap.size wr w' → w'.cell? ⟨g, i * 3 + 1, none⟩ = some (.slice x.A r.n x.c) := fun w' hb => ((below_step HBR.out hb).cell (p := ⟨g, i * 3 + 1, none⟩) hg).trans ((hre 1 _ rfl).trans (by rw [hxt]; simp [hrl]))
              have q2 : ∀ w', Below wr.heap.size wr w' → w'.cell? ⟨g, i * 3 + 2, none⟩ = some (.int .i64 (e : Int)) := fun w' hb => ((below_step HBR.out hb).cell (p := ⟨g, i * 3 + 2, none⟩) hg).trans ((hre 2 _ rfl).trans (by rw [hxt]))
              have HWA := Lib.hid (HBJ.out.bel.trans (HBR.out.mono HBJ.out.bel.size))
              have p1 : ∀ w', Below wr.heap.size wr w' → w'.cell? ⟨b, off + i, none⟩ = some (.slice r.A r.n r.c) := fun w' hb => ((below_step HWA.out hb).cell (p := ⟨b, off + i, none⟩) hbl).trans (by have := hrow 0 _ rfl; simpa using this)
              have t1 : ∀ w', Below wr.heap.size wr w' → w'.cell? ⟨g9, i, none⟩ = some (.int .i64 (e : Int)) := fun w' hb => ((below_step HBR.out hb).cell (p := ⟨g9, i, none⟩) hg9).trans (by have := hend 0 _ rfl; simpa using this)
              have k1 := by_string_of wr x.A r.n x.c r.xs (hd.below HBR.out).rb
              have k2 := by_string_of wr r.A r.n r.c r.xs (hrr.below HWA.out).rb
              have hn := HN.out
              have ek : IntKind.u32.wrap (i : Int) = (i : Int) := by simp [IntKind.wrap, IntKind.bits, IntKind.signed]; omega
              have ek2 : IntKind.u32.wrap ((s : Int) + (i : Int)) = (s : Int) + (i : Int) := by simp [IntKind.wrap, IntKind.bits, IntKind.signed]; omega
              have HIL := Lib.hid hil
              have HK20 := Lib.hid hn.1
              generalize strB r.xs = S9 at *
              clear he9 hw hen hiy hir hl hxt hg hre hd hbl hrow hrr hr9 ha9 hg9 hend hE hrl hn
              go_upto_region 26 with fail
              have hS0 := below_drew1 wr
              refine wp_region_held (S := fun w' => Below wr.heap.size wr w') (by kernel_rfl) ?_
              change wpAnyH _ _ _ _ _ _ _ _ wr.drew
              change wpAnyH _ _ _ _ _ 36 (Array.replicate 36 false) _ _
              refine wpAnyH_take (i := 0) (oi := ?_) (v := ?_) ?_ (by kernel_rfl) (by kernel_rfl) (by kernel_rfl) ?_ ?_ (by assumption) ?_
              rotate_left 2; (simp only [List.getElem?_toArray, List.getElem?_cons_succ, List.getElem?_cons_zero]; rfl)
              rotate_left; (first | (refine .inl ⟨by rfl, ?_⟩; intro w9 hS9; go_simp; try with_reducible rfl) | (refine .inr ⟨by rfl, ?_⟩; with_reducible rfl))
              rotate_left; (intro _ _ _ h9; exact h9)
              try simp only [Act.put, List.setIfInBounds_toArray, List.set_cons_zero, List.set_cons_succ]
              refine wpAnyH_take (i := 1) (oi := ?_) (v := ?_) ?_ (by kernel_rfl) (by kernel_rfl) (by kernel_rfl) ?_ ?_ (by assumption) ?_
              rotate_left 2; (simp only [List.getElem?_toArray, List.getElem?_cons_succ, List.getElem?_cons_zero]; rfl)
              rotate_left; (first | (refine .inl ⟨by rfl, ?_⟩; intro w9 hS9; go_simp; try with_reducible rfl) | (refine .inr ⟨by rfl, ?_⟩; with_reducible rfl))
              rotate_left; (intro _ _ _ h9; exact h9)
              try simp only [Act.put, List.setIfInBounds_toArray, List.set_cons_zero, List.set_cons_succ]
              refine wpAnyH_take (i := 2) (oi := ?_) (v := ?_) ?_ (by kernel_rfl) (by kernel_rfl) (by kernel_rfl) ?_ ?_ (by assumption) ?_
              rotate_left 2; (simp only [List.getElem?_toArray, List.getElem?_cons_succ, List.getElem?_cons_zero]; rfl)
              rotate_left; (first | (refine .inl ⟨by rfl, ?_⟩; intro w9 hS9; go_simp; try with_reducible rfl) | (refine .inr ⟨by rfl, ?_⟩; with_reducible rfl))
              rotate_left; (intro _ _ _ h9; exact h9)
              try simp only [Act.put, List.setIfInBounds_toArray, List.set_cons_zero, List.set_cons_succ]
              refine wpAnyH_take (i := 3) (oi := ?_) (v := ?_) ?_ (by kernel_rfl) (by kernel_rfl) (by kernel_rfl) ?_ ?_ (by assumption) ?_
              rotate_left 2; (simp only [List.getElem?_toArray, List.getElem?_cons_succ, List.getElem?_cons_zero]; rfl)
              rotate_left; (first | (refine .inl ⟨by rfl, ?_⟩; intro w9 hS9; go_simp; try with_reducible rfl) | (refine .inr ⟨by rfl, ?_⟩; with_reducible rfl))
              rotate_left; (intro _ _ _ h9; exact h9)
              try simp only [Act.put, List.setIfInBounds_toArray, List.set_cons_zero, List.set_cons_succ]
              refine wpAnyH_take (i := 4) (oi := ?_) (v := ?_) ?_ (by kernel_rfl) (by kernel_rfl) (by kernel_rfl) ?_ ?_ (by assumption) ?_
              rotate_left 2; (simp only [List.getElem?_toArray, List.getElem?_cons_succ, List.getElem?_cons_zero]; rfl)
              rotate_left; (first | (refine .inl ⟨by rfl, ?_⟩; intro w9 hS9; go_simp; try with_reducible rfl) | (refine .inr ⟨by rfl, ?_⟩; with_reducible rfl))
              rotate_left; (intro _ _ _ h9; exact h9)
              try simp only [Act.put, List.setIfInBounds_toArray, List.set_cons_zero, List.set_cons_succ]
              refine wpAnyH_take (i := 5) (oi := ?_) (v := ?_) ?_ (by kernel_rfl) (by kernel_rfl) (by kernel_rfl) ?_ ?_ (by assumption) ?_
              rotate_left 2; (simp only [List.getElem?_toArray, List.getElem?_cons_succ, List.getElem?_cons_zero]; rfl)
              rotate_left; (first | (refine .inl ⟨by rfl, ?_⟩; intro w9 hS9; go_simp; try with_reducible rfl) | (refine .inr ⟨by rfl, ?_⟩; with_reducible rfl))
              rotate_left; (intro _ _ _ h9; exact h9)
              try simp only [Act.put, List.setIfInBounds_toArray, List.set_cons_zero, List.set_cons_succ]
              refine wpAnyH_take (i := 6) (oi := ?_) (v := ?_) ?_ (by kernel_rfl) (by kernel_rfl) (by kernel_rfl) ?_ ?_ (by assumption) ?_
              rotate_left 2; (simp only [List.getElem?_toArray, List.getElem?_cons_succ, List.getElem?_cons_zero]; rfl)
              rotate_left; (first | (refine .inl ⟨by rfl, ?_⟩; intro w9 hS9; go_simp; try with_reducible rfl) | (refine .inr ⟨by rfl, ?_⟩; with_reducible rfl))
              rotate_left; (intro _ _ _ h9; exact h9)
              try simp only [Act.put, List.setIfInBounds_toArray, List.set_cons_zero, List.set_cons_succ]
              refine wpAnyH_take (i := 7) (oi := ?_) (v := ?_) ?_ (by kernel_rfl) (by kernel_rfl) (by kernel_rfl) ?_ ?_ (by assumption) ?_
              rotate_left 2; (simp only [List.getElem?_toArray, List.getElem?_cons_succ, List.getElem?_cons_zero]; rfl)
              rotate_left; (first | (refine .inl ⟨by rfl, ?_⟩; intro w9 hS9; go_simp; try with_reducible rfl) | (refine .inr ⟨by rfl, ?_⟩; with_reducible rfl))
              rotate_left; (intro _ _ _ h9; exact h9)
              try simp only [Act.put, List.setIfInBounds_toArray, List.set_cons_zero, List.set_cons_succ]
              refine wpAnyH_take (i := 8) (oi := ?_) (v := ?_) ?_ (by kernel_rfl) (by kernel_rfl) (by kernel_rfl) ?_ ?_ (by assumption) ?_
              rotate_left 2; (simp only [List.getElem?_toArray, List.getElem?_cons_succ, List.getElem?_cons_zero]; rfl)
              rotate_left; (first | (refine .inl ⟨by rfl, ?_⟩; intro w9 hS9; go_simp; try with_reducible rfl) | (refine .inr ⟨by rfl, ?_⟩; with_reducible rfl))
              rotate_left; (intro _ _ _ h9; exact h9)
              try simp only [Act.put, List.setIfInBounds_toArray, List.set_cons_zero, List.set_cons_succ]
              refine wpAnyH_take (i := 9) (oi := ?_) (v := ?_) ?_ (by kernel_rfl) (by kernel_rfl) (by kernel_rfl) ?_ ?_ (by assumption) ?_
              rotate_left 2; (simp only [List.getElem?_toArray, List.getElem?_cons_succ, List.getElem?_cons_zero]; rfl)
              rotate_left; (first | (refine .inl ⟨by rfl, ?_⟩; intro w9 hS9; go_simp; try with_reducible rfl) | (refine .inr ⟨by rfl, ?_⟩; with_reducible rfl))
              rotate_left; (intro _ _ _ h9; exact h9)
              try simp only [Act.put, List.setIfInBounds_toArray, List.set_cons_zero, List.set_cons_succ]
              refine wpAnyH_take (i := 10) (oi := ?_) (v := ?_) ?_ (by kernel_rfl) (by kernel_rfl) (by kernel_rfl) ?_ ?_ (by assumption) ?_
              rotate_left 2; (simp only [List.getElem?_toArray, List.getElem?_cons_succ, List.getElem?_cons_zero]; rfl)
              rotate_left; (first | (refine .inl ⟨by rfl, ?_⟩; intro w9 hS9; go_simp; try with_reducible rfl) | (refine .inr ⟨by rfl, ?_⟩; with_reducible rfl))
              rotate_left; (intro _ _ _ h9; exact h9)
              try simp only [Act.put, List.setIfInBounds_toArray, List.set_cons_zero, List.set_cons_succ]
              refine wpAnyH_take (i := 11) (oi := ?_) (v := ?_) ?_ (by kernel_rfl) (by kernel_rfl) (by kernel_rfl) ?_ ?_ (by assumption) ?_
              rotate_left 2; (simp only [List.getElem?_toArray, List.getElem?_cons_succ, List.getElem?_cons_zero]; rfl)
              rotate_left; (first | (refine .inl ⟨by rfl, ?_⟩; intro w9 hS9; go_simp; try with_reducible rfl) | (refine .inr ⟨by rfl, ?_⟩; with_reducible rfl))
              rotate_left; (intro _ _ _ h9; exact h9)
              try simp only [Act.put, List.setIfInBounds_toArray, List.set_cons_zero, List.set_cons_succ]
              refine wpAnyH_take (i := 12) (oi := ?_) (v := ?_) ?_ (by kernel_rfl) (by kernel_rfl) (by kernel_rfl) ?_ ?_ (by assumption) ?_
              rotate_left 2; (simp only [List.getElem?_toArray, List.getElem?_cons_succ, List.getElem?_cons_zero]; rfl)
              rotate_left; (first | (refine .inl ⟨by rfl, ?_⟩; intro w9 hS9; go_simp; try with_reducible rfl) | (refine .inr ⟨by rfl, ?_⟩; with_reducible rfl))
              rotate_left; (intro _ _ _ h9; exact h9)
              try simp only [Act.put, List.setIfInBounds_toArray, List.set_cons_zero, List.set_cons_succ]
              refine wpAnyH_take (i := 13) (oi := ?_) (v := ?_) ?_ (by kernel_rfl) (by kernel_rfl) (by kernel_rfl) ?_ ?_ (by assumption) ?_
              rotate_left 2; (simp only [List.getElem?_toArray, List.getElem?_cons_succ, List.getElem?_cons_zero]; rfl)
              rotate_left; (first | (refine .inl ⟨by rfl, ?_⟩; intro w9 hS9; go_simp; try with_reducible rfl) | (refine .inr ⟨by rfl, ?_⟩; with_reducible rfl))
              rotate_left; (intro _ _ _ h9; exact h9)
              try simp only [Act.put, List.setIfInBounds_toArray, List.set_cons_zero, List.set_cons_succ]
              refine wpAnyH_take (i := 14) (oi := ?_) (v := ?_) ?_ (by kernel_rfl) (by kernel_rfl) (by kernel_rfl) ?_ ?_ (by assumption) ?_
              rotate_left 2; (simp only [List.getElem?_toArray, List.getElem?_cons_succ, List.getElem?_cons_zero]; rfl)
              rotate_left; (first | (refine .inl ⟨by rfl, ?_⟩; intro w9 hS9; go_simp; try with_reducible rfl) | (refine .inr ⟨by rfl, ?_⟩; with_reducible rfl))
              rotate_left; (intro _ _ _ h9; exact h9)
              try simp only [Act.put, List.setIfInBounds_toArray, List.set_cons_zero, List.set_cons_succ]
              refine wpAnyH_take (i := 15) (oi := ?_) (v := ?_) ?_ (by kernel_rfl) (by kernel_rfl) (by kernel_rfl) ?_ ?_ (by assumption) ?_
              rotate_left 2; (simp only [List.getElem?_toArray, List.getElem?_cons_succ, List.getElem?_cons_zero]; rfl)
              rotate_left; (first | (refine .inl ⟨by rfl, ?_⟩; intro w9 hS9; go_simp; try with_reducible rfl) | (refine .inr ⟨by rfl, ?_⟩; with_reducible rfl))
              rotate_left; (intro _ _ _ h9; exact h9)
              try simp only [Act.put, List.setIfInBounds_toArray, List.set_cons_zero, List.set_cons_succ]
              refine wpAnyH_take (i := 16) (oi := ?_) (v := ?_) ?_ (by kernel_rfl) (by kernel_rfl) (by kernel_rfl) ?_ ?_ (by assumption) ?_
              rotate_left 2; (simp only [List.getElem?_toArray, List.getElem?_cons_succ, List.getElem?_cons_zero]; rfl)
              rotate_left; (first | (refine .inl ⟨by rfl, ?_⟩; intro w9 hS9; go_simp; try with_reducible rfl) | (refine .inr ⟨by rfl, ?_⟩; with_reducible rfl))
              rotate_left; (intro _ _ _ h9; exact h9)
              try simp only [Act.put, List.setIfInBounds_toArray, List.set_cons_zero, List.set_cons_succ]
              refine wpAnyH_take (i := 17) (oi := ?_) (v := ?_) ?_ (by kernel_rfl) (by kernel_rfl) (by kernel_rfl) ?_ ?_ (by assumption) ?_
              rotate_left 2; (simp only [List.getElem?_toArray, List.getElem?_cons_succ, List.getElem?_cons_zero]; rfl)
              rotate_left; (first | (refine .inl ⟨by rfl, ?_⟩; intro w9 hS9; go_simp; try with_reducible rfl) | (refine .inr ⟨by rfl, ?_⟩; with_reducible rfl))
              rotate_left; (intro _ _ _ h9; exact h9)
              try simp only [Act.put, List.setIfInBounds_toArray, List.set_cons_zero, List.set_cons_succ]
              refine wpAnyH_take (i := 18) (oi := ?_) (v := ?_) ?_ (by kernel_rfl) (by kernel_rfl) (by kernel_rfl) ?_ ?_ (by assumption) ?_
              rotate_left 2; (simp only [List.getElem?_toArray, List.getElem?_cons_succ, List.getElem?_cons_zero]; rfl)
              rotate_left; (first | (refine .inl ⟨by rfl, ?_⟩; intro w9 hS9; go_simp; try with_reducible rfl) | (refine .inr ⟨by rfl, ?_⟩; with_reducible rfl))
              rotate_left; (intro _ _ _ h9; exact h9)
              try simp only [Act.put, List.setIfInBounds_toArray, List.set_cons_zero, List.set_cons_succ]
              refine wpAnyH_take (i := 19) (oi := ?_) (v := ?_) ?_ (by kernel_rfl) (by kernel_rfl) (by kernel_rfl) ?_ ?_ (by assumption) ?_
              rotate_left 2; (simp only [List.getElem?_toArray, List.getElem?_cons_succ, List.getElem?_cons_zero]; rfl)
              rotate_left; (first | (refine .inl ⟨by rfl, ?_⟩; intro w9 hS9; go_simp; try with_reducible rfl) | (refine .inr ⟨by rfl, ?_⟩; with_reducible rfl))
              rotate_left; (intro _ _ _ h9; exact h9)
              try simp only [Act.put, List.setIfInBounds_toArray, List.set_cons_zero, List.set_cons_succ]
              refine wpAnyH_take (i := 20) (oi := ?_) (v := ?_) ?_ (by kernel_rfl) (by kernel_rfl) (by kernel_rfl) ?_ ?_ (by assumption) ?_
              rotate_left 2; (simp only [List.getElem?_toArray, List.getElem?_cons_succ, List.getElem?_cons_zero]; rfl)
              rotate_left; (first | (refine .inl ⟨by rfl, ?_⟩; intro w9 hS9; go_simp; try with_reducible rfl) | (refine .inr ⟨by rfl, ?_⟩; with_reducible rfl))
              rotate_left; (intro _ _ _ h9; exact h9)
              try simp only [Act.put, List.setIfInBounds_toArray, List.set_cons_zero, List.set_cons_succ]
              refine wpAnyH_take (i := 21) (oi := ?_) (v := ?_) ?_ (by kernel_rfl) (by kernel_rfl) (by kernel_rfl) ?_ ?_ (by assumption) ?_
              rotate_left 2; (simp only [List.getElem?_toArray, List.getElem?_cons_succ, List.getElem?_cons_zero]; rfl)
              rotate_left; (first | (refine .inl ⟨by rfl, ?_⟩; intro w9 hS9; go_simp; try with_reducible rfl) | (refine .inr ⟨by rfl, ?_⟩; with_reducible rfl))
              rotate_left; (intro _ _ _ h9; exact h9)
              try simp only [Act.put, List.setIfInBounds_toArray, List.set_cons_zero, List.set_cons_succ]
              refine wpAnyH_take (i := 22) (oi := ?_) (v := ?_) ?_ (by kernel_rfl) (by kernel_rfl) (by kernel_rfl) ?_ ?_ (by assumption) ?_
              rotate_left 2; (simp only [List.getElem?_toArray, List.getElem?_cons_succ, List.getElem?_cons_zero]; rfl)
              rotate_left; (first | (refine .inl ⟨by rfl, ?_⟩; intro w9 hS9; go_simp; try with_reducible rfl) | (refine .inr ⟨by rfl, ?_⟩; with_reducible rfl))
              rotate_left; (intro _ _ _ h9; exact h9)
              try simp only [Act.put, List.setIfInBounds_toArray, List.set_cons_zero, List.set_cons_succ]
              refine wpAnyH_take (i := 23) (oi := ?_) (v := ?_) ?_ (by kernel_rfl) (by kernel_rfl) (by kernel_rfl) ?_ ?_ (by assumption) ?_
              rotate_left 2; (simp only [List.getElem?_toArray, List.getElem?_cons_succ, List.getElem?_cons_zero]; rfl)
              rotate_left; (first | (refine .inl ⟨by rfl, ?_⟩; intro w9 hS9; go_simp; try with_reducible rfl) | (refine .inr ⟨by rfl, ?_⟩; with_reducible rfl))
              rotate_left; (intro _ _ _ h9; exact h9)
              try simp only [Act.put, List.setIfInBounds_toArray, List.set_cons_zero, List.set_cons_succ]
              refine wpAnyH_take (i := 24) (oi := ?_) (v := ?_) ?_ (by kernel_rfl) (by kernel_rfl) (by kernel_rfl) ?_ ?_ (by assumption) ?_
              rotate_left 2; (simp only [List.getElem?_toArray, List.getElem?_cons_succ, List.getElem?_cons_zero]; rfl)
              rotate_left; (first | (refine .inl ⟨by rfl, ?_⟩; intro w9 hS9; go_simp; try with_reducible rfl) | (refine .inr ⟨by rfl, ?_⟩; with_reducible rfl))
              rotate_left; (intro _ _ _ h9; exact h9)
              try simp only [Act.put, List.setIfInBounds_toArray, List.set_cons_zero, List.set_cons_succ]
              refine wpAnyH_take (i := 25) (oi := ?_) (v := ?_) ?_ (by kernel_rfl) (by kernel_rfl) (by kernel_rfl) ?_ ?_ (by assumption) ?_
              rotate_left 2; (simp only [List.getElem?_toArray, List.getElem?_cons_succ, List.getElem?_cons_zero]; rfl)
              rotate_left; (first | (refine .inl ⟨by rfl, ?_⟩; intro w9 hS9; go_simp; try with_reducible rfl) | (refine .inr ⟨by rfl, ?_⟩; with_reducible rfl))
              rotate_left; (intro _ _ _ h9; exact h9)
              try simp only [Act.put, List.setIfInBounds_toArray, List.set_cons_zero, List.set_cons_succ]
              refine wpAnyH_take (i := 26) (oi := ?_) (v := ?_) ?_ (by kernel_rfl) (by kernel_rfl) (by kernel_rfl) ?_ ?_ (by assumption) ?_
              rotate_left 2; (simp only [List.getElem?_toArray, List.getElem?_cons_succ, List.getElem?_cons_zero]; rfl)
              rotate_left; (first | (refine .inl ⟨by rfl, ?_⟩; intro w9 hS9; go_simp; try with_reducible rfl) | (refine .inr ⟨by rfl, ?_⟩; with_reducible rfl))
              rotate_left; (intro _ _ _ h9; exact h9)
              try simp only [Act.put, List.setIfInBounds_toArray, List.set_cons_zero, List.set_cons_succ]
              refine wpAnyH_take (i := 27) (oi := ?_) (v := ?_) ?_ (by kernel_rfl) (by kernel_rfl) (by kernel_rfl) ?_ ?_ (by assumption) ?_
              rotate_left 2; (simp only [List.getElem?_toArray, List.getElem?_cons_succ, List.getElem?_cons_zero]; rfl)
              rotate_left; (first | (refine .inl ⟨by rfl, ?_⟩; intro w9 hS9; go_simp; try with_reducible rfl) | (refine .inr ⟨by rfl, ?_⟩; with_reducible rfl))
              rotate_left; (intro _ _ _ h9; exact h9)
              try simp only [Act.put, List.setIfInBounds_toArray, List.set_cons_zero, List.set_cons_succ]
              refine wpAnyH_take (i := 28) (oi := ?_) (v := ?_) ?_ (by kernel_rfl) (by kernel_rfl) (by kernel_rfl) ?_ ?_ (by assumption) ?_
              rotate_left 2; (simp only [List.getElem?_toArray, List.getElem?_cons_succ, List.getElem?_cons_zero]; rfl)
              rotate_left; (first | (refine .inl ⟨by rfl, ?_⟩; intro w9 hS9; go_simp; try with_reducible rfl) | (refine .inr ⟨by rfl, ?_⟩; with_reducible rfl))
              rotate_left; (intro _ _ _ h9; exact h9)
              try simp only [Act.put, List.setIfInBounds_toArray, List.set_cons_zero, List.set_cons_succ]
              refine wpAnyH_take (i := 29) (oi := ?_) (v := ?_) ?_ (by kernel_rfl) (by kernel_rfl) (by kernel_rfl) ?_ ?_ (by assumption) ?_
              rotate_left 2; (simp only [List.getElem?_toArray, List.getElem?_cons_succ, List.getElem?_cons_zero]; rfl)
              rotate_left; (first | (refine .inl ⟨by rfl, ?_⟩; intro w9 hS9; go_simp; try with_reducible rfl) | (refine .inr ⟨by rfl, ?_⟩; with_reducible rfl))
              rotate_left; (intro _ _ _ h9; exact h9)
              try simp only [Act.put, List.setIfInBounds_toArray, List.set_cons_zero, List.set_cons_succ]
              refine wpAnyH_take (i := 30) (oi := ?_) (v := ?_) ?_ (by kernel_rfl) (by kernel_rfl) (by kernel_rfl) ?_ ?_ (by assumption) ?_
              rotate_left 2; (simp only [List.getElem?_toArray, List.getElem?_cons_succ, List.getElem?_cons_zero]; rfl)
              rotate_left; (first | (refine .inl ⟨by rfl, ?_⟩; intro w9 hS9; go_simp; try with_reducible rfl) | (refine .inr ⟨by rfl, ?_⟩; with_reducible rfl))
              rotate_left; (intro _ _ _ h9; exact h9)
              try simp only [Act.put, List.setIfInBounds_toArray, List.set_cons_zero, List.set_cons_succ]
              refine wpAnyH_take (i := 31) (oi := ?_) (v := ?_) ?_ (by kernel_rfl) (by kernel_rfl) (by kernel_rfl) ?_ ?_ (by assumption) ?_
              rotate_left 2; (simp only [List.getElem?_toArray, List.getElem?_cons_succ, List.getElem?_cons_zero]; rfl)
              rotate_left; (first | (refine .inl ⟨by rfl, ?_⟩; intro w9 hS9; go_simp; try with_reducible rfl) | (refine .inr ⟨by rfl, ?_⟩; with_reducible rfl))
              rotate_left; (intro _ _ _ h9; exact h9)
              try simp only [Act.put, List.setIfInBounds_toArray, List.set_cons_zero, List.set_cons_succ]
              refine wpAnyH_take (i := 32) (oi := ?_) (v := ?_) ?_ (by kernel_rfl) (by kernel_rfl) (by kernel_rfl) ?_ ?_ (by assumption) ?_
              rotate_left 2; (simp only [List.getElem?_toArray, List.getElem?_cons_succ, List.getElem?_cons_zero]; rfl)
              rotate_left; (first | (refine .inl ⟨by rfl, ?_⟩; intro w9 hS9; go_simp; try with_reducible rfl) | (refine .inr ⟨by rfl, ?_⟩; with_reducible rfl))
              rotate_left; (intro _ _ _ h9; exact h9)
              try simp only [Act.put, List.setIfInBounds_toArray, List.set_cons_zero, List.set_cons_succ]
              refine wpAnyH_take (i := 33) (oi := ?_) (v := ?_) ?_ (by kernel_rfl) (by kernel_rfl) (by kernel_rfl) ?_ ?_ (by assumption) ?_
              rotate_left 2; (simp only [List.getElem?_toArray, List.getElem?_cons_succ, List.getElem?_cons_zero]; rfl)
              rotate_left; (first | (refine .inl ⟨by rfl, ?_⟩; intro w9 hS9; go_simp; try with_reducible rfl) | (refine .inr ⟨by rfl, ?_⟩; with_reducible rfl))
              rotate_left; (intro _ _ _ h9; exact h9)
              try simp only [Act.put, List.setIfInBounds_toArray, List.set_cons_zero, List.set_cons_succ]
              refine wpAnyH_take (i := 34) (oi := ?_) (v := ?_) ?_ (by kernel_rfl) (by kernel_rfl) (by kernel_rfl) ?_ ?_ (by assumption) ?_
              rotate_left 2; (simp only [List.getElem?_toArray, List.getElem?_cons_succ, List.getElem?_cons_zero]; rfl)
              rotate_left; (first | (refine .inl ⟨by rfl, ?_⟩; intro w9 hS9; go_simp; try with_reducible rfl) | (refine .inr ⟨by rfl, ?_⟩; with_reducible rfl))
              rotate_left; (intro _ _ _ h9; exact h9)
              try simp only [Act.put, List.setIfInBounds_toArray, List.set_cons_zero, List.set_cons_succ]
              refine wpAnyH_take (i := 35) (oi := ?_) (v := ?_) ?_ (by kernel_rfl) (by kernel_rfl) (by kernel_rfl) ?_ ?_ (by assumption) ?_
              rotate_left 2; (simp only [List.getElem?_toArray, List.getElem?_cons_succ, List.getElem?_cons_zero]; rfl)
              rotate_left; (first | (refine .inl ⟨by rfl, ?_⟩; intro w9 hS9; go_simp; try with_reducible rfl) | (refine .inr ⟨by rfl, ?_⟩; with_reducible rfl))
              rotate_left; (intro _ _ _ h9; exact h9)
              try simp only [Act.put, List.setIfInBounds_toArray, List.set_cons_zero, List.set_cons_succ]
              refine wpAnyH_done (by kernel_rfl) ?_ _
              have HBQ := Lib.hid (below_step HBR.out hS0)
              clear hS0 q0 q1 q2 p1 t1 k1 k2
              go_wp2_with fail
              exact ⟨⟨i + 1, by have := HIL.out; omega, by have := HIL.out; have := HK20.out; go_num, HBQ.out⟩, by have := HIL.out; have := HK20.out; simp [intOf]; omega⟩
            · obtain rfl : i = k := by omega
              have HWA := Lib.hid (HBJ.out.bel.trans (HBR.out.mono HBJ.out.bel.size))
              have HWB := Lib.hid (below_step HB.out HWA.out)
              have R8 := Lib.hid (R8.out.below HBR.out)
              rcases Nat.eq_zero_or_pos i with hi0 | hi0
              · have hi1 : ¬ 0 < (i : Int) := by omega
                have hi2 : ¬ 0 < i := by omega
                have hbk := HBK.out
                rw [HX0.out hi0] at hbk
                have HBK0 := Lib.hid hbk
                clear hi0 hbk
                go_wp2_with fail
                refine (bk_blank A8 n8 c8 Z 0 _ R8.out (by have := HLZ.out; omega)).mono ?_
                rintro e w7 ⟨rfl, hb7⟩
                rw [show (0 : Int).toNat = 0 from rfl, HBK0.out]
                have HWB := Lib.hid (below_step HWB.out hb7)
                clear hb7
                go_wp2_with fail
                go_ret
                exact ⟨rfl, HWB.out⟩
              · obtain ⟨m, hm⟩ : ∃ m, i = m + 1 := ⟨i - 1, by omega⟩
                obtain ⟨e, he9, hw9, hen, hla⟩ := HAT.out m (by omega)
                obtain ⟨A9', c9', e9', hr9, _, ha9⟩ := HBJ.out.ends.re (by rw [HEL.out]; omega)
                rw [HEL.out] at e9' hr9
                cases e9'
                obtain ⟨g9, o9, rfl, hg9, _⟩ := hr9.cells (by omega)
                obtain ⟨ho9, _⟩ := ha9 _ rfl
                simp only at ho9
                subst ho9
                have hml : m < E.length := by rw [HEL.out]; omega
                have hend := hr9.elem ic_len m hml
                have hE : E[m] = e := by rw [List.getElem?_eq_getElem hml] at hen; exact Option.some.inj hen
                rw [hE] at hend
                have t1 : wr.cell? ⟨g9, m, none⟩ = some (.int .i64 (e : Int)) := (HBR.out.cell (p := ⟨g9, m, none⟩) hg9).trans (by have := hend 0 _ rfl; simpa using this)
                have hbk := HBK.out
                rw [← hla hm.symm] at hbk
                have HBK0 := Lib.hid hbk
                have hi1 : 0 < (i : Int) := by omega
                have hi2 : (m : Int) < (i : Int) := by omega
                have hi3 : m < i := by omega
                have ew3 : IntKind.i64.wrap ((i : Int) - 1) = (m : Int) := by rw [show (i : Int) - 1 = m by omega]; have := HN.out; simp [IntKind.wrap, IntKind.bits, IntKind.signed]; omega
                clear hw9 hi0 hm he9 hen hla hr9 ha9 hg9 hml hend hE hbk
                go_wp2_with fail
                refine (bk_blank A8 n8 c8 Z e _ R8.out (by have := HLZ.out; omega)).mono ?_
                rintro e' w7 ⟨rfl, hb7⟩
                rw [Int.toNat_natCast, HBK0.out]
                have HWB := Lib.hid (below_step HWB.out hb7)
                clear hb7 t1
                go_wp2_with fail
                go_ret
                exact ⟨rfl, HWB.out⟩
end Go.Proofs.Ytafpkfnegfjohaa
