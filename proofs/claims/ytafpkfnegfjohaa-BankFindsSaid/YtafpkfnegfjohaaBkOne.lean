/- The document's: the record with which bytes begin. -/
import Derived.Test.YtafpkfnegfjohaaBkFirst
import Derived.Test.YtafpkfnegfjohaaCrcRef
import Derived.Test.YtafpkfnegfjohaaRr
import Derived.Deep.DeepCutAuto
namespace Go.Proofs.Ytafpkfnegfjohaa
open Go.RowKit
set_option linter.unusedVariables false
set_option linter.unusedSimpArgs false
def IsOne (r : Option (Nat × List UInt8)) (w : World) (e : Ending) (w' : World) : Prop := match r with
  | none => e = .returned (.tuple #[.agg (nta 0 none 0 0 0), .int .i64 0]) ∧ Below w.heap.size w w'
  | some (s, d) => ∃ A c, e = .returned (.tuple #[.agg (nta s A d.length c 0), .int .i64 (8 + d.length)]) ∧ DatIs w.heap.size w' A c d ∧ Below w.heap.size w w'
theorem IsOne_none {w : World} {e : Ending} {w' : World} (h1 : e = .returned (.tuple #[.agg (nta 0 none 0 0 0), .int .i64 0])) (h2 : Below w.heap.size w w') : IsOne none w e w' := ⟨h1, h2⟩
set_option maxHeartbeats 4000000 in
set_option maxRecDepth 100000 in
theorem rf_one (A : Option Addr) (n c : Nat) (xs : List UInt8) (w : World) (rs : RS w A n c xs) (hn : n ≤ 140737488350000) :
    Calls Try.prog 27 #[.slice A n c] w (IsOne (bkFirst xs) w) := by
  have hl := Lib.hid rs.len
  have HR := Lib.hid rs
  have HN := Lib.hid (show _ = some (Obj.cells (nta 0 none 0 0 0) _ (0, 0)) from heap_alloc_new w (.cells (nta 0 none 0 0 0) 33))
  have HB := Lib.hid (below_new w (.cells (nta 0 none 0 0 0) 33))
  have HM := Lib.hid hn
  clear hn
  by_cases h0 : n < 9
  · have hz : (n : Int) < 9 := by omega
    have ho : bkFirst xs = none := by unfold bkFirst; rw [if_pos (by rw [hl.out]; omega)]
    rw [ho]
    clear ho h0 rs
    go_enter Try.func27, Try.ntmps27
    go_wp2_with fail
    refine bodyPost_ret (results_cell_tmp_row rfl _ _ w.heap.size _ _ _ _ _ rfl rfl HN.out rfl Try.underlying33 (by kernel_rfl)) rfl ?_
    exact IsOne_none rfl HB.out
  obtain ⟨b, off, rfl, hlt, hcl⟩ := rs.rb.cells (by omega)
  have z0 : (w.alloc (.cells (nta 0 none 0 0 0) 33)).cell? ⟨b, off, none⟩ = some (.int .u8 (bkHd xs)) := by
    have h := hcl 0 (by omega)
    rw [bkHd_get] at h
    rw [World.cell?_alloc_lt _ _ _ hlt]
    exact h
  have hz : ¬ (n : Int) < 9 := by omega
  have hnp : 0 < (n : Int) := by omega
  have h255 := bkHd_lt xs
  have hh0 : 0 ≤ (bkHd xs : Int) := by omega
  have hh1 : (bkHd xs : Int) < 256 := by omega
  clear rs
  by_cases c1 : bkHd xs = 0
  · have hy : (bkHd xs : Int) < 1 := by omega
    have ho : bkFirst xs = none := by unfold bkFirst; rw [if_pos (.inr (.inl c1))]
    rw [ho]
    clear ho c1 hcl
    go_enter Try.func27, Try.ntmps27
    go_wp2_with fail
    refine bodyPost_ret (results_cell_tmp_row rfl _ _ w.heap.size _ _ _ _ _ rfl rfl HN.out rfl Try.underlying33 (by kernel_rfl)) rfl ?_
    exact IsOne_none rfl HB.out
  have hy : ¬ (bkHd xs : Int) < 1 := by omega
  by_cases c2 : 40 < bkHd xs
  · have hx : 40 < (bkHd xs : Int) := by omega
    have ho : bkFirst xs = none := by unfold bkFirst; rw [if_pos (.inr (.inr (.inl c2)))]
    rw [ho]
    clear ho c1 c2 hcl
    go_enter Try.func27, Try.ntmps27
    go_wp2_with fail
    refine bodyPost_ret (results_cell_tmp_row rfl _ _ w.heap.size _ _ _ _ _ rfl rfl HN.out rfl Try.underlying33 (by kernel_rfl)) rfl ?_
    exact IsOne_none rfl HB.out
  have hx : ¬ 40 < (bkHd xs : Int) := by omega
  have e8 : IntKind.i64.wrap (8 + (bkHd xs : Int)) = 8 + (bkHd xs : Int) := by simp [IntKind.wrap, IntKind.bits, IntKind.signed]; omega
  by_cases c3 : n < 8 + bkHd xs
  · have hv : (n : Int) < 8 + (bkHd xs : Int) := by omega
    have ho : bkFirst xs = none := by unfold bkFirst; rw [if_pos (.inr (.inr (.inr (by rw [hl.out]; exact c3))))]
    rw [ho]
    clear ho c1 c2 c3 hcl
    go_enter Try.func27, Try.ntmps27
    go_wp2_with fail
    refine bodyPost_ret (results_cell_tmp_row rfl _ _ w.heap.size _ _ _ _ _ rfl rfl HN.out rfl Try.underlying33 (by kernel_rfl)) rfl ?_
    exact IsOne_none rfl HB.out
  have hv : ¬ (n : Int) < 8 + (bkHd xs : Int) := by omega
  have hif : ¬ (xs.length = 0 ∨ bkHd xs = 0 ∨ 40 < bkHd xs ∨ xs.length < 8 + bkHd xs) := by rw [hl.out]; omega
  have HT := Lib.hid ((HR.out.take (7 + bkHd xs) (by omega)).below HB.out)
  have hcap := HR.out.cap
  have hi : (8 + (bkHd xs : Int) - 1).toNat = 7 + bkHd xs := by omega
  have hs0 : 0 ≤ 8 + (bkHd xs : Int) - 1 := by omega
  have hs1 : 8 + (bkHd xs : Int) - 1 ≤ c := by omega
  have hs2 : 8 + (bkHd xs : Int) - 1 < n := by omega
  have e7 : IntKind.i64.wrap (8 + (bkHd xs : Int) - 1) = 8 + (bkHd xs : Int) - 1 := by simp [IntKind.wrap, IntKind.bits, IntKind.signed]; omega
  have HM2 := Lib.hid (show 7 + bkHd xs ≤ 140737488350000 by omega)
  have hz7 := hcl (7 + bkHd xs) (by omega)
  rw [show xs.getD (7 + bkHd xs) 0 = xs[7 + bkHd xs]?.getD 0 from List.getD_eq_getElem?_getD ..] at hz7
  have z7 : (w.alloc (.cells (nta 0 none 0 0 0) 33)).cell? ⟨b, off + (7 + bkHd xs), none⟩ = some (.int .u8 (nb (xs[7 + bkHd xs]?.getD 0))) := by
    rw [World.cell?_alloc_lt _ _ _ hlt]
    exact hz7
  have h0h : bkHd xs ≠ 0 := c1
  clear c1 c2 c3 hcl hcap hz7
  by_cases hb7 : xs[7 + bkHd xs]?.getD 0 = 0
  rotate_left
  · have ho : bkFirst xs = none := by
      unfold bkFirst
      rw [if_neg hif]
      cases crcOpen (xs.take (7 + bkHd xs)) with
      | none => rfl
      | some ys => exact if_neg hb7
    rw [ho]
    have d7 : (nb (xs[7 + bkHd xs]?.getD 0) != 0) = true := by simp; exact fun h => hb7 (nb_inj0 h)
    clear ho hif hb7
    generalize bkHd xs = h at *
    go_enter Try.func27, Try.ntmps27
    go_wp2_with fail
    refine bodyPost_ret (results_cell_tmp_row rfl _ _ w.heap.size _ _ _ _ _ rfl rfl HN.out rfl Try.underlying33 (by kernel_rfl)) rfl ?_
    exact IsOne_none rfl HB.out
  have d7 : (nb (xs[7 + bkHd xs]?.getD 0) != 0) = false := by rw [hb7]; rfl
  cases hopen : crcOpen (xs.take (7 + bkHd xs)) with
  | none =>
    have ho : bkFirst xs = none := by unfold bkFirst; rw [if_neg hif, hopen]
    rw [ho]
    clear ho hif hb7 h0h
    have HO := Lib.hid hopen
    clear hopen
    generalize bkHd xs = h at *
    go_enter Try.func27, Try.ntmps27
    go_wp2_with fail
    refine (ref_crcOpen (some ⟨b, off, none⟩) (7 + h) c (xs.take (7 + h)) _ HT.out HM2.out).mono ?_
    rintro e w2 hq
    rw [HO.out] at hq
    obtain ⟨v2, rfl, hown2, hb2⟩ := hq
    have hB2 := Lib.hid (below_step HB.out hb2)
    have HN2 := Lib.hid ((hb2.block _ (Array.getElem?_eq_some_iff.mp HN.out).1).trans HN.out)
    have HO2 := Lib.hid (show OwnB w2 _ v2 ((none : Option (List UInt8)).getD []) from hown2)
    clear hown2 hb2
    have hn2 := HN2.out
    have n0 : w2.cell? ⟨w.heap.size, 0, none⟩ = some (.int .u32 0) := by simp [World.cell?, hn2]
    have n1 : w2.cell? ⟨w.heap.size, 1, none⟩ = some (.slice none 0 0) := by simp [World.cell?, hn2]
    have n2 : w2.cell? ⟨w.heap.size, 2, none⟩ = some (.int .i64 0) := by simp [World.cell?, hn2]
    have nf : ∀ i, w2.frozen? ⟨w.heap.size, i, none⟩ = false := fun i => by simp [World.frozen?, hn2]
    have HNX := Lib.hid (nt_set hn2 0 none 0 0 0)
    clear hn2
    go_wp2_with fail
    refine bodyPost_ret (results_cell_tmp_row rfl _ _ w.heap.size _ _ _ _ _ rfl rfl HNX.out rfl Try.underlying33 (by kernel_rfl)) rfl ?_
    exact IsOne_none rfl (hB2.out.trans ((fr_setCells (F := fun i => i = w.heap.size) w.heap.size rfl (nta 0 none 0 0 0).toList 0 w2).below w.heap.size (by have := hB2.out.size; omega) (fun i e => by omega)))
  | some ys =>
    have HO := Lib.hid hopen
    have hlen := opn_len hopen
    rw [List.length_take, hl.out] at hlen
    have HL := Lib.hid (show ys.length = 5 + bkHd xs by omega)
    have ho : bkFirst xs = some (beVal ((ys.drop 1).take 4), ys.drop 5) := by unfold bkFirst; rw [if_neg hif, hopen]; exact if_pos hb7
    rw [ho]
    obtain ⟨s9, hs9⟩ : ∃ s, s = beVal ((ys.drop 1).take 4) := ⟨_, rfl⟩
    obtain ⟨d9, hd9⟩ : ∃ d, d = ys.drop 5 := ⟨_, rfl⟩
    rw [← hs9, ← hd9]
    have hd9l : d9.length = bkHd xs := by rw [hd9, List.length_drop, HL.out]; omega
    have HS9 := Lib.hid (show rdVal 4 (ys.drop 1) = s9 by rw [rdVal, if_neg (by rw [List.length_drop, HL.out]; omega), hs9])
    have HD9 := Lib.hid (show rdLeft 4 (ys.drop 1) = d9 by rw [rdLeft, if_neg (by rw [List.length_drop, HL.out]; omega), hd9, List.drop_drop])
    have HDL := Lib.hid hd9l
    have HP := Lib.hid h0h
    clear hd9l hs9 hd9 ho hif hopen hlen hb7 h0h
    generalize bkHd xs = h at *
    go_enter Try.func27, Try.ntmps27
    go_wp2_with fail
    refine (ref_crcOpen (some ⟨b, off, none⟩) (7 + h) c (xs.take (7 + h)) _ HT.out HM2.out).mono ?_
    rintro e w2 hq
    rw [HO.out] at hq
    obtain ⟨v2, rfl, hown2, hb2⟩ := hq
    have hB2 := Lib.hid (below_step HB.out hb2)
    have HN2 := Lib.hid ((hb2.block _ (Array.getElem?_eq_some_iff.mp HN.out).1).trans HN.out)
    have HO2 := Lib.hid (show OwnB w2 _ v2 (((some ys) : Option (List UInt8)).getD []) from hown2)
    clear hown2 hb2
    obtain ⟨A2, c2, rfl, r2⟩ := HO2.out.reads
    have R2 := Lib.hid (show RS w2 A2 ys.length c2 ys from r2)
    have hyl := HL.out
    obtain ⟨b2, o2, rfl, hlt2, _⟩ := r2.rb.cells (by show 0 < ys.length; omega)
    have hbk2 := (HO2.out.free rfl).2.1
    have HBK2 := Lib.hid hbk2
    have hs4 := fun w' => by_slice_l w' (some ⟨b2, o2, none⟩) ys.length c2 1 (by omega) 1 rfl
    have hbr := below_new w2 (.cells #[.slice (subA (some ⟨b2, o2, none⟩) c2 1) (ys.length - 1) (c2 - 1), .bool false] 62)
    have hrs : RS (w2.alloc (.cells #[.slice (subA (some ⟨b2, o2, none⟩) c2 1) (ys.length - 1) (c2 - 1), .bool false] 62)) (subA (some ⟨b2, o2, none⟩) c2 1) (ys.length - 1) (c2 - 1) (ys.drop 1) := by
      have h3 := R2.out.below hbr
      exact ⟨h3.rb.sub 1 (by omega) h3.cap, (fun e => by unfold subA at e; split at e <;> cases e), by have := h3.cap; omega⟩
    have HI3 := Lib.hid (show RrIs (w2.alloc (.cells #[.slice (subA (some ⟨b2, o2, none⟩) c2 1) (ys.length - 1) (c2 - 1), .bool false] 62)) w2.heap.size b2 (ys.drop 1) false from ⟨_, _, _, heap_alloc_new w2 _, hrs, (fun _ => by unfold subA; split; exact ⟨o2, rfl⟩; exact ⟨o2 + 1, by simp [Addr.add_mid]⟩), (fun _ => by omega), by omega⟩)
    have HB3 := Lib.hid (below_step hB2.out hbr)
    have HW2 := Lib.hid (Array.getElem?_eq_some_iff.mp HN2.out).1
    have HN3 := Lib.hid ((hbr.block _ HW2.out).trans HN2.out)
    clear hbr hrs hbk2 r2 hyl
    go_wp2_with fail
    generalize w2.alloc (.cells #[.slice (subA (some ⟨b2, o2, none⟩) c2 1) (ys.length - 1) (c2 - 1), .bool false] 62) = w3 at *
    refine (rr_num 4 (by omega) (by omega) _ b2 (ys.drop 1) false _ HI3.out (fun h => by cases h)).mono ?_
    rintro e w5 hq
    rw [HS9.out, HD9.out] at hq
    obtain ⟨rfl, hri5, hf5⟩ := hq
    have HF5 := Lib.hid hf5
    have HI5 := Lib.hid hri5
    clear hri5 hf5 hs4
    go_wp2_with fail
    refine (rr_rest _ b2 d9 _ _ HI5.out).mono ?_
    rintro e w6 ⟨v6, rfl, hown6, _, hf6⟩
    have HF6 := Lib.hid (fr_same HF5.out hf6)
    have HS5 := Lib.hid (show w2.heap.size ≤ w5.heap.size from Nat.le_trans (Nat.le_of_lt (Nat.lt_of_lt_of_le HI3.out.lt (Nat.le_refl _))) HF5.out.size)
    have HB6 := Lib.hid (HB3.out.trans (HF6.out.below w.heap.size HB3.out.size (fun i e => by have := hB2.out.size; omega)))
    have hn2 := (HF6.out.block _ (Array.getElem?_eq_some_iff.mp HN3.out).1 (fun e => by have := HW2.out; omega)).trans HN3.out
    obtain ⟨A6, c6, rfl, r6⟩ := hown6.reads
    have HR6 := Lib.hid (show RS w6 A6 d9.length c6 d9 from r6)
    have HO6 := Lib.hid hown6
    have n0 : w6.cell? ⟨w.heap.size, 0, none⟩ = some (.int .u32 0) := by simp [World.cell?, hn2]
    have n1 : w6.cell? ⟨w.heap.size, 1, none⟩ = some (.slice none 0 0) := by simp [World.cell?, hn2]
    have n2 : w6.cell? ⟨w.heap.size, 2, none⟩ = some (.int .i64 0) := by simp [World.cell?, hn2]
    have nf : ∀ i, w6.frozen? ⟨w.heap.size, i, none⟩ = false := fun i => by simp [World.frozen?, hn2]
    have HNX := Lib.hid (nt_set hn2 s9 A6 d9.length c6 0)
    clear hn2 r6 hown6 hf6
    go_wp2_with fail
    change bodyPost _ _ _ _ _ (w6.setCells w.heap.size 0 (nta s9 A6 d9.length c6 0).toList)
    have hfr := fr_setCells (F := fun i => i = w.heap.size) w.heap.size rfl (nta s9 A6 d9.length c6 0).toList 0 w6
    have hS2 := HB6.out.trans (hfr.below w.heap.size HB6.out.size (fun i e => by omega))
    generalize w6.setCells w.heap.size 0 _ = w7 at *
    refine bodyPost_ret (results_cell_tmp_row rfl _ _ w.heap.size _ _ _ _ _ rfl rfl HNX.out rfl Try.underlying33 (by kernel_rfl)) rfl ?_
    obtain ⟨b6, o6, rfl, hlt6, _⟩ := HR6.out.rb.cells (by rw [HDL.out]; have := HP.out; omega)
    obtain ⟨_, hb6, hb6', hfz⟩ := HO6.out.free rfl
    have hw2 := HW2.out
    have hs5 := HS5.out
    refine ⟨_, c6, ?_, ⟨HR6.out.fr hfr (fun _ b off e e2 => by cases e; omega), b6, o6, rfl, by have := hB2.out.size; omega, by have := hfr.size; omega, fun i => (hfr.frozen (p := ⟨b6, i, none⟩) hlt6 (by show ¬ b6 = _; omega)).trans (hfz i)⟩, hS2⟩
    rw [HDL.out]
    rfl
end Go.Proofs.Ytafpkfnegfjohaa
