/- bank.first: the record with which bytes begin. -/
import Derived.Test.YtcppmihambcihaaDoorBkPure
import Derived.Test.YtcppmihambcihaaDoorCrc
import Derived.Test.YtcppmihambcihaaDoorRdr2
import Derived.Deep.DeepCutAuto
namespace Go.Proofs.YtcppmihambcihaaDoor
open Go.RowKit
set_option linter.unusedVariables false
set_option linter.unusedSimpArgs false
/-- A record's data: bytes in a block of their own. -/
def DatIs (lo : Nat) (w : World) (A : Option Addr) (c : Nat) (d : List UInt8) : Prop := RS w A d.length c d ∧ ∃ bl off, A = some ⟨bl, off, none⟩ ∧ lo ≤ bl ∧ bl < w.heap.size ∧ ∀ i, w.frozen? ⟨bl, i, none⟩ = false
abbrev nta (s : Int) (A : Option Addr) (n c : Nat) (e : Int) : Array Value := #[.int .u32 s, .slice A n c, .int .i64 e]
def IsFst (r : Option (Nat × List UInt8)) (w : World) (e : Ending) (w' : World) : Prop := match r with
  | none => e = .returned (.tuple #[.agg (nta 0 none 0 0 0), .bool false]) ∧ Below w.heap.size w w'
  | some (s, d) => ∃ A c, e = .returned (.tuple #[.agg (nta s A d.length c (8 + d.length)), .bool true]) ∧ DatIs w.heap.size w' A c d ∧ Below w.heap.size w w'
theorem IsFst_none {w : World} {e : Ending} {w' : World} (h1 : e = .returned (.tuple #[.agg (nta 0 none 0 0 0), .bool false])) (h2 : Below w.heap.size w w') : IsFst none w e w' := ⟨h1, h2⟩
theorem results_cell_tmp_row {fn : Func} {p u : Tmp} {ty : TypeId} (h : fn.results = #[.cell p ty, .tmp u]) (tmps : Array Value) (w : World) (g : Nat) (t : TypeId) (cs : Array Value) (fr : Nat × Nat) (d : TypeDesc) (v : Value)
    (hp : tmps.getD p undef = .pointer (some ⟨g, 0, none⟩)) (hv : tmps.getD u undef = v) (hg : w.heap[g]? = some (.cells cs t fr))
    (hd : (match d with | .struct _ | .array _ _ => true | _ => false) = true) (hu : Tryd.prog.underlying ty = some d) (hi : (Tryd.prog.info? ty).map (·.size) = some cs.size) :
    (results fn tmps).run Tryd.prog w = .ok (.tuple #[.agg cs, v]) w := by
  rw [results_cell_tmp h, hp, hv]
  simp [asAddr, run_loadVar_row w g t ty cs fr d hg hu (by cases d <;> first | rfl | exact hd | cases hd) hi, Result.andThen]
theorem nb_inj0 {x : UInt8} (h : nb x = 0) : x = 0 := UInt8.toNat_inj.1 (by unfold nb at h; simpa using h)
theorem nt_set {w : World} {g : Nat} {t : TypeId} (h : w.heap[g]? = some (.cells (nta 0 none 0 0 0) t (0, 0))) (s : Int) (A : Option Addr) (n c : Nat) (e : Int) : (w.setCells g 0 (nta s A n c e).toList).heap[g]? = some (.cells (nta s A n c e) t (0, 0)) := by
  have h2 := setCells_heap g t (nta s A n c e).toList 0 w (nta 0 none 0 0 0).toList h (by simp)
  exact h2
theorem bkHd_get (xs : List UInt8) : bv (xs.getD 0 0) = .int .u8 (bkHd xs) := by
  cases xs <;> rfl
set_option maxHeartbeats 4000000 in
set_option maxRecDepth 100000 in
theorem bk_first (A : Option Addr) (n c : Nat) (xs : List UInt8) (w : World) (rs : RS w A n c xs) (hn : n ≤ 140737488350000) :
    Calls Tryd.prog 62 #[.slice A n c] w (IsFst (bkFirst xs) w) := by
  have hl := Lib.hid rs.len
  have HR := Lib.hid rs
  have HN := Lib.hid (show _ = some (Obj.cells (nta 0 none 0 0 0) _ (0, 0)) from heap_alloc_new w (.cells (nta 0 none 0 0 0) 54))
  have HB := Lib.hid (below_new w (.cells (nta 0 none 0 0 0) 54))
  have HM := Lib.hid hn
  clear hn
  by_cases h0 : n = 0
  · have hz : ((n : Int) == 0) = true := by simp [h0]
    have ho : bkFirst xs = none := by unfold bkFirst; rw [if_pos (.inl (by rw [hl.out]; exact h0))]
    rw [ho]
    clear ho h0 rs
    go_enter Tryd.func62, Tryd.ntmps62
    go_wp2_with fail
    refine bodyPost_ret (results_cell_tmp_row rfl _ _ w.heap.size _ _ _ _ _ rfl rfl HN.out rfl Tryd.underlying54 (by kernel_rfl)) rfl ?_
    exact IsFst_none rfl HB.out
  obtain ⟨b, off, rfl, hlt, hcl⟩ := rs.rb.cells (by omega)
  have z0 : (w.alloc (.cells (nta 0 none 0 0 0) 54)).cell? ⟨b, off, none⟩ = some (.int .u8 (bkHd xs)) := by
    have h := hcl 0 (by omega)
    rw [bkHd_get] at h
    rw [World.cell?_alloc_lt _ _ _ hlt]
    exact h
  have HZ0 := Lib.hid (show w.cell? ⟨b, off, none⟩ = some (.int .u8 (bkHd xs : Int)) by have h := hcl 0 (by omega); rw [bkHd_get] at h; exact h)
  have hz : ((n : Int) == 0) = false := by simp; omega
  have hnp : 0 < (n : Int) := by omega
  have h255 := bkHd_lt xs
  have hh0 : 0 ≤ (bkHd xs : Int) := by omega
  have hh1 : (bkHd xs : Int) < 256 := by omega
  clear rs
  by_cases c1 : bkHd xs = 0
  · have hy : ((bkHd xs : Int) == 0) = true := by simp [c1]
    have ho : bkFirst xs = none := by unfold bkFirst; rw [if_pos (.inr (.inl c1))]
    rw [ho]
    clear ho c1 hcl
    go_enter Tryd.func62, Tryd.ntmps62
    go_wp2_with fail
    refine bodyPost_ret (results_cell_tmp_row rfl _ _ w.heap.size _ _ _ _ _ rfl rfl HN.out rfl Tryd.underlying54 (by kernel_rfl)) rfl ?_
    exact IsFst_none rfl HB.out
  have hy : ((bkHd xs : Int) == 0) = false := by simp [c1]
  by_cases c2 : 40 < bkHd xs
  · have hx : 40 < (bkHd xs : Int) := by omega
    have ho : bkFirst xs = none := by unfold bkFirst; rw [if_pos (.inr (.inr (.inl c2)))]
    rw [ho]
    clear ho c1 c2 hcl
    go_enter Tryd.func62, Tryd.ntmps62
    go_wp2_with fail
    refine bodyPost_ret (results_cell_tmp_row rfl _ _ w.heap.size _ _ _ _ _ rfl rfl HN.out rfl Tryd.underlying54 (by kernel_rfl)) rfl ?_
    exact IsFst_none rfl HB.out
  have hx : ¬ 40 < (bkHd xs : Int) := by omega
  have e8 : IntKind.i64.wrap (8 + (bkHd xs : Int)) = 8 + (bkHd xs : Int) := by simp [IntKind.wrap, IntKind.bits, IntKind.signed]; omega
  by_cases c3 : n < 8 + bkHd xs
  · have hv : (n : Int) < 8 + (bkHd xs : Int) := by omega
    have ho : bkFirst xs = none := by unfold bkFirst; rw [if_pos (.inr (.inr (.inr (by rw [hl.out]; exact c3))))]
    rw [ho]
    clear ho c1 c2 c3 hcl
    go_enter Tryd.func62, Tryd.ntmps62
    go_wp2_with fail
    refine bodyPost_ret (results_cell_tmp_row rfl _ _ w.heap.size _ _ _ _ _ rfl rfl HN.out rfl Tryd.underlying54 (by kernel_rfl)) rfl ?_
    exact IsFst_none rfl HB.out
  have hv : ¬ (n : Int) < 8 + (bkHd xs : Int) := by omega
  have hif : ¬ (xs.length = 0 ∨ bkHd xs = 0 ∨ 40 < bkHd xs ∨ xs.length < 8 + bkHd xs) := by rw [hl.out]; omega
  have HT := Lib.hid ((HR.out.take (7 + bkHd xs) (by omega)).below HB.out)
  have hcap := HR.out.cap
  have hi : (8 + (bkHd xs : Int) - 1).toNat = 7 + bkHd xs := by omega
  have hs0 : 0 ≤ 8 + (bkHd xs : Int) - 1 := by omega
  have hs1 : 8 + (bkHd xs : Int) - 1 ≤ c := by omega
  have hs2 : 8 + (bkHd xs : Int) - 1 < n := by omega
  have e7 : IntKind.i64.wrap (8 + (bkHd xs : Int) - 1) = 8 + (bkHd xs : Int) - 1 := by simp [IntKind.wrap, IntKind.bits, IntKind.signed]; omega
  have HM2 := Lib.hid (show 7 + bkHd xs ≤ 140737488350000 by omega)
  have hz7 := hcl (7 + bkHd xs) (by omega)
  rw [show xs.getD (7 + bkHd xs) 0 = xs[7 + bkHd xs]?.getD 0 from List.getD_eq_getElem?_getD ..] at hz7
  have HZ7 := Lib.hid hz7
  clear c1 c2 c3 hcl hcap hz7
  cases hopen : crcOpen (xs.take (7 + bkHd xs)) with
  | none =>
    have ho : bkFirst xs = none := by unfold bkFirst; rw [if_neg hif, hopen]
    rw [ho]
    clear ho hif
    have HO := Lib.hid hopen
    clear hopen
    generalize bkHd xs = h at *
    go_enter Tryd.func62, Tryd.ntmps62
    go_wp2_with fail
    refine (crc_open (some ⟨b, off, none⟩) (7 + h) c (xs.take (7 + h)) _ HT.out HM2.out).mono ?_
    rintro e w2 hq
    rw [HO.out] at hq
    obtain ⟨v2, rfl, hown2, hb2⟩ := hq
    have hB2 := Lib.hid (below_step HB.out hb2)
    have HN2 := Lib.hid ((hb2.block _ (Array.getElem?_eq_some_iff.mp HN.out).1).trans HN.out)
    have HO2 := Lib.hid (show OwnB w2 _ v2 ((none : Option (List UInt8)).getD []) from hown2)
    clear hown2 hb2
    have hn2 := HN2.out
    have n0 : w2.cell? ⟨w.heap.size, 0, none⟩ = some (.int .u32 0) := by simp [World.cell?, hn2]
    have n1 : w2.cell? ⟨w.heap.size, 1, none⟩ = some (.slice none 0 0) := by simp [World.cell?, hn2]
    have n2 : w2.cell? ⟨w.heap.size, 2, none⟩ = some (.int .i64 0) := by simp [World.cell?, hn2]
    have nf : ∀ i, w2.frozen? ⟨w.heap.size, i, none⟩ = false := fun i => by simp [World.frozen?, hn2]
    have HNX := Lib.hid (nt_set hn2 0 none 0 0 0)
    clear hn2
    go_wp2_with fail
    refine bodyPost_ret (results_cell_tmp_row rfl _ _ w.heap.size _ _ _ _ _ rfl rfl HNX.out rfl Tryd.underlying54 (by kernel_rfl)) rfl ?_
    exact IsFst_none rfl (hB2.out.trans ((fr_setCells (F := fun i => i = w.heap.size) w.heap.size rfl (nta 0 none 0 0 0).toList 0 w2).below w.heap.size (by have := hB2.out.size; omega) (fun i e => by omega)))
  | some ys =>
    have HO := Lib.hid hopen
    have hlen := opn_len hopen
    rw [List.length_take, hl.out] at hlen
    have HL := Lib.hid (show ys.length = 5 + bkHd xs by omega)
    by_cases hb7 : xs[7 + bkHd xs]?.getD 0 = 0
    rotate_left
    · have ho : bkFirst xs = none := by unfold bkFirst; rw [if_neg hif, hopen]; exact if_neg hb7
      rw [ho]
      have d7 : (nb (xs[7 + bkHd xs]?.getD 0) != 0) = true := by simp; exact fun h => hb7 (nb_inj0 h)
      clear ho hif hopen hlen hb7
      generalize bkHd xs = h at *
      go_enter Tryd.func62, Tryd.ntmps62
      go_wp2_with fail
      refine (crc_open (some ⟨b, off, none⟩) (7 + h) c (xs.take (7 + h)) _ HT.out HM2.out).mono ?_
      rintro e w2 hq
      rw [HO.out] at hq
      obtain ⟨v2, rfl, hown2, hb2⟩ := hq
      have hB2 := Lib.hid (below_step HB.out hb2)
      have HN2 := Lib.hid ((hb2.block _ (Array.getElem?_eq_some_iff.mp HN.out).1).trans HN.out)
      have HO2 := Lib.hid (show OwnB w2 _ v2 (((some ys) : Option (List UInt8)).getD []) from hown2)
      clear hown2 hb2
      have hn2 := HN2.out
      have n0 : w2.cell? ⟨w.heap.size, 0, none⟩ = some (.int .u32 0) := by simp [World.cell?, hn2]
      have n1 : w2.cell? ⟨w.heap.size, 1, none⟩ = some (.slice none 0 0) := by simp [World.cell?, hn2]
      have n2 : w2.cell? ⟨w.heap.size, 2, none⟩ = some (.int .i64 0) := by simp [World.cell?, hn2]
      have nf : ∀ i, w2.frozen? ⟨w.heap.size, i, none⟩ = false := fun i => by simp [World.frozen?, hn2]
      have z7 := (hB2.out.cell (p := ⟨b, off + (7 + h), none⟩) hlt).trans HZ7.out
      unfold bv at z7
      have HNX := Lib.hid (nt_set hn2 0 none 0 0 0)
      clear hn2
      go_wp2_with fail
      refine bodyPost_ret (results_cell_tmp_row rfl _ _ w.heap.size _ _ _ _ _ rfl rfl HNX.out rfl Tryd.underlying54 (by kernel_rfl)) rfl ?_
      exact IsFst_none rfl (hB2.out.trans ((fr_setCells (F := fun i => i = w.heap.size) w.heap.size rfl (nta 0 none 0 0 0).toList 0 w2).below w.heap.size (by have := hB2.out.size; omega) (fun i e => by omega)))
    · have ho : bkFirst xs = some (beVal ((ys.drop 1).take 4), ys.drop 5) := by unfold bkFirst; rw [if_neg hif, hopen]; exact if_pos hb7
      rw [ho]
      have d7 : (nb (xs[7 + bkHd xs]?.getD 0) != 0) = false := by rw [hb7]; rfl
      have h0h : bkHd xs ≠ 0 := fun h => by simp [h] at hy
      obtain ⟨s9, hs9⟩ : ∃ s, s = beVal ((ys.drop 1).take 4) := ⟨_, rfl⟩
      obtain ⟨d9, hd9⟩ : ∃ d, d = ys.drop 5 := ⟨_, rfl⟩
      rw [← hs9, ← hd9]
      have hd9l : d9.length = bkHd xs := by rw [hd9, List.length_drop, HL.out]; omega
      have HS9 := Lib.hid (show rdVal 4 ys.tail = s9 by rw [rdVal, if_neg (by rw [List.length_tail, HL.out]; omega), hs9, List.drop_one])
      have HD9 := Lib.hid (show rdLeft 4 ys.tail = d9 by rw [rdLeft, if_neg (by rw [List.length_tail, HL.out]; omega), hd9, ← List.drop_one, List.drop_drop])
      have HDL := Lib.hid hd9l
      clear hd9l hs9 hd9
      clear ho hif hopen hlen hb7
      generalize bkHd xs = h at *
      have HP := Lib.hid h0h
      clear h0h
      go_enter Tryd.func62, Tryd.ntmps62
      go_wp2_with fail
      refine (crc_open (some ⟨b, off, none⟩) (7 + h) c (xs.take (7 + h)) _ HT.out HM2.out).mono ?_
      rintro e w2 hq
      rw [HO.out] at hq
      obtain ⟨v2, rfl, hown2, hb2⟩ := hq
      have hB2 := Lib.hid (below_step HB.out hb2)
      have HN2 := Lib.hid ((hb2.block _ (Array.getElem?_eq_some_iff.mp HN.out).1).trans HN.out)
      have HO2 := Lib.hid (show OwnB w2 _ v2 (((some ys) : Option (List UInt8)).getD []) from hown2)
      clear hown2 hb2
      have z7 := (hB2.out.cell (p := ⟨b, off + (7 + h), none⟩) hlt).trans HZ7.out
      unfold bv at z7
      obtain ⟨A2, c2, rfl, r2⟩ := HO2.out.reads
      have R2 := Lib.hid (show RS w2 A2 ys.length c2 ys from r2)
      clear r2
      go_wp2_with fail
      refine (rd_over A2 ys.length c2 ys _ R2.out (by rw [HL.out]; omega)).mono ?_
      rintro e w3 ⟨g, bl, rfl, hri3, hg3, hbl3, hbl4, hb3⟩
      have HI3 := Lib.hid hri3
      have HG3 := Lib.hid hg3
      have HBL3 := Lib.hid hbl3
      have HB3 := Lib.hid (below_step hB2.out hb3)
      have HW2 := Lib.hid (Array.getElem?_eq_some_iff.mp HN2.out).1
      have HN3 := Lib.hid ((hb3.block _ HW2.out).trans HN2.out)
      clear hri3 hg3 hbl3 hbl4 hb3 z7
      go_wp2_with fail
      refine (rd_u8 g bl ys false _ HI3.out).mono ?_
      rintro e w4 ⟨rfl, hri4, hf4⟩
      have HI4 := Lib.hid hri4
      have HF4 := Lib.hid hf4
      clear hri4 hf4
      go_wp2_with fail
      refine (rd_u32 g bl ys.tail _ _ HI4.out).mono ?_
      rintro e w5 hq
      rw [HS9.out, HD9.out] at hq
      obtain ⟨rfl, hri5, hf5⟩ := hq
      have HF5 := Lib.hid (fr_same HF4.out hf5)
      have HI5 := Lib.hid hri5
      have HB5 := Lib.hid (HB3.out.trans (HF5.out.below w.heap.size HB3.out.size (fun i e => by have := HG3.out; have := hB2.out.size; omega)))
      have HN5 := Lib.hid ((HF5.out.block _ (Array.getElem?_eq_some_iff.mp HN3.out).1 (fun e => by have := HG3.out; have := HW2.out; omega)).trans HN3.out)
      clear hri5 hf5
      go_upto_region 10 with fail
      have hS0 : Below w.heap.size w w5.drew := HB5.out.trans ⟨rfl, rfl, rfl, Nat.le_refl _, fun _ _ => rfl⟩
      have zf : ∀ w', Below w.heap.size w w' → w'.cell? ⟨b, off, none⟩ = some (.int .u8 (h : Int)) := fun w' hb => (hb.cell (p := ⟨b, off, none⟩) hlt).trans HZ0.out
      have hnN : 0 < n := by omega
      refine wp_region_held (S := fun w' => Below w.heap.size w w') (by kernel_rfl) ?_
      change wpAnyH _ _ _ _ _ _ _ _ w5.drew
      change wpAnyH _ _ _ _ _ 11 (Array.replicate 11 false) _ _
      refine wpAnyH_take (i := 0) (oi := ?_) (v := ?_) ?_ (by kernel_rfl) (by kernel_rfl) (by kernel_rfl) ?_ ?_ (by assumption) ?_
      rotate_left 2; (simp only [List.getElem?_toArray, List.getElem?_cons_succ, List.getElem?_cons_zero]; rfl)
      rotate_left; (first | (refine .inl ⟨by rfl, ?_⟩; intro w9 hS9; go_simp; try with_reducible rfl) | (refine .inr ⟨by rfl, ?_⟩; with_reducible rfl))
      rotate_left; (intro _ _ _ h9; exact h9)
      try simp only [Act.put, List.setIfInBounds_toArray, List.set_cons_zero, List.set_cons_succ]
      refine wpAnyH_take (i := 1) (oi := ?_) (v := ?_) ?_ (by kernel_rfl) (by kernel_rfl) (by kernel_rfl) ?_ ?_ (by assumption) ?_
      rotate_left 2; (simp only [List.getElem?_toArray, List.getElem?_cons_succ, List.getElem?_cons_zero]; rfl)
      rotate_left; (first | (refine .inl ⟨by rfl, ?_⟩; intro w9 hS9; go_simp; try with_reducible rfl) | (refine .inr ⟨by rfl, ?_⟩; with_reducible rfl))
      rotate_left; (intro _ _ _ h9; exact h9)
      try simp only [Act.put, List.setIfInBounds_toArray, List.set_cons_zero, List.set_cons_succ]
      refine wpAnyH_take (i := 3) (oi := ?_) (v := ?_) ?_ (by kernel_rfl) (by kernel_rfl) (by kernel_rfl) ?_ ?_ (by assumption) ?_
      rotate_left 2; (simp only [List.getElem?_toArray, List.getElem?_cons_succ, List.getElem?_cons_zero]; rfl)
      rotate_left; (first | (refine .inl ⟨by rfl, ?_⟩; intro w9 hS9; go_simp; try with_reducible rfl) | (refine .inr ⟨by rfl, ?_⟩; with_reducible rfl))
      rotate_left; (intro _ _ _ h9; exact h9)
      try simp only [Act.put, List.setIfInBounds_toArray, List.set_cons_zero, List.set_cons_succ]
      refine wpAnyH_take (i := 4) (oi := ?_) (v := ?_) ?_ (by kernel_rfl) (by kernel_rfl) (by kernel_rfl) ?_ ?_ (by assumption) ?_
      rotate_left 2; (simp only [List.getElem?_toArray, List.getElem?_cons_succ, List.getElem?_cons_zero]; rfl)
      rotate_left; (first | (refine .inl ⟨by rfl, ?_⟩; intro w9 hS9; go_simp; try with_reducible rfl) | (refine .inr ⟨by rfl, ?_⟩; with_reducible rfl))
      rotate_left; (intro _ _ _ h9; exact h9)
      try simp only [Act.put, List.setIfInBounds_toArray, List.set_cons_zero, List.set_cons_succ]
      refine wpAnyH_take (i := 5) (oi := ?_) (v := ?_) ?_ (by kernel_rfl) (by kernel_rfl) (by kernel_rfl) ?_ ?_ (by assumption) ?_
      rotate_left 2; (simp only [List.getElem?_toArray, List.getElem?_cons_succ, List.getElem?_cons_zero]; rfl)
      rotate_left; (first | (refine .inl ⟨by rfl, ?_⟩; intro w9 hS9; go_simp; try with_reducible rfl) | (refine .inr ⟨by rfl, ?_⟩; with_reducible rfl))
      rotate_left; (intro _ _ _ h9; exact h9)
      try simp only [Act.put, List.setIfInBounds_toArray, List.set_cons_zero, List.set_cons_succ]
      refine wpAnyH_take (i := 6) (oi := ?_) (v := ?_) ?_ (by kernel_rfl) (by kernel_rfl) (by kernel_rfl) ?_ ?_ (by assumption) ?_
      rotate_left 2; (simp only [List.getElem?_toArray, List.getElem?_cons_succ, List.getElem?_cons_zero]; rfl)
      rotate_left; (first | (refine .inl ⟨by rfl, ?_⟩; intro w9 hS9; go_simp; try with_reducible rfl) | (refine .inr ⟨by rfl, ?_⟩; with_reducible rfl))
      rotate_left; (intro _ _ _ h9; exact h9)
      try simp only [Act.put, List.setIfInBounds_toArray, List.set_cons_zero, List.set_cons_succ]
      refine wpAnyH_take (i := 7) (oi := ?_) (v := ?_) ?_ (by kernel_rfl) (by kernel_rfl) (by kernel_rfl) ?_ ?_ (by assumption) ?_
      rotate_left 2; (simp only [List.getElem?_toArray, List.getElem?_cons_succ, List.getElem?_cons_zero]; rfl)
      rotate_left; (first | (refine .inl ⟨by rfl, ?_⟩; intro w9 hS9; go_simp; try with_reducible rfl) | (refine .inr ⟨by rfl, ?_⟩; with_reducible rfl))
      rotate_left; (intro _ _ _ h9; exact h9)
      try simp only [Act.put, List.setIfInBounds_toArray, List.set_cons_zero, List.set_cons_succ]
      refine wpAnyH_ready (rs := [2]) (by kernel_rfl) (by simp) (AllReadyH.cons rfl (fun K9 hK9 => ?_) AllReadyH.nil)
      go_simp
      refine (rd_rest g bl d9 _ _ (HI5.out.below (below_drew1 _))).mono ?_
      rintro e w6 ⟨A6, c6, rfl, r6, q6, _, hf6⟩
      have hS1 : Below w.heap.size w w6 := hS0.trans (hf6.below w.heap.size hS0.size (fun i e => by have := HG3.out; have := hB2.out.size; omega))
      refine hK9.out _ _ hS1 (fun _ => ?_)
      clear hS0
      have HR6 := Lib.hid r6
      have HQ6 := Lib.hid q6
      have hn2 := (hf6.block _ (Array.getElem?_eq_some_iff.mp HN5.out).1 (fun e => by have := HG3.out; have := HW2.out; omega)).trans HN5.out
      have n0 : w6.cell? ⟨w.heap.size, 0, none⟩ = some (.int .u32 0) := by simp [World.cell?, hn2]
      have n1 : w6.cell? ⟨w.heap.size, 1, none⟩ = some (.slice none 0 0) := by simp [World.cell?, hn2]
      have n2 : w6.cell? ⟨w.heap.size, 2, none⟩ = some (.int .i64 0) := by simp [World.cell?, hn2]
      have nf : ∀ i, w6.frozen? ⟨w.heap.size, i, none⟩ = false := fun i => by simp [World.frozen?, hn2]
      have HNX := Lib.hid (nt_set hn2 s9 A6 d9.length c6 (8 + h))
      have HLT := Lib.hid (Array.getElem?_eq_some_iff.mp hn2).1
      clear hn2 r6 q6 hf6
      refine wpAnyH_take (i := 8) (oi := ?_) (v := ?_) ?_ (by kernel_rfl) (by kernel_rfl) (by kernel_rfl) ?_ ?_ (by assumption) ?_
      rotate_left 2; (simp only [List.getElem?_toArray, List.getElem?_cons_succ, List.getElem?_cons_zero]; rfl)
      rotate_left; (first | (refine .inl ⟨by rfl, ?_⟩; intro w9 hS9; go_simp; try with_reducible rfl) | (refine .inr ⟨by rfl, ?_⟩; with_reducible rfl))
      rotate_left; (intro _ _ _ h9; exact h9)
      try simp only [Act.put, List.setIfInBounds_toArray, List.set_cons_zero, List.set_cons_succ]
      refine wpAnyH_ready (rs := [9]) (by kernel_rfl) (by simp) (AllReadyH.cons rfl (fun K9 hK9 => ?_) AllReadyH.nil)
      go_simp
      rw [show IntKind.i64.wrap (8 + IntKind.i64.wrap (h : Int)) = 8 + (h : Int) by simp [IntKind.wrap, IntKind.bits, IntKind.signed]; omega]
      change K9 _ (w6.setCells w.heap.size 0 (nta s9 A6 d9.length c6 (8 + h)).toList)
      have hfr := fr_setCells (F := fun i => i = w.heap.size) w.heap.size rfl (nta s9 A6 d9.length c6 (8 + h)).toList 0 w6
      have hS2 := hS1.trans (hfr.below w.heap.size hS1.size (fun i e => by omega))
      have HS2 := Lib.hid hS2
      have HFR := Lib.hid hfr
      refine hK9.out _ _ hS2 (fun _ => ?_)
      clear hS1 hfr n0 n1 n2 nf
      generalize w6.setCells w.heap.size 0 _ = w7 at *
      refine wpAnyH_take (i := 10) (oi := ?_) (v := ?_) ?_ (by kernel_rfl) (by kernel_rfl) (by kernel_rfl) ?_ ?_ (by assumption) ?_
      rotate_left 2; (simp only [List.getElem?_toArray, List.getElem?_cons_succ, List.getElem?_cons_zero]; rfl)
      rotate_left; (first | (refine .inl ⟨by rfl, ?_⟩; intro w9 hS9; go_simp; try with_reducible rfl) | (refine .inr ⟨by rfl, ?_⟩; with_reducible rfl))
      rotate_left; (intro _ _ _ h9; exact h9)
      try simp only [Act.put, List.setIfInBounds_toArray, List.set_cons_zero, List.set_cons_succ]
      refine wpAnyH_done (by kernel_rfl) ?_ _
      go_wp2_with fail
      refine bodyPost_ret (results_cell_tmp_row rfl _ _ w.heap.size _ _ _ _ _ rfl rfl HNX.out rfl Tryd.underlying54 (by kernel_rfl)) rfl ?_
      have hq := HQ6.out (by rw [HDL.out]; have := HP.out; omega)
      obtain ⟨⟨o6, rfl⟩, hbg, hfz⟩ := hq
      have hbl := HBL3.out
      have hw2 := HW2.out
      obtain ⟨b', o', e', hlt6, _⟩ := HR6.out.rb.cells (by rw [HDL.out]; have := HP.out; omega)
      cases e'
      refine ⟨_, c6, ?_, ⟨HR6.out.fr HFR.out (fun _ b off e e2 => by cases e; omega), bl, o6, rfl, by have := hB2.out.size; omega, by have := HFR.out.size; omega, fun i => (HFR.out.frozen (p := ⟨bl, i, none⟩) hlt6 (by show ¬ bl = _; omega)).trans (hfz i)⟩, HS2.out⟩
      rw [HDL.out]
      rfl
end Go.Proofs.YtcppmihambcihaaDoor
