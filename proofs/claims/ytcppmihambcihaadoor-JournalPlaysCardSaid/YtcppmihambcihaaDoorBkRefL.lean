/- Several texts in one. -/
import Derived.Test.YtcppmihambcihaaDoorRdr2
import Derived.Test.YtcppmihambcihaaDoorBkFirst
import Derived.Test.YtcppmihambcihaaDoorCrcRef
import Derived.Deep.DeepCutAuto
import Derived.Test.YtcppmihambcihaaDoorBkLast
import Derived.Test.YtcppmihambcihaaDoorBkLaw
/- The document's Reader: Num, Rest, Fine. -/
namespace Go.Proofs.YtcppmihambcihaaDoor
open Go.RowKit
set_option linter.unusedVariables false
set_option linter.unusedSimpArgs false

structure RrAt (w : World) (g bl : Nat) (A : Option Addr) (n c : Nat) (xs : List UInt8) (bad : Bool) : Prop where
  heap : w.heap[g]? = some (.cells #[.slice A n c, .bool bad] 148 (0, 0))
  rs : RS w A n c xs
  blk : 0 < n → ∃ off, A = some ⟨bl, off, none⟩
  apart : 0 < n → bl ≠ g
  small : n ≤ 140737488355328
def RrIs (w : World) (g bl : Nat) (xs : List UInt8) (bad : Bool) : Prop := ∃ A n c, RrAt w g bl A n c xs bad
theorem RrAt.lt {w : World} {g bl : Nat} {A : Option Addr} {n c : Nat} {xs : List UInt8} {bad : Bool} (h : RrAt w g bl A n c xs bad) : g < w.heap.size := (Array.getElem?_eq_some_iff.1 h.heap).1
theorem RrIs.lt {w : World} {g bl : Nat} {xs : List UInt8} {bad : Bool} (h : RrIs w g bl xs bad) : g < w.heap.size := by obtain ⟨A, n, c, h⟩ := h; exact h.lt
theorem RrIs.len {w : World} {g bl : Nat} {xs : List UInt8} {bad : Bool} (h : RrIs w g bl xs bad) : xs.length ≤ 140737488355328 := by obtain ⟨A, n, c, h⟩ := h; rw [h.rs.len]; exact h.small
theorem RrIs.fr {w w' : World} {g bl : Nat} {xs : List UInt8} {bad : Bool} (h : RrIs w g bl xs bad) {F : Nat → Prop} (hf : Fr F w w') (hg : ¬ F g) (hb : xs ≠ [] → ¬ F bl) : RrIs w' g bl xs bad := by
  obtain ⟨A, n, c, h⟩ := h
  have hne : 0 < n → xs ≠ [] := fun h0 e => by have := h.rs.len; rw [e] at this; simp at this; omega
  refine ⟨A, n, c, (hf.block g h.lt hg).trans h.heap, h.rs.fr hf (fun h0 b off e => ?_), h.blk, h.apart, h.small⟩
  obtain ⟨o, e2⟩ := h.blk h0
  rw [e2] at e; cases e; exact hb (hne h0)
theorem RrIs.below {w w' : World} {g bl : Nat} {xs : List UInt8} {bad : Bool} (h : RrIs w g bl xs bad) (hb : Below w.heap.size w w') : RrIs w' g bl xs bad := h.fr (Fr.ofBelow hb (fun _ => False)) id (fun _ => id)
theorem RrIs.noStep {w : World} {g bl : Nat} {xs : List UInt8} {bad : Bool} (h : RrIs w g bl xs bad) : NoStep w (fun k => k = g) := by
  obtain ⟨A, n, c, h⟩ := h
  exact noStep_block h.heap (by decide)
theorem RrAt.cell {w : World} {g bl : Nat} {A : Option Addr} {n c : Nat} {xs : List UInt8} {bad : Bool} (h : RrAt w g bl A n c xs bad) : w.cell? ⟨g, 0, none⟩ = some (.slice A n c) ∧ w.cell? ⟨g, 1, none⟩ = some (.bool bad) ∧ w.frozen? ⟨g, 0, none⟩ = false ∧ w.frozen? ⟨g, 1, none⟩ = false := by
  refine ⟨?_, ?_, ?_, ?_⟩ <;> simp [World.cell?, World.frozen?, h.heap]
theorem RrAt.setLeft {w : World} {g bl : Nat} {A : Option Addr} {n c : Nat} {xs : List UInt8} {bad : Bool} (h : RrAt w g bl A n c xs bad) {A' : Option Addr} {n' c' : Nat} {ys : List UInt8} (rs : RS w A' n' c' ys) (hn : n' ≤ n) (hblk : 0 < n' → ∃ off, A' = some ⟨bl, off, none⟩) :
    RrAt (w.setCell ⟨g, 0, none⟩ (.slice A' n' c')) g bl A' n' c' ys bad := by
  have hf := fr_setCell (F := fun k => k = g) (w := w) ⟨g, 0, none⟩ (.slice A' n' c') rfl
  refine ⟨by simp [World.setCell, Array.getElem?_modify, h.heap], rs.fr hf (fun h0 b off e e2 => ?_), hblk, fun h0 => h.apart (by omega), by have := h.small; omega⟩
  obtain ⟨o, e3⟩ := hblk h0
  rw [e3] at e; cases e
  exact h.apart (by omega) e2
theorem RrAt.setBad {w : World} {g bl : Nat} {A : Option Addr} {n c : Nat} {xs : List UInt8} {bad : Bool} (h : RrAt w g bl A n c xs bad) : RrAt (w.setCell ⟨g, 1, none⟩ (.bool true)) g bl A n c xs true := by
  have hf := fr_setCell (F := fun k => k = g) (w := w) ⟨g, 1, none⟩ (.bool true) rfl
  refine ⟨by simp [World.setCell, Array.getElem?_modify, h.heap], h.rs.fr hf (fun h0 b off e e2 => ?_), h.blk, h.apart, h.small⟩
  obtain ⟨o, e3⟩ := h.blk h0
  rw [e3] at e; cases e
  exact h.apart h0 e2

set_option maxHeartbeats 2000000 in
set_option maxRecDepth 100000 in
theorem rr_num (k : Nat) (hk0 : 0 < k) (hk : k ≤ 4) (g bl : Nat) (xs : List UInt8) (bad : Bool) (w : World) (h : RrIs w g bl xs bad) (hb : bad = true → xs = []) :
    Calls Tryd.prog 80 #[.pointer (some ⟨g, 0, none⟩), .int .i64 k] w fun e w' => e = .returned (.int .u32 (rdVal k xs)) ∧ RrIs w' g bl (rdLeft k xs) (rdBad k xs bad) ∧ Fr (fun k => k = g) w w' := by
  obtain ⟨A, n, c, h⟩ := h
  obtain ⟨c0, c1, f0, f1⟩ := h.cell
  have hl := h.rs.len
  have hsm := h.small
  by_cases hs : xs.length < k
  · unfold rdVal rdLeft rdBad
    rw [if_pos hs, if_pos hs, if_pos hs]
    have h1 := h.setBad
    have hres := Lib.hid (h1.setLeft (RS.none _) (Nat.zero_le _) (fun h0 => absurd h0 (by omega)))
    have hfr := Lib.hid (fr_same (fr_setCell (F := fun k => k = g) (w := w) ⟨g, 1, none⟩ (.bool true) rfl) (fr_setCell (F := fun k => k = g) ⟨g, 0, none⟩ (.slice none 0 0) rfl))
    obtain ⟨d0, d1, e0, e1⟩ := h1.cell
    have hnk : (n : Int) < k := by omega
    clear hl hb h h1 d1 e1
    cases bad with
    | true =>
      go_enter Tryd.func80, Tryd.ntmps80
      go_wp2_with fail
      go_ret
      exact ⟨rfl, ⟨_, _, _, hres.out⟩, hfr.out⟩
    | false =>
      go_enter Tryd.func80, Tryd.ntmps80
      go_wp2_with fail
      go_ret
      exact ⟨rfl, ⟨_, _, _, hres.out⟩, hfr.out⟩
  · have hbf : bad = false := by
      cases bad with
      | false => rfl
      | true => have := hb rfl; rw [this] at hs; simp at hs; omega
    subst hbf
    unfold rdVal rdLeft rdBad
    rw [if_neg hs, if_neg hs, if_neg hs]
    have hnk : ¬ (n : Int) < k := by omega
    have hkn : k ≤ n := by omega
    obtain ⟨b, off, rfl, _, hc⟩ := h.rs.rb.cells (by omega)
    have hsub := h.rs.sub k hkn
    have sl := fun w => by_slice_l w (some ⟨b, off, none⟩) n c k hkn k rfl
    obtain rfl : b = bl := by
      obtain ⟨o, e⟩ := h.blk (by omega)
      cases e; rfl
    have hres := Lib.hid (h.setLeft hsub (by omega) (fun h0 => by
      unfold subA
      split
      · exact ⟨_, rfl⟩
      · exact ⟨off + k, by simp [add_at]⟩))
    have hfr := Lib.hid (fr_setCell (F := fun k => k = g) (w := w) ⟨g, 0, none⟩ (.slice (subA (some ⟨b, off, none⟩) c k) (n - k) (c - k)) rfl)
    have hL := Lib.hid hl
    clear h hl hb hsub f1 hs
    generalize subA (some ⟨b, off, none⟩) c k = A2 at sl hres hfr
    go_enter Tryd.func80, Tryd.ntmps80
    go_wp2_with fail
    go_loop [5, 6] (fun s5 s6 => ∃ j : Nat, j ≤ k ∧ s5 = .int .u32 ((beVal (xs.take j) : Nat) : Int) ∧ s6 = .int .i64 j) (fun _ i => k - (intOf i).toNat)
    case atStart => exact ⟨0, by omega, rfl, rfl⟩
    case round =>
      obtain ⟨j, hj, rfl, rfl⟩ := hrel
      by_cases hlt : j < k
      · have hlt' : (j : Int) < k := by omega
        have hv : beVal (xs.take j) < 16777216 := by
          have := beVal_lt (xs.take j)
          rw [List.length_take, Nat.min_eq_left (by rw [hL.out]; omega)] at this
          have h3 : 256 ^ j ≤ 256 ^ 3 := Nat.pow_le_pow_right (by omega) (by omega)
          omega
        have hth := Lib.hid (take_head xs j (by rw [hL.out]; omega))
        have x0 := hc j (by omega)
        have e9 : xs.getD j 0 = (xs.drop j).headD 0 := by rw [List.drop_eq_getElem_cons (by rw [hL.out]; omega)]; simp [List.getD_eq_getElem?_getD, List.getElem?_eq_getElem (show j < xs.length by rw [hL.out]; omega)]
        rw [e9] at x0
        unfold bv at x0
        have hvs := Lib.hid (beVal_snoc (xs.take j) ((xs.drop j).headD 0))
        have hbd := nb_bd ((xs.drop j).headD 0)
        have hnb := Lib.hid (show nb ((xs.drop j).headD 0) = (((xs.drop j).headD 0).toNat : Int) from rfl)
        clear hc e9 sl hnk
        generalize (xs.drop j).headD 0 = y at hth x0 hvs hbd hnb
        generalize beVal (xs.take j) = s at hvs hv ⊢
        have hv' : (s : Int) < 16777216 := by omega
        have hjn : (j : Int) < n := by omega
        go_wp2_with fail
        exact ⟨⟨j + 1, by omega, by rw [hth.out, hvs.out, hnb.out]; simp, by go_num⟩, by simp [intOf]; omega⟩
      · obtain rfl : j = k := by omega
        have hv : beVal (xs.take j) < 4294967296 := by
          have := beVal_lt (xs.take j)
          rw [List.length_take, Nat.min_eq_left (by rw [hL.out]; omega)] at this
          have h3 : 256 ^ j ≤ 256 ^ 4 := Nat.pow_le_pow_right (by omega) (by omega)
          omega
        clear hc hnk
        go_wp2_with fail
        go_ret
        exact ⟨rfl, ⟨_, _, _, hres.out⟩, hfr.out⟩

set_option maxHeartbeats 1000000 in
theorem rr_rest (g bl : Nat) (xs : List UInt8) (bad : Bool) (w : World) (h : RrIs w g bl xs bad) :
    Calls Tryd.prog 81 #[.pointer (some ⟨g, 0, none⟩)] w fun e w' => ∃ v, e = .returned v ∧ OwnB w' w.heap.size v xs ∧ RrIs w' g bl [] bad ∧ Fr (fun k => k = g) w w' := by
  obtain ⟨A, n, c, h⟩ := h
  obtain ⟨c0, c1, f0, f1⟩ := h.cell
  have hl := Lib.hid h.rs.len
  have hb0 : Below w.heap.size w (w.alloc (.cells #[] 5)) := below_new _ _
  have hown := by_lit0 w w.heap.size (Nat.le_refl _)
  have hA := h.rs.nil
  have hrb := h.rs.rb.below hb0
  have hsm := h.small
  have hlen0 : ([] : List UInt8).length + n ≤ 140737488355328 := by simp; omega
  have H := Lib.hid h
  have hgl := h.lt
  clear h c1 f1
  go_enter Tryd.func81, Tryd.ntmps81
  go_wp2_with (at_builtin; go_must (refine wpList_append_by rfl _ _ rfl w hb0 _ [] rfl hown _ _ _ xs rfl hA hrb hlen0 ?_; intro v1 w1 hown1 hb _; have d0 := (hb.cell (p := ⟨g, 0, none⟩) hgl).trans c0; have d1 := (hb.frozen (p := ⟨g, 0, none⟩) hgl).trans f0))
  go_ret
  rw [List.nil_append] at hown1
  have h1 : RrAt w1 g bl A n c xs bad := by
    have h := H.out
    exact ⟨(hb.block g hgl).trans h.heap, h.rs.below hb, h.blk, h.apart, h.small⟩
  have hf := fr_setCell (F := fun k => k = g) (w := w1) ⟨g, 0, none⟩ (.slice none 0 0) rfl
  exact ⟨_, rfl, hown1.fr hf (fun k hk e => by have := hown1.own k hk; omega), ⟨_, _, _, h1.setLeft (RS.none _) (Nat.zero_le _) (fun h0 => absurd h0 (by omega))⟩, fr_pre hb hf⟩

end Go.Proofs.YtcppmihambcihaaDoor
/- The document's: the record with which bytes begin. -/
namespace Go.Proofs.YtcppmihambcihaaDoor
open Go.RowKit
set_option linter.unusedVariables false
set_option linter.unusedSimpArgs false
def IsOne (r : Option (Nat × List UInt8)) (w : World) (e : Ending) (w' : World) : Prop := match r with
  | none => e = .returned (.tuple #[.agg (nta 0 none 0 0 0), .int .i64 0]) ∧ Below w.heap.size w w'
  | some (s, d) => ∃ A c, e = .returned (.tuple #[.agg (nta s A d.length c 0), .int .i64 (8 + d.length)]) ∧ DatIs w.heap.size w' A c d ∧ Below w.heap.size w w'
theorem IsOne_none {w : World} {e : Ending} {w' : World} (h1 : e = .returned (.tuple #[.agg (nta 0 none 0 0 0), .int .i64 0])) (h2 : Below w.heap.size w w') : IsOne none w e w' := ⟨h1, h2⟩
set_option maxHeartbeats 4000000 in
set_option maxRecDepth 100000 in
theorem rf_one (A : Option Addr) (n c : Nat) (xs : List UInt8) (w : World) (rs : RS w A n c xs) (hn : n ≤ 140737488350000) :
    Calls Tryd.prog 69 #[.slice A n c] w (IsOne (bkFirst xs) w) := by
  have hl := Lib.hid rs.len
  have HR := Lib.hid rs
  have HN := Lib.hid (show _ = some (Obj.cells (nta 0 none 0 0 0) _ (0, 0)) from heap_alloc_new w (.cells (nta 0 none 0 0 0) 54))
  have HB := Lib.hid (below_new w (.cells (nta 0 none 0 0 0) 54))
  have HM := Lib.hid hn
  clear hn
  by_cases h0 : n < 9
  · have hz : (n : Int) < 9 := by omega
    have ho : bkFirst xs = none := by unfold bkFirst; rw [if_pos (by rw [hl.out]; omega)]
    rw [ho]
    clear ho h0 rs
    go_enter Tryd.func69, Tryd.ntmps69
    go_wp2_with fail
    refine bodyPost_ret (results_cell_tmp_row rfl _ _ w.heap.size _ _ _ _ _ rfl rfl HN.out rfl Tryd.underlying54 (by kernel_rfl)) rfl ?_
    exact IsOne_none rfl HB.out
  obtain ⟨b, off, rfl, hlt, hcl⟩ := rs.rb.cells (by omega)
  have z0 : (w.alloc (.cells (nta 0 none 0 0 0) 54)).cell? ⟨b, off, none⟩ = some (.int .u8 (bkHd xs)) := by
    have h := hcl 0 (by omega)
    rw [bkHd_get] at h
    rw [World.cell?_alloc_lt _ _ _ hlt]
    exact h
  have hz : ¬ (n : Int) < 9 := by omega
  have hnp : 0 < (n : Int) := by omega
  have h255 := bkHd_lt xs
  have hh0 : 0 ≤ (bkHd xs : Int) := by omega
  have hh1 : (bkHd xs : Int) < 256 := by omega
  clear rs
  by_cases c1 : bkHd xs = 0
  · have hy : (bkHd xs : Int) < 1 := by omega
    have ho : bkFirst xs = none := by unfold bkFirst; rw [if_pos (.inr (.inl c1))]
    rw [ho]
    clear ho c1 hcl
    go_enter Tryd.func69, Tryd.ntmps69
    go_wp2_with fail
    refine bodyPost_ret (results_cell_tmp_row rfl _ _ w.heap.size _ _ _ _ _ rfl rfl HN.out rfl Tryd.underlying54 (by kernel_rfl)) rfl ?_
    exact IsOne_none rfl HB.out
  have hy : ¬ (bkHd xs : Int) < 1 := by omega
  by_cases c2 : 40 < bkHd xs
  · have hx : 40 < (bkHd xs : Int) := by omega
    have ho : bkFirst xs = none := by unfold bkFirst; rw [if_pos (.inr (.inr (.inl c2)))]
    rw [ho]
    clear ho c1 c2 hcl
    go_enter Tryd.func69, Tryd.ntmps69
    go_wp2_with fail
    refine bodyPost_ret (results_cell_tmp_row rfl _ _ w.heap.size _ _ _ _ _ rfl rfl HN.out rfl Tryd.underlying54 (by kernel_rfl)) rfl ?_
    exact IsOne_none rfl HB.out
  have hx : ¬ 40 < (bkHd xs : Int) := by omega
  have e8 : IntKind.i64.wrap (8 + (bkHd xs : Int)) = 8 + (bkHd xs : Int) := by simp [IntKind.wrap, IntKind.bits, IntKind.signed]; omega
  by_cases c3 : n < 8 + bkHd xs
  · have hv : (n : Int) < 8 + (bkHd xs : Int) := by omega
    have ho : bkFirst xs = none := by unfold bkFirst; rw [if_pos (.inr (.inr (.inr (by rw [hl.out]; exact c3))))]
    rw [ho]
    clear ho c1 c2 c3 hcl
    go_enter Tryd.func69, Tryd.ntmps69
    go_wp2_with fail
    refine bodyPost_ret (results_cell_tmp_row rfl _ _ w.heap.size _ _ _ _ _ rfl rfl HN.out rfl Tryd.underlying54 (by kernel_rfl)) rfl ?_
    exact IsOne_none rfl HB.out
  have hv : ¬ (n : Int) < 8 + (bkHd xs : Int) := by omega
  have hif : ¬ (xs.length = 0 ∨ bkHd xs = 0 ∨ 40 < bkHd xs ∨ xs.length < 8 + bkHd xs) := by rw [hl.out]; omega
  have HT := Lib.hid ((HR.out.take (7 + bkHd xs) (by omega)).below HB.out)
  have hcap := HR.out.cap
  have hi : (8 + (bkHd xs : Int) - 1).toNat = 7 + bkHd xs := by omega
  have hs0 : 0 ≤ 8 + (bkHd xs : Int) - 1 := by omega
  have hs1 : 8 + (bkHd xs : Int) - 1 ≤ c := by omega
  have hs2 : 8 + (bkHd xs : Int) - 1 < n := by omega
  have e7 : IntKind.i64.wrap (8 + (bkHd xs : Int) - 1) = 8 + (bkHd xs : Int) - 1 := by simp [IntKind.wrap, IntKind.bits, IntKind.signed]; omega
  have HM2 := Lib.hid (show 7 + bkHd xs ≤ 140737488350000 by omega)
  have hz7 := hcl (7 + bkHd xs) (by omega)
  rw [show xs.getD (7 + bkHd xs) 0 = xs[7 + bkHd xs]?.getD 0 from List.getD_eq_getElem?_getD ..] at hz7
  have z7 : (w.alloc (.cells (nta 0 none 0 0 0) 54)).cell? ⟨b, off + (7 + bkHd xs), none⟩ = some (.int .u8 (nb (xs[7 + bkHd xs]?.getD 0))) := by
    rw [World.cell?_alloc_lt _ _ _ hlt]
    exact hz7
  have h0h : bkHd xs ≠ 0 := c1
  clear c1 c2 c3 hcl hcap hz7
  by_cases hb7 : xs[7 + bkHd xs]?.getD 0 = 0
  rotate_left
  · have ho : bkFirst xs = none := by
      unfold bkFirst
      rw [if_neg hif]
      cases crcOpen (xs.take (7 + bkHd xs)) with
      | none => rfl
      | some ys => exact if_neg hb7
    rw [ho]
    have d7 : (nb (xs[7 + bkHd xs]?.getD 0) != 0) = true := by simp; exact fun h => hb7 (nb_inj0 h)
    clear ho hif hb7
    generalize bkHd xs = h at *
    go_enter Tryd.func69, Tryd.ntmps69
    go_wp2_with fail
    refine bodyPost_ret (results_cell_tmp_row rfl _ _ w.heap.size _ _ _ _ _ rfl rfl HN.out rfl Tryd.underlying54 (by kernel_rfl)) rfl ?_
    exact IsOne_none rfl HB.out
  have d7 : (nb (xs[7 + bkHd xs]?.getD 0) != 0) = false := by rw [hb7]; rfl
  cases hopen : crcOpen (xs.take (7 + bkHd xs)) with
  | none =>
    have ho : bkFirst xs = none := by unfold bkFirst; rw [if_neg hif, hopen]
    rw [ho]
    clear ho hif hb7 h0h
    have HO := Lib.hid hopen
    clear hopen
    generalize bkHd xs = h at *
    go_enter Tryd.func69, Tryd.ntmps69
    go_wp2_with fail
    refine (ref_crcOpen (some ⟨b, off, none⟩) (7 + h) c (xs.take (7 + h)) _ HT.out HM2.out).mono ?_
    rintro e w2 hq
    rw [HO.out] at hq
    obtain ⟨v2, rfl, hown2, hb2⟩ := hq
    have hB2 := Lib.hid (below_step HB.out hb2)
    have HN2 := Lib.hid ((hb2.block _ (Array.getElem?_eq_some_iff.mp HN.out).1).trans HN.out)
    have HO2 := Lib.hid (show OwnB w2 _ v2 ((none : Option (List UInt8)).getD []) from hown2)
    clear hown2 hb2
    have hn2 := HN2.out
    have n0 : w2.cell? ⟨w.heap.size, 0, none⟩ = some (.int .u32 0) := by simp [World.cell?, hn2]
    have n1 : w2.cell? ⟨w.heap.size, 1, none⟩ = some (.slice none 0 0) := by simp [World.cell?, hn2]
    have n2 : w2.cell? ⟨w.heap.size, 2, none⟩ = some (.int .i64 0) := by simp [World.cell?, hn2]
    have nf : ∀ i, w2.frozen? ⟨w.heap.size, i, none⟩ = false := fun i => by simp [World.frozen?, hn2]
    have HNX := Lib.hid (nt_set hn2 0 none 0 0 0)
    clear hn2
    go_wp2_with fail
    refine bodyPost_ret (results_cell_tmp_row rfl _ _ w.heap.size _ _ _ _ _ rfl rfl HNX.out rfl Tryd.underlying54 (by kernel_rfl)) rfl ?_
    exact IsOne_none rfl (hB2.out.trans ((fr_setCells (F := fun i => i = w.heap.size) w.heap.size rfl (nta 0 none 0 0 0).toList 0 w2).below w.heap.size (by have := hB2.out.size; omega) (fun i e => by omega)))
  | some ys =>
    have HO := Lib.hid hopen
    have hlen := opn_len hopen
    rw [List.length_take, hl.out] at hlen
    have HL := Lib.hid (show ys.length = 5 + bkHd xs by omega)
    have ho : bkFirst xs = some (beVal ((ys.drop 1).take 4), ys.drop 5) := by unfold bkFirst; rw [if_neg hif, hopen]; exact if_pos hb7
    rw [ho]
    obtain ⟨s9, hs9⟩ : ∃ s, s = beVal ((ys.drop 1).take 4) := ⟨_, rfl⟩
    obtain ⟨d9, hd9⟩ : ∃ d, d = ys.drop 5 := ⟨_, rfl⟩
    rw [← hs9, ← hd9]
    have hd9l : d9.length = bkHd xs := by rw [hd9, List.length_drop, HL.out]; omega
    have HS9 := Lib.hid (show rdVal 4 (ys.drop 1) = s9 by rw [rdVal, if_neg (by rw [List.length_drop, HL.out]; omega), hs9])
    have HD9 := Lib.hid (show rdLeft 4 (ys.drop 1) = d9 by rw [rdLeft, if_neg (by rw [List.length_drop, HL.out]; omega), hd9, List.drop_drop])
    have HDL := Lib.hid hd9l
    have HP := Lib.hid h0h
    clear hd9l hs9 hd9 ho hif hopen hlen hb7 h0h
    generalize bkHd xs = h at *
    go_enter Tryd.func69, Tryd.ntmps69
    go_wp2_with fail
    refine (ref_crcOpen (some ⟨b, off, none⟩) (7 + h) c (xs.take (7 + h)) _ HT.out HM2.out).mono ?_
    rintro e w2 hq
    rw [HO.out] at hq
    obtain ⟨v2, rfl, hown2, hb2⟩ := hq
    have hB2 := Lib.hid (below_step HB.out hb2)
    have HN2 := Lib.hid ((hb2.block _ (Array.getElem?_eq_some_iff.mp HN.out).1).trans HN.out)
    have HO2 := Lib.hid (show OwnB w2 _ v2 (((some ys) : Option (List UInt8)).getD []) from hown2)
    clear hown2 hb2
    obtain ⟨A2, c2, rfl, r2⟩ := HO2.out.reads
    have R2 := Lib.hid (show RS w2 A2 ys.length c2 ys from r2)
    have hyl := HL.out
    obtain ⟨b2, o2, rfl, hlt2, _⟩ := r2.rb.cells (by show 0 < ys.length; omega)
    have hbk2 := (HO2.out.free rfl).2.1
    have HBK2 := Lib.hid hbk2
    have hs4 := fun w' => by_slice_l w' (some ⟨b2, o2, none⟩) ys.length c2 1 (by omega) 1 rfl
    have hbr := below_new w2 (.cells #[.slice (subA (some ⟨b2, o2, none⟩) c2 1) (ys.length - 1) (c2 - 1), .bool false] 148)
    have hrs : RS (w2.alloc (.cells #[.slice (subA (some ⟨b2, o2, none⟩) c2 1) (ys.length - 1) (c2 - 1), .bool false] 148)) (subA (some ⟨b2, o2, none⟩) c2 1) (ys.length - 1) (c2 - 1) (ys.drop 1) := by
      have h3 := R2.out.below hbr
      exact ⟨h3.rb.sub 1 (by omega) h3.cap, (fun e => by unfold subA at e; split at e <;> cases e), by have := h3.cap; omega⟩
    have HI3 := Lib.hid (show RrIs (w2.alloc (.cells #[.slice (subA (some ⟨b2, o2, none⟩) c2 1) (ys.length - 1) (c2 - 1), .bool false] 148)) w2.heap.size b2 (ys.drop 1) false from ⟨_, _, _, heap_alloc_new w2 _, hrs, (fun _ => by unfold subA; split; exact ⟨o2, rfl⟩; exact ⟨o2 + 1, by simp [Addr.add_mid]⟩), (fun _ => by omega), by omega⟩)
    have HB3 := Lib.hid (below_step hB2.out hbr)
    have HW2 := Lib.hid (Array.getElem?_eq_some_iff.mp HN2.out).1
    have HN3 := Lib.hid ((hbr.block _ HW2.out).trans HN2.out)
    clear hbr hrs hbk2 r2 hyl
    go_wp2_with fail
    generalize w2.alloc (.cells #[.slice (subA (some ⟨b2, o2, none⟩) c2 1) (ys.length - 1) (c2 - 1), .bool false] 148) = w3 at *
    refine (rr_num 4 (by omega) (by omega) _ b2 (ys.drop 1) false _ HI3.out (fun h => by cases h)).mono ?_
    rintro e w5 hq
    rw [HS9.out, HD9.out] at hq
    obtain ⟨rfl, hri5, hf5⟩ := hq
    have HF5 := Lib.hid hf5
    have HI5 := Lib.hid hri5
    clear hri5 hf5 hs4
    go_wp2_with fail
    refine (rr_rest _ b2 d9 _ _ HI5.out).mono ?_
    rintro e w6 ⟨v6, rfl, hown6, _, hf6⟩
    have HF6 := Lib.hid (fr_same HF5.out hf6)
    have HS5 := Lib.hid (show w2.heap.size ≤ w5.heap.size from Nat.le_trans (Nat.le_of_lt (Nat.lt_of_lt_of_le HI3.out.lt (Nat.le_refl _))) HF5.out.size)
    have HB6 := Lib.hid (HB3.out.trans (HF6.out.below w.heap.size HB3.out.size (fun i e => by have := hB2.out.size; omega)))
    have hn2 := (HF6.out.block _ (Array.getElem?_eq_some_iff.mp HN3.out).1 (fun e => by have := HW2.out; omega)).trans HN3.out
    obtain ⟨A6, c6, rfl, r6⟩ := hown6.reads
    have HR6 := Lib.hid (show RS w6 A6 d9.length c6 d9 from r6)
    have HO6 := Lib.hid hown6
    have n0 : w6.cell? ⟨w.heap.size, 0, none⟩ = some (.int .u32 0) := by simp [World.cell?, hn2]
    have n1 : w6.cell? ⟨w.heap.size, 1, none⟩ = some (.slice none 0 0) := by simp [World.cell?, hn2]
    have n2 : w6.cell? ⟨w.heap.size, 2, none⟩ = some (.int .i64 0) := by simp [World.cell?, hn2]
    have nf : ∀ i, w6.frozen? ⟨w.heap.size, i, none⟩ = false := fun i => by simp [World.frozen?, hn2]
    have HNX := Lib.hid (nt_set hn2 s9 A6 d9.length c6 0)
    clear hn2 r6 hown6 hf6
    go_wp2_with fail
    change bodyPost _ _ _ _ _ (w6.setCells w.heap.size 0 (nta s9 A6 d9.length c6 0).toList)
    have hfr := fr_setCells (F := fun i => i = w.heap.size) w.heap.size rfl (nta s9 A6 d9.length c6 0).toList 0 w6
    have hS2 := HB6.out.trans (hfr.below w.heap.size HB6.out.size (fun i e => by omega))
    generalize w6.setCells w.heap.size 0 _ = w7 at *
    refine bodyPost_ret (results_cell_tmp_row rfl _ _ w.heap.size _ _ _ _ _ rfl rfl HNX.out rfl Tryd.underlying54 (by kernel_rfl)) rfl ?_
    obtain ⟨b6, o6, rfl, hlt6, _⟩ := HR6.out.rb.cells (by rw [HDL.out]; have := HP.out; omega)
    obtain ⟨_, hb6, hb6', hfz⟩ := HO6.out.free rfl
    have hw2 := HW2.out
    have hs5 := HS5.out
    refine ⟨_, c6, ?_, ⟨HR6.out.fr hfr (fun _ b off e e2 => by cases e; omega), b6, o6, rfl, by have := hB2.out.size; omega, by have := hfr.size; omega, fun i => (hfr.frozen (p := ⟨b6, i, none⟩) hlt6 (by show ¬ b6 = _; omega)).trans (hfz i)⟩, hS2⟩
    rw [HDL.out]
    rfl
end Go.Proofs.YtcppmihambcihaaDoor
/- The document's: all records, the last one. -/
namespace Go.Proofs.YtcppmihambcihaaDoor
open Go Go.RowKit Go.Shelf
set_option linter.unusedVariables false
set_option linter.unusedSimpArgs false
theorem NtsAt.push {lo : Nat} {wr w1 w' : World} {v v' : Value} {ys : List NV} {x : NV} (h : NtsAt lo wr v ys) (hlo : lo ≤ wr.heap.size) (hb : Below wr.heap.size wr w1) (hx : DatIs wr.heap.size w1 x.A x.c x.nt.dat)
    (hF : Fr (fun i => v.ownBlock = some i) w1 w') (hown : OwnNt w' v' (ys ++ [x])) (hfar : ∀ k, v'.ownBlock = some k → v.ownBlock = some k ∨ w1.heap.size ≤ k) : NtsAt lo w' v' (ys ++ [x]) := by
  have hsz := hb.size
  have hv : ∀ k, v.ownBlock = some k → k < wr.heap.size := fun k hk => h.own.lt k hk
  refine ⟨hown, fun k hk => ?_, fun y hy => ?_, ?_⟩
  · rcases hfar k hk with h2 | h2
    · exact h.far k h2
    · omega
  · rw [List.mem_append, List.mem_singleton] at hy
    rcases hy with hy | rfl
    · have hd := (h.dat y hy).1.fr (Fr.ofBelow hb (fun _ => False)) (fun _ _ _ h => h)
      refine ⟨hd.fr hF (fun k o e e2 => (h.dat y hy).2 k o e e2), fun k o e e2 => ?_⟩
      have h3 := (h.dat y hy).1.blk k o e
      rcases hfar k e2 with h4 | h4
      · exact (h.dat y hy).2 k o e h4
      · omega
    · refine ⟨(hx.fr hF (fun k o e e2 => ?_)).base hlo, fun k o e e2 => ?_⟩
      · have h3 := hx.blk k o e
        have := hv k e2
        omega
      · have h3 := hx.blk k o e
        rcases hfar k e2 with h4 | h4
        · have := hv k h4; omega
        · omega
  · rw [List.pairwise_append]
    refine ⟨h.apart, List.pairwise_singleton _ _, fun y hy z hz k o k' o' e e' => ?_⟩
    rw [List.mem_singleton] at hz
    subst hz
    have h3 := (h.dat y hy).1.blk k o e
    have h4 := hx.blk k' o' e'
    omega
theorem NtsAt.below {lo : Nat} {w w' : World} {v : Value} {ys : List NV} (h : NtsAt lo w v ys) (hb : Below w.heap.size w w') : NtsAt lo w' v ys :=
  ⟨h.own.fr (Fr.ofBelow hb (fun _ => False)) (fun _ _ h => h), h.far, fun x hx => ⟨(h.dat x hx).1.fr (Fr.ofBelow hb (fun _ => False)) (fun _ _ _ h => h), (h.dat x hx).2⟩, h.apart⟩
theorem IsOne.any {r : Option (Nat × List UInt8)} {w : World} {e : Ending} {w' : World} (h : IsOne r w e w') : ∃ (s : Nat) (A : Option Addr) (d : List UInt8) (c : Nat) (n : Int), e = .returned (.tuple #[.agg (nta s A d.length c 0), .int .i64 n]) ∧ ((r = none ∧ n = 0) ∨ (r = some (s, d) ∧ n = 8 + d.length ∧ DatIs w.heap.size w' A c d)) ∧ Below w.heap.size w w' := by
  cases r with
  | none => exact ⟨0, none, [], 0, 0, h.1, .inl ⟨rfl, rfl⟩, h.2⟩
  | some p =>
    obtain ⟨s, d⟩ := p
    obtain ⟨A, c, h1, h2, h3⟩ := h
    exact ⟨s, A, d, c, 8 + d.length, h1, .inr ⟨rfl, rfl, h2⟩, h3⟩
structure RNI (w : World) (xs : List UInt8) (wr : World) (v : Value) (ys : List NV) (k : Nat) : Prop where
  nts : NtsAt w.heap.size wr v ys
  all : bkNotes xs = ys.map (·.nt) ++ bkAll (ys.getLast?.map (·.nt.seq)) k (xs.drop k)
  le : k ≤ xs.length
  few : ys.length ≤ k
  u32 : ∀ x ∈ ys, x.nt.seq < 4294967296
  bel : Below w.heap.size w wr
theorem RNI.start (w : World) (xs : List UInt8) : RNI w xs w (.slice none 0 0) [] 0 :=
  ⟨⟨OwnE.nil _ _, (fun k h => by cases h), (fun x hx => by cases hx), List.Pairwise.nil⟩, (by rw [List.drop_zero]; rfl), Nat.zero_le _, Nat.le_refl _, (fun x hx => by cases hx), Below.refl _ _⟩
theorem bkAll_nil_no {p : Option Nat} {k : Nat} {xs : List UInt8} (h : ∀ s d, bkFirst xs = some (s, d) → bkNext p s = false) : bkAll p k xs = [] := by
  cases hf : bkFirst xs with
  | none => exact bkAll_none hf
  | some r => obtain ⟨s, d⟩ := r; exact bkAll_no hf (h s d hf)
theorem RNI.done {w : World} {xs : List UInt8} {wr : World} {v : Value} {ys : List NV} {k : Nat} (h : RNI w xs wr v ys k) (hno : ∀ s d, bkFirst (xs.drop k) = some (s, d) → bkNext (ys.getLast?.map (·.nt.seq)) s = false) : ys.map (·.nt) = bkNotes xs := by
  rw [h.all, bkAll_nil_no hno, List.append_nil]
theorem RNI.push {w : World} {xs : List UInt8} {wr w1 w' : World} {v v' : Value} {ys : List NV} {k s : Nat} {d : List UInt8} {A : Option Addr} {c : Nat} (h : RNI w xs wr v ys k) (hb : Below wr.heap.size wr w1) (hx : DatIs wr.heap.size w1 A c d) (hf : bkFirst (xs.drop k) = some (s, d)) (hn : bkNext (ys.getLast?.map (·.nt.seq)) s = true)
    (hF : Fr (fun i => v.ownBlock = some i) w1 w') (hown : OwnNt w' v' (ys ++ [⟨⟨s, d, k + (8 + d.length)⟩, A, c⟩])) (hfar : ∀ k, v'.ownBlock = some k → v.ownBlock = some k ∨ w1.heap.size ≤ k) : RNI w xs w' v' (ys ++ [⟨⟨s, d, k + (8 + d.length)⟩, A, c⟩]) (k + (8 + d.length)) := by
  have hl := bkFirst_len hf
  rw [List.length_drop] at hl
  have hle := h.le
  refine ⟨NtsAt.push h.nts h.bel.size hb hx hF hown hfar, ?_, by omega, by have := h.few; rw [List.length_append]; simp; omega, ?_, (h.bel.trans (hb.mono h.bel.size)).trans (hF.below w.heap.size (Nat.le_trans h.bel.size hb.size) (fun i e => h.nts.far i e))⟩
  · rw [h.all, bkAll_yes hf hn, List.drop_drop]; simp
  · intro x hx
    rw [List.mem_append, List.mem_singleton] at hx
    rcases hx with hx | rfl
    · exact h.u32 x hx
    · exact hl.2.2.2
/-- The last one's number in memory. -/
theorem nts_last {lo : Nat} {w : World} {v : Value} {ys : List NV} {x : NV} (h : NtsAt lo w v (ys ++ [x])) (hl : ys.length ≤ 1000000) : ∃ g c, v = .slice (some ⟨g, 0, none⟩) (ys.length + 1) c ∧ g < w.heap.size ∧ w.rangeAt g (ys.length * 3) (ntc x) := by
  obtain ⟨A, c, rfl, hr, _, ha⟩ := h.own.re (by simp; omega)
  rw [List.length_append, List.length_singleton] at hr ⊢
  obtain ⟨b, off, rfl, hlt, _⟩ := hr.cells (by omega)
  obtain ⟨h0, _⟩ := ha _ rfl
  simp only at h0
  subst h0
  have h2 := hr.elem ntc_len ys.length (by simp)
  refine ⟨b, c, by simp, hlt, ?_⟩
  simpa using h2
end Go.Proofs.YtcppmihambcihaaDoor
/- The document's Notes: the walk. -/
namespace Go.Proofs.YtcppmihambcihaaDoor
open Go Go.RowKit Go.Shelf
set_option linter.unusedVariables false
set_option linter.unusedSimpArgs false
theorem nt_new_at (w : World) (s : Nat) (A : Option Addr) (d : List UInt8) (c k : Nat) : RNt (w.alloc (.cells (nta s A d.length c ((k : Int) + (8 + (d.length : Int)))) 54)) (some ⟨w.heap.size, 0, none⟩) 1 1 [⟨⟨s, d, k + (8 + d.length)⟩, A, c⟩] := by
  have h := nt_re_new w ⟨⟨s, d, k + (8 + d.length)⟩, A, c⟩
  have e : ((k + (8 + d.length) : Nat) : Int) = (k : Int) + (8 + (d.length : Int)) := by omega
  rw [← e]
  exact h
set_option maxHeartbeats 4000000 in
set_option maxRecDepth 100000 in
theorem rf_notes (A : Option Addr) (n c : Nat) (xs : List UInt8) (w : World) (hrs : RS w A n c xs) (hn : n ≤ 1000000) :
    Calls Tryd.prog 56 #[.slice A n c] w (IsNts xs w) := by
  have HRS := Lib.hid hrs
  have HN := Lib.hid hn
  clear hrs hn
  go_enter Tryd.func56, Tryd.ntmps56
  go_wp2_with fail
  go_loopw [3, 4] (fun s3 s4 wr => ∃ (ys : List NV) (k : Nat), s4 = .int .i64 (k : Int) ∧ RNI w xs wr s3 ys k) (fun _ s4 _ => n - (intOf s4).toNat)
  case atStart => exact ⟨[], 0, rfl, RNI.start w xs⟩
  case round =>
    obtain ⟨ys, k, rfl, hr⟩ := hrel
    have HR := Lib.hid hr
    have hxl := HRS.out.len
    have hkn := hr.le
    have hs4 := fun w' => by_slice_l w' A n c k (by omega) (k : Int) rfl
    have HRD := Lib.hid ((HRS.out.fr (Fr.ofBelow hr.bel (fun _ => False)) (fun _ _ _ _ h => h)).sub k (by omega))
    have HK := Lib.hid (show k ≤ 1000000 ∧ ys.length ≤ 1000000 by have := HN.out; have := hr.few; omega)
    clear hr hxl hkn
    go_wp2_with fail
    refine (rf_one _ _ _ _ _ HRD.out (by have := HN.out; omega)).mono ?_
    rintro e w1 hq
    obtain ⟨s, A1, d, c1, m, rfl, hok, hb1⟩ := IsOne.any hq
    have HOK := Lib.hid hok
    have HB1 := Lib.hid hb1
    have HG2 := Lib.hid (heap_alloc_new w1 (.cells (nta s A1 d.length c1 0) 54))
    have HBA := Lib.hid (below_new w1 (.cells (nta s A1 d.length c1 0) 54))
    have hnt := HR.out.nts
    obtain ⟨A3, c3, e3, _⟩ := hnt.own.re (by have := HK.out; omega)
    subst e3
    clear hq hok hb1 hs4 hnt
    generalize hny : ys.length = ny at *
    have HNY := Lib.hid hny
    have hni : ny ≤ 1000000 := HK.out.2
    clear hny
    go_upto_region 5 with fail
    change Code.wp _ _ _ _ (w1.alloc (.cells (nta s A1 d.length c1 0) 54))
    have HB2 := Lib.hid (show Below wr.heap.size wr (w1.alloc (.cells (nta s A1 d.length c1 0) 54)) from below_step HB1.out HBA.out)
    generalize w1.alloc (.cells (nta s A1 d.length c1 0) 54) = w2 at *
    rcases HOK.out with ⟨hf, rfl⟩ | ⟨hf, rfl, hd⟩
    · have HD := Lib.hid (HR.out.done (fun s d h => by rw [hf] at h; cases h))
      refine wp_region_held (S := fun w' => Below w2.heap.size w2 w') (by kernel_rfl) ?_
      change wpAnyH _ _ _ _ _ _ _ _ w2.drew
      have hS0 : Below w2.heap.size w2 w2.drew := ⟨rfl, rfl, rfl, Nat.le_refl _, fun _ _ => rfl⟩
      change wpAnyH _ _ _ _ _ 27 (Array.replicate 27 false) _ _
      refine wpAnyH_take (i := 0) (oi := ?_) (v := ?_) ?_ (by kernel_rfl) (by kernel_rfl) (by kernel_rfl) ?_ ?_ (by assumption) ?_
      rotate_left 2; (simp only [List.getElem?_toArray, List.getElem?_cons_succ, List.getElem?_cons_zero]; rfl)
      rotate_left; (first | (refine .inl ⟨by rfl, ?_⟩; intro w9 hS9; go_simp; try with_reducible rfl) | (refine .inr ⟨by rfl, ?_⟩; with_reducible rfl))
      rotate_left; (intro _ _ _ h9; exact h9)
      try simp only [Act.put, List.setIfInBounds_toArray, List.set_cons_zero, List.set_cons_succ]
      refine wpAnyH_take (i := 1) (oi := ?_) (v := ?_) ?_ (by kernel_rfl) (by kernel_rfl) (by kernel_rfl) ?_ ?_ (by assumption) ?_
      rotate_left 2; (simp only [List.getElem?_toArray, List.getElem?_cons_succ, List.getElem?_cons_zero]; rfl)
      rotate_left; (first | (refine .inl ⟨by rfl, ?_⟩; intro w9 hS9; go_simp; try with_reducible rfl) | (refine .inr ⟨by rfl, ?_⟩; with_reducible rfl))
      rotate_left; (intro _ _ _ h9; exact h9)
      try simp only [Act.put, List.setIfInBounds_toArray, List.set_cons_zero, List.set_cons_succ]
      refine wpAnyH_take (i := 2) (oi := ?_) (v := ?_) ?_ (by kernel_rfl) (by kernel_rfl) (by kernel_rfl) ?_ ?_ (by assumption) ?_
      rotate_left 2; (simp only [List.getElem?_toArray, List.getElem?_cons_succ, List.getElem?_cons_zero]; rfl)
      rotate_left; (first | (refine .inl ⟨by rfl, ?_⟩; intro w9 hS9; go_simp; try with_reducible rfl) | (refine .inr ⟨by rfl, ?_⟩; with_reducible rfl))
      rotate_left; (intro _ _ _ h9; exact h9)
      try simp only [Act.put, List.setIfInBounds_toArray, List.set_cons_zero, List.set_cons_succ]
      refine wpAnyH_take (i := 3) (oi := ?_) (v := ?_) ?_ (by kernel_rfl) (by kernel_rfl) (by kernel_rfl) ?_ ?_ (by assumption) ?_
      rotate_left 2; (simp only [List.getElem?_toArray, List.getElem?_cons_succ, List.getElem?_cons_zero]; rfl)
      rotate_left; (first | (refine .inl ⟨by rfl, ?_⟩; intro w9 hS9; go_simp; try with_reducible rfl) | (refine .inr ⟨by rfl, ?_⟩; with_reducible rfl))
      rotate_left; (intro _ _ _ h9; exact h9)
      try simp only [Act.put, List.setIfInBounds_toArray, List.set_cons_zero, List.set_cons_succ]
      refine wpAnyH_take (i := 4) (oi := ?_) (v := ?_) ?_ (by kernel_rfl) (by kernel_rfl) (by kernel_rfl) ?_ ?_ (by assumption) ?_
      rotate_left 2; (simp only [List.getElem?_toArray, List.getElem?_cons_succ, List.getElem?_cons_zero]; rfl)
      rotate_left; (first | (refine .inl ⟨by rfl, ?_⟩; intro w9 hS9; go_simp; try with_reducible rfl) | (refine .inr ⟨by rfl, ?_⟩; with_reducible rfl))
      rotate_left; (intro _ _ _ h9; exact h9)
      try simp only [Act.put, List.setIfInBounds_toArray, List.set_cons_zero, List.set_cons_succ]
      refine wpAnyH_take (i := 5) (oi := ?_) (v := ?_) ?_ (by kernel_rfl) (by kernel_rfl) (by kernel_rfl) ?_ ?_ (by assumption) ?_
      rotate_left 2; (simp only [List.getElem?_toArray, List.getElem?_cons_succ, List.getElem?_cons_zero]; rfl)
      rotate_left; (first | (refine .inl ⟨by rfl, ?_⟩; intro w9 hS9; go_simp; try with_reducible rfl) | (refine .inr ⟨by rfl, ?_⟩; with_reducible rfl))
      rotate_left; (intro _ _ _ h9; exact h9)
      try simp only [Act.put, List.setIfInBounds_toArray, List.set_cons_zero, List.set_cons_succ]
      refine wpAnyH_take (i := 6) (oi := ?_) (v := ?_) ?_ (by kernel_rfl) (by kernel_rfl) (by kernel_rfl) ?_ ?_ (by assumption) ?_
      rotate_left 2; (simp only [List.getElem?_toArray, List.getElem?_cons_succ, List.getElem?_cons_zero]; rfl)
      rotate_left; (first | (refine .inl ⟨by rfl, ?_⟩; intro w9 hS9; go_simp; try with_reducible rfl) | (refine .inr ⟨by rfl, ?_⟩; with_reducible rfl))
      rotate_left; (intro _ _ _ h9; exact h9)
      try simp only [Act.put, List.setIfInBounds_toArray, List.set_cons_zero, List.set_cons_succ]
      refine wpAnyH_take (i := 7) (oi := ?_) (v := ?_) ?_ (by kernel_rfl) (by kernel_rfl) (by kernel_rfl) ?_ ?_ (by assumption) ?_
      rotate_left 2; (simp only [List.getElem?_toArray, List.getElem?_cons_succ, List.getElem?_cons_zero]; rfl)
      rotate_left; (first | (refine .inl ⟨by rfl, ?_⟩; intro w9 hS9; go_simp; try with_reducible rfl) | (refine .inr ⟨by rfl, ?_⟩; with_reducible rfl))
      rotate_left; (intro _ _ _ h9; exact h9)
      try simp only [Act.put, List.setIfInBounds_toArray, List.set_cons_zero, List.set_cons_succ]
      refine wpAnyH_take (i := 8) (oi := ?_) (v := ?_) ?_ (by kernel_rfl) (by kernel_rfl) (by kernel_rfl) ?_ ?_ (by assumption) ?_
      rotate_left 2; (simp only [List.getElem?_toArray, List.getElem?_cons_succ, List.getElem?_cons_zero]; rfl)
      rotate_left; (first | (refine .inl ⟨by rfl, ?_⟩; intro w9 hS9; go_simp; try with_reducible rfl) | (refine .inr ⟨by rfl, ?_⟩; with_reducible rfl))
      rotate_left; (intro _ _ _ h9; exact h9)
      try simp only [Act.put, List.setIfInBounds_toArray, List.set_cons_zero, List.set_cons_succ]
      refine wpAnyH_take (i := 9) (oi := ?_) (v := ?_) ?_ (by kernel_rfl) (by kernel_rfl) (by kernel_rfl) ?_ ?_ (by assumption) ?_
      rotate_left 2; (simp only [List.getElem?_toArray, List.getElem?_cons_succ, List.getElem?_cons_zero]; rfl)
      rotate_left; (first | (refine .inl ⟨by rfl, ?_⟩; intro w9 hS9; go_simp; try with_reducible rfl) | (refine .inr ⟨by rfl, ?_⟩; with_reducible rfl))
      rotate_left; (intro _ _ _ h9; exact h9)
      try simp only [Act.put, List.setIfInBounds_toArray, List.set_cons_zero, List.set_cons_succ]
      refine wpAnyH_take (i := 10) (oi := ?_) (v := ?_) ?_ (by kernel_rfl) (by kernel_rfl) (by kernel_rfl) ?_ ?_ (by assumption) ?_
      rotate_left 2; (simp only [List.getElem?_toArray, List.getElem?_cons_succ, List.getElem?_cons_zero]; rfl)
      rotate_left; (first | (refine .inl ⟨by rfl, ?_⟩; intro w9 hS9; go_simp; try with_reducible rfl) | (refine .inr ⟨by rfl, ?_⟩; with_reducible rfl))
      rotate_left; (intro _ _ _ h9; exact h9)
      try simp only [Act.put, List.setIfInBounds_toArray, List.set_cons_zero, List.set_cons_succ]
      refine wpAnyH_take (i := 11) (oi := ?_) (v := ?_) ?_ (by kernel_rfl) (by kernel_rfl) (by kernel_rfl) ?_ ?_ (by assumption) ?_
      rotate_left 2; (simp only [List.getElem?_toArray, List.getElem?_cons_succ, List.getElem?_cons_zero]; rfl)
      rotate_left; (first | (refine .inl ⟨by rfl, ?_⟩; intro w9 hS9; go_simp; try with_reducible rfl) | (refine .inr ⟨by rfl, ?_⟩; with_reducible rfl))
      rotate_left; (intro _ _ _ h9; exact h9)
      try simp only [Act.put, List.setIfInBounds_toArray, List.set_cons_zero, List.set_cons_succ]
      refine wpAnyH_take (i := 12) (oi := ?_) (v := ?_) ?_ (by kernel_rfl) (by kernel_rfl) (by kernel_rfl) ?_ ?_ (by assumption) ?_
      rotate_left 2; (simp only [List.getElem?_toArray, List.getElem?_cons_succ, List.getElem?_cons_zero]; rfl)
      rotate_left; (first | (refine .inl ⟨by rfl, ?_⟩; intro w9 hS9; go_simp; try with_reducible rfl) | (refine .inr ⟨by rfl, ?_⟩; with_reducible rfl))
      rotate_left; (intro _ _ _ h9; exact h9)
      try simp only [Act.put, List.setIfInBounds_toArray, List.set_cons_zero, List.set_cons_succ]
      refine wpAnyH_take (i := 13) (oi := ?_) (v := ?_) ?_ (by kernel_rfl) (by kernel_rfl) (by kernel_rfl) ?_ ?_ (by assumption) ?_
      rotate_left 2; (simp only [List.getElem?_toArray, List.getElem?_cons_succ, List.getElem?_cons_zero]; rfl)
      rotate_left; (first | (refine .inl ⟨by rfl, ?_⟩; intro w9 hS9; go_simp; try with_reducible rfl) | (refine .inr ⟨by rfl, ?_⟩; with_reducible rfl))
      rotate_left; (intro _ _ _ h9; exact h9)
      try simp only [Act.put, List.setIfInBounds_toArray, List.set_cons_zero, List.set_cons_succ]
      refine wpAnyH_take (i := 14) (oi := ?_) (v := ?_) ?_ (by kernel_rfl) (by kernel_rfl) (by kernel_rfl) ?_ ?_ (by assumption) ?_
      rotate_left 2; (simp only [List.getElem?_toArray, List.getElem?_cons_succ, List.getElem?_cons_zero]; rfl)
      rotate_left; (first | (refine .inl ⟨by rfl, ?_⟩; intro w9 hS9; go_simp; try with_reducible rfl) | (refine .inr ⟨by rfl, ?_⟩; with_reducible rfl))
      rotate_left; (intro _ _ _ h9; exact h9)
      try simp only [Act.put, List.setIfInBounds_toArray, List.set_cons_zero, List.set_cons_succ]
      refine wpAnyH_take (i := 15) (oi := ?_) (v := ?_) ?_ (by kernel_rfl) (by kernel_rfl) (by kernel_rfl) ?_ ?_ (by assumption) ?_
      rotate_left 2; (simp only [List.getElem?_toArray, List.getElem?_cons_succ, List.getElem?_cons_zero]; rfl)
      rotate_left; (first | (refine .inl ⟨by rfl, ?_⟩; intro w9 hS9; go_simp; try with_reducible rfl) | (refine .inr ⟨by rfl, ?_⟩; with_reducible rfl))
      rotate_left; (intro _ _ _ h9; exact h9)
      try simp only [Act.put, List.setIfInBounds_toArray, List.set_cons_zero, List.set_cons_succ]
      refine wpAnyH_take (i := 16) (oi := ?_) (v := ?_) ?_ (by kernel_rfl) (by kernel_rfl) (by kernel_rfl) ?_ ?_ (by assumption) ?_
      rotate_left 2; (simp only [List.getElem?_toArray, List.getElem?_cons_succ, List.getElem?_cons_zero]; rfl)
      rotate_left; (first | (refine .inl ⟨by rfl, ?_⟩; intro w9 hS9; go_simp; try with_reducible rfl) | (refine .inr ⟨by rfl, ?_⟩; with_reducible rfl))
      rotate_left; (intro _ _ _ h9; exact h9)
      try simp only [Act.put, List.setIfInBounds_toArray, List.set_cons_zero, List.set_cons_succ]
      refine wpAnyH_take (i := 17) (oi := ?_) (v := ?_) ?_ (by kernel_rfl) (by kernel_rfl) (by kernel_rfl) ?_ ?_ (by assumption) ?_
      rotate_left 2; (simp only [List.getElem?_toArray, List.getElem?_cons_succ, List.getElem?_cons_zero]; rfl)
      rotate_left; (first | (refine .inl ⟨by rfl, ?_⟩; intro w9 hS9; go_simp; try with_reducible rfl) | (refine .inr ⟨by rfl, ?_⟩; with_reducible rfl))
      rotate_left; (intro _ _ _ h9; exact h9)
      try simp only [Act.put, List.setIfInBounds_toArray, List.set_cons_zero, List.set_cons_succ]
      refine wpAnyH_take (i := 18) (oi := ?_) (v := ?_) ?_ (by kernel_rfl) (by kernel_rfl) (by kernel_rfl) ?_ ?_ (by assumption) ?_
      rotate_left 2; (simp only [List.getElem?_toArray, List.getElem?_cons_succ, List.getElem?_cons_zero]; rfl)
      rotate_left; (first | (refine .inl ⟨by rfl, ?_⟩; intro w9 hS9; go_simp; try with_reducible rfl) | (refine .inr ⟨by rfl, ?_⟩; with_reducible rfl))
      rotate_left; (intro _ _ _ h9; exact h9)
      try simp only [Act.put, List.setIfInBounds_toArray, List.set_cons_zero, List.set_cons_succ]
      refine wpAnyH_take (i := 19) (oi := ?_) (v := ?_) ?_ (by kernel_rfl) (by kernel_rfl) (by kernel_rfl) ?_ ?_ (by assumption) ?_
      rotate_left 2; (simp only [List.getElem?_toArray, List.getElem?_cons_succ, List.getElem?_cons_zero]; rfl)
      rotate_left; (first | (refine .inl ⟨by rfl, ?_⟩; intro w9 hS9; go_simp; try with_reducible rfl) | (refine .inr ⟨by rfl, ?_⟩; with_reducible rfl))
      rotate_left; (intro _ _ _ h9; exact h9)
      try simp only [Act.put, List.setIfInBounds_toArray, List.set_cons_zero, List.set_cons_succ]
      refine wpAnyH_take (i := 20) (oi := ?_) (v := ?_) ?_ (by kernel_rfl) (by kernel_rfl) (by kernel_rfl) ?_ ?_ (by assumption) ?_
      rotate_left 2; (simp only [List.getElem?_toArray, List.getElem?_cons_succ, List.getElem?_cons_zero]; rfl)
      rotate_left; (first | (refine .inl ⟨by rfl, ?_⟩; intro w9 hS9; go_simp; try with_reducible rfl) | (refine .inr ⟨by rfl, ?_⟩; with_reducible rfl))
      rotate_left; (intro _ _ _ h9; exact h9)
      try simp only [Act.put, List.setIfInBounds_toArray, List.set_cons_zero, List.set_cons_succ]
      refine wpAnyH_take (i := 21) (oi := ?_) (v := ?_) ?_ (by kernel_rfl) (by kernel_rfl) (by kernel_rfl) ?_ ?_ (by assumption) ?_
      rotate_left 2; (simp only [List.getElem?_toArray, List.getElem?_cons_succ, List.getElem?_cons_zero]; rfl)
      rotate_left; (first | (refine .inl ⟨by rfl, ?_⟩; intro w9 hS9; go_simp; try with_reducible rfl) | (refine .inr ⟨by rfl, ?_⟩; with_reducible rfl))
      rotate_left; (intro _ _ _ h9; exact h9)
      try simp only [Act.put, List.setIfInBounds_toArray, List.set_cons_zero, List.set_cons_succ]
      refine wpAnyH_take (i := 22) (oi := ?_) (v := ?_) ?_ (by kernel_rfl) (by kernel_rfl) (by kernel_rfl) ?_ ?_ (by assumption) ?_
      rotate_left 2; (simp only [List.getElem?_toArray, List.getElem?_cons_succ, List.getElem?_cons_zero]; rfl)
      rotate_left; (first | (refine .inl ⟨by rfl, ?_⟩; intro w9 hS9; go_simp; try with_reducible rfl) | (refine .inr ⟨by rfl, ?_⟩; with_reducible rfl))
      rotate_left; (intro _ _ _ h9; exact h9)
      try simp only [Act.put, List.setIfInBounds_toArray, List.set_cons_zero, List.set_cons_succ]
      refine wpAnyH_take (i := 23) (oi := ?_) (v := ?_) ?_ (by kernel_rfl) (by kernel_rfl) (by kernel_rfl) ?_ ?_ (by assumption) ?_
      rotate_left 2; (simp only [List.getElem?_toArray, List.getElem?_cons_succ, List.getElem?_cons_zero]; rfl)
      rotate_left; (first | (refine .inl ⟨by rfl, ?_⟩; intro w9 hS9; go_simp; try with_reducible rfl) | (refine .inr ⟨by rfl, ?_⟩; with_reducible rfl))
      rotate_left; (intro _ _ _ h9; exact h9)
      try simp only [Act.put, List.setIfInBounds_toArray, List.set_cons_zero, List.set_cons_succ]
      refine wpAnyH_take (i := 24) (oi := ?_) (v := ?_) ?_ (by kernel_rfl) (by kernel_rfl) (by kernel_rfl) ?_ ?_ (by assumption) ?_
      rotate_left 2; (simp only [List.getElem?_toArray, List.getElem?_cons_succ, List.getElem?_cons_zero]; rfl)
      rotate_left; (first | (refine .inl ⟨by rfl, ?_⟩; intro w9 hS9; go_simp; try with_reducible rfl) | (refine .inr ⟨by rfl, ?_⟩; with_reducible rfl))
      rotate_left; (intro _ _ _ h9; exact h9)
      try simp only [Act.put, List.setIfInBounds_toArray, List.set_cons_zero, List.set_cons_succ]
      refine wpAnyH_take (i := 25) (oi := ?_) (v := ?_) ?_ (by kernel_rfl) (by kernel_rfl) (by kernel_rfl) ?_ ?_ (by assumption) ?_
      rotate_left 2; (simp only [List.getElem?_toArray, List.getElem?_cons_succ, List.getElem?_cons_zero]; rfl)
      rotate_left; (first | (refine .inl ⟨by rfl, ?_⟩; intro w9 hS9; go_simp; try with_reducible rfl) | (refine .inr ⟨by rfl, ?_⟩; with_reducible rfl))
      rotate_left; (intro _ _ _ h9; exact h9)
      try simp only [Act.put, List.setIfInBounds_toArray, List.set_cons_zero, List.set_cons_succ]
      refine wpAnyH_take (i := 26) (oi := ?_) (v := ?_) ?_ (by kernel_rfl) (by kernel_rfl) (by kernel_rfl) ?_ ?_ (by assumption) ?_
      rotate_left 2; (simp only [List.getElem?_toArray, List.getElem?_cons_succ, List.getElem?_cons_zero]; rfl)
      rotate_left; (first | (refine .inl ⟨by rfl, ?_⟩; intro w9 hS9; go_simp; try with_reducible rfl) | (refine .inr ⟨by rfl, ?_⟩; with_reducible rfl))
      rotate_left; (intro _ _ _ h9; exact h9)
      try simp only [Act.put, List.setIfInBounds_toArray, List.set_cons_zero, List.set_cons_succ]
      refine wpAnyH_done (by kernel_rfl) ?_ _
      go_wp2_with fail
      go_ret
      exact ⟨_, ys, rfl, HD.out, (HR.out.nts.below HB2.out).below hS0, HR.out.bel.trans ((HB2.out.mono HR.out.bel.size).trans (hS0.mono (Nat.le_trans HR.out.bel.size HB2.out.size)))⟩
    have HD1 := Lib.hid hd
    have HF := Lib.hid hf
    have hl2 := bkFirst_len hf
    rw [List.length_drop] at hl2
    have HL := Lib.hid (show k + (8 + d.length) ≤ xs.length ∧ 1 ≤ d.length ∧ d.length ≤ 40 ∧ s < 4294967296 by have := HR.out.le; omega)
    have hm0 : ((8 + (d.length : Int)) == 0) = false := by simp; omega
    have ew : IntKind.i64.wrap ((k : Int) + (8 + (d.length : Int))) = (k : Int) + (8 + (d.length : Int)) := by have := HK.out; have := HL.out; simp [IntKind.wrap, IntKind.bits, IntKind.signed]; omega
    have hbx := HG2.out
    have x0 : ∀ w', Below w2.heap.size w2 w' → w'.cell? ⟨w1.heap.size, 0, none⟩ = some (.int .u32 s) := fun w' hb => (hb.cell (p := ⟨w1.heap.size, 0, none⟩) (Array.getElem?_eq_some_iff.mp hbx).1).trans (by simp [World.cell?, hbx])
    clear hd hf hl2 hbx
    rcases List.eq_nil_or_concat ys with rfl | ⟨zs, z, rfl⟩
    · have HX := Lib.hid (show bkNext (([] : List NV).getLast?.map (·.nt.seq)) s = true from rfl)
      have hn0 := HNY.out
      rw [List.length_nil] at hn0
      have hn1 : ¬ 0 < (ny : Int) := by omega
      have hn2 : ¬ 0 < ny := by omega
      clear hn0
      refine wp_region_held (S := fun w' => Below w2.heap.size w2 w') (by kernel_rfl) ?_
      change wpAnyH _ _ _ _ _ _ _ _ w2.drew
      have hS0 : Below w2.heap.size w2 w2.drew := ⟨rfl, rfl, rfl, Nat.le_refl _, fun _ _ => rfl⟩
      change wpAnyH _ _ _ _ _ 27 (Array.replicate 27 false) _ _
      refine wpAnyH_take (i := 0) (oi := ?_) (v := ?_) ?_ (by kernel_rfl) (by kernel_rfl) (by kernel_rfl) ?_ ?_ (by assumption) ?_
      rotate_left 2; (simp only [List.getElem?_toArray, List.getElem?_cons_succ, List.getElem?_cons_zero]; rfl)
      rotate_left; (first | (refine .inl ⟨by rfl, ?_⟩; intro w9 hS9; go_simp; try with_reducible rfl) | (refine .inr ⟨by rfl, ?_⟩; with_reducible rfl))
      rotate_left; (intro _ _ _ h9; exact h9)
      try simp only [Act.put, List.setIfInBounds_toArray, List.set_cons_zero, List.set_cons_succ]
      refine wpAnyH_take (i := 1) (oi := ?_) (v := ?_) ?_ (by kernel_rfl) (by kernel_rfl) (by kernel_rfl) ?_ ?_ (by assumption) ?_
      rotate_left 2; (simp only [List.getElem?_toArray, List.getElem?_cons_succ, List.getElem?_cons_zero]; rfl)
      rotate_left; (first | (refine .inl ⟨by rfl, ?_⟩; intro w9 hS9; go_simp; try with_reducible rfl) | (refine .inr ⟨by rfl, ?_⟩; with_reducible rfl))
      rotate_left; (intro _ _ _ h9; exact h9)
      try simp only [Act.put, List.setIfInBounds_toArray, List.set_cons_zero, List.set_cons_succ]
      refine wpAnyH_take (i := 2) (oi := ?_) (v := ?_) ?_ (by kernel_rfl) (by kernel_rfl) (by kernel_rfl) ?_ ?_ (by assumption) ?_
      rotate_left 2; (simp only [List.getElem?_toArray, List.getElem?_cons_succ, List.getElem?_cons_zero]; rfl)
      rotate_left; (first | (refine .inl ⟨by rfl, ?_⟩; intro w9 hS9; go_simp; try with_reducible rfl) | (refine .inr ⟨by rfl, ?_⟩; with_reducible rfl))
      rotate_left; (intro _ _ _ h9; exact h9)
      try simp only [Act.put, List.setIfInBounds_toArray, List.set_cons_zero, List.set_cons_succ]
      refine wpAnyH_take (i := 3) (oi := ?_) (v := ?_) ?_ (by kernel_rfl) (by kernel_rfl) (by kernel_rfl) ?_ ?_ (by assumption) ?_
      rotate_left 2; (simp only [List.getElem?_toArray, List.getElem?_cons_succ, List.getElem?_cons_zero]; rfl)
      rotate_left; (first | (refine .inl ⟨by rfl, ?_⟩; intro w9 hS9; go_simp; try with_reducible rfl) | (refine .inr ⟨by rfl, ?_⟩; with_reducible rfl))
      rotate_left; (intro _ _ _ h9; exact h9)
      try simp only [Act.put, List.setIfInBounds_toArray, List.set_cons_zero, List.set_cons_succ]
      refine wpAnyH_take (i := 4) (oi := ?_) (v := ?_) ?_ (by kernel_rfl) (by kernel_rfl) (by kernel_rfl) ?_ ?_ (by assumption) ?_
      rotate_left 2; (simp only [List.getElem?_toArray, List.getElem?_cons_succ, List.getElem?_cons_zero]; rfl)
      rotate_left; (first | (refine .inl ⟨by rfl, ?_⟩; intro w9 hS9; go_simp; try with_reducible rfl) | (refine .inr ⟨by rfl, ?_⟩; with_reducible rfl))
      rotate_left; (intro _ _ _ h9; exact h9)
      try simp only [Act.put, List.setIfInBounds_toArray, List.set_cons_zero, List.set_cons_succ]
      refine wpAnyH_take (i := 5) (oi := ?_) (v := ?_) ?_ (by kernel_rfl) (by kernel_rfl) (by kernel_rfl) ?_ ?_ (by assumption) ?_
      rotate_left 2; (simp only [List.getElem?_toArray, List.getElem?_cons_succ, List.getElem?_cons_zero]; rfl)
      rotate_left; (first | (refine .inl ⟨by rfl, ?_⟩; intro w9 hS9; go_simp; try with_reducible rfl) | (refine .inr ⟨by rfl, ?_⟩; with_reducible rfl))
      rotate_left; (intro _ _ _ h9; exact h9)
      try simp only [Act.put, List.setIfInBounds_toArray, List.set_cons_zero, List.set_cons_succ]
      refine wpAnyH_take (i := 6) (oi := ?_) (v := ?_) ?_ (by kernel_rfl) (by kernel_rfl) (by kernel_rfl) ?_ ?_ (by assumption) ?_
      rotate_left 2; (simp only [List.getElem?_toArray, List.getElem?_cons_succ, List.getElem?_cons_zero]; rfl)
      rotate_left; (first | (refine .inl ⟨by rfl, ?_⟩; intro w9 hS9; go_simp; try with_reducible rfl) | (refine .inr ⟨by rfl, ?_⟩; with_reducible rfl))
      rotate_left; (intro _ _ _ h9; exact h9)
      try simp only [Act.put, List.setIfInBounds_toArray, List.set_cons_zero, List.set_cons_succ]
      refine wpAnyH_take (i := 7) (oi := ?_) (v := ?_) ?_ (by kernel_rfl) (by kernel_rfl) (by kernel_rfl) ?_ ?_ (by assumption) ?_
      rotate_left 2; (simp only [List.getElem?_toArray, List.getElem?_cons_succ, List.getElem?_cons_zero]; rfl)
      rotate_left; (first | (refine .inl ⟨by rfl, ?_⟩; intro w9 hS9; go_simp; try with_reducible rfl) | (refine .inr ⟨by rfl, ?_⟩; with_reducible rfl))
      rotate_left; (intro _ _ _ h9; exact h9)
      try simp only [Act.put, List.setIfInBounds_toArray, List.set_cons_zero, List.set_cons_succ]
      refine wpAnyH_take (i := 8) (oi := ?_) (v := ?_) ?_ (by kernel_rfl) (by kernel_rfl) (by kernel_rfl) ?_ ?_ (by assumption) ?_
      rotate_left 2; (simp only [List.getElem?_toArray, List.getElem?_cons_succ, List.getElem?_cons_zero]; rfl)
      rotate_left; (first | (refine .inl ⟨by rfl, ?_⟩; intro w9 hS9; go_simp; try with_reducible rfl) | (refine .inr ⟨by rfl, ?_⟩; with_reducible rfl))
      rotate_left; (intro _ _ _ h9; exact h9)
      try simp only [Act.put, List.setIfInBounds_toArray, List.set_cons_zero, List.set_cons_succ]
      refine wpAnyH_take (i := 9) (oi := ?_) (v := ?_) ?_ (by kernel_rfl) (by kernel_rfl) (by kernel_rfl) ?_ ?_ (by assumption) ?_
      rotate_left 2; (simp only [List.getElem?_toArray, List.getElem?_cons_succ, List.getElem?_cons_zero]; rfl)
      rotate_left; (first | (refine .inl ⟨by rfl, ?_⟩; intro w9 hS9; go_simp; try with_reducible rfl) | (refine .inr ⟨by rfl, ?_⟩; with_reducible rfl))
      rotate_left; (intro _ _ _ h9; exact h9)
      try simp only [Act.put, List.setIfInBounds_toArray, List.set_cons_zero, List.set_cons_succ]
      refine wpAnyH_take (i := 10) (oi := ?_) (v := ?_) ?_ (by kernel_rfl) (by kernel_rfl) (by kernel_rfl) ?_ ?_ (by assumption) ?_
      rotate_left 2; (simp only [List.getElem?_toArray, List.getElem?_cons_succ, List.getElem?_cons_zero]; rfl)
      rotate_left; (first | (refine .inl ⟨by rfl, ?_⟩; intro w9 hS9; go_simp; try with_reducible rfl) | (refine .inr ⟨by rfl, ?_⟩; with_reducible rfl))
      rotate_left; (intro _ _ _ h9; exact h9)
      try simp only [Act.put, List.setIfInBounds_toArray, List.set_cons_zero, List.set_cons_succ]
      refine wpAnyH_take (i := 11) (oi := ?_) (v := ?_) ?_ (by kernel_rfl) (by kernel_rfl) (by kernel_rfl) ?_ ?_ (by assumption) ?_
      rotate_left 2; (simp only [List.getElem?_toArray, List.getElem?_cons_succ, List.getElem?_cons_zero]; rfl)
      rotate_left; (first | (refine .inl ⟨by rfl, ?_⟩; intro w9 hS9; go_simp; try with_reducible rfl) | (refine .inr ⟨by rfl, ?_⟩; with_reducible rfl))
      rotate_left; (intro _ _ _ h9; exact h9)
      try simp only [Act.put, List.setIfInBounds_toArray, List.set_cons_zero, List.set_cons_succ]
      refine wpAnyH_take (i := 12) (oi := ?_) (v := ?_) ?_ (by kernel_rfl) (by kernel_rfl) (by kernel_rfl) ?_ ?_ (by assumption) ?_
      rotate_left 2; (simp only [List.getElem?_toArray, List.getElem?_cons_succ, List.getElem?_cons_zero]; rfl)
      rotate_left; (first | (refine .inl ⟨by rfl, ?_⟩; intro w9 hS9; go_simp; try with_reducible rfl) | (refine .inr ⟨by rfl, ?_⟩; with_reducible rfl))
      rotate_left; (intro _ _ _ h9; exact h9)
      try simp only [Act.put, List.setIfInBounds_toArray, List.set_cons_zero, List.set_cons_succ]
      refine wpAnyH_take (i := 13) (oi := ?_) (v := ?_) ?_ (by kernel_rfl) (by kernel_rfl) (by kernel_rfl) ?_ ?_ (by assumption) ?_
      rotate_left 2; (simp only [List.getElem?_toArray, List.getElem?_cons_succ, List.getElem?_cons_zero]; rfl)
      rotate_left; (first | (refine .inl ⟨by rfl, ?_⟩; intro w9 hS9; go_simp; try with_reducible rfl) | (refine .inr ⟨by rfl, ?_⟩; with_reducible rfl))
      rotate_left; (intro _ _ _ h9; exact h9)
      try simp only [Act.put, List.setIfInBounds_toArray, List.set_cons_zero, List.set_cons_succ]
      refine wpAnyH_take (i := 14) (oi := ?_) (v := ?_) ?_ (by kernel_rfl) (by kernel_rfl) (by kernel_rfl) ?_ ?_ (by assumption) ?_
      rotate_left 2; (simp only [List.getElem?_toArray, List.getElem?_cons_succ, List.getElem?_cons_zero]; rfl)
      rotate_left; (first | (refine .inl ⟨by rfl, ?_⟩; intro w9 hS9; go_simp; try with_reducible rfl) | (refine .inr ⟨by rfl, ?_⟩; with_reducible rfl))
      rotate_left; (intro _ _ _ h9; exact h9)
      try simp only [Act.put, List.setIfInBounds_toArray, List.set_cons_zero, List.set_cons_succ]
      refine wpAnyH_take (i := 15) (oi := ?_) (v := ?_) ?_ (by kernel_rfl) (by kernel_rfl) (by kernel_rfl) ?_ ?_ (by assumption) ?_
      rotate_left 2; (simp only [List.getElem?_toArray, List.getElem?_cons_succ, List.getElem?_cons_zero]; rfl)
      rotate_left; (first | (refine .inl ⟨by rfl, ?_⟩; intro w9 hS9; go_simp; try with_reducible rfl) | (refine .inr ⟨by rfl, ?_⟩; with_reducible rfl))
      rotate_left; (intro _ _ _ h9; exact h9)
      try simp only [Act.put, List.setIfInBounds_toArray, List.set_cons_zero, List.set_cons_succ]
      refine wpAnyH_take (i := 16) (oi := ?_) (v := ?_) ?_ (by kernel_rfl) (by kernel_rfl) (by kernel_rfl) ?_ ?_ (by assumption) ?_
      rotate_left 2; (simp only [List.getElem?_toArray, List.getElem?_cons_succ, List.getElem?_cons_zero]; rfl)
      rotate_left; (first | (refine .inl ⟨by rfl, ?_⟩; intro w9 hS9; go_simp; try with_reducible rfl) | (refine .inr ⟨by rfl, ?_⟩; with_reducible rfl))
      rotate_left; (intro _ _ _ h9; exact h9)
      try simp only [Act.put, List.setIfInBounds_toArray, List.set_cons_zero, List.set_cons_succ]
      refine wpAnyH_take (i := 17) (oi := ?_) (v := ?_) ?_ (by kernel_rfl) (by kernel_rfl) (by kernel_rfl) ?_ ?_ (by assumption) ?_
      rotate_left 2; (simp only [List.getElem?_toArray, List.getElem?_cons_succ, List.getElem?_cons_zero]; rfl)
      rotate_left; (first | (refine .inl ⟨by rfl, ?_⟩; intro w9 hS9; go_simp; try with_reducible rfl) | (refine .inr ⟨by rfl, ?_⟩; with_reducible rfl))
      rotate_left; (intro _ _ _ h9; exact h9)
      try simp only [Act.put, List.setIfInBounds_toArray, List.set_cons_zero, List.set_cons_succ]
      refine wpAnyH_take (i := 18) (oi := ?_) (v := ?_) ?_ (by kernel_rfl) (by kernel_rfl) (by kernel_rfl) ?_ ?_ (by assumption) ?_
      rotate_left 2; (simp only [List.getElem?_toArray, List.getElem?_cons_succ, List.getElem?_cons_zero]; rfl)
      rotate_left; (first | (refine .inl ⟨by rfl, ?_⟩; intro w9 hS9; go_simp; try with_reducible rfl) | (refine .inr ⟨by rfl, ?_⟩; with_reducible rfl))
      rotate_left; (intro _ _ _ h9; exact h9)
      try simp only [Act.put, List.setIfInBounds_toArray, List.set_cons_zero, List.set_cons_succ]
      refine wpAnyH_take (i := 19) (oi := ?_) (v := ?_) ?_ (by kernel_rfl) (by kernel_rfl) (by kernel_rfl) ?_ ?_ (by assumption) ?_
      rotate_left 2; (simp only [List.getElem?_toArray, List.getElem?_cons_succ, List.getElem?_cons_zero]; rfl)
      rotate_left; (first | (refine .inl ⟨by rfl, ?_⟩; intro w9 hS9; go_simp; try with_reducible rfl) | (refine .inr ⟨by rfl, ?_⟩; with_reducible rfl))
      rotate_left; (intro _ _ _ h9; exact h9)
      try simp only [Act.put, List.setIfInBounds_toArray, List.set_cons_zero, List.set_cons_succ]
      refine wpAnyH_take (i := 20) (oi := ?_) (v := ?_) ?_ (by kernel_rfl) (by kernel_rfl) (by kernel_rfl) ?_ ?_ (by assumption) ?_
      rotate_left 2; (simp only [List.getElem?_toArray, List.getElem?_cons_succ, List.getElem?_cons_zero]; rfl)
      rotate_left; (first | (refine .inl ⟨by rfl, ?_⟩; intro w9 hS9; go_simp; try with_reducible rfl) | (refine .inr ⟨by rfl, ?_⟩; with_reducible rfl))
      rotate_left; (intro _ _ _ h9; exact h9)
      try simp only [Act.put, List.setIfInBounds_toArray, List.set_cons_zero, List.set_cons_succ]
      refine wpAnyH_take (i := 21) (oi := ?_) (v := ?_) ?_ (by kernel_rfl) (by kernel_rfl) (by kernel_rfl) ?_ ?_ (by assumption) ?_
      rotate_left 2; (simp only [List.getElem?_toArray, List.getElem?_cons_succ, List.getElem?_cons_zero]; rfl)
      rotate_left; (first | (refine .inl ⟨by rfl, ?_⟩; intro w9 hS9; go_simp; try with_reducible rfl) | (refine .inr ⟨by rfl, ?_⟩; with_reducible rfl))
      rotate_left; (intro _ _ _ h9; exact h9)
      try simp only [Act.put, List.setIfInBounds_toArray, List.set_cons_zero, List.set_cons_succ]
      refine wpAnyH_take (i := 22) (oi := ?_) (v := ?_) ?_ (by kernel_rfl) (by kernel_rfl) (by kernel_rfl) ?_ ?_ (by assumption) ?_
      rotate_left 2; (simp only [List.getElem?_toArray, List.getElem?_cons_succ, List.getElem?_cons_zero]; rfl)
      rotate_left; (first | (refine .inl ⟨by rfl, ?_⟩; intro w9 hS9; go_simp; try with_reducible rfl) | (refine .inr ⟨by rfl, ?_⟩; with_reducible rfl))
      rotate_left; (intro _ _ _ h9; exact h9)
      try simp only [Act.put, List.setIfInBounds_toArray, List.set_cons_zero, List.set_cons_succ]
      refine wpAnyH_take (i := 23) (oi := ?_) (v := ?_) ?_ (by kernel_rfl) (by kernel_rfl) (by kernel_rfl) ?_ ?_ (by assumption) ?_
      rotate_left 2; (simp only [List.getElem?_toArray, List.getElem?_cons_succ, List.getElem?_cons_zero]; rfl)
      rotate_left; (first | (refine .inl ⟨by rfl, ?_⟩; intro w9 hS9; go_simp; try with_reducible rfl) | (refine .inr ⟨by rfl, ?_⟩; with_reducible rfl))
      rotate_left; (intro _ _ _ h9; exact h9)
      try simp only [Act.put, List.setIfInBounds_toArray, List.set_cons_zero, List.set_cons_succ]
      refine wpAnyH_take (i := 24) (oi := ?_) (v := ?_) ?_ (by kernel_rfl) (by kernel_rfl) (by kernel_rfl) ?_ ?_ (by assumption) ?_
      rotate_left 2; (simp only [List.getElem?_toArray, List.getElem?_cons_succ, List.getElem?_cons_zero]; rfl)
      rotate_left; (first | (refine .inl ⟨by rfl, ?_⟩; intro w9 hS9; go_simp; try with_reducible rfl) | (refine .inr ⟨by rfl, ?_⟩; with_reducible rfl))
      rotate_left; (intro _ _ _ h9; exact h9)
      try simp only [Act.put, List.setIfInBounds_toArray, List.set_cons_zero, List.set_cons_succ]
      refine wpAnyH_take (i := 25) (oi := ?_) (v := ?_) ?_ (by kernel_rfl) (by kernel_rfl) (by kernel_rfl) ?_ ?_ (by assumption) ?_
      rotate_left 2; (simp only [List.getElem?_toArray, List.getElem?_cons_succ, List.getElem?_cons_zero]; rfl)
      rotate_left; (first | (refine .inl ⟨by rfl, ?_⟩; intro w9 hS9; go_simp; try with_reducible rfl) | (refine .inr ⟨by rfl, ?_⟩; with_reducible rfl))
      rotate_left; (intro _ _ _ h9; exact h9)
      try simp only [Act.put, List.setIfInBounds_toArray, List.set_cons_zero, List.set_cons_succ]
      refine wpAnyH_take (i := 26) (oi := ?_) (v := ?_) ?_ (by kernel_rfl) (by kernel_rfl) (by kernel_rfl) ?_ ?_ (by assumption) ?_
      rotate_left 2; (simp only [List.getElem?_toArray, List.getElem?_cons_succ, List.getElem?_cons_zero]; rfl)
      rotate_left; (first | (refine .inl ⟨by rfl, ?_⟩; intro w9 hS9; go_simp; try with_reducible rfl) | (refine .inr ⟨by rfl, ?_⟩; with_reducible rfl))
      rotate_left; (intro _ _ _ h9; exact h9)
      try simp only [Act.put, List.setIfInBounds_toArray, List.set_cons_zero, List.set_cons_succ]
      refine wpAnyH_done (by kernel_rfl) ?_ _
      have hw3c : ∃ w3, w3 = w2.drew := ⟨_, rfl⟩
      obtain ⟨w3, hw3⟩ := hw3c
      have HB3 := Lib.hid (show Below wr.heap.size wr w3 by rw [hw3]; exact below_step HB2.out hS0)
      have H13 := Lib.hid (show Fr (fun i => i = w1.heap.size) w1 w3 by rw [hw3]; exact Fr.ofBelow (below_step HBA.out hS0) _)
      have HG3 := Lib.hid (show w3.heap[w1.heap.size]? = some (.cells (nta s A1 d.length c1 0) 54 (0, 0)) by rw [hw3]; exact HG2.out)
      clear x0
      go_upto_region 7 with fail
      rw [← hw3]
      clear hS0 hw3
      have hb3 := HG3.out
      have g2 : w3.cell? ⟨w1.heap.size, 2, none⟩ = some (.int .i64 0) := by simp [World.cell?, hb3]
      have gf : w3.frozen? ⟨w1.heap.size, 2, none⟩ = false := by simp [World.frozen?, hb3]
      have HG4 := Lib.hid (nt_fin hb3 ((k : Int) + (8 + (d.length : Int))))
      have HF4 := Lib.hid (fr_setCell (F := fun i => i = w1.heap.size) (w := w3) ⟨w1.heap.size, 2, none⟩ (.int .i64 ((k : Int) + (8 + (d.length : Int)))) rfl)
      clear hb3
      go_upto_region 9 with fail
      generalize w3.setCell ⟨w1.heap.size, 2, none⟩ (.int .i64 ((k : Int) + (8 + (d.length : Int)))) = w4 at *
      clear g2 gf
      have hb4 := HG4.out
      have g0 : w4.cell? ⟨w1.heap.size, 0, none⟩ = some (.int .u32 s) := by simp [World.cell?, hb4]
      have g1 : w4.cell? ⟨w1.heap.size, 1, none⟩ = some (.slice A1 d.length c1) := by simp [World.cell?, hb4]
      have g2 : w4.cell? ⟨w1.heap.size, 2, none⟩ = some (.int .i64 ((k : Int) + (8 + (d.length : Int)))) := by simp [World.cell?, hb4]
      have hs1 := HB1.out.size
      have HB4 := Lib.hid (HB3.out.trans (HF4.out.below wr.heap.size HB3.out.size (fun i e => by omega)))
      have H14 := Lib.hid (fr_same H13.out HF4.out)
      have HNEW := Lib.hid (nt_new_at w4 s A1 d c1 k)
      have HBN := Lib.hid (below_new w4 (.cells (nta s A1 d.length c1 ((k : Int) + (8 + (d.length : Int)))) 54))
      have HOW := Lib.hid ((HR.out.nts.own.fr (Fr.ofBelow HB4.out (fun _ => False)) (fun _ _ h => h)).fr (Fr.ofBelow HBN.out (fun _ => False)) (fun _ _ h => h))
      have HFA := Lib.hid (fr_same H14.out (fr_alloc (fun i => i = w1.heap.size) w4 (.cells (nta s A1 d.length c1 ((k : Int) + (8 + (d.length : Int)))) 54)))
      clear hb4 hs1
      go_wp2_with (at_builtin; go_must (refine wpList_append_fr ntT ntc_len ntc_one rfl _ _ rfl _ [] rfl HOW.out _ _ _ [⟨⟨s, d, k + (8 + d.length)⟩, A1, c1⟩] rfl HNEW.out (by have := HK.out; have := HNY.out; omega) (by have := HK.out; have := HNY.out; omega) ?_); intro v' wc hown1 hg1 hf1; clear g0 g1 g2)
      have hl := HL.out
      have hxl := HRS.out.len
      exact ⟨⟨_, k + (8 + d.length), by go_num, RNI.push HR.out (below_step HB4.out HBN.out) (HD1.out.fr HFA.out (fun b o e e2 => by have := HD1.out.blk b o e; omega)) HF.out HX.out ((Fr.ofGrown hg1).mono (fun i _ e => e.symm)) hown1 hf1⟩, by simp [intOf]; omega⟩
    rw [List.concat_eq_append] at *
    obtain ⟨g, c9, e9, hg9, hr9⟩ := nts_last HR.out.nts (by have := HK.out; have := HNY.out; rw [List.length_append] at this; simp at this; omega)
    have hnz : ny = zs.length + 1 := by have := HNY.out; rw [List.length_append] at this; simpa using this.symm
    cases e9
    have z0 : ∀ w', Below w2.heap.size w2 w' → w'.cell? ⟨g, zs.length * 3, none⟩ = some (.int .u32 z.nt.seq) := fun w' hb => ((HB2.out.trans (hb.mono HB2.out.size)).cell (p := ⟨g, zs.length * 3, none⟩) hg9).trans (hr9 0 _ rfl)
    have h32 := HR.out.u32 z (by simp)
    have HNX := Lib.hid (show (zs ++ [z]).getLast?.map (·.nt.seq) = some z.nt.seq by simp)
    have HDONE := Lib.hid (HR.out.done)
    have HNY := Lib.hid (show (zs ++ [z]).length = zs.length + 1 by simp)
    clear hnz hr9 hg9
    generalize zs.length = mz at *
    have hp0 : 0 < (mz : Int) + 1 := by omega
    have hp1 : (mz : Int) < (mz : Int) + 1 := by omega
    have ew3 : IntKind.i64.wrap (mz : Int) = mz := by simp [IntKind.wrap, IntKind.bits, IntKind.signed]; omega
    have hs32 := HL.out.2.2.2
    by_cases hq1 : z.nt.seq = 4294967295
    · have e1 : ((z.nt.seq : Int) == 4294967295) = true := by simp [hq1]
      have HD := Lib.hid (HDONE.out (fun s9 d9 h9 => by have h8 := HF.out; rw [h8] at h9; cases h9; rw [HNX.out]; simp [bkNext]; omega))
      generalize z.nt.seq = q at *
      have HQ := Lib.hid hq1
      clear hq1 hs32 h32
      generalize zs ++ [z] = ys at *
      refine wp_region_held (S := fun w' => Below w2.heap.size w2 w') (by kernel_rfl) ?_
      change wpAnyH _ _ _ _ _ _ _ _ w2.drew
      have hS0 : Below w2.heap.size w2 w2.drew := ⟨rfl, rfl, rfl, Nat.le_refl _, fun _ _ => rfl⟩
      change wpAnyH _ _ _ _ _ 27 (Array.replicate 27 false) _ _
      refine wpAnyH_take (i := 0) (oi := ?_) (v := ?_) ?_ (by kernel_rfl) (by kernel_rfl) (by kernel_rfl) ?_ ?_ (by assumption) ?_
      rotate_left 2; (simp only [List.getElem?_toArray, List.getElem?_cons_succ, List.getElem?_cons_zero]; rfl)
      rotate_left; (first | (refine .inl ⟨by rfl, ?_⟩; intro w9 hS9; go_simp; try with_reducible rfl) | (refine .inr ⟨by rfl, ?_⟩; with_reducible rfl))
      rotate_left; (intro _ _ _ h9; exact h9)
      try simp only [Act.put, List.setIfInBounds_toArray, List.set_cons_zero, List.set_cons_succ]
      refine wpAnyH_take (i := 1) (oi := ?_) (v := ?_) ?_ (by kernel_rfl) (by kernel_rfl) (by kernel_rfl) ?_ ?_ (by assumption) ?_
      rotate_left 2; (simp only [List.getElem?_toArray, List.getElem?_cons_succ, List.getElem?_cons_zero]; rfl)
      rotate_left; (first | (refine .inl ⟨by rfl, ?_⟩; intro w9 hS9; go_simp; try with_reducible rfl) | (refine .inr ⟨by rfl, ?_⟩; with_reducible rfl))
      rotate_left; (intro _ _ _ h9; exact h9)
      try simp only [Act.put, List.setIfInBounds_toArray, List.set_cons_zero, List.set_cons_succ]
      refine wpAnyH_take (i := 2) (oi := ?_) (v := ?_) ?_ (by kernel_rfl) (by kernel_rfl) (by kernel_rfl) ?_ ?_ (by assumption) ?_
      rotate_left 2; (simp only [List.getElem?_toArray, List.getElem?_cons_succ, List.getElem?_cons_zero]; rfl)
      rotate_left; (first | (refine .inl ⟨by rfl, ?_⟩; intro w9 hS9; go_simp; try with_reducible rfl) | (refine .inr ⟨by rfl, ?_⟩; with_reducible rfl))
      rotate_left; (intro _ _ _ h9; exact h9)
      try simp only [Act.put, List.setIfInBounds_toArray, List.set_cons_zero, List.set_cons_succ]
      refine wpAnyH_take (i := 3) (oi := ?_) (v := ?_) ?_ (by kernel_rfl) (by kernel_rfl) (by kernel_rfl) ?_ ?_ (by assumption) ?_
      rotate_left 2; (simp only [List.getElem?_toArray, List.getElem?_cons_succ, List.getElem?_cons_zero]; rfl)
      rotate_left; (first | (refine .inl ⟨by rfl, ?_⟩; intro w9 hS9; go_simp; try with_reducible rfl) | (refine .inr ⟨by rfl, ?_⟩; with_reducible rfl))
      rotate_left; (intro _ _ _ h9; exact h9)
      try simp only [Act.put, List.setIfInBounds_toArray, List.set_cons_zero, List.set_cons_succ]
      refine wpAnyH_take (i := 4) (oi := ?_) (v := ?_) ?_ (by kernel_rfl) (by kernel_rfl) (by kernel_rfl) ?_ ?_ (by assumption) ?_
      rotate_left 2; (simp only [List.getElem?_toArray, List.getElem?_cons_succ, List.getElem?_cons_zero]; rfl)
      rotate_left; (first | (refine .inl ⟨by rfl, ?_⟩; intro w9 hS9; go_simp; try with_reducible rfl) | (refine .inr ⟨by rfl, ?_⟩; with_reducible rfl))
      rotate_left; (intro _ _ _ h9; exact h9)
      try simp only [Act.put, List.setIfInBounds_toArray, List.set_cons_zero, List.set_cons_succ]
      refine wpAnyH_take (i := 5) (oi := ?_) (v := ?_) ?_ (by kernel_rfl) (by kernel_rfl) (by kernel_rfl) ?_ ?_ (by assumption) ?_
      rotate_left 2; (simp only [List.getElem?_toArray, List.getElem?_cons_succ, List.getElem?_cons_zero]; rfl)
      rotate_left; (first | (refine .inl ⟨by rfl, ?_⟩; intro w9 hS9; go_simp; try with_reducible rfl) | (refine .inr ⟨by rfl, ?_⟩; with_reducible rfl))
      rotate_left; (intro _ _ _ h9; exact h9)
      try simp only [Act.put, List.setIfInBounds_toArray, List.set_cons_zero, List.set_cons_succ]
      refine wpAnyH_take (i := 6) (oi := ?_) (v := ?_) ?_ (by kernel_rfl) (by kernel_rfl) (by kernel_rfl) ?_ ?_ (by assumption) ?_
      rotate_left 2; (simp only [List.getElem?_toArray, List.getElem?_cons_succ, List.getElem?_cons_zero]; rfl)
      rotate_left; (first | (refine .inl ⟨by rfl, ?_⟩; intro w9 hS9; go_simp; try with_reducible rfl) | (refine .inr ⟨by rfl, ?_⟩; with_reducible rfl))
      rotate_left; (intro _ _ _ h9; exact h9)
      try simp only [Act.put, List.setIfInBounds_toArray, List.set_cons_zero, List.set_cons_succ]
      refine wpAnyH_take (i := 7) (oi := ?_) (v := ?_) ?_ (by kernel_rfl) (by kernel_rfl) (by kernel_rfl) ?_ ?_ (by assumption) ?_
      rotate_left 2; (simp only [List.getElem?_toArray, List.getElem?_cons_succ, List.getElem?_cons_zero]; rfl)
      rotate_left; (first | (refine .inl ⟨by rfl, ?_⟩; intro w9 hS9; go_simp; try with_reducible rfl) | (refine .inr ⟨by rfl, ?_⟩; with_reducible rfl))
      rotate_left; (intro _ _ _ h9; exact h9)
      try simp only [Act.put, List.setIfInBounds_toArray, List.set_cons_zero, List.set_cons_succ]
      refine wpAnyH_take (i := 8) (oi := ?_) (v := ?_) ?_ (by kernel_rfl) (by kernel_rfl) (by kernel_rfl) ?_ ?_ (by assumption) ?_
      rotate_left 2; (simp only [List.getElem?_toArray, List.getElem?_cons_succ, List.getElem?_cons_zero]; rfl)
      rotate_left; (first | (refine .inl ⟨by rfl, ?_⟩; intro w9 hS9; go_simp; try with_reducible rfl) | (refine .inr ⟨by rfl, ?_⟩; with_reducible rfl))
      rotate_left; (intro _ _ _ h9; exact h9)
      try simp only [Act.put, List.setIfInBounds_toArray, List.set_cons_zero, List.set_cons_succ]
      refine wpAnyH_take (i := 9) (oi := ?_) (v := ?_) ?_ (by kernel_rfl) (by kernel_rfl) (by kernel_rfl) ?_ ?_ (by assumption) ?_
      rotate_left 2; (simp only [List.getElem?_toArray, List.getElem?_cons_succ, List.getElem?_cons_zero]; rfl)
      rotate_left; (first | (refine .inl ⟨by rfl, ?_⟩; intro w9 hS9; go_simp; try with_reducible rfl) | (refine .inr ⟨by rfl, ?_⟩; with_reducible rfl))
      rotate_left; (intro _ _ _ h9; exact h9)
      try simp only [Act.put, List.setIfInBounds_toArray, List.set_cons_zero, List.set_cons_succ]
      refine wpAnyH_take (i := 10) (oi := ?_) (v := ?_) ?_ (by kernel_rfl) (by kernel_rfl) (by kernel_rfl) ?_ ?_ (by assumption) ?_
      rotate_left 2; (simp only [List.getElem?_toArray, List.getElem?_cons_succ, List.getElem?_cons_zero]; rfl)
      rotate_left; (first | (refine .inl ⟨by rfl, ?_⟩; intro w9 hS9; go_simp; try with_reducible rfl) | (refine .inr ⟨by rfl, ?_⟩; with_reducible rfl))
      rotate_left; (intro _ _ _ h9; exact h9)
      try simp only [Act.put, List.setIfInBounds_toArray, List.set_cons_zero, List.set_cons_succ]
      refine wpAnyH_take (i := 11) (oi := ?_) (v := ?_) ?_ (by kernel_rfl) (by kernel_rfl) (by kernel_rfl) ?_ ?_ (by assumption) ?_
      rotate_left 2; (simp only [List.getElem?_toArray, List.getElem?_cons_succ, List.getElem?_cons_zero]; rfl)
      rotate_left; (first | (refine .inl ⟨by rfl, ?_⟩; intro w9 hS9; go_simp; try with_reducible rfl) | (refine .inr ⟨by rfl, ?_⟩; with_reducible rfl))
      rotate_left; (intro _ _ _ h9; exact h9)
      try simp only [Act.put, List.setIfInBounds_toArray, List.set_cons_zero, List.set_cons_succ]
      refine wpAnyH_take (i := 12) (oi := ?_) (v := ?_) ?_ (by kernel_rfl) (by kernel_rfl) (by kernel_rfl) ?_ ?_ (by assumption) ?_
      rotate_left 2; (simp only [List.getElem?_toArray, List.getElem?_cons_succ, List.getElem?_cons_zero]; rfl)
      rotate_left; (first | (refine .inl ⟨by rfl, ?_⟩; intro w9 hS9; go_simp; try with_reducible rfl) | (refine .inr ⟨by rfl, ?_⟩; with_reducible rfl))
      rotate_left; (intro _ _ _ h9; exact h9)
      try simp only [Act.put, List.setIfInBounds_toArray, List.set_cons_zero, List.set_cons_succ]
      refine wpAnyH_take (i := 13) (oi := ?_) (v := ?_) ?_ (by kernel_rfl) (by kernel_rfl) (by kernel_rfl) ?_ ?_ (by assumption) ?_
      rotate_left 2; (simp only [List.getElem?_toArray, List.getElem?_cons_succ, List.getElem?_cons_zero]; rfl)
      rotate_left; (first | (refine .inl ⟨by rfl, ?_⟩; intro w9 hS9; go_simp; try with_reducible rfl) | (refine .inr ⟨by rfl, ?_⟩; with_reducible rfl))
      rotate_left; (intro _ _ _ h9; exact h9)
      try simp only [Act.put, List.setIfInBounds_toArray, List.set_cons_zero, List.set_cons_succ]
      refine wpAnyH_take (i := 14) (oi := ?_) (v := ?_) ?_ (by kernel_rfl) (by kernel_rfl) (by kernel_rfl) ?_ ?_ (by assumption) ?_
      rotate_left 2; (simp only [List.getElem?_toArray, List.getElem?_cons_succ, List.getElem?_cons_zero]; rfl)
      rotate_left; (first | (refine .inl ⟨by rfl, ?_⟩; intro w9 hS9; go_simp; try with_reducible rfl) | (refine .inr ⟨by rfl, ?_⟩; with_reducible rfl))
      rotate_left; (intro _ _ _ h9; exact h9)
      try simp only [Act.put, List.setIfInBounds_toArray, List.set_cons_zero, List.set_cons_succ]
      refine wpAnyH_take (i := 15) (oi := ?_) (v := ?_) ?_ (by kernel_rfl) (by kernel_rfl) (by kernel_rfl) ?_ ?_ (by assumption) ?_
      rotate_left 2; (simp only [List.getElem?_toArray, List.getElem?_cons_succ, List.getElem?_cons_zero]; rfl)
      rotate_left; (first | (refine .inl ⟨by rfl, ?_⟩; intro w9 hS9; go_simp; try with_reducible rfl) | (refine .inr ⟨by rfl, ?_⟩; with_reducible rfl))
      rotate_left; (intro _ _ _ h9; exact h9)
      try simp only [Act.put, List.setIfInBounds_toArray, List.set_cons_zero, List.set_cons_succ]
      refine wpAnyH_take (i := 16) (oi := ?_) (v := ?_) ?_ (by kernel_rfl) (by kernel_rfl) (by kernel_rfl) ?_ ?_ (by assumption) ?_
      rotate_left 2; (simp only [List.getElem?_toArray, List.getElem?_cons_succ, List.getElem?_cons_zero]; rfl)
      rotate_left; (first | (refine .inl ⟨by rfl, ?_⟩; intro w9 hS9; go_simp; try with_reducible rfl) | (refine .inr ⟨by rfl, ?_⟩; with_reducible rfl))
      rotate_left; (intro _ _ _ h9; exact h9)
      try simp only [Act.put, List.setIfInBounds_toArray, List.set_cons_zero, List.set_cons_succ]
      refine wpAnyH_take (i := 17) (oi := ?_) (v := ?_) ?_ (by kernel_rfl) (by kernel_rfl) (by kernel_rfl) ?_ ?_ (by assumption) ?_
      rotate_left 2; (simp only [List.getElem?_toArray, List.getElem?_cons_succ, List.getElem?_cons_zero]; rfl)
      rotate_left; (first | (refine .inl ⟨by rfl, ?_⟩; intro w9 hS9; go_simp; try with_reducible rfl) | (refine .inr ⟨by rfl, ?_⟩; with_reducible rfl))
      rotate_left; (intro _ _ _ h9; exact h9)
      try simp only [Act.put, List.setIfInBounds_toArray, List.set_cons_zero, List.set_cons_succ]
      refine wpAnyH_take (i := 18) (oi := ?_) (v := ?_) ?_ (by kernel_rfl) (by kernel_rfl) (by kernel_rfl) ?_ ?_ (by assumption) ?_
      rotate_left 2; (simp only [List.getElem?_toArray, List.getElem?_cons_succ, List.getElem?_cons_zero]; rfl)
      rotate_left; (first | (refine .inl ⟨by rfl, ?_⟩; intro w9 hS9; go_simp; try with_reducible rfl) | (refine .inr ⟨by rfl, ?_⟩; with_reducible rfl))
      rotate_left; (intro _ _ _ h9; exact h9)
      try simp only [Act.put, List.setIfInBounds_toArray, List.set_cons_zero, List.set_cons_succ]
      refine wpAnyH_take (i := 19) (oi := ?_) (v := ?_) ?_ (by kernel_rfl) (by kernel_rfl) (by kernel_rfl) ?_ ?_ (by assumption) ?_
      rotate_left 2; (simp only [List.getElem?_toArray, List.getElem?_cons_succ, List.getElem?_cons_zero]; rfl)
      rotate_left; (first | (refine .inl ⟨by rfl, ?_⟩; intro w9 hS9; go_simp; try with_reducible rfl) | (refine .inr ⟨by rfl, ?_⟩; with_reducible rfl))
      rotate_left; (intro _ _ _ h9; exact h9)
      try simp only [Act.put, List.setIfInBounds_toArray, List.set_cons_zero, List.set_cons_succ]
      refine wpAnyH_take (i := 20) (oi := ?_) (v := ?_) ?_ (by kernel_rfl) (by kernel_rfl) (by kernel_rfl) ?_ ?_ (by assumption) ?_
      rotate_left 2; (simp only [List.getElem?_toArray, List.getElem?_cons_succ, List.getElem?_cons_zero]; rfl)
      rotate_left; (first | (refine .inl ⟨by rfl, ?_⟩; intro w9 hS9; go_simp; try with_reducible rfl) | (refine .inr ⟨by rfl, ?_⟩; with_reducible rfl))
      rotate_left; (intro _ _ _ h9; exact h9)
      try simp only [Act.put, List.setIfInBounds_toArray, List.set_cons_zero, List.set_cons_succ]
      refine wpAnyH_take (i := 21) (oi := ?_) (v := ?_) ?_ (by kernel_rfl) (by kernel_rfl) (by kernel_rfl) ?_ ?_ (by assumption) ?_
      rotate_left 2; (simp only [List.getElem?_toArray, List.getElem?_cons_succ, List.getElem?_cons_zero]; rfl)
      rotate_left; (first | (refine .inl ⟨by rfl, ?_⟩; intro w9 hS9; go_simp; try with_reducible rfl) | (refine .inr ⟨by rfl, ?_⟩; with_reducible rfl))
      rotate_left; (intro _ _ _ h9; exact h9)
      try simp only [Act.put, List.setIfInBounds_toArray, List.set_cons_zero, List.set_cons_succ]
      refine wpAnyH_take (i := 22) (oi := ?_) (v := ?_) ?_ (by kernel_rfl) (by kernel_rfl) (by kernel_rfl) ?_ ?_ (by assumption) ?_
      rotate_left 2; (simp only [List.getElem?_toArray, List.getElem?_cons_succ, List.getElem?_cons_zero]; rfl)
      rotate_left; (first | (refine .inl ⟨by rfl, ?_⟩; intro w9 hS9; go_simp; try with_reducible rfl) | (refine .inr ⟨by rfl, ?_⟩; with_reducible rfl))
      rotate_left; (intro _ _ _ h9; exact h9)
      try simp only [Act.put, List.setIfInBounds_toArray, List.set_cons_zero, List.set_cons_succ]
      refine wpAnyH_take (i := 23) (oi := ?_) (v := ?_) ?_ (by kernel_rfl) (by kernel_rfl) (by kernel_rfl) ?_ ?_ (by assumption) ?_
      rotate_left 2; (simp only [List.getElem?_toArray, List.getElem?_cons_succ, List.getElem?_cons_zero]; rfl)
      rotate_left; (first | (refine .inl ⟨by rfl, ?_⟩; intro w9 hS9; go_simp; try with_reducible rfl) | (refine .inr ⟨by rfl, ?_⟩; with_reducible rfl))
      rotate_left; (intro _ _ _ h9; exact h9)
      try simp only [Act.put, List.setIfInBounds_toArray, List.set_cons_zero, List.set_cons_succ]
      refine wpAnyH_take (i := 24) (oi := ?_) (v := ?_) ?_ (by kernel_rfl) (by kernel_rfl) (by kernel_rfl) ?_ ?_ (by assumption) ?_
      rotate_left 2; (simp only [List.getElem?_toArray, List.getElem?_cons_succ, List.getElem?_cons_zero]; rfl)
      rotate_left; (first | (refine .inl ⟨by rfl, ?_⟩; intro w9 hS9; go_simp; try with_reducible rfl) | (refine .inr ⟨by rfl, ?_⟩; with_reducible rfl))
      rotate_left; (intro _ _ _ h9; exact h9)
      try simp only [Act.put, List.setIfInBounds_toArray, List.set_cons_zero, List.set_cons_succ]
      refine wpAnyH_take (i := 25) (oi := ?_) (v := ?_) ?_ (by kernel_rfl) (by kernel_rfl) (by kernel_rfl) ?_ ?_ (by assumption) ?_
      rotate_left 2; (simp only [List.getElem?_toArray, List.getElem?_cons_succ, List.getElem?_cons_zero]; rfl)
      rotate_left; (first | (refine .inl ⟨by rfl, ?_⟩; intro w9 hS9; go_simp; try with_reducible rfl) | (refine .inr ⟨by rfl, ?_⟩; with_reducible rfl))
      rotate_left; (intro _ _ _ h9; exact h9)
      try simp only [Act.put, List.setIfInBounds_toArray, List.set_cons_zero, List.set_cons_succ]
      refine wpAnyH_take (i := 26) (oi := ?_) (v := ?_) ?_ (by kernel_rfl) (by kernel_rfl) (by kernel_rfl) ?_ ?_ (by assumption) ?_
      rotate_left 2; (simp only [List.getElem?_toArray, List.getElem?_cons_succ, List.getElem?_cons_zero]; rfl)
      rotate_left; (first | (refine .inl ⟨by rfl, ?_⟩; intro w9 hS9; go_simp; try with_reducible rfl) | (refine .inr ⟨by rfl, ?_⟩; with_reducible rfl))
      rotate_left; (intro _ _ _ h9; exact h9)
      try simp only [Act.put, List.setIfInBounds_toArray, List.set_cons_zero, List.set_cons_succ]
      refine wpAnyH_done (by kernel_rfl) ?_ _
      go_wp2_with fail
      go_ret
      exact ⟨_, ys, rfl, HD.out, (HR.out.nts.below HB2.out).below hS0, HR.out.bel.trans ((HB2.out.mono HR.out.bel.size).trans (hS0.mono (Nat.le_trans HR.out.bel.size HB2.out.size)))⟩
    have e1 : ((z.nt.seq : Int) == 4294967295) = false := by simp; omega
    have ew2 : IntKind.u32.wrap ((z.nt.seq : Int) + 1) = (z.nt.seq : Int) + 1 := by simp [IntKind.wrap, IntKind.bits, IntKind.signed]; omega
    by_cases hq2 : s = z.nt.seq + 1
    · have e2 : ((s : Int) != (z.nt.seq : Int) + 1) = false := by simp; omega
      have HX := Lib.hid (show bkNext ((zs ++ [z]).getLast?.map (·.nt.seq)) s = true by rw [HNX.out]; simp [bkNext]; omega)
      generalize z.nt.seq = q at *
      have HQ := Lib.hid hq1
      have HQ2 := Lib.hid hq2
      clear hq1 hs32 h32 hq2
      generalize zs ++ [z] = ys at *
      refine wp_region_held (S := fun w' => Below w2.heap.size w2 w') (by kernel_rfl) ?_
      change wpAnyH _ _ _ _ _ _ _ _ w2.drew
      have hS0 : Below w2.heap.size w2 w2.drew := ⟨rfl, rfl, rfl, Nat.le_refl _, fun _ _ => rfl⟩
      change wpAnyH _ _ _ _ _ 27 (Array.replicate 27 false) _ _
      refine wpAnyH_take (i := 0) (oi := ?_) (v := ?_) ?_ (by kernel_rfl) (by kernel_rfl) (by kernel_rfl) ?_ ?_ (by assumption) ?_
      rotate_left 2; (simp only [List.getElem?_toArray, List.getElem?_cons_succ, List.getElem?_cons_zero]; rfl)
      rotate_left; (first | (refine .inl ⟨by rfl, ?_⟩; intro w9 hS9; go_simp; try with_reducible rfl) | (refine .inr ⟨by rfl, ?_⟩; with_reducible rfl))
      rotate_left; (intro _ _ _ h9; exact h9)
      try simp only [Act.put, List.setIfInBounds_toArray, List.set_cons_zero, List.set_cons_succ]
      refine wpAnyH_take (i := 1) (oi := ?_) (v := ?_) ?_ (by kernel_rfl) (by kernel_rfl) (by kernel_rfl) ?_ ?_ (by assumption) ?_
      rotate_left 2; (simp only [List.getElem?_toArray, List.getElem?_cons_succ, List.getElem?_cons_zero]; rfl)
      rotate_left; (first | (refine .inl ⟨by rfl, ?_⟩; intro w9 hS9; go_simp; try with_reducible rfl) | (refine .inr ⟨by rfl, ?_⟩; with_reducible rfl))
      rotate_left; (intro _ _ _ h9; exact h9)
      try simp only [Act.put, List.setIfInBounds_toArray, List.set_cons_zero, List.set_cons_succ]
      refine wpAnyH_take (i := 2) (oi := ?_) (v := ?_) ?_ (by kernel_rfl) (by kernel_rfl) (by kernel_rfl) ?_ ?_ (by assumption) ?_
      rotate_left 2; (simp only [List.getElem?_toArray, List.getElem?_cons_succ, List.getElem?_cons_zero]; rfl)
      rotate_left; (first | (refine .inl ⟨by rfl, ?_⟩; intro w9 hS9; go_simp; try with_reducible rfl) | (refine .inr ⟨by rfl, ?_⟩; with_reducible rfl))
      rotate_left; (intro _ _ _ h9; exact h9)
      try simp only [Act.put, List.setIfInBounds_toArray, List.set_cons_zero, List.set_cons_succ]
      refine wpAnyH_take (i := 3) (oi := ?_) (v := ?_) ?_ (by kernel_rfl) (by kernel_rfl) (by kernel_rfl) ?_ ?_ (by assumption) ?_
      rotate_left 2; (simp only [List.getElem?_toArray, List.getElem?_cons_succ, List.getElem?_cons_zero]; rfl)
      rotate_left; (first | (refine .inl ⟨by rfl, ?_⟩; intro w9 hS9; go_simp; try with_reducible rfl) | (refine .inr ⟨by rfl, ?_⟩; with_reducible rfl))
      rotate_left; (intro _ _ _ h9; exact h9)
      try simp only [Act.put, List.setIfInBounds_toArray, List.set_cons_zero, List.set_cons_succ]
      refine wpAnyH_take (i := 4) (oi := ?_) (v := ?_) ?_ (by kernel_rfl) (by kernel_rfl) (by kernel_rfl) ?_ ?_ (by assumption) ?_
      rotate_left 2; (simp only [List.getElem?_toArray, List.getElem?_cons_succ, List.getElem?_cons_zero]; rfl)
      rotate_left; (first | (refine .inl ⟨by rfl, ?_⟩; intro w9 hS9; go_simp; try with_reducible rfl) | (refine .inr ⟨by rfl, ?_⟩; with_reducible rfl))
      rotate_left; (intro _ _ _ h9; exact h9)
      try simp only [Act.put, List.setIfInBounds_toArray, List.set_cons_zero, List.set_cons_succ]
      refine wpAnyH_take (i := 5) (oi := ?_) (v := ?_) ?_ (by kernel_rfl) (by kernel_rfl) (by kernel_rfl) ?_ ?_ (by assumption) ?_
      rotate_left 2; (simp only [List.getElem?_toArray, List.getElem?_cons_succ, List.getElem?_cons_zero]; rfl)
      rotate_left; (first | (refine .inl ⟨by rfl, ?_⟩; intro w9 hS9; go_simp; try with_reducible rfl) | (refine .inr ⟨by rfl, ?_⟩; with_reducible rfl))
      rotate_left; (intro _ _ _ h9; exact h9)
      try simp only [Act.put, List.setIfInBounds_toArray, List.set_cons_zero, List.set_cons_succ]
      refine wpAnyH_take (i := 6) (oi := ?_) (v := ?_) ?_ (by kernel_rfl) (by kernel_rfl) (by kernel_rfl) ?_ ?_ (by assumption) ?_
      rotate_left 2; (simp only [List.getElem?_toArray, List.getElem?_cons_succ, List.getElem?_cons_zero]; rfl)
      rotate_left; (first | (refine .inl ⟨by rfl, ?_⟩; intro w9 hS9; go_simp; try with_reducible rfl) | (refine .inr ⟨by rfl, ?_⟩; with_reducible rfl))
      rotate_left; (intro _ _ _ h9; exact h9)
      try simp only [Act.put, List.setIfInBounds_toArray, List.set_cons_zero, List.set_cons_succ]
      refine wpAnyH_take (i := 7) (oi := ?_) (v := ?_) ?_ (by kernel_rfl) (by kernel_rfl) (by kernel_rfl) ?_ ?_ (by assumption) ?_
      rotate_left 2; (simp only [List.getElem?_toArray, List.getElem?_cons_succ, List.getElem?_cons_zero]; rfl)
      rotate_left; (first | (refine .inl ⟨by rfl, ?_⟩; intro w9 hS9; go_simp; try with_reducible rfl) | (refine .inr ⟨by rfl, ?_⟩; with_reducible rfl))
      rotate_left; (intro _ _ _ h9; exact h9)
      try simp only [Act.put, List.setIfInBounds_toArray, List.set_cons_zero, List.set_cons_succ]
      refine wpAnyH_take (i := 8) (oi := ?_) (v := ?_) ?_ (by kernel_rfl) (by kernel_rfl) (by kernel_rfl) ?_ ?_ (by assumption) ?_
      rotate_left 2; (simp only [List.getElem?_toArray, List.getElem?_cons_succ, List.getElem?_cons_zero]; rfl)
      rotate_left; (first | (refine .inl ⟨by rfl, ?_⟩; intro w9 hS9; go_simp; try with_reducible rfl) | (refine .inr ⟨by rfl, ?_⟩; with_reducible rfl))
      rotate_left; (intro _ _ _ h9; exact h9)
      try simp only [Act.put, List.setIfInBounds_toArray, List.set_cons_zero, List.set_cons_succ]
      refine wpAnyH_take (i := 9) (oi := ?_) (v := ?_) ?_ (by kernel_rfl) (by kernel_rfl) (by kernel_rfl) ?_ ?_ (by assumption) ?_
      rotate_left 2; (simp only [List.getElem?_toArray, List.getElem?_cons_succ, List.getElem?_cons_zero]; rfl)
      rotate_left; (first | (refine .inl ⟨by rfl, ?_⟩; intro w9 hS9; go_simp; try with_reducible rfl) | (refine .inr ⟨by rfl, ?_⟩; with_reducible rfl))
      rotate_left; (intro _ _ _ h9; exact h9)
      try simp only [Act.put, List.setIfInBounds_toArray, List.set_cons_zero, List.set_cons_succ]
      refine wpAnyH_take (i := 10) (oi := ?_) (v := ?_) ?_ (by kernel_rfl) (by kernel_rfl) (by kernel_rfl) ?_ ?_ (by assumption) ?_
      rotate_left 2; (simp only [List.getElem?_toArray, List.getElem?_cons_succ, List.getElem?_cons_zero]; rfl)
      rotate_left; (first | (refine .inl ⟨by rfl, ?_⟩; intro w9 hS9; go_simp; try with_reducible rfl) | (refine .inr ⟨by rfl, ?_⟩; with_reducible rfl))
      rotate_left; (intro _ _ _ h9; exact h9)
      try simp only [Act.put, List.setIfInBounds_toArray, List.set_cons_zero, List.set_cons_succ]
      refine wpAnyH_take (i := 11) (oi := ?_) (v := ?_) ?_ (by kernel_rfl) (by kernel_rfl) (by kernel_rfl) ?_ ?_ (by assumption) ?_
      rotate_left 2; (simp only [List.getElem?_toArray, List.getElem?_cons_succ, List.getElem?_cons_zero]; rfl)
      rotate_left; (first | (refine .inl ⟨by rfl, ?_⟩; intro w9 hS9; go_simp; try with_reducible rfl) | (refine .inr ⟨by rfl, ?_⟩; with_reducible rfl))
      rotate_left; (intro _ _ _ h9; exact h9)
      try simp only [Act.put, List.setIfInBounds_toArray, List.set_cons_zero, List.set_cons_succ]
      refine wpAnyH_take (i := 12) (oi := ?_) (v := ?_) ?_ (by kernel_rfl) (by kernel_rfl) (by kernel_rfl) ?_ ?_ (by assumption) ?_
      rotate_left 2; (simp only [List.getElem?_toArray, List.getElem?_cons_succ, List.getElem?_cons_zero]; rfl)
      rotate_left; (first | (refine .inl ⟨by rfl, ?_⟩; intro w9 hS9; go_simp; try with_reducible rfl) | (refine .inr ⟨by rfl, ?_⟩; with_reducible rfl))
      rotate_left; (intro _ _ _ h9; exact h9)
      try simp only [Act.put, List.setIfInBounds_toArray, List.set_cons_zero, List.set_cons_succ]
      refine wpAnyH_take (i := 13) (oi := ?_) (v := ?_) ?_ (by kernel_rfl) (by kernel_rfl) (by kernel_rfl) ?_ ?_ (by assumption) ?_
      rotate_left 2; (simp only [List.getElem?_toArray, List.getElem?_cons_succ, List.getElem?_cons_zero]; rfl)
      rotate_left; (first | (refine .inl ⟨by rfl, ?_⟩; intro w9 hS9; go_simp; try with_reducible rfl) | (refine .inr ⟨by rfl, ?_⟩; with_reducible rfl))
      rotate_left; (intro _ _ _ h9; exact h9)
      try simp only [Act.put, List.setIfInBounds_toArray, List.set_cons_zero, List.set_cons_succ]
      refine wpAnyH_take (i := 14) (oi := ?_) (v := ?_) ?_ (by kernel_rfl) (by kernel_rfl) (by kernel_rfl) ?_ ?_ (by assumption) ?_
      rotate_left 2; (simp only [List.getElem?_toArray, List.getElem?_cons_succ, List.getElem?_cons_zero]; rfl)
      rotate_left; (first | (refine .inl ⟨by rfl, ?_⟩; intro w9 hS9; go_simp; try with_reducible rfl) | (refine .inr ⟨by rfl, ?_⟩; with_reducible rfl))
      rotate_left; (intro _ _ _ h9; exact h9)
      try simp only [Act.put, List.setIfInBounds_toArray, List.set_cons_zero, List.set_cons_succ]
      refine wpAnyH_take (i := 15) (oi := ?_) (v := ?_) ?_ (by kernel_rfl) (by kernel_rfl) (by kernel_rfl) ?_ ?_ (by assumption) ?_
      rotate_left 2; (simp only [List.getElem?_toArray, List.getElem?_cons_succ, List.getElem?_cons_zero]; rfl)
      rotate_left; (first | (refine .inl ⟨by rfl, ?_⟩; intro w9 hS9; go_simp; try with_reducible rfl) | (refine .inr ⟨by rfl, ?_⟩; with_reducible rfl))
      rotate_left; (intro _ _ _ h9; exact h9)
      try simp only [Act.put, List.setIfInBounds_toArray, List.set_cons_zero, List.set_cons_succ]
      refine wpAnyH_take (i := 16) (oi := ?_) (v := ?_) ?_ (by kernel_rfl) (by kernel_rfl) (by kernel_rfl) ?_ ?_ (by assumption) ?_
      rotate_left 2; (simp only [List.getElem?_toArray, List.getElem?_cons_succ, List.getElem?_cons_zero]; rfl)
      rotate_left; (first | (refine .inl ⟨by rfl, ?_⟩; intro w9 hS9; go_simp; try with_reducible rfl) | (refine .inr ⟨by rfl, ?_⟩; with_reducible rfl))
      rotate_left; (intro _ _ _ h9; exact h9)
      try simp only [Act.put, List.setIfInBounds_toArray, List.set_cons_zero, List.set_cons_succ]
      refine wpAnyH_take (i := 17) (oi := ?_) (v := ?_) ?_ (by kernel_rfl) (by kernel_rfl) (by kernel_rfl) ?_ ?_ (by assumption) ?_
      rotate_left 2; (simp only [List.getElem?_toArray, List.getElem?_cons_succ, List.getElem?_cons_zero]; rfl)
      rotate_left; (first | (refine .inl ⟨by rfl, ?_⟩; intro w9 hS9; go_simp; try with_reducible rfl) | (refine .inr ⟨by rfl, ?_⟩; with_reducible rfl))
      rotate_left; (intro _ _ _ h9; exact h9)
      try simp only [Act.put, List.setIfInBounds_toArray, List.set_cons_zero, List.set_cons_succ]
      refine wpAnyH_take (i := 18) (oi := ?_) (v := ?_) ?_ (by kernel_rfl) (by kernel_rfl) (by kernel_rfl) ?_ ?_ (by assumption) ?_
      rotate_left 2; (simp only [List.getElem?_toArray, List.getElem?_cons_succ, List.getElem?_cons_zero]; rfl)
      rotate_left; (first | (refine .inl ⟨by rfl, ?_⟩; intro w9 hS9; go_simp; try with_reducible rfl) | (refine .inr ⟨by rfl, ?_⟩; with_reducible rfl))
      rotate_left; (intro _ _ _ h9; exact h9)
      try simp only [Act.put, List.setIfInBounds_toArray, List.set_cons_zero, List.set_cons_succ]
      refine wpAnyH_take (i := 19) (oi := ?_) (v := ?_) ?_ (by kernel_rfl) (by kernel_rfl) (by kernel_rfl) ?_ ?_ (by assumption) ?_
      rotate_left 2; (simp only [List.getElem?_toArray, List.getElem?_cons_succ, List.getElem?_cons_zero]; rfl)
      rotate_left; (first | (refine .inl ⟨by rfl, ?_⟩; intro w9 hS9; go_simp; try with_reducible rfl) | (refine .inr ⟨by rfl, ?_⟩; with_reducible rfl))
      rotate_left; (intro _ _ _ h9; exact h9)
      try simp only [Act.put, List.setIfInBounds_toArray, List.set_cons_zero, List.set_cons_succ]
      refine wpAnyH_take (i := 20) (oi := ?_) (v := ?_) ?_ (by kernel_rfl) (by kernel_rfl) (by kernel_rfl) ?_ ?_ (by assumption) ?_
      rotate_left 2; (simp only [List.getElem?_toArray, List.getElem?_cons_succ, List.getElem?_cons_zero]; rfl)
      rotate_left; (first | (refine .inl ⟨by rfl, ?_⟩; intro w9 hS9; go_simp; try with_reducible rfl) | (refine .inr ⟨by rfl, ?_⟩; with_reducible rfl))
      rotate_left; (intro _ _ _ h9; exact h9)
      try simp only [Act.put, List.setIfInBounds_toArray, List.set_cons_zero, List.set_cons_succ]
      refine wpAnyH_take (i := 21) (oi := ?_) (v := ?_) ?_ (by kernel_rfl) (by kernel_rfl) (by kernel_rfl) ?_ ?_ (by assumption) ?_
      rotate_left 2; (simp only [List.getElem?_toArray, List.getElem?_cons_succ, List.getElem?_cons_zero]; rfl)
      rotate_left; (first | (refine .inl ⟨by rfl, ?_⟩; intro w9 hS9; go_simp; try with_reducible rfl) | (refine .inr ⟨by rfl, ?_⟩; with_reducible rfl))
      rotate_left; (intro _ _ _ h9; exact h9)
      try simp only [Act.put, List.setIfInBounds_toArray, List.set_cons_zero, List.set_cons_succ]
      refine wpAnyH_take (i := 22) (oi := ?_) (v := ?_) ?_ (by kernel_rfl) (by kernel_rfl) (by kernel_rfl) ?_ ?_ (by assumption) ?_
      rotate_left 2; (simp only [List.getElem?_toArray, List.getElem?_cons_succ, List.getElem?_cons_zero]; rfl)
      rotate_left; (first | (refine .inl ⟨by rfl, ?_⟩; intro w9 hS9; go_simp; try with_reducible rfl) | (refine .inr ⟨by rfl, ?_⟩; with_reducible rfl))
      rotate_left; (intro _ _ _ h9; exact h9)
      try simp only [Act.put, List.setIfInBounds_toArray, List.set_cons_zero, List.set_cons_succ]
      refine wpAnyH_take (i := 23) (oi := ?_) (v := ?_) ?_ (by kernel_rfl) (by kernel_rfl) (by kernel_rfl) ?_ ?_ (by assumption) ?_
      rotate_left 2; (simp only [List.getElem?_toArray, List.getElem?_cons_succ, List.getElem?_cons_zero]; rfl)
      rotate_left; (first | (refine .inl ⟨by rfl, ?_⟩; intro w9 hS9; go_simp; try with_reducible rfl) | (refine .inr ⟨by rfl, ?_⟩; with_reducible rfl))
      rotate_left; (intro _ _ _ h9; exact h9)
      try simp only [Act.put, List.setIfInBounds_toArray, List.set_cons_zero, List.set_cons_succ]
      refine wpAnyH_take (i := 24) (oi := ?_) (v := ?_) ?_ (by kernel_rfl) (by kernel_rfl) (by kernel_rfl) ?_ ?_ (by assumption) ?_
      rotate_left 2; (simp only [List.getElem?_toArray, List.getElem?_cons_succ, List.getElem?_cons_zero]; rfl)
      rotate_left; (first | (refine .inl ⟨by rfl, ?_⟩; intro w9 hS9; go_simp; try with_reducible rfl) | (refine .inr ⟨by rfl, ?_⟩; with_reducible rfl))
      rotate_left; (intro _ _ _ h9; exact h9)
      try simp only [Act.put, List.setIfInBounds_toArray, List.set_cons_zero, List.set_cons_succ]
      refine wpAnyH_take (i := 25) (oi := ?_) (v := ?_) ?_ (by kernel_rfl) (by kernel_rfl) (by kernel_rfl) ?_ ?_ (by assumption) ?_
      rotate_left 2; (simp only [List.getElem?_toArray, List.getElem?_cons_succ, List.getElem?_cons_zero]; rfl)
      rotate_left; (first | (refine .inl ⟨by rfl, ?_⟩; intro w9 hS9; go_simp; try with_reducible rfl) | (refine .inr ⟨by rfl, ?_⟩; with_reducible rfl))
      rotate_left; (intro _ _ _ h9; exact h9)
      try simp only [Act.put, List.setIfInBounds_toArray, List.set_cons_zero, List.set_cons_succ]
      refine wpAnyH_take (i := 26) (oi := ?_) (v := ?_) ?_ (by kernel_rfl) (by kernel_rfl) (by kernel_rfl) ?_ ?_ (by assumption) ?_
      rotate_left 2; (simp only [List.getElem?_toArray, List.getElem?_cons_succ, List.getElem?_cons_zero]; rfl)
      rotate_left; (first | (refine .inl ⟨by rfl, ?_⟩; intro w9 hS9; go_simp; try with_reducible rfl) | (refine .inr ⟨by rfl, ?_⟩; with_reducible rfl))
      rotate_left; (intro _ _ _ h9; exact h9)
      try simp only [Act.put, List.setIfInBounds_toArray, List.set_cons_zero, List.set_cons_succ]
      refine wpAnyH_done (by kernel_rfl) ?_ _
      have hw3c : ∃ w3, w3 = w2.drew := ⟨_, rfl⟩
      obtain ⟨w3, hw3⟩ := hw3c
      have HB3 := Lib.hid (show Below wr.heap.size wr w3 by rw [hw3]; exact below_step HB2.out hS0)
      have H13 := Lib.hid (show Fr (fun i => i = w1.heap.size) w1 w3 by rw [hw3]; exact Fr.ofBelow (below_step HBA.out hS0) _)
      have HG3 := Lib.hid (show w3.heap[w1.heap.size]? = some (.cells (nta s A1 d.length c1 0) 54 (0, 0)) by rw [hw3]; exact HG2.out)
      clear x0
      go_upto_region 7 with fail
      rw [← hw3]
      clear hS0 hw3
      have hb3 := HG3.out
      have g2 : w3.cell? ⟨w1.heap.size, 2, none⟩ = some (.int .i64 0) := by simp [World.cell?, hb3]
      have gf : w3.frozen? ⟨w1.heap.size, 2, none⟩ = false := by simp [World.frozen?, hb3]
      have HG4 := Lib.hid (nt_fin hb3 ((k : Int) + (8 + (d.length : Int))))
      have HF4 := Lib.hid (fr_setCell (F := fun i => i = w1.heap.size) (w := w3) ⟨w1.heap.size, 2, none⟩ (.int .i64 ((k : Int) + (8 + (d.length : Int)))) rfl)
      clear hb3
      go_upto_region 9 with fail
      generalize w3.setCell ⟨w1.heap.size, 2, none⟩ (.int .i64 ((k : Int) + (8 + (d.length : Int)))) = w4 at *
      clear g2 gf
      have hb4 := HG4.out
      have g0 : w4.cell? ⟨w1.heap.size, 0, none⟩ = some (.int .u32 s) := by simp [World.cell?, hb4]
      have g1 : w4.cell? ⟨w1.heap.size, 1, none⟩ = some (.slice A1 d.length c1) := by simp [World.cell?, hb4]
      have g2 : w4.cell? ⟨w1.heap.size, 2, none⟩ = some (.int .i64 ((k : Int) + (8 + (d.length : Int)))) := by simp [World.cell?, hb4]
      have hs1 := HB1.out.size
      have HB4 := Lib.hid (HB3.out.trans (HF4.out.below wr.heap.size HB3.out.size (fun i e => by omega)))
      have H14 := Lib.hid (fr_same H13.out HF4.out)
      have HNEW := Lib.hid (nt_new_at w4 s A1 d c1 k)
      have HBN := Lib.hid (below_new w4 (.cells (nta s A1 d.length c1 ((k : Int) + (8 + (d.length : Int)))) 54))
      have HOW := Lib.hid ((HR.out.nts.own.fr (Fr.ofBelow HB4.out (fun _ => False)) (fun _ _ h => h)).fr (Fr.ofBelow HBN.out (fun _ => False)) (fun _ _ h => h))
      have HFA := Lib.hid (fr_same H14.out (fr_alloc (fun i => i = w1.heap.size) w4 (.cells (nta s A1 d.length c1 ((k : Int) + (8 + (d.length : Int)))) 54)))
      clear hb4 hs1
      go_wp2_with (at_builtin; go_must (refine wpList_append_fr ntT ntc_len ntc_one rfl _ _ rfl _ ys rfl HOW.out _ _ _ [⟨⟨s, d, k + (8 + d.length)⟩, A1, c1⟩] rfl HNEW.out (by have := HK.out; have := HNY.out; omega) (by have := HK.out; have := HNY.out; omega) ?_); intro v' wc hown1 hg1 hf1; clear g0 g1 g2)
      have hl := HL.out
      have hxl := HRS.out.len
      exact ⟨⟨_, k + (8 + d.length), by go_num, RNI.push HR.out (below_step HB4.out HBN.out) (HD1.out.fr HFA.out (fun b o e e2 => by have := HD1.out.blk b o e; omega)) HF.out HX.out ((Fr.ofGrown hg1).mono (fun i _ e => e.symm)) hown1 hf1⟩, by simp [intOf]; omega⟩
    have e2 : ((s : Int) != (z.nt.seq : Int) + 1) = true := by simp; omega
    have HD := Lib.hid (HDONE.out (fun s9 d9 h9 => by have h8 := HF.out; rw [h8] at h9; cases h9; rw [HNX.out]; simp [bkNext]; omega))
    generalize z.nt.seq = q at *
    have HQ := Lib.hid hq1
    have HQ2 := Lib.hid hq2
    clear hq1 hs32 h32 hq2
    generalize zs ++ [z] = ys at *
    refine wp_region_held (S := fun w' => Below w2.heap.size w2 w') (by kernel_rfl) ?_
    change wpAnyH _ _ _ _ _ _ _ _ w2.drew
    have hS0 : Below w2.heap.size w2 w2.drew := ⟨rfl, rfl, rfl, Nat.le_refl _, fun _ _ => rfl⟩
    change wpAnyH _ _ _ _ _ 27 (Array.replicate 27 false) _ _
    refine wpAnyH_take (i := 0) (oi := ?_) (v := ?_) ?_ (by kernel_rfl) (by kernel_rfl) (by kernel_rfl) ?_ ?_ (by assumption) ?_
    rotate_left 2; (simp only [List.getElem?_toArray, List.getElem?_cons_succ, List.getElem?_cons_zero]; rfl)
    rotate_left; (first | (refine .inl ⟨by rfl, ?_⟩; intro w9 hS9; go_simp; try with_reducible rfl) | (refine .inr ⟨by rfl, ?_⟩; with_reducible rfl))
    rotate_left; (intro _ _ _ h9; exact h9)
    try simp only [Act.put, List.setIfInBounds_toArray, List.set_cons_zero, List.set_cons_succ]
    refine wpAnyH_take (i := 1) (oi := ?_) (v := ?_) ?_ (by kernel_rfl) (by kernel_rfl) (by kernel_rfl) ?_ ?_ (by assumption) ?_
    rotate_left 2; (simp only [List.getElem?_toArray, List.getElem?_cons_succ, List.getElem?_cons_zero]; rfl)
    rotate_left; (first | (refine .inl ⟨by rfl, ?_⟩; intro w9 hS9; go_simp; try with_reducible rfl) | (refine .inr ⟨by rfl, ?_⟩; with_reducible rfl))
    rotate_left; (intro _ _ _ h9; exact h9)
    try simp only [Act.put, List.setIfInBounds_toArray, List.set_cons_zero, List.set_cons_succ]
    refine wpAnyH_take (i := 2) (oi := ?_) (v := ?_) ?_ (by kernel_rfl) (by kernel_rfl) (by kernel_rfl) ?_ ?_ (by assumption) ?_
    rotate_left 2; (simp only [List.getElem?_toArray, List.getElem?_cons_succ, List.getElem?_cons_zero]; rfl)
    rotate_left; (first | (refine .inl ⟨by rfl, ?_⟩; intro w9 hS9; go_simp; try with_reducible rfl) | (refine .inr ⟨by rfl, ?_⟩; with_reducible rfl))
    rotate_left; (intro _ _ _ h9; exact h9)
    try simp only [Act.put, List.setIfInBounds_toArray, List.set_cons_zero, List.set_cons_succ]
    refine wpAnyH_take (i := 3) (oi := ?_) (v := ?_) ?_ (by kernel_rfl) (by kernel_rfl) (by kernel_rfl) ?_ ?_ (by assumption) ?_
    rotate_left 2; (simp only [List.getElem?_toArray, List.getElem?_cons_succ, List.getElem?_cons_zero]; rfl)
    rotate_left; (first | (refine .inl ⟨by rfl, ?_⟩; intro w9 hS9; go_simp; try with_reducible rfl) | (refine .inr ⟨by rfl, ?_⟩; with_reducible rfl))
    rotate_left; (intro _ _ _ h9; exact h9)
    try simp only [Act.put, List.setIfInBounds_toArray, List.set_cons_zero, List.set_cons_succ]
    refine wpAnyH_take (i := 4) (oi := ?_) (v := ?_) ?_ (by kernel_rfl) (by kernel_rfl) (by kernel_rfl) ?_ ?_ (by assumption) ?_
    rotate_left 2; (simp only [List.getElem?_toArray, List.getElem?_cons_succ, List.getElem?_cons_zero]; rfl)
    rotate_left; (first | (refine .inl ⟨by rfl, ?_⟩; intro w9 hS9; go_simp; try with_reducible rfl) | (refine .inr ⟨by rfl, ?_⟩; with_reducible rfl))
    rotate_left; (intro _ _ _ h9; exact h9)
    try simp only [Act.put, List.setIfInBounds_toArray, List.set_cons_zero, List.set_cons_succ]
    refine wpAnyH_take (i := 5) (oi := ?_) (v := ?_) ?_ (by kernel_rfl) (by kernel_rfl) (by kernel_rfl) ?_ ?_ (by assumption) ?_
    rotate_left 2; (simp only [List.getElem?_toArray, List.getElem?_cons_succ, List.getElem?_cons_zero]; rfl)
    rotate_left; (first | (refine .inl ⟨by rfl, ?_⟩; intro w9 hS9; go_simp; try with_reducible rfl) | (refine .inr ⟨by rfl, ?_⟩; with_reducible rfl))
    rotate_left; (intro _ _ _ h9; exact h9)
    try simp only [Act.put, List.setIfInBounds_toArray, List.set_cons_zero, List.set_cons_succ]
    refine wpAnyH_take (i := 6) (oi := ?_) (v := ?_) ?_ (by kernel_rfl) (by kernel_rfl) (by kernel_rfl) ?_ ?_ (by assumption) ?_
    rotate_left 2; (simp only [List.getElem?_toArray, List.getElem?_cons_succ, List.getElem?_cons_zero]; rfl)
    rotate_left; (first | (refine .inl ⟨by rfl, ?_⟩; intro w9 hS9; go_simp; try with_reducible rfl) | (refine .inr ⟨by rfl, ?_⟩; with_reducible rfl))
    rotate_left; (intro _ _ _ h9; exact h9)
    try simp only [Act.put, List.setIfInBounds_toArray, List.set_cons_zero, List.set_cons_succ]
    refine wpAnyH_take (i := 7) (oi := ?_) (v := ?_) ?_ (by kernel_rfl) (by kernel_rfl) (by kernel_rfl) ?_ ?_ (by assumption) ?_
    rotate_left 2; (simp only [List.getElem?_toArray, List.getElem?_cons_succ, List.getElem?_cons_zero]; rfl)
    rotate_left; (first | (refine .inl ⟨by rfl, ?_⟩; intro w9 hS9; go_simp; try with_reducible rfl) | (refine .inr ⟨by rfl, ?_⟩; with_reducible rfl))
    rotate_left; (intro _ _ _ h9; exact h9)
    try simp only [Act.put, List.setIfInBounds_toArray, List.set_cons_zero, List.set_cons_succ]
    refine wpAnyH_take (i := 8) (oi := ?_) (v := ?_) ?_ (by kernel_rfl) (by kernel_rfl) (by kernel_rfl) ?_ ?_ (by assumption) ?_
    rotate_left 2; (simp only [List.getElem?_toArray, List.getElem?_cons_succ, List.getElem?_cons_zero]; rfl)
    rotate_left; (first | (refine .inl ⟨by rfl, ?_⟩; intro w9 hS9; go_simp; try with_reducible rfl) | (refine .inr ⟨by rfl, ?_⟩; with_reducible rfl))
    rotate_left; (intro _ _ _ h9; exact h9)
    try simp only [Act.put, List.setIfInBounds_toArray, List.set_cons_zero, List.set_cons_succ]
    refine wpAnyH_take (i := 9) (oi := ?_) (v := ?_) ?_ (by kernel_rfl) (by kernel_rfl) (by kernel_rfl) ?_ ?_ (by assumption) ?_
    rotate_left 2; (simp only [List.getElem?_toArray, List.getElem?_cons_succ, List.getElem?_cons_zero]; rfl)
    rotate_left; (first | (refine .inl ⟨by rfl, ?_⟩; intro w9 hS9; go_simp; try with_reducible rfl) | (refine .inr ⟨by rfl, ?_⟩; with_reducible rfl))
    rotate_left; (intro _ _ _ h9; exact h9)
    try simp only [Act.put, List.setIfInBounds_toArray, List.set_cons_zero, List.set_cons_succ]
    refine wpAnyH_take (i := 10) (oi := ?_) (v := ?_) ?_ (by kernel_rfl) (by kernel_rfl) (by kernel_rfl) ?_ ?_ (by assumption) ?_
    rotate_left 2; (simp only [List.getElem?_toArray, List.getElem?_cons_succ, List.getElem?_cons_zero]; rfl)
    rotate_left; (first | (refine .inl ⟨by rfl, ?_⟩; intro w9 hS9; go_simp; try with_reducible rfl) | (refine .inr ⟨by rfl, ?_⟩; with_reducible rfl))
    rotate_left; (intro _ _ _ h9; exact h9)
    try simp only [Act.put, List.setIfInBounds_toArray, List.set_cons_zero, List.set_cons_succ]
    refine wpAnyH_take (i := 11) (oi := ?_) (v := ?_) ?_ (by kernel_rfl) (by kernel_rfl) (by kernel_rfl) ?_ ?_ (by assumption) ?_
    rotate_left 2; (simp only [List.getElem?_toArray, List.getElem?_cons_succ, List.getElem?_cons_zero]; rfl)
    rotate_left; (first | (refine .inl ⟨by rfl, ?_⟩; intro w9 hS9; go_simp; try with_reducible rfl) | (refine .inr ⟨by rfl, ?_⟩; with_reducible rfl))
    rotate_left; (intro _ _ _ h9; exact h9)
    try simp only [Act.put, List.setIfInBounds_toArray, List.set_cons_zero, List.set_cons_succ]
    refine wpAnyH_take (i := 12) (oi := ?_) (v := ?_) ?_ (by kernel_rfl) (by kernel_rfl) (by kernel_rfl) ?_ ?_ (by assumption) ?_
    rotate_left 2; (simp only [List.getElem?_toArray, List.getElem?_cons_succ, List.getElem?_cons_zero]; rfl)
    rotate_left; (first | (refine .inl ⟨by rfl, ?_⟩; intro w9 hS9; go_simp; try with_reducible rfl) | (refine .inr ⟨by rfl, ?_⟩; with_reducible rfl))
    rotate_left; (intro _ _ _ h9; exact h9)
    try simp only [Act.put, List.setIfInBounds_toArray, List.set_cons_zero, List.set_cons_succ]
    refine wpAnyH_take (i := 13) (oi := ?_) (v := ?_) ?_ (by kernel_rfl) (by kernel_rfl) (by kernel_rfl) ?_ ?_ (by assumption) ?_
    rotate_left 2; (simp only [List.getElem?_toArray, List.getElem?_cons_succ, List.getElem?_cons_zero]; rfl)
    rotate_left; (first | (refine .inl ⟨by rfl, ?_⟩; intro w9 hS9; go_simp; try with_reducible rfl) | (refine .inr ⟨by rfl, ?_⟩; with_reducible rfl))
    rotate_left; (intro _ _ _ h9; exact h9)
    try simp only [Act.put, List.setIfInBounds_toArray, List.set_cons_zero, List.set_cons_succ]
    refine wpAnyH_take (i := 14) (oi := ?_) (v := ?_) ?_ (by kernel_rfl) (by kernel_rfl) (by kernel_rfl) ?_ ?_ (by assumption) ?_
    rotate_left 2; (simp only [List.getElem?_toArray, List.getElem?_cons_succ, List.getElem?_cons_zero]; rfl)
    rotate_left; (first | (refine .inl ⟨by rfl, ?_⟩; intro w9 hS9; go_simp; try with_reducible rfl) | (refine .inr ⟨by rfl, ?_⟩; with_reducible rfl))
    rotate_left; (intro _ _ _ h9; exact h9)
    try simp only [Act.put, List.setIfInBounds_toArray, List.set_cons_zero, List.set_cons_succ]
    refine wpAnyH_take (i := 15) (oi := ?_) (v := ?_) ?_ (by kernel_rfl) (by kernel_rfl) (by kernel_rfl) ?_ ?_ (by assumption) ?_
    rotate_left 2; (simp only [List.getElem?_toArray, List.getElem?_cons_succ, List.getElem?_cons_zero]; rfl)
    rotate_left; (first | (refine .inl ⟨by rfl, ?_⟩; intro w9 hS9; go_simp; try with_reducible rfl) | (refine .inr ⟨by rfl, ?_⟩; with_reducible rfl))
    rotate_left; (intro _ _ _ h9; exact h9)
    try simp only [Act.put, List.setIfInBounds_toArray, List.set_cons_zero, List.set_cons_succ]
    refine wpAnyH_take (i := 16) (oi := ?_) (v := ?_) ?_ (by kernel_rfl) (by kernel_rfl) (by kernel_rfl) ?_ ?_ (by assumption) ?_
    rotate_left 2; (simp only [List.getElem?_toArray, List.getElem?_cons_succ, List.getElem?_cons_zero]; rfl)
    rotate_left; (first | (refine .inl ⟨by rfl, ?_⟩; intro w9 hS9; go_simp; try with_reducible rfl) | (refine .inr ⟨by rfl, ?_⟩; with_reducible rfl))
    rotate_left; (intro _ _ _ h9; exact h9)
    try simp only [Act.put, List.setIfInBounds_toArray, List.set_cons_zero, List.set_cons_succ]
    refine wpAnyH_take (i := 17) (oi := ?_) (v := ?_) ?_ (by kernel_rfl) (by kernel_rfl) (by kernel_rfl) ?_ ?_ (by assumption) ?_
    rotate_left 2; (simp only [List.getElem?_toArray, List.getElem?_cons_succ, List.getElem?_cons_zero]; rfl)
    rotate_left; (first | (refine .inl ⟨by rfl, ?_⟩; intro w9 hS9; go_simp; try with_reducible rfl) | (refine .inr ⟨by rfl, ?_⟩; with_reducible rfl))
    rotate_left; (intro _ _ _ h9; exact h9)
    try simp only [Act.put, List.setIfInBounds_toArray, List.set_cons_zero, List.set_cons_succ]
    refine wpAnyH_take (i := 18) (oi := ?_) (v := ?_) ?_ (by kernel_rfl) (by kernel_rfl) (by kernel_rfl) ?_ ?_ (by assumption) ?_
    rotate_left 2; (simp only [List.getElem?_toArray, List.getElem?_cons_succ, List.getElem?_cons_zero]; rfl)
    rotate_left; (first | (refine .inl ⟨by rfl, ?_⟩; intro w9 hS9; go_simp; try with_reducible rfl) | (refine .inr ⟨by rfl, ?_⟩; with_reducible rfl))
    rotate_left; (intro _ _ _ h9; exact h9)
    try simp only [Act.put, List.setIfInBounds_toArray, List.set_cons_zero, List.set_cons_succ]
    refine wpAnyH_take (i := 19) (oi := ?_) (v := ?_) ?_ (by kernel_rfl) (by kernel_rfl) (by kernel_rfl) ?_ ?_ (by assumption) ?_
    rotate_left 2; (simp only [List.getElem?_toArray, List.getElem?_cons_succ, List.getElem?_cons_zero]; rfl)
    rotate_left; (first | (refine .inl ⟨by rfl, ?_⟩; intro w9 hS9; go_simp; try with_reducible rfl) | (refine .inr ⟨by rfl, ?_⟩; with_reducible rfl))
    rotate_left; (intro _ _ _ h9; exact h9)
    try simp only [Act.put, List.setIfInBounds_toArray, List.set_cons_zero, List.set_cons_succ]
    refine wpAnyH_take (i := 20) (oi := ?_) (v := ?_) ?_ (by kernel_rfl) (by kernel_rfl) (by kernel_rfl) ?_ ?_ (by assumption) ?_
    rotate_left 2; (simp only [List.getElem?_toArray, List.getElem?_cons_succ, List.getElem?_cons_zero]; rfl)
    rotate_left; (first | (refine .inl ⟨by rfl, ?_⟩; intro w9 hS9; go_simp; try with_reducible rfl) | (refine .inr ⟨by rfl, ?_⟩; with_reducible rfl))
    rotate_left; (intro _ _ _ h9; exact h9)
    try simp only [Act.put, List.setIfInBounds_toArray, List.set_cons_zero, List.set_cons_succ]
    refine wpAnyH_take (i := 21) (oi := ?_) (v := ?_) ?_ (by kernel_rfl) (by kernel_rfl) (by kernel_rfl) ?_ ?_ (by assumption) ?_
    rotate_left 2; (simp only [List.getElem?_toArray, List.getElem?_cons_succ, List.getElem?_cons_zero]; rfl)
    rotate_left; (first | (refine .inl ⟨by rfl, ?_⟩; intro w9 hS9; go_simp; try with_reducible rfl) | (refine .inr ⟨by rfl, ?_⟩; with_reducible rfl))
    rotate_left; (intro _ _ _ h9; exact h9)
    try simp only [Act.put, List.setIfInBounds_toArray, List.set_cons_zero, List.set_cons_succ]
    refine wpAnyH_take (i := 22) (oi := ?_) (v := ?_) ?_ (by kernel_rfl) (by kernel_rfl) (by kernel_rfl) ?_ ?_ (by assumption) ?_
    rotate_left 2; (simp only [List.getElem?_toArray, List.getElem?_cons_succ, List.getElem?_cons_zero]; rfl)
    rotate_left; (first | (refine .inl ⟨by rfl, ?_⟩; intro w9 hS9; go_simp; try with_reducible rfl) | (refine .inr ⟨by rfl, ?_⟩; with_reducible rfl))
    rotate_left; (intro _ _ _ h9; exact h9)
    try simp only [Act.put, List.setIfInBounds_toArray, List.set_cons_zero, List.set_cons_succ]
    refine wpAnyH_take (i := 23) (oi := ?_) (v := ?_) ?_ (by kernel_rfl) (by kernel_rfl) (by kernel_rfl) ?_ ?_ (by assumption) ?_
    rotate_left 2; (simp only [List.getElem?_toArray, List.getElem?_cons_succ, List.getElem?_cons_zero]; rfl)
    rotate_left; (first | (refine .inl ⟨by rfl, ?_⟩; intro w9 hS9; go_simp; try with_reducible rfl) | (refine .inr ⟨by rfl, ?_⟩; with_reducible rfl))
    rotate_left; (intro _ _ _ h9; exact h9)
    try simp only [Act.put, List.setIfInBounds_toArray, List.set_cons_zero, List.set_cons_succ]
    refine wpAnyH_take (i := 24) (oi := ?_) (v := ?_) ?_ (by kernel_rfl) (by kernel_rfl) (by kernel_rfl) ?_ ?_ (by assumption) ?_
    rotate_left 2; (simp only [List.getElem?_toArray, List.getElem?_cons_succ, List.getElem?_cons_zero]; rfl)
    rotate_left; (first | (refine .inl ⟨by rfl, ?_⟩; intro w9 hS9; go_simp; try with_reducible rfl) | (refine .inr ⟨by rfl, ?_⟩; with_reducible rfl))
    rotate_left; (intro _ _ _ h9; exact h9)
    try simp only [Act.put, List.setIfInBounds_toArray, List.set_cons_zero, List.set_cons_succ]
    refine wpAnyH_take (i := 25) (oi := ?_) (v := ?_) ?_ (by kernel_rfl) (by kernel_rfl) (by kernel_rfl) ?_ ?_ (by assumption) ?_
    rotate_left 2; (simp only [List.getElem?_toArray, List.getElem?_cons_succ, List.getElem?_cons_zero]; rfl)
    rotate_left; (first | (refine .inl ⟨by rfl, ?_⟩; intro w9 hS9; go_simp; try with_reducible rfl) | (refine .inr ⟨by rfl, ?_⟩; with_reducible rfl))
    rotate_left; (intro _ _ _ h9; exact h9)
    try simp only [Act.put, List.setIfInBounds_toArray, List.set_cons_zero, List.set_cons_succ]
    refine wpAnyH_take (i := 26) (oi := ?_) (v := ?_) ?_ (by kernel_rfl) (by kernel_rfl) (by kernel_rfl) ?_ ?_ (by assumption) ?_
    rotate_left 2; (simp only [List.getElem?_toArray, List.getElem?_cons_succ, List.getElem?_cons_zero]; rfl)
    rotate_left; (first | (refine .inl ⟨by rfl, ?_⟩; intro w9 hS9; go_simp; try with_reducible rfl) | (refine .inr ⟨by rfl, ?_⟩; with_reducible rfl))
    rotate_left; (intro _ _ _ h9; exact h9)
    try simp only [Act.put, List.setIfInBounds_toArray, List.set_cons_zero, List.set_cons_succ]
    refine wpAnyH_done (by kernel_rfl) ?_ _
    go_wp2_with fail
    go_ret
    exact ⟨_, ys, rfl, HD.out, (HR.out.nts.below HB2.out).below hS0, HR.out.bel.trans ((HB2.out.mono HR.out.bel.size).trans (hS0.mono (Nat.le_trans HR.out.bel.size HB2.out.size)))⟩
end Go.Proofs.YtcppmihambcihaaDoor
/- The document's Last. -/
namespace Go.Proofs.YtcppmihambcihaaDoor
open Go Go.RowKit Go.Shelf
set_option linter.unusedVariables false
set_option linter.unusedSimpArgs false
theorem NtsAt.push_last {lo : Nat} {w : World} {v : Value} {ys : List NV} {x : NV} (h : NtsAt lo w v (ys ++ [x])) : DatIs lo w x.A x.c x.nt.dat := (h.dat x (by simp)).1
set_option maxHeartbeats 4000000 in
set_option maxRecDepth 100000 in
theorem rf_last (A : Option Addr) (n c : Nat) (xs : List UInt8) (w : World) (hrs : RS w A n c xs) (hn : n ≤ 1000000) :
    Calls Tryd.prog 39 #[.slice A n c] w (IsLst (bkNotes xs).getLast? w) := by
  have hB0 := below_new w (.cells (nta 0 none 0 0 0) 54)
  have HN0 := Lib.hid (show _ = some (Obj.cells (nta 0 none 0 0 0) _ (0, 0)) from heap_alloc_new w (.cells (nta 0 none 0 0 0) 54))
  have HC := Lib.hid (rf_notes A n c xs _ (hrs.below hB0) hn)
  have HB0 := Lib.hid hB0
  have HF := Lib.hid (Nat.le_trans (bkAll_few xs.length none 0 xs (Nat.le_refl _)) (by rw [hrs.len]; exact hn) : (bkNotes xs).length ≤ 1000000)
  clear hrs hn hB0
  go_enter Tryd.func39, Tryd.ntmps39
  go_wp2_with fail
  refine HC.out.mono ?_
  rintro e w1 ⟨v, ys, rfl, hys, hnt, hb1⟩
  have HYS := Lib.hid hys
  have HNT := Lib.hid hnt
  have HB1 := Lib.hid hb1
  have hfew : ys.length ≤ 1000000 := by have := HF.out; rw [← hys, List.length_map] at this; exact this
  have hn1 := (hb1.block _ (Array.getElem?_eq_some_iff.mp HN0.out).1).trans HN0.out
  have m0 : w1.cell? ⟨w.heap.size, 0, none⟩ = some (.int .u32 0) := by simp [World.cell?, hn1]
  have m1 : w1.cell? ⟨w.heap.size, 1, none⟩ = some (.slice none 0 0) := by simp [World.cell?, hn1]
  have m2 : w1.cell? ⟨w.heap.size, 2, none⟩ = some (.int .i64 0) := by simp [World.cell?, hn1]
  have mf : ∀ i, w1.frozen? ⟨w.heap.size, i, none⟩ = false := fun i => by simp [World.frozen?, hn1]
  have HN1 := Lib.hid hn1
  have hws : w.heap.size < w1.heap.size := (Array.getElem?_eq_some_iff.mp hn1).1
  rcases List.eq_nil_or_concat ys with rfl | ⟨zs, z, rfl⟩
  · obtain ⟨A3, c3, rfl, _⟩ := hnt.own.re (by omega)
    have HNX := Lib.hid (nt_set hn1 0 none 0 0 0)
    clear hys hnt hb1 hn1
    go_wp2_with fail
    change bodyPost _ _ _ _ _ (w1.setCells w.heap.size 0 (nta 0 none 0 0 0).toList)
    refine bodyPost_ret (results_cell_tmp_row rfl _ _ w.heap.size _ _ _ _ _ rfl rfl HNX.out rfl Tryd.underlying54 (by kernel_rfl)) rfl ?_
    rw [← HYS.out]
    exact ⟨rfl, (below_step HB0.out HB1.out).trans ((fr_setCells (F := fun i => i = w.heap.size) w.heap.size rfl (nta 0 none 0 0 0).toList 0 w1).below w.heap.size (by omega) (fun i e => by omega))⟩
  · rw [List.concat_eq_append] at *
    rw [List.length_append, List.length_singleton] at hfew
    obtain ⟨g, c9, rfl, hg9, hr9⟩ := nts_last hnt (by omega)
    have hgw : w.heap.size + 1 ≤ g := by have := hnt.far g rfl; simpa using this
    have z0 : w1.cell? ⟨g, zs.length * 3, none⟩ = some (.int .u32 z.nt.seq) := hr9 0 _ rfl
    have z1 : w1.cell? ⟨g, zs.length * 3 + 1, none⟩ = some (.slice z.A z.nt.dat.length z.c) := hr9 1 _ rfl
    have z2 : w1.cell? ⟨g, zs.length * 3 + 2, none⟩ = some (.int .i64 z.nt.fin) := hr9 2 _ rfl
    have HNX := Lib.hid (nt_set hn1 z.nt.seq z.A z.nt.dat.length z.c z.nt.fin)
    have HD := Lib.hid (hnt.push_last)
    have HYS2 := Lib.hid (show (bkNotes xs).getLast? = some z.nt by rw [← HYS.out]; simp)
    clear hys hnt hb1 hn1 hr9 HYS HNT
    generalize zs.length = mz at *
    have hp0 : ((mz : Int) + 1 == 0) = false := by simp; omega
    have hp1 : (mz : Int) < (mz : Int) + 1 := by omega
    have ew3 : IntKind.i64.wrap (mz : Int) = mz := by simp [IntKind.wrap, IntKind.bits, IntKind.signed]; omega
    go_wp2_with fail
    change bodyPost _ _ _ _ _ (w1.setCells w.heap.size 0 (nta z.nt.seq z.A z.nt.dat.length z.c z.nt.fin).toList)
    have hfr := fr_setCells (F := fun i => i = w.heap.size) w.heap.size rfl (nta z.nt.seq z.A z.nt.dat.length z.c z.nt.fin).toList 0 w1
    refine bodyPost_ret (results_cell_tmp_row rfl _ _ w.heap.size _ _ _ _ _ rfl rfl HNX.out rfl Tryd.underlying54 (by kernel_rfl)) rfl ?_
    rw [HYS2.out]
    refine ⟨z.A, z.c, rfl, (HD.out.fr hfr (fun k o e e2 => ?_)).base (by simp), (below_step HB0.out HB1.out).trans (hfr.below w.heap.size (by omega) (fun i e => by omega))⟩
    have := HD.out.blk k o e
    simp at this
    omega
end Go.Proofs.YtcppmihambcihaaDoor
