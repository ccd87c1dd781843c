/- wheel: there, Left, Free. -/
import Derived.Test.YtpfoocndohpbbaaDoorWhMem
import Derived.Test.YtpfoocndohpbbaaDoorWhBits
import Derived.LoopTactic
import Derived.Deep.DeepCutAuto
import Derived.Deep.RegionHeld3
import Derived.OrdersHeld
namespace Go.Proofs.YtpfoocndohpbbaaDoor
open Go Go.RowKit
set_option linter.unusedVariables false
set_option linter.unusedSimpArgs false
theorem below_drew1 (w : World) : Below w.heap.size w w.drew := ⟨rfl, rfl, rfl, Nat.le_refl _, fun _ _ => rfl⟩
theorem below_new (w : World) (o : Obj) : Below w.heap.size w (w.alloc o) := (Below.refl _ _).alloc (Nat.le_refl _) o
theorem below_step {w0 w w1 : World} (h : Below w0.heap.size w0 w) (k : Below w.heap.size w w1) : Below w0.heap.size w0 w1 := h.trans (k.mono h.size)
theorem fr_same {F : Nat → Prop} {w w1 w2 : World} (h : Fr F w w1) (k : Fr F w1 w2) : Fr F w w2 := h.trans k (fun _ h => .inl h)
theorem fr_new {F : Nat → Prop} {w w1 w2 : World} (h : Fr F w w1) (k : Below w1.heap.size w1 w2) : Fr F w w2 := h.trans (Fr.ofBelow k (fun _ => False)) (fun _ h => h.elim)
theorem pool_cells {w : World} {gp P : Nat} {pool : List Tw} (h : OwnE tmc 4 59 w (.slice (some ⟨gp, 0, none⟩) P P) pool) (hl : pool.length = P) (hP : P ≤ 64) (j : Nat) (hj : j < P) :
    w.cell? ⟨gp, j * 4, none⟩ = some (.bool (pool[j]'(by omega)).armed) ∧ w.cell? ⟨gp, j * 4 + 1, none⟩ = some (.int .i64 (pool[j]'(by omega)).tag) ∧ w.cell? ⟨gp, j * 4 + 2, none⟩ = some (.int .i64 (pool[j]'(by omega)).at_) ∧ w.cell? ⟨gp, j * 4 + 3, none⟩ = some (.int .i64 (pool[j]'(by omega)).ord) := by
  obtain ⟨A, c, e, hre, _⟩ := h.re (by omega)
  cases e
  have he := hre.elem tmc_len j (by omega)
  have e0 := he 0 _ rfl
  have e1 := he 1 _ rfl
  have e2 := he 2 _ rfl
  have e3 := he 3 _ rfl
  rw [Nat.zero_add] at e0 e1 e2 e3
  exact ⟨e0, e1, e2, e3⟩
def thereB (pool : List Tw) (k : Int) : Bool := decide (0 ≤ k) && (pool[k.toNat]?.map (·.armed)).getD false
theorem thereB_nat (pool : List Tw) (j : Nat) (h : j < pool.length) : thereB pool (j : Int) = pool[j].armed := by
  unfold thereB
  rw [Int.toNat_natCast, List.getElem?_eq_getElem h]
  simp
theorem wh_there (g gp P : Nat) (pool : List Tw) (s : Slots) (now cnt : Nat) (k : Int) (sv : Nat → Value) (cs : Array Value) (w : World) (h : WhX w g gp P pool s now cnt sv cs) :
    Calls Tryd.prog 30 #[.pointer (some ⟨g, 0, none⟩), .int .i64 k] w fun e w' => e = .returned (.bool (thereB pool k)) ∧ w = w' := by
  obtain ⟨hc, hr, hp, hl, hf, hn⟩ := h
  have c0 := hc.cPool
  by_cases h0 : 0 ≤ k
  · obtain ⟨j, rfl⟩ := Int.eq_ofNat_of_zero_le h0
    by_cases hj : j < P
    · have hj' : (j : Int) < P := by omega
      have p0 := (pool_cells hp hl hf j hj).1
      have ht := thereB_nat pool j (by omega)
      generalize (pool[j]'(by omega)).armed = b at p0 ht
      have HT := Lib.hid ht
      clear ht hc hr hp hl hf h0 hj
      cases b
      all_goals
        go_enter Tryd.func30, Tryd.ntmps30
        go_wp2_with fail
        go_ret
        exact ⟨by rw [HT.out]; rfl, rfl⟩
    · have hj' : ¬ (j : Int) < P := by omega
      have HT := Lib.hid (show thereB pool (j : Int) = false by unfold thereB; rw [Int.toNat_natCast, List.getElem?_eq_none (by omega)]; simp)
      clear hc hr hp hl hf h0 hj
      go_enter Tryd.func30, Tryd.ntmps30
      go_wp2_with fail
      go_ret
      exact ⟨by rw [HT.out]; rfl, rfl⟩
  · have HT := Lib.hid (show thereB pool k = false by unfold thereB; rw [decide_eq_false h0, Bool.false_and])
    clear hc hr hp hl hf
    go_enter Tryd.func30, Tryd.ntmps30
    go_wp2_with fail
    go_ret
    exact ⟨by rw [HT.out]; rfl, rfl⟩
def leftI (pool : List Tw) (now : Nat) (k : Int) : Int := if thereB pool k = true then ((pool[k.toNat]?.map (·.at_)).getD 0 : Nat) - now else 0
set_option maxHeartbeats 4000000 in
theorem wh_left (g gp P : Nat) (pool : List Tw) (s : Slots) (now cnt : Nat) (k : Int) (sv : Nat → Value) (cs : Array Value) (w : World) (h : WhX w g gp P pool s now cnt sv cs) (hn : now ≤ 1000000000) (ha : ∀ t ∈ pool, t.at_ ≤ 2000000000) :
    Calls Tryd.prog 22 #[.pointer (some ⟨g, 0, none⟩), .int .i64 k] w fun e w' => e = .returned (.int .i64 (leftI pool now k)) ∧ Below w.heap.size w w' := by
  have H := Lib.hid h
  have hth := Lib.hid (wh_there g gp P pool s now cnt k sv cs w h)
  cases hb : thereB pool k with
  | false =>
    have HL := Lib.hid (show leftI pool now k = 0 by unfold leftI; rw [hb]; rfl)
    clear h
    go_enter Tryd.func22, Tryd.ntmps22
    go_wp2_with fail
    refine hth.out.mono ?_
    rintro e w1 ⟨rfl, rfl⟩
    rw [hb]
    go_wp2_with fail
    go_ret
    exact ⟨by rw [HL.out]; rfl, Below.refl _ _⟩
  | true =>
    obtain ⟨hc, hr, hp, hl, hf, hne⟩ := h
    have hk0 : 0 ≤ k := by
      by_cases h0 : 0 ≤ k
      · exact h0
      · unfold thereB at hb; rw [decide_eq_false h0, Bool.false_and] at hb; cases hb
    obtain ⟨j, rfl⟩ := Int.eq_ofNat_of_zero_le hk0
    have hj : j < P := by
      by_cases hj : j < P
      · exact hj
      · unfold thereB at hb; rw [Int.toNat_natCast, List.getElem?_eq_none (by omega)] at hb; simp at hb
    have hj' : (j : Int) < P := by omega
    have p2 := (pool_cells hp hl hf j hj).2.2.1
    have hat := ha (pool[j]'(by omega)) (List.getElem_mem _)
    have HL := Lib.hid (show leftI pool now (j : Int) = ((pool[j]'(by omega)).at_ : Int) - (now : Int) by unfold leftI; rw [if_pos hb, Int.toNat_natCast, List.getElem?_eq_getElem (by omega)]; rfl)
    generalize (pool[j]'(by omega)).at_ = at_ at p2 HL hat
    have es : IntKind.i64.wrap ((at_ : Int) - (now : Int)) = (at_ : Int) - (now : Int) := by simp [IntKind.wrap, IntKind.bits, IntKind.signed]; omega
    have c0 : ∀ w', Below w.heap.size w w' → w'.cell? ⟨g, 0, none⟩ = some (.slice (some ⟨gp, 0, none⟩) P P) := fun w' hb => (hb.cell (p := ⟨g, 0, none⟩) hc.lt).trans hc.cPool
    have c1 : ∀ w', Below w.heap.size w w' → w'.cell? ⟨g, 257, none⟩ = some (.int .i64 now) := fun w' hb => (hb.cell (p := ⟨g, 257, none⟩) hc.lt).trans hc.cNow
    have c2 : ∀ w', Below w.heap.size w w' → w'.cell? ⟨gp, j * 4 + 2, none⟩ = some (.int .i64 at_) := fun w' hb => (hb.cell (p := ⟨gp, j * 4 + 2, none⟩) (hp.lt gp rfl)).trans p2
    have HB := Lib.hid hb
    clear hc hr hp hl hf hk0 hj hb ha
    go_enter Tryd.func22, Tryd.ntmps22
    go_wp2_with fail
    refine hth.out.mono ?_
    rintro e w1 ⟨rfl, rfl⟩
    rw [HB.out]
    go_upto_region 3 with fail
    have hS0 : Below w.heap.size w w.drew := ⟨rfl, rfl, rfl, Nat.le_refl _, fun _ _ => rfl⟩
    refine wp_region_held (S := fun w' => Below w.heap.size w w') (by kernel_rfl) ?_
    change wpAnyH _ _ _ _ _ _ _ _ w.drew
    generalize w.drew = w0 at *
    change wpAnyH _ _ _ _ _ 14 (Array.replicate 14 false) _ _
    refine wpAnyH_take (i := 0) (oi := ?_) (v := ?_) ?_ (by kernel_rfl) (by kernel_rfl) (by kernel_rfl) ?_ ?_ (by assumption) ?_
    rotate_left 2; (simp only [List.getElem?_toArray, List.getElem?_cons_succ, List.getElem?_cons_zero]; rfl)
    rotate_left; (first | (refine .inl ⟨by rfl, ?_⟩; intro w9 hS9; go_simp; try with_reducible rfl) | (refine .inr ⟨by rfl, ?_⟩; with_reducible rfl))
    rotate_left; (intro _ _ _ h9; exact h9)
    try simp only [Act.put, List.setIfInBounds_toArray, List.set_cons_zero, List.set_cons_succ]
    refine wpAnyH_take (i := 1) (oi := ?_) (v := ?_) ?_ (by kernel_rfl) (by kernel_rfl) (by kernel_rfl) ?_ ?_ (by assumption) ?_
    rotate_left 2; (simp only [List.getElem?_toArray, List.getElem?_cons_succ, List.getElem?_cons_zero]; rfl)
    rotate_left; (first | (refine .inl ⟨by rfl, ?_⟩; intro w9 hS9; go_simp; try with_reducible rfl) | (refine .inr ⟨by rfl, ?_⟩; with_reducible rfl))
    rotate_left; (intro _ _ _ h9; exact h9)
    try simp only [Act.put, List.setIfInBounds_toArray, List.set_cons_zero, List.set_cons_succ]
    refine wpAnyH_take (i := 2) (oi := ?_) (v := ?_) ?_ (by kernel_rfl) (by kernel_rfl) (by kernel_rfl) ?_ ?_ (by assumption) ?_
    rotate_left 2; (simp only [List.getElem?_toArray, List.getElem?_cons_succ, List.getElem?_cons_zero]; rfl)
    rotate_left; (first | (refine .inl ⟨by rfl, ?_⟩; intro w9 hS9; go_simp; try with_reducible rfl) | (refine .inr ⟨by rfl, ?_⟩; with_reducible rfl))
    rotate_left; (intro _ _ _ h9; exact h9)
    try simp only [Act.put, List.setIfInBounds_toArray, List.set_cons_zero, List.set_cons_succ]
    refine wpAnyH_take (i := 3) (oi := ?_) (v := ?_) ?_ (by kernel_rfl) (by kernel_rfl) (by kernel_rfl) ?_ ?_ (by assumption) ?_
    rotate_left 2; (simp only [List.getElem?_toArray, List.getElem?_cons_succ, List.getElem?_cons_zero]; rfl)
    rotate_left; (first | (refine .inl ⟨by rfl, ?_⟩; intro w9 hS9; go_simp; try with_reducible rfl) | (refine .inr ⟨by rfl, ?_⟩; with_reducible rfl))
    rotate_left; (intro _ _ _ h9; exact h9)
    try simp only [Act.put, List.setIfInBounds_toArray, List.set_cons_zero, List.set_cons_succ]
    refine wpAnyH_take (i := 4) (oi := ?_) (v := ?_) ?_ (by kernel_rfl) (by kernel_rfl) (by kernel_rfl) ?_ ?_ (by assumption) ?_
    rotate_left 2; (simp only [List.getElem?_toArray, List.getElem?_cons_succ, List.getElem?_cons_zero]; rfl)
    rotate_left; (first | (refine .inl ⟨by rfl, ?_⟩; intro w9 hS9; go_simp; try with_reducible rfl) | (refine .inr ⟨by rfl, ?_⟩; with_reducible rfl))
    rotate_left; (intro _ _ _ h9; exact h9)
    try simp only [Act.put, List.setIfInBounds_toArray, List.set_cons_zero, List.set_cons_succ]
    refine wpAnyH_take (i := 5) (oi := ?_) (v := ?_) ?_ (by kernel_rfl) (by kernel_rfl) (by kernel_rfl) ?_ ?_ (by assumption) ?_
    rotate_left 2; (simp only [List.getElem?_toArray, List.getElem?_cons_succ, List.getElem?_cons_zero]; rfl)
    rotate_left; (first | (refine .inl ⟨by rfl, ?_⟩; intro w9 hS9; go_simp; try with_reducible rfl) | (refine .inr ⟨by rfl, ?_⟩; with_reducible rfl))
    rotate_left; (intro _ _ _ h9; exact h9)
    try simp only [Act.put, List.setIfInBounds_toArray, List.set_cons_zero, List.set_cons_succ]
    refine wpAnyH_take (i := 6) (oi := ?_) (v := ?_) ?_ (by kernel_rfl) (by kernel_rfl) (by kernel_rfl) ?_ ?_ (by assumption) ?_
    rotate_left 2; (simp only [List.getElem?_toArray, List.getElem?_cons_succ, List.getElem?_cons_zero]; rfl)
    rotate_left; (first | (refine .inl ⟨by rfl, ?_⟩; intro w9 hS9; go_simp; try with_reducible rfl) | (refine .inr ⟨by rfl, ?_⟩; with_reducible rfl))
    rotate_left; (intro _ _ _ h9; exact h9)
    try simp only [Act.put, List.setIfInBounds_toArray, List.set_cons_zero, List.set_cons_succ]
    refine wpAnyH_take (i := 7) (oi := ?_) (v := ?_) ?_ (by kernel_rfl) (by kernel_rfl) (by kernel_rfl) ?_ ?_ (by assumption) ?_
    rotate_left 2; (simp only [List.getElem?_toArray, List.getElem?_cons_succ, List.getElem?_cons_zero]; rfl)
    rotate_left; (first | (refine .inl ⟨by rfl, ?_⟩; intro w9 hS9; go_simp; try with_reducible rfl) | (refine .inr ⟨by rfl, ?_⟩; with_reducible rfl))
    rotate_left; (intro _ _ _ h9; exact h9)
    try simp only [Act.put, List.setIfInBounds_toArray, List.set_cons_zero, List.set_cons_succ]
    refine wpAnyH_take (i := 8) (oi := ?_) (v := ?_) ?_ (by kernel_rfl) (by kernel_rfl) (by kernel_rfl) ?_ ?_ (by assumption) ?_
    rotate_left 2; (simp only [List.getElem?_toArray, List.getElem?_cons_succ, List.getElem?_cons_zero]; rfl)
    rotate_left; (first | (refine .inl ⟨by rfl, ?_⟩; intro w9 hS9; go_simp; try with_reducible rfl) | (refine .inr ⟨by rfl, ?_⟩; with_reducible rfl))
    rotate_left; (intro _ _ _ h9; exact h9)
    try simp only [Act.put, List.setIfInBounds_toArray, List.set_cons_zero, List.set_cons_succ]
    refine wpAnyH_take (i := 9) (oi := ?_) (v := ?_) ?_ (by kernel_rfl) (by kernel_rfl) (by kernel_rfl) ?_ ?_ (by assumption) ?_
    rotate_left 2; (simp only [List.getElem?_toArray, List.getElem?_cons_succ, List.getElem?_cons_zero]; rfl)
    rotate_left; (first | (refine .inl ⟨by rfl, ?_⟩; intro w9 hS9; go_simp; try with_reducible rfl) | (refine .inr ⟨by rfl, ?_⟩; with_reducible rfl))
    rotate_left; (intro _ _ _ h9; exact h9)
    try simp only [Act.put, List.setIfInBounds_toArray, List.set_cons_zero, List.set_cons_succ]
    refine wpAnyH_take (i := 10) (oi := ?_) (v := ?_) ?_ (by kernel_rfl) (by kernel_rfl) (by kernel_rfl) ?_ ?_ (by assumption) ?_
    rotate_left 2; (simp only [List.getElem?_toArray, List.getElem?_cons_succ, List.getElem?_cons_zero]; rfl)
    rotate_left; (first | (refine .inl ⟨by rfl, ?_⟩; intro w9 hS9; go_simp; try with_reducible rfl) | (refine .inr ⟨by rfl, ?_⟩; with_reducible rfl))
    rotate_left; (intro _ _ _ h9; exact h9)
    try simp only [Act.put, List.setIfInBounds_toArray, List.set_cons_zero, List.set_cons_succ]
    refine wpAnyH_take (i := 11) (oi := ?_) (v := ?_) ?_ (by kernel_rfl) (by kernel_rfl) (by kernel_rfl) ?_ ?_ (by assumption) ?_
    rotate_left 2; (simp only [List.getElem?_toArray, List.getElem?_cons_succ, List.getElem?_cons_zero]; rfl)
    rotate_left; (first | (refine .inl ⟨by rfl, ?_⟩; intro w9 hS9; go_simp; try with_reducible rfl) | (refine .inr ⟨by rfl, ?_⟩; with_reducible rfl))
    rotate_left; (intro _ _ _ h9; exact h9)
    try simp only [Act.put, List.setIfInBounds_toArray, List.set_cons_zero, List.set_cons_succ]
    refine wpAnyH_take (i := 12) (oi := ?_) (v := ?_) ?_ (by kernel_rfl) (by kernel_rfl) (by kernel_rfl) ?_ ?_ (by assumption) ?_
    rotate_left 2; (simp only [List.getElem?_toArray, List.getElem?_cons_succ, List.getElem?_cons_zero]; rfl)
    rotate_left; (first | (refine .inl ⟨by rfl, ?_⟩; intro w9 hS9; go_simp; try with_reducible rfl) | (refine .inr ⟨by rfl, ?_⟩; with_reducible rfl))
    rotate_left; (intro _ _ _ h9; exact h9)
    try simp only [Act.put, List.setIfInBounds_toArray, List.set_cons_zero, List.set_cons_succ]
    refine wpAnyH_take (i := 13) (oi := ?_) (v := ?_) ?_ (by kernel_rfl) (by kernel_rfl) (by kernel_rfl) ?_ ?_ (by assumption) ?_
    rotate_left 2; (simp only [List.getElem?_toArray, List.getElem?_cons_succ, List.getElem?_cons_zero]; rfl)
    rotate_left; (first | (refine .inl ⟨by rfl, ?_⟩; intro w9 hS9; go_simp; try with_reducible rfl) | (refine .inr ⟨by rfl, ?_⟩; with_reducible rfl))
    rotate_left; (intro _ _ _ h9; exact h9)
    try simp only [Act.put, List.setIfInBounds_toArray, List.set_cons_zero, List.set_cons_succ]
    refine wpAnyH_done (by kernel_rfl) ?_ _
    have HS := Lib.hid hS0
    clear hS0 c0 c1 c2
    go_wp2_with fail
    go_ret
    exact ⟨by rw [HL.out]; rfl, HS.out⟩
def freeN (pool : List Tw) : Nat := (pool.filter (fun t => !t.armed)).length
theorem freeN_take (pool : List Tw) (j : Nat) (hj : j < pool.length) : freeN (pool.take (j + 1)) = freeN (pool.take j) + if pool[j].armed = true then 0 else 1 := by
  unfold freeN
  rw [List.take_succ_eq_append_getElem hj, List.filter_append, List.length_append]
  cases h : pool[j].armed <;> simp [h]
theorem freeN_le (pool : List Tw) (j : Nat) : freeN (pool.take j) ≤ j := Nat.le_trans (List.length_filter_le _ _) (by rw [List.length_take]; omega)
set_option maxHeartbeats 4000000 in
theorem wh_free (g gp P : Nat) (pool : List Tw) (s : Slots) (now cnt : Nat) (sv : Nat → Value) (cs : Array Value) (w : World) (h : WhX w g gp P pool s now cnt sv cs) :
    Calls Tryd.prog 20 #[.pointer (some ⟨g, 0, none⟩)] w fun e w' => e = .returned (.int .i64 (freeN pool)) ∧ Below w.heap.size w w' := by
  have H := Lib.hid h
  obtain ⟨hc, hr, hp, hl, hf, hne⟩ := h
  have c0 := hc.cPool
  have HL := Lib.hid hl
  have hfew := hf
  clear hc hr hp hl hf
  go_enter Tryd.func20, Tryd.ntmps20
  go_wp2_with fail
  go_loopw [3, 11] (fun s3 s11 wr => ∃ j : Nat, j ≤ P ∧ s11 = .int .i64 j ∧ s3 = .int .i64 (freeN (pool.take j)) ∧ Below w.heap.size w wr) (fun _ s11 _ => P - (intOf s11).toNat)
  case atStart => exact ⟨0, Nat.zero_le _, rfl, rfl, Below.refl _ _⟩
  case round =>
    obtain ⟨j, hj, rfl, rfl, hb⟩ := hrel
    by_cases hlt : j < P
    · have hlt' : (j : Int) < P := by omega
      have hw := H.out.below hb
      obtain ⟨p0, p1, p2, p3⟩ := pool_cells hw.pl hw.len hw.few j hlt
      have hstep := freeN_take pool j (by rw [HL.out]; exact hlt)
      have hle := freeN_le pool j
      generalize hv : (pool[j]'(by rw [HL.out]; exact hlt)) = t at *
      generalize freeN (pool.take j) = n at *
      have HST := Lib.hid hstep
      have HLT := Lib.hid hlt
      have HB := Lib.hid (below_step hb (below_new wr (.cells #[.bool t.armed, .int .i64 t.tag, .int .i64 t.at_, .int .i64 t.ord] 59)))
      obtain ⟨ar, tg, at_, od⟩ := t
      have hn64 : (n : Int) ≤ 64 := by omega
      clear hstep hw hb hlt hj hv hle
      cases ar with
      | true =>
        go_wp2_with fail
        exact ⟨⟨j + 1, by have := HLT.out; omega, by go_num, by rw [HST.out]; rfl, HB.out⟩, by have := HLT.out; simp [intOf]; omega⟩
      | false =>
        go_wp2_with fail
        exact ⟨⟨j + 1, by have := HLT.out; omega, by go_num, by rw [HST.out]; rfl, HB.out⟩, by have := HLT.out; simp [intOf]; omega⟩
    · obtain rfl : j = P := by omega
      have HB := Lib.hid hb
      have HT := Lib.hid (show pool.take j = pool from List.take_of_length_le (by rw [HL.out]; exact Nat.le_refl _))
      clear hb hj hlt
      go_wp2_with fail
      go_ret
      exact ⟨by rw [HT.out]; rfl, HB.out⟩
end Go.Proofs.YtpfoocndohpbbaaDoor
