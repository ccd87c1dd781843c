/- wheel: Arm. -/
import Derived.Test.YtpfoocndohpbbaaDoorWhLay
import Derived.Test.YtpfoocndohpbbaaDoorPiv
import Derived.Test.YtpfoocndohpbbaaDoorErrIs
namespace Go.Proofs.YtpfoocndohpbbaaDoor
open Go Go.RowKit
set_option linter.unusedVariables false
set_option linter.unusedSimpArgs false
theorem arm_c (t : Tw) (w : World) : Calls Tryd.prog 26 #[.agg #[.bool t.armed, .int .i64 t.tag, .int .i64 t.at_, .int .i64 t.ord]] w fun e w' => e = .returned (.bool (!t.armed)) ∧ Below w.heap.size w w' := by
  obtain ⟨ar, tg, at_, od⟩ := t
  have hb := below_new w (.cells #[.bool ar, .int .i64 tg, .int .i64 at_, .int .i64 od] 59)
  have HB := Lib.hid hb
  clear hb
  go_enter Tryd.func26, Tryd.ntmps26
  go_wp2_with fail
  go_ret
  exact ⟨rfl, HB.out⟩
/-- The first timer that is not armed. -/
def Fst (pool : List Tw) (k : Nat) : Prop := ∃ h : k < pool.length, pool[k].armed = false ∧ ∀ i (hi : i < k), (pool[i]'(by omega)).armed = true
structure IsIdx (pool : List Tw) (w : World) (e : Ending) (w' : World) : Prop where
  ex : (∃ k, e = .returned (.int .i64 (k : Nat)) ∧ Fst pool k) ∨ (e = .returned (.int .i64 (-1)) ∧ ∀ t ∈ pool, t.armed = true)
  bel : Below w.heap.size w w'
set_option maxHeartbeats 4000000 in
set_option maxRecDepth 100000 in
theorem wh_idx (gp P : Nat) (pool : List Tw) (w : World) (hp : OwnE tmc 4 59 w (.slice (some ⟨gp, 0, none⟩) P P) pool) (hl : pool.length = P) (hP : P ≤ 64) :
    Calls Tryd.prog 25 #[.slice (some ⟨gp, 0, none⟩) P P, .func (.func 26) #[] #[]] w (IsIdx pool w) := by
  have HP := Lib.hid hp
  have HL := Lib.hid hl
  have hP64 := hP
  clear hp hl hP
  go_enter Tryd.func25, Tryd.ntmps25
  go_wp2_with fail
  go_loopw [8] (fun s8 wr => ∃ k : Nat, k ≤ P ∧ s8 = .int .i64 k ∧ (∀ i (hi : i < k) (hi2 : i < pool.length), pool[i].armed = true) ∧ Below w.heap.size w wr) (fun s8 _ => P - (intOf s8).toNat)
  case atStart => exact ⟨0, Nat.zero_le _, rfl, fun i hi => absurd hi (by omega), Below.refl _ _⟩
  case round =>
    obtain ⟨k, hk, rfl, ht, hb⟩ := hrel
    have HT := Lib.hid ht
    have HB := Lib.hid hb
    clear ht hb
    by_cases hlt : k < P
    · have hlt' : (k : Int) < P := by omega
      obtain ⟨p0, p1, p2, p3⟩ := pool_cells (HP.out.fr (Fr.ofBelow HB.out (fun _ => False)) (fun _ _ h => h)) HL.out hP64 k hlt
      have HLT := Lib.hid hlt
      have hv : pool[k]? = some (pool[k]'(by rw [HL.out]; exact hlt)) := List.getElem?_eq_getElem _
      generalize (pool[k]'(by rw [HL.out]; exact hlt)) = t at p0 p1 p2 p3 hv
      have HV := Lib.hid hv
      clear hv hlt hk
      go_wp2_with fail
      refine (arm_c t _).mono ?_
      rintro e w1 ⟨rfl, hb1⟩
      have HB1 := Lib.hid (below_step HB.out hb1)
      clear hb1 p0 p1 p2 p3
      cases hta : t.armed with
      | true =>
        have HTA := Lib.hid hta
        clear hta
        go_wp2_with fail
        exact ⟨⟨k + 1, by have := HLT.out; omega, by go_num, fun i hi hi2 => by
          by_cases e9 : i = k
          · subst e9
            have hv := HV.out
            rw [List.getElem?_eq_getElem hi2] at hv
            rw [Option.some.inj hv]; exact HTA.out
          · exact HT.out i (by omega) hi2, HB1.out⟩, by have := HLT.out; simp [intOf]; omega⟩
      | false =>
        have HTA := Lib.hid hta
        clear hta
        go_wp2_with fail
        go_ret
        exact ⟨.inl ⟨k, rfl, by rw [HL.out]; exact HLT.out, by
          have hv := HV.out
          rw [List.getElem?_eq_getElem (by rw [HL.out]; exact HLT.out)] at hv
          rw [Option.some.inj hv]; exact HTA.out, fun i hi => HT.out i hi _⟩, HB1.out⟩
    · obtain rfl : k = P := by omega
      go_wp2_with fail
      go_ret
      exact ⟨.inr ⟨rfl, fun t ht => by
        obtain ⟨i, hi, rfl⟩ := List.mem_iff_getElem.1 ht
        exact HT.out i (by rw [← HL.out]; exact hi) hi⟩, HB.out⟩
theorem WhX.setCnt {w : World} {g gp P : Nat} {pool : List Tw} {s : Slots} {now cnt : Nat} {sv : Nat → Value} {cs : Array Value} (h : WhX w g gp P pool s now cnt sv cs) (n : Nat) :
    WhX (w.setCell ⟨g, 258, none⟩ (.int .i64 n)) g gp P pool s now n sv (cs.setIfInBounds 258 (.int .i64 n)) ∧ Fr (fun b => b = g) w (w.setCell ⟨g, 258, none⟩ (.int .i64 n)) := by
  have hsf := fr_setCell (F := fun b => b = g) (w := w) ⟨g, 258, none⟩ (.int .i64 n) rfl
  exact ⟨⟨h.c.setCnt n, h.r.fr hsf (fun m hm b hb e => (h.r.off m hm b hb).1 e), h.pl.fr hsf (fun b hb e => by cases hb; exact h.ne e.symm), h.len, h.few, h.ne⟩, hsf⟩
theorem WhX.setNow {w : World} {g gp P : Nat} {pool : List Tw} {s : Slots} {now cnt : Nat} {sv : Nat → Value} {cs : Array Value} (h : WhX w g gp P pool s now cnt sv cs) (n : Nat) :
    WhX (w.setCell ⟨g, 257, none⟩ (.int .i64 n)) g gp P pool s n cnt sv (cs.setIfInBounds 257 (.int .i64 n)) ∧ Fr (fun b => b = g) w (w.setCell ⟨g, 257, none⟩ (.int .i64 n)) := by
  have hsf := fr_setCell (F := fun b => b = g) (w := w) ⟨g, 257, none⟩ (.int .i64 n) rfl
  exact ⟨⟨h.c.setNow n, h.r.fr hsf (fun m hm b hb e => (h.r.off m hm b hb).1 e), h.pl.fr hsf (fun b hb e => by cases hb; exact h.ne e.symm), h.len, h.few, h.ne⟩, hsf⟩
theorem WhX.setPool {w : World} {g gp P : Nat} {pool : List Tw} {s : Slots} {now cnt : Nat} {sv : Nat → Value} {cs : Array Value} (h : WhX w g gp P pool s now cnt sv cs) (k : Nat) (hk : k < P) (t : Tw) :
    WhX (w.setCells gp (k * 4) (tmc t)) g gp P (pool.set k t) s now cnt sv cs ∧ Fr (fun b => b = gp) w (w.setCells gp (k * 4) (tmc t)) := by
  have hsf := fr_setCells (F := fun b => b = gp) gp rfl (tmc t) (k * 4) w
  exact ⟨⟨h.c.fr hsf h.ne, h.r.fr hsf (fun m hm b hb e => (h.r.off m hm b hb).2 e), h.pl.set tmc_len k (by rw [h.len]; exact hk) t, by rw [List.length_set]; exact h.len, h.few, h.ne⟩, hsf⟩
theorem WhTo.step {w w1 w2 : World} {g gp P : Nat} {sv : Nat → Value} {pool : List Tw} {s : Slots} {now cnt : Nat} (hf : Fr (foot g gp sv) w w1) (h : WhTo w1 w2 g gp P sv pool s now cnt) : WhTo w w2 g gp P sv pool s now cnt := by
  obtain ⟨⟨sv', cs', hx, hft⟩, hfr⟩ := h
  have hsz := hf.size
  exact ⟨⟨sv', cs', hx, fun b hb => (hft b hb).imp id (fun h => by omega)⟩, hf.trans hfr (fun b hb => .inl hb)⟩
theorem WhX.to {w : World} {g gp P : Nat} {pool : List Tw} {s : Slots} {now cnt : Nat} {sv : Nat → Value} {cs : Array Value} (h : WhX w g gp P pool s now cnt sv cs) : WhTo w w g gp P sv pool s now cnt := ⟨⟨sv, cs, h, fun b hb => .inl hb⟩, Fr.refl _ _⟩
/-- What Arm answers. -/
structure IsArm (w : World) (g gp P : Nat) (sv : Nat → Value) (pool : List Tw) (s : Slots) (now cnt : Nat) (ticks tag : Int) (e : Ending) (w' : World) : Prop where
  ex : (∃ v, e = .returned (.tuple #[.int .i64 0, v]) ∧ ErrN w' 1 v 6 ∧ (ticks < 1 ∨ 16777215 < ticks) ∧ Below w.heap.size w w') ∨
    (∃ v, e = .returned (.tuple #[.int .i64 0, v]) ∧ ErrN w' 1 v 5 ∧ (1 ≤ ticks ∧ ticks ≤ 16777215) ∧ (∀ t ∈ pool, t.armed = true) ∧ Below w.heap.size w w') ∨
    (∃ k n : Nat, e = .returned (.tuple #[.int .i64 k, .nilIface]) ∧ Fst pool k ∧ ticks = n ∧ 1 ≤ n ∧ n ≤ 16777215 ∧
      WhTo w w' g gp P sv (pool.set k ⟨true, tag, now + n, cnt + 1⟩) (up s (pos now (now + n)).1 (pos now (now + n)).2 (s (pos now (now + n)).1 (pos now (now + n)).2 ++ [k])) now (cnt + 1))
set_option maxHeartbeats 8000000 in
set_option maxRecDepth 100000 in
theorem wh_arm (g gp P : Nat) (pool : List Tw) (s : Slots) (now cnt : Nat) (ticks tag : Int) (sv : Nat → Value) (cs : Array Value) (w : World) (h : WhX w g gp P pool s now cnt sv cs) (hn : now ≤ 1000000000) (hc : cnt ≤ 1000000000) (hlen : ∀ l i, (s l i).length ≤ 1000) :
    Calls Tryd.prog 12 #[.pointer (some ⟨g, 0, none⟩), .int .i64 ticks, .int .i64 tag] w (IsArm w g gp P sv pool s now cnt ticks tag) := by
  have H := Lib.hid h
  have HLEN := Lib.hid hlen
  have c0 := h.c.cPool
  clear h hlen
  by_cases h1 : ticks < 1
  · go_enter Tryd.func12, Tryd.ntmps12
    go_wp2_with fail
    refine (fault_new 6 _ _ (by decide)).mono ?_
    rintro e w1 ⟨v, rfl, he, hb⟩
    have HE := Lib.hid he
    have HB := Lib.hid hb
    obtain ⟨tt, uu, rfl⟩ := he.iface
    clear he hb
    go_wp2_with fail
    go_ret2
    exact ⟨.inl ⟨_, rfl, HE.out, .inl h1, HB.out⟩⟩
  by_cases h2 : 16777215 < ticks
  · go_enter Tryd.func12, Tryd.ntmps12
    go_wp2_with fail
    refine (fault_new 6 _ _ (by decide)).mono ?_
    rintro e w1 ⟨v, rfl, he, hb⟩
    have HE := Lib.hid he
    have HB := Lib.hid hb
    obtain ⟨tt, uu, rfl⟩ := he.iface
    clear he hb
    go_wp2_with fail
    go_ret2
    exact ⟨.inl ⟨_, rfl, HE.out, .inr h2, HB.out⟩⟩
  obtain ⟨n, rfl⟩ := Int.eq_ofNat_of_zero_le (show 0 ≤ ticks by omega)
  have HTK := Lib.hid (show 1 ≤ n ∧ n ≤ 16777215 by omega)
  go_enter Tryd.func12, Tryd.ntmps12
  go_wp2_with fail
  refine (wh_idx gp P pool _ H.out.pl H.out.len H.out.few).mono ?_
  rintro e w1 ⟨⟨k, rfl, hk⟩ | ⟨rfl, hall⟩, hb1⟩
  · obtain ⟨hkl, hka, hki⟩ := hk
    have HK := Lib.hid (show Fst pool k from ⟨hkl, hka, hki⟩)
    have hkP : k < P := by rw [← H.out.len]; exact hkl
    have H1 := Lib.hid (H.out.below hb1)
    have HB1 := Lib.hid hb1
    have hk64 : (k : Int) < 64 := by have := H.out.few; omega
    have hk' : (k : Int) < P := by omega
    have HKP := Lib.hid hkP
    have c3 := H1.out.c.cCnt
    have cf := H1.out.c.free 258
    have ec : IntKind.i64.wrap ((cnt : Int) + 1) = ((cnt + 1 : Nat) : Int) := by simp [IntKind.wrap, IntKind.bits, IntKind.signed]; omega
    have ea : IntKind.i64.wrap ((now : Int) + (n : Int)) = ((now + n : Nat) : Int) := by have := HTK.out; simp [IntKind.wrap, IntKind.bits, IntKind.signed]; omega
    obtain ⟨hx2, hf2⟩ := H1.out.setCnt (cnt + 1)
    have HX2 := Lib.hid hx2
    have HF2 := Lib.hid hf2
    clear hb1 hkl hka hki hkP hx2 hf2 c0
    go_upto_region 7 with fail
    change Code.wp _ _ _ _ (w1.setCell ⟨g, 258, none⟩ (.int .i64 ((cnt + 1 : Nat) : Int)))
    generalize w1.setCell ⟨g, 258, none⟩ (.int .i64 ((cnt + 1 : Nat) : Int)) = w2 at *
    clear c3 cf
    have x0 : ∀ w', Below w2.heap.size w2 w' → w'.cell? ⟨g, 0, none⟩ = some (.slice (some ⟨gp, 0, none⟩) P P) := fun w' hb => (HX2.out.below hb).c.cPool
    have x1 : ∀ w', Below w2.heap.size w2 w' → w'.cell? ⟨g, 257, none⟩ = some (.int .i64 now) := fun w' hb => (HX2.out.below hb).c.cNow
    have x3 : ∀ w', Below w2.heap.size w2 w' → w'.cell? ⟨g, 258, none⟩ = some (.int .i64 ((cnt + 1 : Nat) : Int)) := fun w' hb => (HX2.out.below hb).c.cCnt
    have hS0 := below_drew1 w2
    refine wp_region_piv 18 (fun w' => Below w2.heap.size w2 w') (by kernel_rfl) ?_
    change wpAnyP _ _ _ _ _ _ _ _ _ w2.drew
    have HX3 := Lib.hid (HX2.out.below hS0)
    have HS0 := Lib.hid hS0
    generalize w2.drew = w3 at *
    change wpAnyP _ _ _ _ 18 _ 19 (Array.replicate 19 false) _ _
    refine wpAnyP_read (i := 0) (oi := ?_) (v := ?_) ?_ (by kernel_rfl) (by kernel_rfl) (by kernel_rfl) (by rfl) (by kernel_rfl) ?_ ?_ (by kernel_rfl) (by assumption) ?_
    rotate_left 2; (simp only [List.getElem?_toArray, List.getElem?_cons_succ, List.getElem?_cons_zero]; rfl)
    rotate_left; (first | (refine .inl ⟨by rfl, ?_⟩; intro w9 hS9; go_simp; try with_reducible rfl) | (refine .inr ⟨by rfl, ?_⟩; with_reducible rfl))
    rotate_left; (intro _ _ _ h9; exact h9)
    try simp only [Act.put, List.setIfInBounds_toArray, List.set_cons_zero, List.set_cons_succ]
    refine wpAnyP_read (i := 1) (oi := ?_) (v := ?_) ?_ (by kernel_rfl) (by kernel_rfl) (by kernel_rfl) (by rfl) (by kernel_rfl) ?_ ?_ (by kernel_rfl) (by assumption) ?_
    rotate_left 2; (simp only [List.getElem?_toArray, List.getElem?_cons_succ, List.getElem?_cons_zero]; rfl)
    rotate_left; (first | (refine .inl ⟨by rfl, ?_⟩; intro w9 hS9; go_simp; try with_reducible rfl) | (refine .inr ⟨by rfl, ?_⟩; with_reducible rfl))
    rotate_left; (intro _ _ _ h9; exact h9)
    try simp only [Act.put, List.setIfInBounds_toArray, List.set_cons_zero, List.set_cons_succ]
    refine wpAnyP_read (i := 2) (oi := ?_) (v := ?_) ?_ (by kernel_rfl) (by kernel_rfl) (by kernel_rfl) (by rfl) (by kernel_rfl) ?_ ?_ (by kernel_rfl) (by assumption) ?_
    rotate_left 2; (simp only [List.getElem?_toArray, List.getElem?_cons_succ, List.getElem?_cons_zero]; rfl)
    rotate_left; (first | (refine .inl ⟨by rfl, ?_⟩; intro w9 hS9; go_simp; try with_reducible rfl) | (refine .inr ⟨by rfl, ?_⟩; with_reducible rfl))
    rotate_left; (intro _ _ _ h9; exact h9)
    try simp only [Act.put, List.setIfInBounds_toArray, List.set_cons_zero, List.set_cons_succ]
    refine wpAnyP_read (i := 3) (oi := ?_) (v := ?_) ?_ (by kernel_rfl) (by kernel_rfl) (by kernel_rfl) (by rfl) (by kernel_rfl) ?_ ?_ (by kernel_rfl) (by assumption) ?_
    rotate_left 2; (simp only [List.getElem?_toArray, List.getElem?_cons_succ, List.getElem?_cons_zero]; rfl)
    rotate_left; (first | (refine .inl ⟨by rfl, ?_⟩; intro w9 hS9; go_simp; try with_reducible rfl) | (refine .inr ⟨by rfl, ?_⟩; with_reducible rfl))
    rotate_left; (intro _ _ _ h9; exact h9)
    try simp only [Act.put, List.setIfInBounds_toArray, List.set_cons_zero, List.set_cons_succ]
    refine wpAnyP_read (i := 4) (oi := ?_) (v := ?_) ?_ (by kernel_rfl) (by kernel_rfl) (by kernel_rfl) (by rfl) (by kernel_rfl) ?_ ?_ (by kernel_rfl) (by assumption) ?_
    rotate_left 2; (simp only [List.getElem?_toArray, List.getElem?_cons_succ, List.getElem?_cons_zero]; rfl)
    rotate_left; (first | (refine .inl ⟨by rfl, ?_⟩; intro w9 hS9; go_simp; try with_reducible rfl) | (refine .inr ⟨by rfl, ?_⟩; with_reducible rfl))
    rotate_left; (intro _ _ _ h9; exact h9)
    try simp only [Act.put, List.setIfInBounds_toArray, List.set_cons_zero, List.set_cons_succ]
    refine wpAnyP_read (i := 5) (oi := ?_) (v := ?_) ?_ (by kernel_rfl) (by kernel_rfl) (by kernel_rfl) (by rfl) (by kernel_rfl) ?_ ?_ (by kernel_rfl) (by assumption) ?_
    rotate_left 2; (simp only [List.getElem?_toArray, List.getElem?_cons_succ, List.getElem?_cons_zero]; rfl)
    rotate_left; (first | (refine .inl ⟨by rfl, ?_⟩; intro w9 hS9; go_simp; try with_reducible rfl) | (refine .inr ⟨by rfl, ?_⟩; with_reducible rfl))
    rotate_left; (intro _ _ _ h9; exact h9)
    try simp only [Act.put, List.setIfInBounds_toArray, List.set_cons_zero, List.set_cons_succ]
    refine wpAnyP_read (i := 6) (oi := ?_) (v := ?_) ?_ (by kernel_rfl) (by kernel_rfl) (by kernel_rfl) (by rfl) (by kernel_rfl) ?_ ?_ (by kernel_rfl) (by assumption) ?_
    rotate_left 2; (simp only [List.getElem?_toArray, List.getElem?_cons_succ, List.getElem?_cons_zero]; rfl)
    rotate_left; (first | (refine .inl ⟨by rfl, ?_⟩; intro w9 hS9; go_simp; try with_reducible rfl) | (refine .inr ⟨by rfl, ?_⟩; with_reducible rfl))
    rotate_left; (intro _ _ _ h9; exact h9)
    try simp only [Act.put, List.setIfInBounds_toArray, List.set_cons_zero, List.set_cons_succ]
    refine wpAnyP_read (i := 7) (oi := ?_) (v := ?_) ?_ (by kernel_rfl) (by kernel_rfl) (by kernel_rfl) (by rfl) (by kernel_rfl) ?_ ?_ (by kernel_rfl) (by assumption) ?_
    rotate_left 2; (simp only [List.getElem?_toArray, List.getElem?_cons_succ, List.getElem?_cons_zero]; rfl)
    rotate_left; (first | (refine .inl ⟨by rfl, ?_⟩; intro w9 hS9; go_simp; try with_reducible rfl) | (refine .inr ⟨by rfl, ?_⟩; with_reducible rfl))
    rotate_left; (intro _ _ _ h9; exact h9)
    try simp only [Act.put, List.setIfInBounds_toArray, List.set_cons_zero, List.set_cons_succ]
    refine wpAnyP_read (i := 8) (oi := ?_) (v := ?_) ?_ (by kernel_rfl) (by kernel_rfl) (by kernel_rfl) (by rfl) (by kernel_rfl) ?_ ?_ (by kernel_rfl) (by assumption) ?_
    rotate_left 2; (simp only [List.getElem?_toArray, List.getElem?_cons_succ, List.getElem?_cons_zero]; rfl)
    rotate_left; (first | (refine .inl ⟨by rfl, ?_⟩; intro w9 hS9; go_simp; try with_reducible rfl) | (refine .inr ⟨by rfl, ?_⟩; with_reducible rfl))
    rotate_left; (intro _ _ _ h9; exact h9)
    try simp only [Act.put, List.setIfInBounds_toArray, List.set_cons_zero, List.set_cons_succ]
    refine wpAnyP_read (i := 9) (oi := ?_) (v := ?_) ?_ (by kernel_rfl) (by kernel_rfl) (by kernel_rfl) (by rfl) (by kernel_rfl) ?_ ?_ (by kernel_rfl) (by assumption) ?_
    rotate_left 2; (simp only [List.getElem?_toArray, List.getElem?_cons_succ, List.getElem?_cons_zero]; rfl)
    rotate_left; (first | (refine .inl ⟨by rfl, ?_⟩; intro w9 hS9; go_simp; try with_reducible rfl) | (refine .inr ⟨by rfl, ?_⟩; with_reducible rfl))
    rotate_left; (intro _ _ _ h9; exact h9)
    try simp only [Act.put, List.setIfInBounds_toArray, List.set_cons_zero, List.set_cons_succ]
    refine wpAnyP_read (i := 10) (oi := ?_) (v := ?_) ?_ (by kernel_rfl) (by kernel_rfl) (by kernel_rfl) (by rfl) (by kernel_rfl) ?_ ?_ (by kernel_rfl) (by assumption) ?_
    rotate_left 2; (simp only [List.getElem?_toArray, List.getElem?_cons_succ, List.getElem?_cons_zero]; rfl)
    rotate_left; (first | (refine .inl ⟨by rfl, ?_⟩; intro w9 hS9; go_simp; try with_reducible rfl) | (refine .inr ⟨by rfl, ?_⟩; with_reducible rfl))
    rotate_left; (intro _ _ _ h9; exact h9)
    try simp only [Act.put, List.setIfInBounds_toArray, List.set_cons_zero, List.set_cons_succ]
    refine wpAnyP_read (i := 11) (oi := ?_) (v := ?_) ?_ (by kernel_rfl) (by kernel_rfl) (by kernel_rfl) (by rfl) (by kernel_rfl) ?_ ?_ (by kernel_rfl) (by assumption) ?_
    rotate_left 2; (simp only [List.getElem?_toArray, List.getElem?_cons_succ, List.getElem?_cons_zero]; rfl)
    rotate_left; (first | (refine .inl ⟨by rfl, ?_⟩; intro w9 hS9; go_simp; try with_reducible rfl) | (refine .inr ⟨by rfl, ?_⟩; with_reducible rfl))
    rotate_left; (intro _ _ _ h9; exact h9)
    try simp only [Act.put, List.setIfInBounds_toArray, List.set_cons_zero, List.set_cons_succ]
    refine wpAnyP_read (i := 12) (oi := ?_) (v := ?_) ?_ (by kernel_rfl) (by kernel_rfl) (by kernel_rfl) (by rfl) (by kernel_rfl) ?_ ?_ (by kernel_rfl) (by assumption) ?_
    rotate_left 2; (simp only [List.getElem?_toArray, List.getElem?_cons_succ, List.getElem?_cons_zero]; rfl)
    rotate_left; (first | (refine .inl ⟨by rfl, ?_⟩; intro w9 hS9; go_simp; try with_reducible rfl) | (refine .inr ⟨by rfl, ?_⟩; with_reducible rfl))
    rotate_left; (intro _ _ _ h9; exact h9)
    try simp only [Act.put, List.setIfInBounds_toArray, List.set_cons_zero, List.set_cons_succ]
    refine wpAnyP_read (i := 13) (oi := ?_) (v := ?_) ?_ (by kernel_rfl) (by kernel_rfl) (by kernel_rfl) (by rfl) (by kernel_rfl) ?_ ?_ (by kernel_rfl) (by assumption) ?_
    rotate_left 2; (simp only [List.getElem?_toArray, List.getElem?_cons_succ, List.getElem?_cons_zero]; rfl)
    rotate_left; (first | (refine .inl ⟨by rfl, ?_⟩; intro w9 hS9; go_simp; try with_reducible rfl) | (refine .inr ⟨by rfl, ?_⟩; with_reducible rfl))
    rotate_left; (intro _ _ _ h9; exact h9)
    try simp only [Act.put, List.setIfInBounds_toArray, List.set_cons_zero, List.set_cons_succ]
    refine wpAnyP_read (i := 14) (oi := ?_) (v := ?_) ?_ (by kernel_rfl) (by kernel_rfl) (by kernel_rfl) (by rfl) (by kernel_rfl) ?_ ?_ (by kernel_rfl) (by assumption) ?_
    rotate_left 2; (simp only [List.getElem?_toArray, List.getElem?_cons_succ, List.getElem?_cons_zero]; rfl)
    rotate_left; (first | (refine .inl ⟨by rfl, ?_⟩; intro w9 hS9; go_simp; try with_reducible rfl) | (refine .inr ⟨by rfl, ?_⟩; with_reducible rfl))
    rotate_left; (intro _ _ _ h9; exact h9)
    try simp only [Act.put, List.setIfInBounds_toArray, List.set_cons_zero, List.set_cons_succ]
    refine wpAnyP_read (i := 15) (oi := ?_) (v := ?_) ?_ (by kernel_rfl) (by kernel_rfl) (by kernel_rfl) (by rfl) (by kernel_rfl) ?_ ?_ (by kernel_rfl) (by assumption) ?_
    rotate_left 2; (simp only [List.getElem?_toArray, List.getElem?_cons_succ, List.getElem?_cons_zero]; rfl)
    rotate_left; (first | (refine .inl ⟨by rfl, ?_⟩; intro w9 hS9; go_simp; try with_reducible rfl) | (refine .inr ⟨by rfl, ?_⟩; with_reducible rfl))
    rotate_left; (intro _ _ _ h9; exact h9)
    try simp only [Act.put, List.setIfInBounds_toArray, List.set_cons_zero, List.set_cons_succ]
    refine wpAnyP_read (i := 16) (oi := ?_) (v := ?_) ?_ (by kernel_rfl) (by kernel_rfl) (by kernel_rfl) (by rfl) (by kernel_rfl) ?_ ?_ (by kernel_rfl) (by assumption) ?_
    rotate_left 2; (simp only [List.getElem?_toArray, List.getElem?_cons_succ, List.getElem?_cons_zero]; rfl)
    rotate_left; (first | (refine .inl ⟨by rfl, ?_⟩; intro w9 hS9; go_simp; try with_reducible rfl) | (refine .inr ⟨by rfl, ?_⟩; with_reducible rfl))
    rotate_left; (intro _ _ _ h9; exact h9)
    try simp only [Act.put, List.setIfInBounds_toArray, List.set_cons_zero, List.set_cons_succ]
    refine wpAnyP_read (i := 17) (oi := ?_) (v := ?_) ?_ (by kernel_rfl) (by kernel_rfl) (by kernel_rfl) (by rfl) (by kernel_rfl) ?_ ?_ (by kernel_rfl) (by assumption) ?_
    rotate_left 2; (simp only [List.getElem?_toArray, List.getElem?_cons_succ, List.getElem?_cons_zero]; rfl)
    rotate_left; (first | (refine .inl ⟨by rfl, ?_⟩; intro w9 hS9; go_simp; try with_reducible rfl) | (refine .inr ⟨by rfl, ?_⟩; with_reducible rfl))
    rotate_left; (intro _ _ _ h9; exact h9)
    try simp only [Act.put, List.setIfInBounds_toArray, List.set_cons_zero, List.set_cons_succ]
    obtain ⟨y0, y1, y2, y3⟩ := pool_cells HX3.out.pl HX3.out.len HX3.out.few k HKP.out
    have yf : ∀ i, w3.frozen? ⟨gp, i, none⟩ = false := fun i => by
      rcases HX3.out.pl.2 with ⟨e', _⟩ | ⟨g', cap, cur, e', hb9, hh, _⟩
      · cases e'
      · cases e'
        simp [World.frozen?, hh]
    refine wpAnyP_one (i := 18) (by kernel_rfl) rfl (fun K9 hK9 => ?_)
    go_simp
    change K9 _ (w3.setCells gp (k * 4) (tmc ⟨true, tag, now + n, cnt + 1⟩))
    refine hK9.out _ _ (fun h9 => nomatch (show true = false from h9)) ?_
    refine wpAnyP_done (by kernel_rfl) ?_ _
    obtain ⟨hx4, hf4⟩ := HX3.out.setPool k HKP.out ⟨true, tag, now + n, cnt + 1⟩
    have HX4 := Lib.hid hx4
    have HF4 := Lib.hid (show Fr (foot g gp sv) w (w3.setCells gp (k * 4) (tmc ⟨true, tag, now + n, cnt + 1⟩)) from
      ((((Fr.ofBelow HB1.out _).trans HF2.out (fun b e => .inl (.inl e))).trans (Fr.ofBelow HS0.out (fun _ => False)) (fun b e => e.elim)).trans hf4 (fun b e => .inl (.inr (.inl e)))))
    clear hx4 hf4 x0 x1 x3 y0 y1 y2 y3 yf hS0
    generalize w3.setCells gp (k * 4) _ = w4 at *
    go_wp2_with fail
    refine (wh_lay g gp P _ s now (cnt + 1) k HKP.out (now + n) sv _ _ HX4.out hn (by rw [List.getElem?_set_self (by rw [H.out.len]; exact HKP.out)]; rfl) (by have := HTK.out; omega) HLEN.out).mono ?_
    rintro e w5 ⟨rfl, hto⟩
    have HTO := Lib.hid (WhTo.step HF4.out hto)
    clear hto
    go_wp2_with fail
    go_ret2
    exact ⟨.inr (.inr ⟨k, n, rfl, HK.out, rfl, HTK.out.1, HTK.out.2, HTO.out⟩)⟩
  · have HB1 := Lib.hid hb1
    have HALL := Lib.hid hall
    clear hb1 hall
    go_wp2_with fail
    refine (fault_new 5 _ _ (by decide)).mono ?_
    rintro e w2 ⟨v, rfl, he, hb⟩
    have HE := Lib.hid he
    have HB := Lib.hid (below_step HB1.out hb)
    obtain ⟨tt, uu, rfl⟩ := he.iface
    clear he hb
    go_wp2_with fail
    go_ret2
    exact ⟨.inr (.inl ⟨_, rfl, HE.out, ⟨by have := HTK.out; omega, by have := HTK.out; omega⟩, HALL.out, HB.out⟩)⟩
end Go.Proofs.YtpfoocndohpbbaaDoor
