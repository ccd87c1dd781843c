/- wheel: lay. -/
import Derived.Test.YtpfoocndohpbbaaDoorWhA
namespace Go.Proofs.YtpfoocndohpbbaaDoor
open Go Go.RowKit
set_option linter.unusedVariables false
set_option linter.unusedSimpArgs false
/-- A slot's row has been appended to, and is about to be stored. -/
theorem WhX.append {w w1 w2 : World} {g gp P : Nat} {pool : List Tw} {s : Slots} {now cnt : Nat} {sv : Nat → Value} {cs : Array Value} (h : WhX w g gp P pool s now cnt sv cs) (hb : Below w.heap.size w w1) (l i : Nat) (hl : l < 4) (hi : i < 64) {v : Value} {xs : List Nat} (hown : OwnE kc 1 3 w2 v xs)
    (hg : w1.grownBy w2 (sv (l * 64 + i)).ownBlock) (hf : ∀ b, v.ownBlock = some b → (sv (l * 64 + i)).ownBlock = some b ∨ w1.heap.size ≤ b) (o : Nat) (ho : o = 1 + (l * 64 + i)) :
    WhTo w (w2.setCell ⟨g, o, none⟩ v) g gp P sv pool (up s l i xs) now cnt ∧ w2.cell? ⟨g, o, none⟩ = some (sv (l * 64 + i)) ∧ w2.frozen? ⟨g, o, none⟩ = false := by
  subst ho
  have h1 := h.below hb
  have hfr : Fr (fun b => (sv (l * 64 + i)).ownBlock = some b) w1 w2 := (Fr.ofGrown hg).mono (fun b _ e => e.symm)
  have hm : l * 64 + i < 256 := by omega
  have hoff := h1.r.off (l * 64 + i) hm
  have hc2 := h1.c.fr hfr (fun e => (hoff g e).1 rfl)
  have hp2 := h1.pl.fr hfr (fun b hb e => by cases hb; exact (hoff gp e).2 rfl)
  have hr2 := h1.r.up l i hl hi hown hfr hf h1.c.lt (h1.pl.lt gp rfl)
  have hcs := hc2.setSlot (l * 64 + i) hm v
  have hsf := fr_setCell (F := fun b => b = g) (w := w2) ⟨g, 1 + (l * 64 + i), none⟩ v rfl
  have hsz := hb.size
  refine ⟨⟨⟨_, _, ⟨hcs, hr2.fr hsf (fun m hm2 b hb2 e => (hr2.off m hm2 b hb2).1 e), hp2.fr hsf (fun b hb2 e => by cases hb2; exact h.ne e.symm), h.len, h.few, h.ne⟩, ?_⟩, ?_⟩, hc2.cSlot (l * 64 + i) hm, hc2.free _⟩
  · rintro b (e | e | ⟨m, hm2, e⟩)
    · exact .inl (.inl e)
    · exact .inl (.inr (.inl e))
    · change (if m = l * 64 + i then v else sv m).ownBlock = some b at e
      by_cases he : m = l * 64 + i
      · rw [if_pos he] at e
        rcases hf b e with h2 | h2
        · exact .inl (.inr (.inr ⟨_, hm, h2⟩))
        · exact .inr (by omega)
      · rw [if_neg he] at e
        exact .inl (.inr (.inr ⟨m, hm2, e⟩))
  · exact ((Fr.ofBelow hb (foot g gp sv)).trans hfr (fun b e => .inl (.inr (.inr ⟨_, hm, e⟩)))).trans hsf (fun b e => .inl (.inl e))
theorem lv_cases (now a : Nat) (X : Nat) (hX : X = a ^^^ now) :
    (lv now a = 0 ∧ (X : Int) / 64 = 0) ∨ (lv now a = 1 ∧ ¬ (X : Int) / 64 = 0 ∧ (X : Int) / 4096 = 0) ∨ (lv now a = 2 ∧ ¬ (X : Int) / 64 = 0 ∧ ¬ (X : Int) / 4096 = 0 ∧ (X : Int) / 262144 = 0) ∨ (lv now a = 3 ∧ ¬ (X : Int) / 64 = 0 ∧ ¬ (X : Int) / 4096 = 0 ∧ ¬ (X : Int) / 262144 = 0) := by
  have d1 := xor_div a now 6
  have d2 := xor_div a now 12
  have d3 := xor_div a now 18
  rw [← hX] at d1 d2 d3
  rw [show 2 ^ 6 = 64 from rfl] at d1
  rw [show 2 ^ 12 = 4096 from rfl] at d2
  rw [show 2 ^ 18 = 262144 from rfl] at d3
  unfold lv
  by_cases a0 : a / 64 = now / 64
  · have := d1.2 a0
    exact .inl ⟨if_pos a0, by omega⟩
  · have n1 : ¬ X / 64 = 0 := fun e => a0 (d1.1 e)
    by_cases a1 : a / 4096 = now / 4096
    · have := d2.2 a1
      exact .inr (.inl ⟨by rw [if_neg a0, if_pos a1], by omega, by omega⟩)
    · have n2 : ¬ X / 4096 = 0 := fun e => a1 (d2.1 e)
      by_cases a2 : a / 262144 = now / 262144
      · have := d3.2 a2
        exact .inr (.inr (.inl ⟨by rw [if_neg a0, if_neg a1, if_pos a2], by omega, by omega, by omega⟩))
      · have n3 : ¬ X / 262144 = 0 := fun e => a2 (d3.1 e)
        exact .inr (.inr (.inr ⟨by rw [if_neg a0, if_neg a1, if_neg a2], by omega, by omega, by omega⟩))
set_option maxHeartbeats 16000000 in
set_option maxRecDepth 100000 in
theorem wh_lay (g gp P : Nat) (pool : List Tw) (s : Slots) (now cnt : Nat) (k : Nat) (hk : k < P) (a : Nat) (sv : Nat → Value) (cs : Array Value) (w : World) (h : WhX w g gp P pool s now cnt sv cs) (hn : now ≤ 1000000000) (ha : (pool[k]?.map (·.at_)) = some a) (ha2 : a ≤ 2000000000) (hlen : ∀ l i, (s l i).length ≤ 1000) :
    Calls Tryd.prog 27 #[.pointer (some ⟨g, 0, none⟩), .int .i64 k] w fun e w' => e = .returned (.tuple #[]) ∧ WhTo w w' g gp P sv pool (up s (pos now a).1 (pos now a).2 (s (pos now a).1 (pos now a).2 ++ [k])) now cnt := by
  have hk' : (k : Int) < P := by omega
  have c0 := h.c.cPool
  have c1 := h.c.cNow
  have p2 := (pool_cells h.pl h.len h.few k hk).2.2.1
  rw [List.getElem?_eq_getElem (by rw [h.len]; exact hk)] at ha
  rw [show (pool[k]'(by rw [h.len]; exact hk)).at_ = a from Option.some.inj ha] at p2
  have hx := xor_i64 a now (by omega) (by omega)
  obtain ⟨X, hX⟩ : ∃ X, X = a ^^^ now := ⟨_, rfl⟩
  rw [← hX] at hx
  have hcase := lv_cases now a X hX
  have v0 : IntKind.i64.wrap 0 = 0 := by decide
  have v6 : IntKind.i64.wrap 6 = 6 := by decide
  have v12 : IntKind.i64.wrap 12 = 12 := by decide
  have v18 : IntKind.i64.wrap 18 = 18 := by decide
  clear ha hX
  rcases hcase with ⟨hlv, e1⟩ | ⟨hlv, e1, e2⟩ | ⟨hlv, e1, e2, e3⟩ | ⟨hlv, e1, e2, e3⟩
  · obtain ⟨i, hi⟩ : ∃ i : Nat, i = ixw a 0 := ⟨_, rfl⟩
    have hil : i < 64 := by rw [hi]; have := (pos_lt now a).2; show ixw a 0 < 64; unfold ixw; simp; omega
    have hi1 : (a : Int).tmod 64 = (i : Int) := by
      rw [hi, Int.tmod_eq_emod_of_nonneg (by omega)]
      unfold ixw
      simp
    have hi2 : (i : Int) < 64 := by omega
    have HI := Lib.hid hi
    have HP := Lib.hid (show pos now a = (0, i) by unfold pos; rw [hlv, hi])
    have hxs := hlen 0 i
    have hown0 := h.r.own 0 i (by omega) hil
    have cS : ∀ w', Below w.heap.size w w' → w'.cell? ⟨g, 1 + i, none⟩ = some (sv (0 * 64 + i)) := fun w' hb => by
      have := (h.below hb).c.cSlot (0 * 64 + i) (by omega)
      rwa [show 1 + (0 * 64 + i) = 1 + i by omega] at this
    have hnil := hown0.re (by omega)
    obtain ⟨As, cap, hsv, _⟩ := hnil
    rw [hsv] at cS
    have HSV := Lib.hid hsv
    have H := Lib.hid h
    have HO := Lib.hid hown0
    have HIL := Lib.hid hil
    generalize hxl : (s 0 i).length = n at *
    have HXL := Lib.hid hxl
    clear h hi hlv hil hown0 hsv hxl hlen
    go_enter Tryd.func27, Tryd.ntmps27
    go_wp2_with fail
    refine wp_loop_rounds 1 ?_
    rw [rounds_succ]
    go_upto_region 5 with fail
    have hS0 := below_drew1 w
    have HS0 := Lib.hid hS0
    refine wp_region_held (S := fun w' => Below w.heap.size w w') (by kernel_rfl) ?_
    change wpAnyH _ _ _ _ _ _ _ _ w.drew
    generalize w.drew = w0 at *
    change wpAnyH _ _ _ _ _ 12 (Array.replicate 12 false) _ _
    refine wpAnyH_take (i := 0) (oi := ?_) (v := ?_) ?_ (by kernel_rfl) (by kernel_rfl) (by kernel_rfl) ?_ ?_ (by assumption) ?_
    rotate_left 2; (simp only [List.getElem?_toArray, List.getElem?_cons_succ, List.getElem?_cons_zero]; rfl)
    rotate_left; (first | (refine .inl ⟨by rfl, ?_⟩; intro w9 hS9; go_simp; try with_reducible rfl) | (refine .inr ⟨by rfl, ?_⟩; with_reducible rfl))
    rotate_left; (intro _ _ _ h9; exact h9)
    try simp only [Act.put, List.setIfInBounds_toArray, List.set_cons_zero, List.set_cons_succ]
    refine wpAnyH_take (i := 1) (oi := ?_) (v := ?_) ?_ (by kernel_rfl) (by kernel_rfl) (by kernel_rfl) ?_ ?_ (by assumption) ?_
    rotate_left 2; (simp only [List.getElem?_toArray, List.getElem?_cons_succ, List.getElem?_cons_zero]; rfl)
    rotate_left; (first | (refine .inl ⟨by rfl, ?_⟩; intro w9 hS9; go_simp; try with_reducible rfl) | (refine .inr ⟨by rfl, ?_⟩; with_reducible rfl))
    rotate_left; (intro _ _ _ h9; exact h9)
    try simp only [Act.put, List.setIfInBounds_toArray, List.set_cons_zero, List.set_cons_succ]
    refine wpAnyH_take (i := 2) (oi := ?_) (v := ?_) ?_ (by kernel_rfl) (by kernel_rfl) (by kernel_rfl) ?_ ?_ (by assumption) ?_
    rotate_left 2; (simp only [List.getElem?_toArray, List.getElem?_cons_succ, List.getElem?_cons_zero]; rfl)
    rotate_left; (first | (refine .inl ⟨by rfl, ?_⟩; intro w9 hS9; go_simp; try with_reducible rfl) | (refine .inr ⟨by rfl, ?_⟩; with_reducible rfl))
    rotate_left; (intro _ _ _ h9; exact h9)
    try simp only [Act.put, List.setIfInBounds_toArray, List.set_cons_zero, List.set_cons_succ]
    refine wpAnyH_take (i := 3) (oi := ?_) (v := ?_) ?_ (by kernel_rfl) (by kernel_rfl) (by kernel_rfl) ?_ ?_ (by assumption) ?_
    rotate_left 2; (simp only [List.getElem?_toArray, List.getElem?_cons_succ, List.getElem?_cons_zero]; rfl)
    rotate_left; (first | (refine .inl ⟨by rfl, ?_⟩; intro w9 hS9; go_simp; try with_reducible rfl) | (refine .inr ⟨by rfl, ?_⟩; with_reducible rfl))
    rotate_left; (intro _ _ _ h9; exact h9)
    try simp only [Act.put, List.setIfInBounds_toArray, List.set_cons_zero, List.set_cons_succ]
    refine wpAnyH_take (i := 4) (oi := ?_) (v := ?_) ?_ (by kernel_rfl) (by kernel_rfl) (by kernel_rfl) ?_ ?_ (by assumption) ?_
    rotate_left 2; (simp only [List.getElem?_toArray, List.getElem?_cons_succ, List.getElem?_cons_zero]; rfl)
    rotate_left; (first | (refine .inl ⟨by rfl, ?_⟩; intro w9 hS9; go_simp; try with_reducible rfl) | (refine .inr ⟨by rfl, ?_⟩; with_reducible rfl))
    rotate_left; (intro _ _ _ h9; exact h9)
    try simp only [Act.put, List.setIfInBounds_toArray, List.set_cons_zero, List.set_cons_succ]
    refine wpAnyH_take (i := 5) (oi := ?_) (v := ?_) ?_ (by kernel_rfl) (by kernel_rfl) (by kernel_rfl) ?_ ?_ (by assumption) ?_
    rotate_left 2; (simp only [List.getElem?_toArray, List.getElem?_cons_succ, List.getElem?_cons_zero]; rfl)
    rotate_left; (first | (refine .inl ⟨by rfl, ?_⟩; intro w9 hS9; go_simp; try with_reducible rfl) | (refine .inr ⟨by rfl, ?_⟩; with_reducible rfl))
    rotate_left; (intro _ _ _ h9; exact h9)
    try simp only [Act.put, List.setIfInBounds_toArray, List.set_cons_zero, List.set_cons_succ]
    refine wpAnyH_take (i := 6) (oi := ?_) (v := ?_) ?_ (by kernel_rfl) (by kernel_rfl) (by kernel_rfl) ?_ ?_ (by assumption) ?_
    rotate_left 2; (simp only [List.getElem?_toArray, List.getElem?_cons_succ, List.getElem?_cons_zero]; rfl)
    rotate_left; (first | (refine .inl ⟨by rfl, ?_⟩; intro w9 hS9; go_simp; try with_reducible rfl) | (refine .inr ⟨by rfl, ?_⟩; with_reducible rfl))
    rotate_left; (intro _ _ _ h9; exact h9)
    try simp only [Act.put, List.setIfInBounds_toArray, List.set_cons_zero, List.set_cons_succ]
    refine wpAnyH_take (i := 7) (oi := ?_) (v := ?_) ?_ (by kernel_rfl) (by kernel_rfl) (by kernel_rfl) ?_ ?_ (by assumption) ?_
    rotate_left 2; (simp only [List.getElem?_toArray, List.getElem?_cons_succ, List.getElem?_cons_zero]; rfl)
    rotate_left; (first | (refine .inl ⟨by rfl, ?_⟩; intro w9 hS9; go_simp; try with_reducible rfl) | (refine .inr ⟨by rfl, ?_⟩; with_reducible rfl))
    rotate_left; (intro _ _ _ h9; exact h9)
    try simp only [Act.put, List.setIfInBounds_toArray, List.set_cons_zero, List.set_cons_succ]
    refine wpAnyH_take (i := 8) (oi := ?_) (v := ?_) ?_ (by kernel_rfl) (by kernel_rfl) (by kernel_rfl) ?_ ?_ (by assumption) ?_
    rotate_left 2; (simp only [List.getElem?_toArray, List.getElem?_cons_succ, List.getElem?_cons_zero]; rfl)
    rotate_left; (first | (refine .inl ⟨by rfl, ?_⟩; intro w9 hS9; go_simp; try with_reducible rfl) | (refine .inr ⟨by rfl, ?_⟩; with_reducible rfl))
    rotate_left; (intro _ _ _ h9; exact h9)
    try simp only [Act.put, List.setIfInBounds_toArray, List.set_cons_zero, List.set_cons_succ]
    refine wpAnyH_take (i := 9) (oi := ?_) (v := ?_) ?_ (by kernel_rfl) (by kernel_rfl) (by kernel_rfl) ?_ ?_ (by assumption) ?_
    rotate_left 2; (simp only [List.getElem?_toArray, List.getElem?_cons_succ, List.getElem?_cons_zero]; rfl)
    rotate_left; (first | (refine .inl ⟨by rfl, ?_⟩; intro w9 hS9; go_simp; try with_reducible rfl) | (refine .inr ⟨by rfl, ?_⟩; with_reducible rfl))
    rotate_left; (intro _ _ _ h9; exact h9)
    try simp only [Act.put, List.setIfInBounds_toArray, List.set_cons_zero, List.set_cons_succ]
    refine wpAnyH_take (i := 10) (oi := ?_) (v := ?_) ?_ (by kernel_rfl) (by kernel_rfl) (by kernel_rfl) ?_ ?_ (by assumption) ?_
    rotate_left 2; (simp only [List.getElem?_toArray, List.getElem?_cons_succ, List.getElem?_cons_zero]; rfl)
    rotate_left; (first | (refine .inl ⟨by rfl, ?_⟩; intro w9 hS9; go_simp; try with_reducible rfl) | (refine .inr ⟨by rfl, ?_⟩; with_reducible rfl))
    rotate_left; (intro _ _ _ h9; exact h9)
    try simp only [Act.put, List.setIfInBounds_toArray, List.set_cons_zero, List.set_cons_succ]
    refine wpAnyH_take (i := 11) (oi := ?_) (v := ?_) ?_ (by kernel_rfl) (by kernel_rfl) (by kernel_rfl) ?_ ?_ (by assumption) ?_
    rotate_left 2; (simp only [List.getElem?_toArray, List.getElem?_cons_succ, List.getElem?_cons_zero]; rfl)
    rotate_left; (first | (refine .inl ⟨by rfl, ?_⟩; intro w9 hS9; go_simp; try with_reducible rfl) | (refine .inr ⟨by rfl, ?_⟩; with_reducible rfl))
    rotate_left; (intro _ _ _ h9; exact h9)
    try simp only [Act.put, List.setIfInBounds_toArray, List.set_cons_zero, List.set_cons_succ]
    refine wpAnyH_done (by kernel_rfl) ?_ _
    have cS1 := cS w0 HS0.out
    have hbn := below_step HS0.out (below_new w0 (.cells #[.int .i64 k] 3))
    have cS2 := cS _ hbn
    have HNW := Lib.hid (show RE kc (w0.alloc (.cells #[.int .i64 k] 3)) (some ⟨w0.heap.size, 0, none⟩) 1 1 [k] from re_lit (f := kc) (e := 3) kc_len w0 [k] (by simp))
    have HBN := Lib.hid hbn
    have HO1 := Lib.hid (HO.out.fr (Fr.ofBelow hbn (fun _ => False)) (fun _ _ h => h))
    rw [HSV.out] at HO1
    clear hS0 hbn cS
    go_wp2_with (at_builtin; go_must (refine wpList_append_fr kcT kc_len kc_one rfl _ _ rfl _ (s 0 i) rfl HO1.out _ _ _ [k] rfl HNW.out (by have := HXL.out; omega) (by have := HXL.out; omega) ?_; intro v2 w2 hown2 hg2 hf2; obtain ⟨A2, c2, hv2, _⟩ := hown2.re (by rw [List.length_append]; have := HXL.out; show (s 0 i).length + 1 ≤ _; omega); subst hv2; have hap := H.out.append HBN.out 0 i (by omega) HIL.out hown2 (by rw [HSV.out]; exact hg2) (fun b hb => by rw [HSV.out]; exact hf2 b hb) (1 + i) (by omega); rw [HSV.out] at hap; have HAP := Lib.hid hap.1; obtain ⟨_, x1, x2⟩ := hap; clear hown2 hg2 hf2 cS1 cS2))
    (try simp only [Exit.inBlock, Exit.then])
    refine bodyPost_ret (results_none rfl _ _ _) rfl ?_
    refine ⟨rfl, ?_⟩
    rw [HP.out]
    have hz := HAP.out
    rw [List.length_append] at hz
    exact hz
  · obtain ⟨i, hi⟩ : ∃ i : Nat, i = ixw a 1 := ⟨_, rfl⟩
    have hil : i < 64 := by rw [hi]; have := (pos_lt now a).2; show ixw a 1 < 64; unfold ixw; simp; omega
    have hi1 : ((a : Int) / 64).tmod 64 = (i : Int) := by
      rw [hi, Int.tmod_eq_emod_of_nonneg (by omega)]
      unfold ixw
      simp
    have hi2 : (i : Int) < 64 := by omega
    have HI := Lib.hid hi
    have HP := Lib.hid (show pos now a = (1, i) by unfold pos; rw [hlv, hi])
    have hxs := hlen 1 i
    have hown0 := h.r.own 1 i (by omega) hil
    have cS : ∀ w', Below w.heap.size w w' → w'.cell? ⟨g, 65 + i, none⟩ = some (sv (1 * 64 + i)) := fun w' hb => by
      have := (h.below hb).c.cSlot (1 * 64 + i) (by omega)
      rwa [show 1 + (1 * 64 + i) = 65 + i by omega] at this
    have hnil := hown0.re (by omega)
    obtain ⟨As, cap, hsv, _⟩ := hnil
    rw [hsv] at cS
    have HSV := Lib.hid hsv
    have H := Lib.hid h
    have HO := Lib.hid hown0
    have HIL := Lib.hid hil
    generalize hxl : (s 1 i).length = n at *
    have HXL := Lib.hid hxl
    clear h hi hlv hil hown0 hsv hxl hlen
    go_enter Tryd.func27, Tryd.ntmps27
    go_wp2_with fail
    refine wp_loop_rounds 2 ?_
    rw [rounds_succ]
    go_wp2_with fail
    rw [rounds_succ]
    go_upto_region 5 with fail
    have hS0 := below_drew1 w
    have HS0 := Lib.hid hS0
    refine wp_region_held (S := fun w' => Below w.heap.size w w') (by kernel_rfl) ?_
    change wpAnyH _ _ _ _ _ _ _ _ w.drew
    generalize w.drew = w0 at *
    change wpAnyH _ _ _ _ _ 12 (Array.replicate 12 false) _ _
    refine wpAnyH_take (i := 0) (oi := ?_) (v := ?_) ?_ (by kernel_rfl) (by kernel_rfl) (by kernel_rfl) ?_ ?_ (by assumption) ?_
    rotate_left 2; (simp only [List.getElem?_toArray, List.getElem?_cons_succ, List.getElem?_cons_zero]; rfl)
    rotate_left; (first | (refine .inl ⟨by rfl, ?_⟩; intro w9 hS9; go_simp; try with_reducible rfl) | (refine .inr ⟨by rfl, ?_⟩; with_reducible rfl))
    rotate_left; (intro _ _ _ h9; exact h9)
    try simp only [Act.put, List.setIfInBounds_toArray, List.set_cons_zero, List.set_cons_succ]
    refine wpAnyH_take (i := 1) (oi := ?_) (v := ?_) ?_ (by kernel_rfl) (by kernel_rfl) (by kernel_rfl) ?_ ?_ (by assumption) ?_
    rotate_left 2; (simp only [List.getElem?_toArray, List.getElem?_cons_succ, List.getElem?_cons_zero]; rfl)
    rotate_left; (first | (refine .inl ⟨by rfl, ?_⟩; intro w9 hS9; go_simp; try with_reducible rfl) | (refine .inr ⟨by rfl, ?_⟩; with_reducible rfl))
    rotate_left; (intro _ _ _ h9; exact h9)
    try simp only [Act.put, List.setIfInBounds_toArray, List.set_cons_zero, List.set_cons_succ]
    refine wpAnyH_take (i := 2) (oi := ?_) (v := ?_) ?_ (by kernel_rfl) (by kernel_rfl) (by kernel_rfl) ?_ ?_ (by assumption) ?_
    rotate_left 2; (simp only [List.getElem?_toArray, List.getElem?_cons_succ, List.getElem?_cons_zero]; rfl)
    rotate_left; (first | (refine .inl ⟨by rfl, ?_⟩; intro w9 hS9; go_simp; try with_reducible rfl) | (refine .inr ⟨by rfl, ?_⟩; with_reducible rfl))
    rotate_left; (intro _ _ _ h9; exact h9)
    try simp only [Act.put, List.setIfInBounds_toArray, List.set_cons_zero, List.set_cons_succ]
    refine wpAnyH_take (i := 3) (oi := ?_) (v := ?_) ?_ (by kernel_rfl) (by kernel_rfl) (by kernel_rfl) ?_ ?_ (by assumption) ?_
    rotate_left 2; (simp only [List.getElem?_toArray, List.getElem?_cons_succ, List.getElem?_cons_zero]; rfl)
    rotate_left; (first | (refine .inl ⟨by rfl, ?_⟩; intro w9 hS9; go_simp; try with_reducible rfl) | (refine .inr ⟨by rfl, ?_⟩; with_reducible rfl))
    rotate_left; (intro _ _ _ h9; exact h9)
    try simp only [Act.put, List.setIfInBounds_toArray, List.set_cons_zero, List.set_cons_succ]
    refine wpAnyH_take (i := 4) (oi := ?_) (v := ?_) ?_ (by kernel_rfl) (by kernel_rfl) (by kernel_rfl) ?_ ?_ (by assumption) ?_
    rotate_left 2; (simp only [List.getElem?_toArray, List.getElem?_cons_succ, List.getElem?_cons_zero]; rfl)
    rotate_left; (first | (refine .inl ⟨by rfl, ?_⟩; intro w9 hS9; go_simp; try with_reducible rfl) | (refine .inr ⟨by rfl, ?_⟩; with_reducible rfl))
    rotate_left; (intro _ _ _ h9; exact h9)
    try simp only [Act.put, List.setIfInBounds_toArray, List.set_cons_zero, List.set_cons_succ]
    refine wpAnyH_take (i := 5) (oi := ?_) (v := ?_) ?_ (by kernel_rfl) (by kernel_rfl) (by kernel_rfl) ?_ ?_ (by assumption) ?_
    rotate_left 2; (simp only [List.getElem?_toArray, List.getElem?_cons_succ, List.getElem?_cons_zero]; rfl)
    rotate_left; (first | (refine .inl ⟨by rfl, ?_⟩; intro w9 hS9; go_simp; try with_reducible rfl) | (refine .inr ⟨by rfl, ?_⟩; with_reducible rfl))
    rotate_left; (intro _ _ _ h9; exact h9)
    try simp only [Act.put, List.setIfInBounds_toArray, List.set_cons_zero, List.set_cons_succ]
    refine wpAnyH_take (i := 6) (oi := ?_) (v := ?_) ?_ (by kernel_rfl) (by kernel_rfl) (by kernel_rfl) ?_ ?_ (by assumption) ?_
    rotate_left 2; (simp only [List.getElem?_toArray, List.getElem?_cons_succ, List.getElem?_cons_zero]; rfl)
    rotate_left; (first | (refine .inl ⟨by rfl, ?_⟩; intro w9 hS9; go_simp; try with_reducible rfl) | (refine .inr ⟨by rfl, ?_⟩; with_reducible rfl))
    rotate_left; (intro _ _ _ h9; exact h9)
    try simp only [Act.put, List.setIfInBounds_toArray, List.set_cons_zero, List.set_cons_succ]
    refine wpAnyH_take (i := 7) (oi := ?_) (v := ?_) ?_ (by kernel_rfl) (by kernel_rfl) (by kernel_rfl) ?_ ?_ (by assumption) ?_
    rotate_left 2; (simp only [List.getElem?_toArray, List.getElem?_cons_succ, List.getElem?_cons_zero]; rfl)
    rotate_left; (first | (refine .inl ⟨by rfl, ?_⟩; intro w9 hS9; go_simp; try with_reducible rfl) | (refine .inr ⟨by rfl, ?_⟩; with_reducible rfl))
    rotate_left; (intro _ _ _ h9; exact h9)
    try simp only [Act.put, List.setIfInBounds_toArray, List.set_cons_zero, List.set_cons_succ]
    refine wpAnyH_take (i := 8) (oi := ?_) (v := ?_) ?_ (by kernel_rfl) (by kernel_rfl) (by kernel_rfl) ?_ ?_ (by assumption) ?_
    rotate_left 2; (simp only [List.getElem?_toArray, List.getElem?_cons_succ, List.getElem?_cons_zero]; rfl)
    rotate_left; (first | (refine .inl ⟨by rfl, ?_⟩; intro w9 hS9; go_simp; try with_reducible rfl) | (refine .inr ⟨by rfl, ?_⟩; with_reducible rfl))
    rotate_left; (intro _ _ _ h9; exact h9)
    try simp only [Act.put, List.setIfInBounds_toArray, List.set_cons_zero, List.set_cons_succ]
    refine wpAnyH_take (i := 9) (oi := ?_) (v := ?_) ?_ (by kernel_rfl) (by kernel_rfl) (by kernel_rfl) ?_ ?_ (by assumption) ?_
    rotate_left 2; (simp only [List.getElem?_toArray, List.getElem?_cons_succ, List.getElem?_cons_zero]; rfl)
    rotate_left; (first | (refine .inl ⟨by rfl, ?_⟩; intro w9 hS9; go_simp; try with_reducible rfl) | (refine .inr ⟨by rfl, ?_⟩; with_reducible rfl))
    rotate_left; (intro _ _ _ h9; exact h9)
    try simp only [Act.put, List.setIfInBounds_toArray, List.set_cons_zero, List.set_cons_succ]
    refine wpAnyH_take (i := 10) (oi := ?_) (v := ?_) ?_ (by kernel_rfl) (by kernel_rfl) (by kernel_rfl) ?_ ?_ (by assumption) ?_
    rotate_left 2; (simp only [List.getElem?_toArray, List.getElem?_cons_succ, List.getElem?_cons_zero]; rfl)
    rotate_left; (first | (refine .inl ⟨by rfl, ?_⟩; intro w9 hS9; go_simp; try with_reducible rfl) | (refine .inr ⟨by rfl, ?_⟩; with_reducible rfl))
    rotate_left; (intro _ _ _ h9; exact h9)
    try simp only [Act.put, List.setIfInBounds_toArray, List.set_cons_zero, List.set_cons_succ]
    refine wpAnyH_take (i := 11) (oi := ?_) (v := ?_) ?_ (by kernel_rfl) (by kernel_rfl) (by kernel_rfl) ?_ ?_ (by assumption) ?_
    rotate_left 2; (simp only [List.getElem?_toArray, List.getElem?_cons_succ, List.getElem?_cons_zero]; rfl)
    rotate_left; (first | (refine .inl ⟨by rfl, ?_⟩; intro w9 hS9; go_simp; try with_reducible rfl) | (refine .inr ⟨by rfl, ?_⟩; with_reducible rfl))
    rotate_left; (intro _ _ _ h9; exact h9)
    try simp only [Act.put, List.setIfInBounds_toArray, List.set_cons_zero, List.set_cons_succ]
    refine wpAnyH_done (by kernel_rfl) ?_ _
    have cS1 := cS w0 HS0.out
    have hbn := below_step HS0.out (below_new w0 (.cells #[.int .i64 k] 3))
    have cS2 := cS _ hbn
    have HNW := Lib.hid (show RE kc (w0.alloc (.cells #[.int .i64 k] 3)) (some ⟨w0.heap.size, 0, none⟩) 1 1 [k] from re_lit (f := kc) (e := 3) kc_len w0 [k] (by simp))
    have HBN := Lib.hid hbn
    have HO1 := Lib.hid (HO.out.fr (Fr.ofBelow hbn (fun _ => False)) (fun _ _ h => h))
    rw [HSV.out] at HO1
    clear hS0 hbn cS
    go_wp2_with (at_builtin; go_must (refine wpList_append_fr kcT kc_len kc_one rfl _ _ rfl _ (s 1 i) rfl HO1.out _ _ _ [k] rfl HNW.out (by have := HXL.out; omega) (by have := HXL.out; omega) ?_; intro v2 w2 hown2 hg2 hf2; obtain ⟨A2, c2, hv2, _⟩ := hown2.re (by rw [List.length_append]; have := HXL.out; show (s 1 i).length + 1 ≤ _; omega); subst hv2; have hap := H.out.append HBN.out 1 i (by omega) HIL.out hown2 (by rw [HSV.out]; exact hg2) (fun b hb => by rw [HSV.out]; exact hf2 b hb) (65 + i) (by omega); rw [HSV.out] at hap; have HAP := Lib.hid hap.1; obtain ⟨_, x1, x2⟩ := hap; clear hown2 hg2 hf2 cS1 cS2))
    (try simp only [Exit.inBlock, Exit.then])
    refine bodyPost_ret (results_none rfl _ _ _) rfl ?_
    refine ⟨rfl, ?_⟩
    rw [HP.out]
    have hz := HAP.out
    rw [List.length_append] at hz
    exact hz
  · obtain ⟨i, hi⟩ : ∃ i : Nat, i = ixw a 2 := ⟨_, rfl⟩
    have hil : i < 64 := by rw [hi]; have := (pos_lt now a).2; show ixw a 2 < 64; unfold ixw; simp; omega
    have hi1 : ((a : Int) / 4096).tmod 64 = (i : Int) := by
      rw [hi, Int.tmod_eq_emod_of_nonneg (by omega)]
      unfold ixw
      simp
    have hi2 : (i : Int) < 64 := by omega
    have HI := Lib.hid hi
    have HP := Lib.hid (show pos now a = (2, i) by unfold pos; rw [hlv, hi])
    have hxs := hlen 2 i
    have hown0 := h.r.own 2 i (by omega) hil
    have cS : ∀ w', Below w.heap.size w w' → w'.cell? ⟨g, 129 + i, none⟩ = some (sv (2 * 64 + i)) := fun w' hb => by
      have := (h.below hb).c.cSlot (2 * 64 + i) (by omega)
      rwa [show 1 + (2 * 64 + i) = 129 + i by omega] at this
    have hnil := hown0.re (by omega)
    obtain ⟨As, cap, hsv, _⟩ := hnil
    rw [hsv] at cS
    have HSV := Lib.hid hsv
    have H := Lib.hid h
    have HO := Lib.hid hown0
    have HIL := Lib.hid hil
    generalize hxl : (s 2 i).length = n at *
    have HXL := Lib.hid hxl
    clear h hi hlv hil hown0 hsv hxl hlen
    go_enter Tryd.func27, Tryd.ntmps27
    go_wp2_with fail
    refine wp_loop_rounds 3 ?_
    rw [rounds_succ]
    go_wp2_with fail
    rw [rounds_succ]
    go_wp2_with fail
    rw [rounds_succ]
    go_upto_region 5 with fail
    have hS0 := below_drew1 w
    have HS0 := Lib.hid hS0
    refine wp_region_held (S := fun w' => Below w.heap.size w w') (by kernel_rfl) ?_
    change wpAnyH _ _ _ _ _ _ _ _ w.drew
    generalize w.drew = w0 at *
    change wpAnyH _ _ _ _ _ 12 (Array.replicate 12 false) _ _
    refine wpAnyH_take (i := 0) (oi := ?_) (v := ?_) ?_ (by kernel_rfl) (by kernel_rfl) (by kernel_rfl) ?_ ?_ (by assumption) ?_
    rotate_left 2; (simp only [List.getElem?_toArray, List.getElem?_cons_succ, List.getElem?_cons_zero]; rfl)
    rotate_left; (first | (refine .inl ⟨by rfl, ?_⟩; intro w9 hS9; go_simp; try with_reducible rfl) | (refine .inr ⟨by rfl, ?_⟩; with_reducible rfl))
    rotate_left; (intro _ _ _ h9; exact h9)
    try simp only [Act.put, List.setIfInBounds_toArray, List.set_cons_zero, List.set_cons_succ]
    refine wpAnyH_take (i := 1) (oi := ?_) (v := ?_) ?_ (by kernel_rfl) (by kernel_rfl) (by kernel_rfl) ?_ ?_ (by assumption) ?_
    rotate_left 2; (simp only [List.getElem?_toArray, List.getElem?_cons_succ, List.getElem?_cons_zero]; rfl)
    rotate_left; (first | (refine .inl ⟨by rfl, ?_⟩; intro w9 hS9; go_simp; try with_reducible rfl) | (refine .inr ⟨by rfl, ?_⟩; with_reducible rfl))
    rotate_left; (intro _ _ _ h9; exact h9)
    try simp only [Act.put, List.setIfInBounds_toArray, List.set_cons_zero, List.set_cons_succ]
    refine wpAnyH_take (i := 2) (oi := ?_) (v := ?_) ?_ (by kernel_rfl) (by kernel_rfl) (by kernel_rfl) ?_ ?_ (by assumption) ?_
    rotate_left 2; (simp only [List.getElem?_toArray, List.getElem?_cons_succ, List.getElem?_cons_zero]; rfl)
    rotate_left; (first | (refine .inl ⟨by rfl, ?_⟩; intro w9 hS9; go_simp; try with_reducible rfl) | (refine .inr ⟨by rfl, ?_⟩; with_reducible rfl))
    rotate_left; (intro _ _ _ h9; exact h9)
    try simp only [Act.put, List.setIfInBounds_toArray, List.set_cons_zero, List.set_cons_succ]
    refine wpAnyH_take (i := 3) (oi := ?_) (v := ?_) ?_ (by kernel_rfl) (by kernel_rfl) (by kernel_rfl) ?_ ?_ (by assumption) ?_
    rotate_left 2; (simp only [List.getElem?_toArray, List.getElem?_cons_succ, List.getElem?_cons_zero]; rfl)
    rotate_left; (first | (refine .inl ⟨by rfl, ?_⟩; intro w9 hS9; go_simp; try with_reducible rfl) | (refine .inr ⟨by rfl, ?_⟩; with_reducible rfl))
    rotate_left; (intro _ _ _ h9; exact h9)
    try simp only [Act.put, List.setIfInBounds_toArray, List.set_cons_zero, List.set_cons_succ]
    refine wpAnyH_take (i := 4) (oi := ?_) (v := ?_) ?_ (by kernel_rfl) (by kernel_rfl) (by kernel_rfl) ?_ ?_ (by assumption) ?_
    rotate_left 2; (simp only [List.getElem?_toArray, List.getElem?_cons_succ, List.getElem?_cons_zero]; rfl)
    rotate_left; (first | (refine .inl ⟨by rfl, ?_⟩; intro w9 hS9; go_simp; try with_reducible rfl) | (refine .inr ⟨by rfl, ?_⟩; with_reducible rfl))
    rotate_left; (intro _ _ _ h9; exact h9)
    try simp only [Act.put, List.setIfInBounds_toArray, List.set_cons_zero, List.set_cons_succ]
    refine wpAnyH_take (i := 5) (oi := ?_) (v := ?_) ?_ (by kernel_rfl) (by kernel_rfl) (by kernel_rfl) ?_ ?_ (by assumption) ?_
    rotate_left 2; (simp only [List.getElem?_toArray, List.getElem?_cons_succ, List.getElem?_cons_zero]; rfl)
    rotate_left; (first | (refine .inl ⟨by rfl, ?_⟩; intro w9 hS9; go_simp; try with_reducible rfl) | (refine .inr ⟨by rfl, ?_⟩; with_reducible rfl))
    rotate_left; (intro _ _ _ h9; exact h9)
    try simp only [Act.put, List.setIfInBounds_toArray, List.set_cons_zero, List.set_cons_succ]
    refine wpAnyH_take (i := 6) (oi := ?_) (v := ?_) ?_ (by kernel_rfl) (by kernel_rfl) (by kernel_rfl) ?_ ?_ (by assumption) ?_
    rotate_left 2; (simp only [List.getElem?_toArray, List.getElem?_cons_succ, List.getElem?_cons_zero]; rfl)
    rotate_left; (first | (refine .inl ⟨by rfl, ?_⟩; intro w9 hS9; go_simp; try with_reducible rfl) | (refine .inr ⟨by rfl, ?_⟩; with_reducible rfl))
    rotate_left; (intro _ _ _ h9; exact h9)
    try simp only [Act.put, List.setIfInBounds_toArray, List.set_cons_zero, List.set_cons_succ]
    refine wpAnyH_take (i := 7) (oi := ?_) (v := ?_) ?_ (by kernel_rfl) (by kernel_rfl) (by kernel_rfl) ?_ ?_ (by assumption) ?_
    rotate_left 2; (simp only [List.getElem?_toArray, List.getElem?_cons_succ, List.getElem?_cons_zero]; rfl)
    rotate_left; (first | (refine .inl ⟨by rfl, ?_⟩; intro w9 hS9; go_simp; try with_reducible rfl) | (refine .inr ⟨by rfl, ?_⟩; with_reducible rfl))
    rotate_left; (intro _ _ _ h9; exact h9)
    try simp only [Act.put, List.setIfInBounds_toArray, List.set_cons_zero, List.set_cons_succ]
    refine wpAnyH_take (i := 8) (oi := ?_) (v := ?_) ?_ (by kernel_rfl) (by kernel_rfl) (by kernel_rfl) ?_ ?_ (by assumption) ?_
    rotate_left 2; (simp only [List.getElem?_toArray, List.getElem?_cons_succ, List.getElem?_cons_zero]; rfl)
    rotate_left; (first | (refine .inl ⟨by rfl, ?_⟩; intro w9 hS9; go_simp; try with_reducible rfl) | (refine .inr ⟨by rfl, ?_⟩; with_reducible rfl))
    rotate_left; (intro _ _ _ h9; exact h9)
    try simp only [Act.put, List.setIfInBounds_toArray, List.set_cons_zero, List.set_cons_succ]
    refine wpAnyH_take (i := 9) (oi := ?_) (v := ?_) ?_ (by kernel_rfl) (by kernel_rfl) (by kernel_rfl) ?_ ?_ (by assumption) ?_
    rotate_left 2; (simp only [List.getElem?_toArray, List.getElem?_cons_succ, List.getElem?_cons_zero]; rfl)
    rotate_left; (first | (refine .inl ⟨by rfl, ?_⟩; intro w9 hS9; go_simp; try with_reducible rfl) | (refine .inr ⟨by rfl, ?_⟩; with_reducible rfl))
    rotate_left; (intro _ _ _ h9; exact h9)
    try simp only [Act.put, List.setIfInBounds_toArray, List.set_cons_zero, List.set_cons_succ]
    refine wpAnyH_take (i := 10) (oi := ?_) (v := ?_) ?_ (by kernel_rfl) (by kernel_rfl) (by kernel_rfl) ?_ ?_ (by assumption) ?_
    rotate_left 2; (simp only [List.getElem?_toArray, List.getElem?_cons_succ, List.getElem?_cons_zero]; rfl)
    rotate_left; (first | (refine .inl ⟨by rfl, ?_⟩; intro w9 hS9; go_simp; try with_reducible rfl) | (refine .inr ⟨by rfl, ?_⟩; with_reducible rfl))
    rotate_left; (intro _ _ _ h9; exact h9)
    try simp only [Act.put, List.setIfInBounds_toArray, List.set_cons_zero, List.set_cons_succ]
    refine wpAnyH_take (i := 11) (oi := ?_) (v := ?_) ?_ (by kernel_rfl) (by kernel_rfl) (by kernel_rfl) ?_ ?_ (by assumption) ?_
    rotate_left 2; (simp only [List.getElem?_toArray, List.getElem?_cons_succ, List.getElem?_cons_zero]; rfl)
    rotate_left; (first | (refine .inl ⟨by rfl, ?_⟩; intro w9 hS9; go_simp; try with_reducible rfl) | (refine .inr ⟨by rfl, ?_⟩; with_reducible rfl))
    rotate_left; (intro _ _ _ h9; exact h9)
    try simp only [Act.put, List.setIfInBounds_toArray, List.set_cons_zero, List.set_cons_succ]
    refine wpAnyH_done (by kernel_rfl) ?_ _
    have cS1 := cS w0 HS0.out
    have hbn := below_step HS0.out (below_new w0 (.cells #[.int .i64 k] 3))
    have cS2 := cS _ hbn
    have HNW := Lib.hid (show RE kc (w0.alloc (.cells #[.int .i64 k] 3)) (some ⟨w0.heap.size, 0, none⟩) 1 1 [k] from re_lit (f := kc) (e := 3) kc_len w0 [k] (by simp))
    have HBN := Lib.hid hbn
    have HO1 := Lib.hid (HO.out.fr (Fr.ofBelow hbn (fun _ => False)) (fun _ _ h => h))
    rw [HSV.out] at HO1
    clear hS0 hbn cS
    go_wp2_with (at_builtin; go_must (refine wpList_append_fr kcT kc_len kc_one rfl _ _ rfl _ (s 2 i) rfl HO1.out _ _ _ [k] rfl HNW.out (by have := HXL.out; omega) (by have := HXL.out; omega) ?_; intro v2 w2 hown2 hg2 hf2; obtain ⟨A2, c2, hv2, _⟩ := hown2.re (by rw [List.length_append]; have := HXL.out; show (s 2 i).length + 1 ≤ _; omega); subst hv2; have hap := H.out.append HBN.out 2 i (by omega) HIL.out hown2 (by rw [HSV.out]; exact hg2) (fun b hb => by rw [HSV.out]; exact hf2 b hb) (129 + i) (by omega); rw [HSV.out] at hap; have HAP := Lib.hid hap.1; obtain ⟨_, x1, x2⟩ := hap; clear hown2 hg2 hf2 cS1 cS2))
    (try simp only [Exit.inBlock, Exit.then])
    refine bodyPost_ret (results_none rfl _ _ _) rfl ?_
    refine ⟨rfl, ?_⟩
    rw [HP.out]
    have hz := HAP.out
    rw [List.length_append] at hz
    exact hz
  · by_cases e4 : (X : Int) / 16777216 = 0
    · obtain ⟨i, hi⟩ : ∃ i : Nat, i = ixw a 3 := ⟨_, rfl⟩
      have hil : i < 64 := by rw [hi]; have := (pos_lt now a).2; show ixw a 3 < 64; unfold ixw; simp; omega
      have hi1 : ((a : Int) / 262144).tmod 64 = (i : Int) := by
        rw [hi, Int.tmod_eq_emod_of_nonneg (by omega)]
        unfold ixw
        simp
      have hi2 : (i : Int) < 64 := by omega
      have HI := Lib.hid hi
      have HP := Lib.hid (show pos now a = (3, i) by unfold pos; rw [hlv, hi])
      have hxs := hlen 3 i
      have hown0 := h.r.own 3 i (by omega) hil
      have cS : ∀ w', Below w.heap.size w w' → w'.cell? ⟨g, 193 + i, none⟩ = some (sv (3 * 64 + i)) := fun w' hb => by
        have := (h.below hb).c.cSlot (3 * 64 + i) (by omega)
        rwa [show 1 + (3 * 64 + i) = 193 + i by omega] at this
      have hnil := hown0.re (by omega)
      obtain ⟨As, cap, hsv, _⟩ := hnil
      rw [hsv] at cS
      have HSV := Lib.hid hsv
      have H := Lib.hid h
      have HO := Lib.hid hown0
      have HIL := Lib.hid hil
      generalize hxl : (s 3 i).length = n at *
      have HXL := Lib.hid hxl
      clear h hi hlv hil hown0 hsv hxl hlen
      go_enter Tryd.func27, Tryd.ntmps27
      go_wp2_with fail
      refine wp_loop_rounds 4 ?_
      rw [rounds_succ]
      go_wp2_with fail
      rw [rounds_succ]
      go_wp2_with fail
      rw [rounds_succ]
      go_wp2_with fail
      rw [rounds_succ]
      go_upto_region 5 with fail
      have hS0 := below_drew1 w
      have HS0 := Lib.hid hS0
      refine wp_region_held (S := fun w' => Below w.heap.size w w') (by kernel_rfl) ?_
      change wpAnyH _ _ _ _ _ _ _ _ w.drew
      generalize w.drew = w0 at *
      change wpAnyH _ _ _ _ _ 12 (Array.replicate 12 false) _ _
      refine wpAnyH_take (i := 0) (oi := ?_) (v := ?_) ?_ (by kernel_rfl) (by kernel_rfl) (by kernel_rfl) ?_ ?_ (by assumption) ?_
      rotate_left 2; (simp only [List.getElem?_toArray, List.getElem?_cons_succ, List.getElem?_cons_zero]; rfl)
      rotate_left; (first | (refine .inl ⟨by rfl, ?_⟩; intro w9 hS9; go_simp; try with_reducible rfl) | (refine .inr ⟨by rfl, ?_⟩; with_reducible rfl))
      rotate_left; (intro _ _ _ h9; exact h9)
      try simp only [Act.put, List.setIfInBounds_toArray, List.set_cons_zero, List.set_cons_succ]
      refine wpAnyH_take (i := 1) (oi := ?_) (v := ?_) ?_ (by kernel_rfl) (by kernel_rfl) (by kernel_rfl) ?_ ?_ (by assumption) ?_
      rotate_left 2; (simp only [List.getElem?_toArray, List.getElem?_cons_succ, List.getElem?_cons_zero]; rfl)
      rotate_left; (first | (refine .inl ⟨by rfl, ?_⟩; intro w9 hS9; go_simp; try with_reducible rfl) | (refine .inr ⟨by rfl, ?_⟩; with_reducible rfl))
      rotate_left; (intro _ _ _ h9; exact h9)
      try simp only [Act.put, List.setIfInBounds_toArray, List.set_cons_zero, List.set_cons_succ]
      refine wpAnyH_take (i := 2) (oi := ?_) (v := ?_) ?_ (by kernel_rfl) (by kernel_rfl) (by kernel_rfl) ?_ ?_ (by assumption) ?_
      rotate_left 2; (simp only [List.getElem?_toArray, List.getElem?_cons_succ, List.getElem?_cons_zero]; rfl)
      rotate_left; (first | (refine .inl ⟨by rfl, ?_⟩; intro w9 hS9; go_simp; try with_reducible rfl) | (refine .inr ⟨by rfl, ?_⟩; with_reducible rfl))
      rotate_left; (intro _ _ _ h9; exact h9)
      try simp only [Act.put, List.setIfInBounds_toArray, List.set_cons_zero, List.set_cons_succ]
      refine wpAnyH_take (i := 3) (oi := ?_) (v := ?_) ?_ (by kernel_rfl) (by kernel_rfl) (by kernel_rfl) ?_ ?_ (by assumption) ?_
      rotate_left 2; (simp only [List.getElem?_toArray, List.getElem?_cons_succ, List.getElem?_cons_zero]; rfl)
      rotate_left; (first | (refine .inl ⟨by rfl, ?_⟩; intro w9 hS9; go_simp; try with_reducible rfl) | (refine .inr ⟨by rfl, ?_⟩; with_reducible rfl))
      rotate_left; (intro _ _ _ h9; exact h9)
      try simp only [Act.put, List.setIfInBounds_toArray, List.set_cons_zero, List.set_cons_succ]
      refine wpAnyH_take (i := 4) (oi := ?_) (v := ?_) ?_ (by kernel_rfl) (by kernel_rfl) (by kernel_rfl) ?_ ?_ (by assumption) ?_
      rotate_left 2; (simp only [List.getElem?_toArray, List.getElem?_cons_succ, List.getElem?_cons_zero]; rfl)
      rotate_left; (first | (refine .inl ⟨by rfl, ?_⟩; intro w9 hS9; go_simp; try with_reducible rfl) | (refine .inr ⟨by rfl, ?_⟩; with_reducible rfl))
      rotate_left; (intro _ _ _ h9; exact h9)
      try simp only [Act.put, List.setIfInBounds_toArray, List.set_cons_zero, List.set_cons_succ]
      refine wpAnyH_take (i := 5) (oi := ?_) (v := ?_) ?_ (by kernel_rfl) (by kernel_rfl) (by kernel_rfl) ?_ ?_ (by assumption) ?_
      rotate_left 2; (simp only [List.getElem?_toArray, List.getElem?_cons_succ, List.getElem?_cons_zero]; rfl)
      rotate_left; (first | (refine .inl ⟨by rfl, ?_⟩; intro w9 hS9; go_simp; try with_reducible rfl) | (refine .inr ⟨by rfl, ?_⟩; with_reducible rfl))
      rotate_left; (intro _ _ _ h9; exact h9)
      try simp only [Act.put, List.setIfInBounds_toArray, List.set_cons_zero, List.set_cons_succ]
      refine wpAnyH_take (i := 6) (oi := ?_) (v := ?_) ?_ (by kernel_rfl) (by kernel_rfl) (by kernel_rfl) ?_ ?_ (by assumption) ?_
      rotate_left 2; (simp only [List.getElem?_toArray, List.getElem?_cons_succ, List.getElem?_cons_zero]; rfl)
      rotate_left; (first | (refine .inl ⟨by rfl, ?_⟩; intro w9 hS9; go_simp; try with_reducible rfl) | (refine .inr ⟨by rfl, ?_⟩; with_reducible rfl))
      rotate_left; (intro _ _ _ h9; exact h9)
      try simp only [Act.put, List.setIfInBounds_toArray, List.set_cons_zero, List.set_cons_succ]
      refine wpAnyH_take (i := 7) (oi := ?_) (v := ?_) ?_ (by kernel_rfl) (by kernel_rfl) (by kernel_rfl) ?_ ?_ (by assumption) ?_
      rotate_left 2; (simp only [List.getElem?_toArray, List.getElem?_cons_succ, List.getElem?_cons_zero]; rfl)
      rotate_left; (first | (refine .inl ⟨by rfl, ?_⟩; intro w9 hS9; go_simp; try with_reducible rfl) | (refine .inr ⟨by rfl, ?_⟩; with_reducible rfl))
      rotate_left; (intro _ _ _ h9; exact h9)
      try simp only [Act.put, List.setIfInBounds_toArray, List.set_cons_zero, List.set_cons_succ]
      refine wpAnyH_take (i := 8) (oi := ?_) (v := ?_) ?_ (by kernel_rfl) (by kernel_rfl) (by kernel_rfl) ?_ ?_ (by assumption) ?_
      rotate_left 2; (simp only [List.getElem?_toArray, List.getElem?_cons_succ, List.getElem?_cons_zero]; rfl)
      rotate_left; (first | (refine .inl ⟨by rfl, ?_⟩; intro w9 hS9; go_simp; try with_reducible rfl) | (refine .inr ⟨by rfl, ?_⟩; with_reducible rfl))
      rotate_left; (intro _ _ _ h9; exact h9)
      try simp only [Act.put, List.setIfInBounds_toArray, List.set_cons_zero, List.set_cons_succ]
      refine wpAnyH_take (i := 9) (oi := ?_) (v := ?_) ?_ (by kernel_rfl) (by kernel_rfl) (by kernel_rfl) ?_ ?_ (by assumption) ?_
      rotate_left 2; (simp only [List.getElem?_toArray, List.getElem?_cons_succ, List.getElem?_cons_zero]; rfl)
      rotate_left; (first | (refine .inl ⟨by rfl, ?_⟩; intro w9 hS9; go_simp; try with_reducible rfl) | (refine .inr ⟨by rfl, ?_⟩; with_reducible rfl))
      rotate_left; (intro _ _ _ h9; exact h9)
      try simp only [Act.put, List.setIfInBounds_toArray, List.set_cons_zero, List.set_cons_succ]
      refine wpAnyH_take (i := 10) (oi := ?_) (v := ?_) ?_ (by kernel_rfl) (by kernel_rfl) (by kernel_rfl) ?_ ?_ (by assumption) ?_
      rotate_left 2; (simp only [List.getElem?_toArray, List.getElem?_cons_succ, List.getElem?_cons_zero]; rfl)
      rotate_left; (first | (refine .inl ⟨by rfl, ?_⟩; intro w9 hS9; go_simp; try with_reducible rfl) | (refine .inr ⟨by rfl, ?_⟩; with_reducible rfl))
      rotate_left; (intro _ _ _ h9; exact h9)
      try simp only [Act.put, List.setIfInBounds_toArray, List.set_cons_zero, List.set_cons_succ]
      refine wpAnyH_take (i := 11) (oi := ?_) (v := ?_) ?_ (by kernel_rfl) (by kernel_rfl) (by kernel_rfl) ?_ ?_ (by assumption) ?_
      rotate_left 2; (simp only [List.getElem?_toArray, List.getElem?_cons_succ, List.getElem?_cons_zero]; rfl)
      rotate_left; (first | (refine .inl ⟨by rfl, ?_⟩; intro w9 hS9; go_simp; try with_reducible rfl) | (refine .inr ⟨by rfl, ?_⟩; with_reducible rfl))
      rotate_left; (intro _ _ _ h9; exact h9)
      try simp only [Act.put, List.setIfInBounds_toArray, List.set_cons_zero, List.set_cons_succ]
      refine wpAnyH_done (by kernel_rfl) ?_ _
      have cS1 := cS w0 HS0.out
      have hbn := below_step HS0.out (below_new w0 (.cells #[.int .i64 k] 3))
      have cS2 := cS _ hbn
      have HNW := Lib.hid (show RE kc (w0.alloc (.cells #[.int .i64 k] 3)) (some ⟨w0.heap.size, 0, none⟩) 1 1 [k] from re_lit (f := kc) (e := 3) kc_len w0 [k] (by simp))
      have HBN := Lib.hid hbn
      have HO1 := Lib.hid (HO.out.fr (Fr.ofBelow hbn (fun _ => False)) (fun _ _ h => h))
      rw [HSV.out] at HO1
      clear hS0 hbn cS
      go_wp2_with (at_builtin; go_must (refine wpList_append_fr kcT kc_len kc_one rfl _ _ rfl _ (s 3 i) rfl HO1.out _ _ _ [k] rfl HNW.out (by have := HXL.out; omega) (by have := HXL.out; omega) ?_; intro v2 w2 hown2 hg2 hf2; obtain ⟨A2, c2, hv2, _⟩ := hown2.re (by rw [List.length_append]; have := HXL.out; show (s 3 i).length + 1 ≤ _; omega); subst hv2; have hap := H.out.append HBN.out 3 i (by omega) HIL.out hown2 (by rw [HSV.out]; exact hg2) (fun b hb => by rw [HSV.out]; exact hf2 b hb) (193 + i) (by omega); rw [HSV.out] at hap; have HAP := Lib.hid hap.1; obtain ⟨_, x1, x2⟩ := hap; clear hown2 hg2 hf2 cS1 cS2))
      (try simp only [Exit.inBlock, Exit.then])
      refine bodyPost_ret (results_none rfl _ _ _) rfl ?_
      refine ⟨rfl, ?_⟩
      rw [HP.out]
      have hz := HAP.out
      rw [List.length_append] at hz
      exact hz
    · obtain ⟨i, hi⟩ : ∃ i : Nat, i = ixw a 3 := ⟨_, rfl⟩
      have hil : i < 64 := by rw [hi]; have := (pos_lt now a).2; show ixw a 3 < 64; unfold ixw; simp; omega
      have hi1 : ((a : Int) / 262144).tmod 64 = (i : Int) := by
        rw [hi, Int.tmod_eq_emod_of_nonneg (by omega)]
        unfold ixw
        simp
      have hi2 : (i : Int) < 64 := by omega
      have HI := Lib.hid hi
      have HP := Lib.hid (show pos now a = (3, i) by unfold pos; rw [hlv, hi])
      have hxs := hlen 3 i
      have hown0 := h.r.own 3 i (by omega) hil
      have cS : ∀ w', Below w.heap.size w w' → w'.cell? ⟨g, 193 + i, none⟩ = some (sv (3 * 64 + i)) := fun w' hb => by
        have := (h.below hb).c.cSlot (3 * 64 + i) (by omega)
        rwa [show 1 + (3 * 64 + i) = 193 + i by omega] at this
      have hnil := hown0.re (by omega)
      obtain ⟨As, cap, hsv, _⟩ := hnil
      rw [hsv] at cS
      have HSV := Lib.hid hsv
      have H := Lib.hid h
      have HO := Lib.hid hown0
      have HIL := Lib.hid hil
      generalize hxl : (s 3 i).length = n at *
      have HXL := Lib.hid hxl
      clear h hi hlv hil hown0 hsv hxl hlen
      go_enter Tryd.func27, Tryd.ntmps27
      go_wp2_with fail
      refine wp_loop_rounds 4 ?_
      rw [rounds_succ]
      go_wp2_with fail
      rw [rounds_succ]
      go_wp2_with fail
      rw [rounds_succ]
      go_wp2_with fail
      rw [rounds_succ]
      go_upto_region 5 with fail
      have hS0 := below_drew1 w
      have HS0 := Lib.hid hS0
      refine wp_region_held (S := fun w' => Below w.heap.size w w') (by kernel_rfl) ?_
      change wpAnyH _ _ _ _ _ _ _ _ w.drew
      generalize w.drew = w0 at *
      change wpAnyH _ _ _ _ _ 12 (Array.replicate 12 false) _ _
      refine wpAnyH_take (i := 0) (oi := ?_) (v := ?_) ?_ (by kernel_rfl) (by kernel_rfl) (by kernel_rfl) ?_ ?_ (by assumption) ?_
      rotate_left 2; (simp only [List.getElem?_toArray, List.getElem?_cons_succ, List.getElem?_cons_zero]; rfl)
      rotate_left; (first | (refine .inl ⟨by rfl, ?_⟩; intro w9 hS9; go_simp; try with_reducible rfl) | (refine .inr ⟨by rfl, ?_⟩; with_reducible rfl))
      rotate_left; (intro _ _ _ h9; exact h9)
      try simp only [Act.put, List.setIfInBounds_toArray, List.set_cons_zero, List.set_cons_succ]
      refine wpAnyH_take (i := 1) (oi := ?_) (v := ?_) ?_ (by kernel_rfl) (by kernel_rfl) (by kernel_rfl) ?_ ?_ (by assumption) ?_
      rotate_left 2; (simp only [List.getElem?_toArray, List.getElem?_cons_succ, List.getElem?_cons_zero]; rfl)
      rotate_left; (first | (refine .inl ⟨by rfl, ?_⟩; intro w9 hS9; go_simp; try with_reducible rfl) | (refine .inr ⟨by rfl, ?_⟩; with_reducible rfl))
      rotate_left; (intro _ _ _ h9; exact h9)
      try simp only [Act.put, List.setIfInBounds_toArray, List.set_cons_zero, List.set_cons_succ]
      refine wpAnyH_take (i := 2) (oi := ?_) (v := ?_) ?_ (by kernel_rfl) (by kernel_rfl) (by kernel_rfl) ?_ ?_ (by assumption) ?_
      rotate_left 2; (simp only [List.getElem?_toArray, List.getElem?_cons_succ, List.getElem?_cons_zero]; rfl)
      rotate_left; (first | (refine .inl ⟨by rfl, ?_⟩; intro w9 hS9; go_simp; try with_reducible rfl) | (refine .inr ⟨by rfl, ?_⟩; with_reducible rfl))
      rotate_left; (intro _ _ _ h9; exact h9)
      try simp only [Act.put, List.setIfInBounds_toArray, List.set_cons_zero, List.set_cons_succ]
      refine wpAnyH_take (i := 3) (oi := ?_) (v := ?_) ?_ (by kernel_rfl) (by kernel_rfl) (by kernel_rfl) ?_ ?_ (by assumption) ?_
      rotate_left 2; (simp only [List.getElem?_toArray, List.getElem?_cons_succ, List.getElem?_cons_zero]; rfl)
      rotate_left; (first | (refine .inl ⟨by rfl, ?_⟩; intro w9 hS9; go_simp; try with_reducible rfl) | (refine .inr ⟨by rfl, ?_⟩; with_reducible rfl))
      rotate_left; (intro _ _ _ h9; exact h9)
      try simp only [Act.put, List.setIfInBounds_toArray, List.set_cons_zero, List.set_cons_succ]
      refine wpAnyH_take (i := 4) (oi := ?_) (v := ?_) ?_ (by kernel_rfl) (by kernel_rfl) (by kernel_rfl) ?_ ?_ (by assumption) ?_
      rotate_left 2; (simp only [List.getElem?_toArray, List.getElem?_cons_succ, List.getElem?_cons_zero]; rfl)
      rotate_left; (first | (refine .inl ⟨by rfl, ?_⟩; intro w9 hS9; go_simp; try with_reducible rfl) | (refine .inr ⟨by rfl, ?_⟩; with_reducible rfl))
      rotate_left; (intro _ _ _ h9; exact h9)
      try simp only [Act.put, List.setIfInBounds_toArray, List.set_cons_zero, List.set_cons_succ]
      refine wpAnyH_take (i := 5) (oi := ?_) (v := ?_) ?_ (by kernel_rfl) (by kernel_rfl) (by kernel_rfl) ?_ ?_ (by assumption) ?_
      rotate_left 2; (simp only [List.getElem?_toArray, List.getElem?_cons_succ, List.getElem?_cons_zero]; rfl)
      rotate_left; (first | (refine .inl ⟨by rfl, ?_⟩; intro w9 hS9; go_simp; try with_reducible rfl) | (refine .inr ⟨by rfl, ?_⟩; with_reducible rfl))
      rotate_left; (intro _ _ _ h9; exact h9)
      try simp only [Act.put, List.setIfInBounds_toArray, List.set_cons_zero, List.set_cons_succ]
      refine wpAnyH_take (i := 6) (oi := ?_) (v := ?_) ?_ (by kernel_rfl) (by kernel_rfl) (by kernel_rfl) ?_ ?_ (by assumption) ?_
      rotate_left 2; (simp only [List.getElem?_toArray, List.getElem?_cons_succ, List.getElem?_cons_zero]; rfl)
      rotate_left; (first | (refine .inl ⟨by rfl, ?_⟩; intro w9 hS9; go_simp; try with_reducible rfl) | (refine .inr ⟨by rfl, ?_⟩; with_reducible rfl))
      rotate_left; (intro _ _ _ h9; exact h9)
      try simp only [Act.put, List.setIfInBounds_toArray, List.set_cons_zero, List.set_cons_succ]
      refine wpAnyH_take (i := 7) (oi := ?_) (v := ?_) ?_ (by kernel_rfl) (by kernel_rfl) (by kernel_rfl) ?_ ?_ (by assumption) ?_
      rotate_left 2; (simp only [List.getElem?_toArray, List.getElem?_cons_succ, List.getElem?_cons_zero]; rfl)
      rotate_left; (first | (refine .inl ⟨by rfl, ?_⟩; intro w9 hS9; go_simp; try with_reducible rfl) | (refine .inr ⟨by rfl, ?_⟩; with_reducible rfl))
      rotate_left; (intro _ _ _ h9; exact h9)
      try simp only [Act.put, List.setIfInBounds_toArray, List.set_cons_zero, List.set_cons_succ]
      refine wpAnyH_take (i := 8) (oi := ?_) (v := ?_) ?_ (by kernel_rfl) (by kernel_rfl) (by kernel_rfl) ?_ ?_ (by assumption) ?_
      rotate_left 2; (simp only [List.getElem?_toArray, List.getElem?_cons_succ, List.getElem?_cons_zero]; rfl)
      rotate_left; (first | (refine .inl ⟨by rfl, ?_⟩; intro w9 hS9; go_simp; try with_reducible rfl) | (refine .inr ⟨by rfl, ?_⟩; with_reducible rfl))
      rotate_left; (intro _ _ _ h9; exact h9)
      try simp only [Act.put, List.setIfInBounds_toArray, List.set_cons_zero, List.set_cons_succ]
      refine wpAnyH_take (i := 9) (oi := ?_) (v := ?_) ?_ (by kernel_rfl) (by kernel_rfl) (by kernel_rfl) ?_ ?_ (by assumption) ?_
      rotate_left 2; (simp only [List.getElem?_toArray, List.getElem?_cons_succ, List.getElem?_cons_zero]; rfl)
      rotate_left; (first | (refine .inl ⟨by rfl, ?_⟩; intro w9 hS9; go_simp; try with_reducible rfl) | (refine .inr ⟨by rfl, ?_⟩; with_reducible rfl))
      rotate_left; (intro _ _ _ h9; exact h9)
      try simp only [Act.put, List.setIfInBounds_toArray, List.set_cons_zero, List.set_cons_succ]
      refine wpAnyH_take (i := 10) (oi := ?_) (v := ?_) ?_ (by kernel_rfl) (by kernel_rfl) (by kernel_rfl) ?_ ?_ (by assumption) ?_
      rotate_left 2; (simp only [List.getElem?_toArray, List.getElem?_cons_succ, List.getElem?_cons_zero]; rfl)
      rotate_left; (first | (refine .inl ⟨by rfl, ?_⟩; intro w9 hS9; go_simp; try with_reducible rfl) | (refine .inr ⟨by rfl, ?_⟩; with_reducible rfl))
      rotate_left; (intro _ _ _ h9; exact h9)
      try simp only [Act.put, List.setIfInBounds_toArray, List.set_cons_zero, List.set_cons_succ]
      refine wpAnyH_take (i := 11) (oi := ?_) (v := ?_) ?_ (by kernel_rfl) (by kernel_rfl) (by kernel_rfl) ?_ ?_ (by assumption) ?_
      rotate_left 2; (simp only [List.getElem?_toArray, List.getElem?_cons_succ, List.getElem?_cons_zero]; rfl)
      rotate_left; (first | (refine .inl ⟨by rfl, ?_⟩; intro w9 hS9; go_simp; try with_reducible rfl) | (refine .inr ⟨by rfl, ?_⟩; with_reducible rfl))
      rotate_left; (intro _ _ _ h9; exact h9)
      try simp only [Act.put, List.setIfInBounds_toArray, List.set_cons_zero, List.set_cons_succ]
      refine wpAnyH_done (by kernel_rfl) ?_ _
      have cS1 := cS w0 HS0.out
      have hbn := below_step HS0.out (below_new w0 (.cells #[.int .i64 k] 3))
      have cS2 := cS _ hbn
      have HNW := Lib.hid (show RE kc (w0.alloc (.cells #[.int .i64 k] 3)) (some ⟨w0.heap.size, 0, none⟩) 1 1 [k] from re_lit (f := kc) (e := 3) kc_len w0 [k] (by simp))
      have HBN := Lib.hid hbn
      have HO1 := Lib.hid (HO.out.fr (Fr.ofBelow hbn (fun _ => False)) (fun _ _ h => h))
      rw [HSV.out] at HO1
      clear hS0 hbn cS
      go_wp2_with (at_builtin; go_must (refine wpList_append_fr kcT kc_len kc_one rfl _ _ rfl _ (s 3 i) rfl HO1.out _ _ _ [k] rfl HNW.out (by have := HXL.out; omega) (by have := HXL.out; omega) ?_; intro v2 w2 hown2 hg2 hf2; obtain ⟨A2, c2, hv2, _⟩ := hown2.re (by rw [List.length_append]; have := HXL.out; show (s 3 i).length + 1 ≤ _; omega); subst hv2; have hap := H.out.append HBN.out 3 i (by omega) HIL.out hown2 (by rw [HSV.out]; exact hg2) (fun b hb => by rw [HSV.out]; exact hf2 b hb) (193 + i) (by omega); rw [HSV.out] at hap; have HAP := Lib.hid hap.1; obtain ⟨_, x1, x2⟩ := hap; clear hown2 hg2 hf2 cS1 cS2))
      (try simp only [Exit.inBlock, Exit.then])
      refine bodyPost_ret (results_none rfl _ _ _) rfl ?_
      refine ⟨rfl, ?_⟩
      rw [HP.out]
      have hz := HAP.out
      rw [List.length_append] at hz
      exact hz
end Go.Proofs.YtpfoocndohpbbaaDoor
