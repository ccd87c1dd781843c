/- wheel: Cancel. -/
import Derived.Test.YtpfoocndohpbbaaDoorWhDel
namespace Go.Proofs.YtpfoocndohpbbaaDoor
open Go Go.RowKit
set_option linter.unusedVariables false
set_option linter.unusedSimpArgs false
theorem setCell_self {w : World} {g i : Nat} {cs : Array Value} {t : TypeId} {fr : Nat × Nat} {v : Value} (h : w.heap[g]? = some (.cells cs t fr)) (hv : cs[i]? = some v) : w.setCell ⟨g, i, none⟩ v = w := by
  have hlt := (Array.getElem?_eq_some_iff.mp h).1
  have e : (w.setCell ⟨g, i, none⟩ v).heap = w.heap := by
    apply Array.ext_getElem?
    intro j
    by_cases hj : g = j
    · subst hj
      simp [World.setCell, Array.getElem?_modify, h]
      obtain ⟨hi, rfl⟩ := Array.getElem?_eq_some_iff.mp hv
      simp [Array.setIfInBounds]
    · simp [World.setCell, Array.getElem?_modify, hj]
  have e2 : w.setCell ⟨g, i, none⟩ v = { w with heap := (w.setCell ⟨g, i, none⟩ v).heap } := rfl
  rw [e2, e]
theorem WhX.off {w : World} {g gp P : Nat} {pool : List Tw} {s : Slots} {now cnt : Nat} {sv : Nat → Value} {cs : Array Value} (h : WhX w g gp P pool s now cnt sv cs) (k : Nat) (hk : k < P) (t : Tw) (ht : pool[k]? = some t) :
    WhX (w.setCell ⟨gp, k * 4, none⟩ (.bool false)) g gp P (pool.set k { t with armed := false }) s now cnt sv cs ∧ Fr (fun b => b = gp) w (w.setCell ⟨gp, k * 4, none⟩ (.bool false)) := by
  have h1 := h.setPool k hk { t with armed := false }
  obtain ⟨y0, y1, y2, y3⟩ := pool_cells h.pl h.len h.few k hk
  have hv : pool[k]'(by rw [h.len]; exact hk) = t := by
    rw [List.getElem?_eq_getElem (by rw [h.len]; exact hk)] at ht
    exact Option.some.inj ht
  rw [hv] at y1 y2 y3
  rcases h.pl.2 with ⟨e', _⟩ | ⟨g', cap, cur, e', hb9, hh, _⟩
  · cases e'
  · cases e'
    rw [cell_of_row w gp _ _ _ _ hh] at y1 y2 y3
    have hs := set_heap hh (k * 4) (.bool false)
    have e1 : (cur.setIfInBounds (k * 4) (.bool false))[k * 4 + 1]? = some (.int .i64 t.tag) := by rw [Array.getElem?_setIfInBounds_ne (by omega)]; exact y1
    have e2 : (cur.setIfInBounds (k * 4) (.bool false))[k * 4 + 2]? = some (.int .i64 t.at_) := by rw [Array.getElem?_setIfInBounds_ne (by omega)]; exact y2
    have e3 : (cur.setIfInBounds (k * 4) (.bool false))[k * 4 + 3]? = some (.int .i64 t.ord) := by rw [Array.getElem?_setIfInBounds_ne (by omega)]; exact y3
    have he : w.setCells gp (k * 4) (tmc { t with armed := false }) = w.setCell ⟨gp, k * 4, none⟩ (.bool false) := by
      show (((w.setCell ⟨gp, k * 4, none⟩ (.bool false)).setCell ⟨gp, k * 4 + 1, none⟩ (.int .i64 t.tag)).setCell ⟨gp, k * 4 + 1 + 1, none⟩ (.int .i64 t.at_)).setCell ⟨gp, k * 4 + 1 + 1 + 1, none⟩ (.int .i64 t.ord) = _
      rw [setCell_self hs e1, setCell_self hs e2, setCell_self hs e3]
    rw [he] at h1
    exact h1
def dropN (s : Slots) (k a m : Nat) : Slots := fun l i => if l < m ∧ i = ixw a l then (s l i).filter (fun x => x ≠ k) else s l i
theorem dropN_zero (s : Slots) (k a : Nat) : dropN s k a 0 = s := by
  funext l i
  unfold dropN
  rw [if_neg (by omega)]
theorem dropN_succ (s : Slots) (k a m : Nat) : dropN s k a (m + 1) = up (dropN s k a m) m (ixw a m) ((dropN s k a m m (ixw a m)).filter (fun x => x ≠ k)) := by
  funext l i
  by_cases e : l = m ∧ i = ixw a m
  · obtain ⟨rfl, rfl⟩ := e
    rw [up_same]
    unfold dropN
    rw [if_pos ⟨by omega, rfl⟩, if_neg (by omega)]
  · rw [up_other _ _ _ _ _ _ e]
    unfold dropN
    by_cases h1 : l < m ∧ i = ixw a l
    · rw [if_pos h1, if_pos ⟨by omega, h1.2⟩]
    · rw [if_neg h1, if_neg]
      rintro ⟨h2, h3⟩
      have : l = m := by
        by_cases hl : l < m
        · exact absurd ⟨hl, h3⟩ h1
        · omega
      subst this
      exact e ⟨rfl, h3⟩
/-- How far a Cancel has come. -/
structure CK (w : World) (g gp P : Nat) (sv : Nat → Value) (pool : List Tw) (s : Slots) (now cnt B k : Nat) (wr : World) : Prop where
  ex : ∃ sv' cs', WhX wr g gp P pool s now cnt sv' cs' ∧ (∀ b, foot g gp sv' b → foot g gp sv b ∨ w.heap.size ≤ b) ∧ ¬ foot g gp sv' B
  fr : Fr (foot g gp sv) w wr
  box : wr.cell? ⟨B, 0, none⟩ = some (.int .i64 k)
set_option maxHeartbeats 4000000 in
theorem wh_cancel_no (g gp P : Nat) (pool : List Tw) (s : Slots) (now cnt : Nat) (k : Int) (sv : Nat → Value) (cs : Array Value) (w : World) (h : WhX w g gp P pool s now cnt sv cs) (hb : thereB pool k = false) :
    Calls Tryd.prog 15 #[.pointer (some ⟨g, 0, none⟩), .int .i64 k] w fun e w' => e = .returned (.bool false) ∧ Below w.heap.size w w' := by
  have hbn := below_new w (.cells #[.int .i64 k] 3)
  have hth := Lib.hid (wh_there g gp P pool s now cnt k sv cs _ (h.below hbn))
  have HB := Lib.hid hbn
  clear h hbn
  go_enter Tryd.func15, Tryd.ntmps15
  go_wp2_with fail
  refine hth.out.mono ?_
  rintro e w1 ⟨rfl, rfl⟩
  rw [hb]
  go_wp2_with fail
  go_ret
  exact ⟨rfl, HB.out⟩
set_option maxHeartbeats 16000000 in
set_option maxRecDepth 100000 in
theorem wh_cancel (g gp P : Nat) (pool : List Tw) (s : Slots) (now cnt : Nat) (k : Nat) (t : Tw) (sv : Nat → Value) (cs : Array Value) (w : World) (h : WhX w g gp P pool s now cnt sv cs) (ht : pool[k]? = some t) (hta : t.armed = true) (hlen : ∀ l i, (s l i).length ≤ 1000) (hat : t.at_ ≤ 2000000000) :
    Calls Tryd.prog 15 #[.pointer (some ⟨g, 0, none⟩), .int .i64 k] w fun e w' => e = .returned (.bool true) ∧ WhTo w w' g gp P sv (pool.set k { t with armed := false }) (drop4 s k t.at_) now cnt := by
  obtain ⟨a, ha⟩ : ∃ a, a = t.at_ := ⟨_, rfl⟩
  rw [← ha] at hat ⊢
  have HAE := Lib.hid ha
  clear ha
  have hkl : k < pool.length := (List.getElem?_eq_some_iff.1 ht).1
  have hkP : k < P := by rw [← h.len]; exact hkl
  have hk' : (k : Int) < P := by omega
  have hth : thereB pool (k : Int) = true := by
    rw [thereB_nat pool k hkl]
    rw [List.getElem?_eq_getElem hkl] at ht
    rw [Option.some.inj ht]; exact hta
  have hbn := below_new w (.cells #[.int .i64 k] 3)
  have hbox : (w.alloc (.cells #[.int .i64 k] 3)).cell? ⟨w.heap.size, 0, none⟩ = some (.int .i64 k) := by simp
  have HX0 := Lib.hid h
  have HX1 := Lib.hid (h.below hbn)
  have HBX1 := Lib.hid hbox
  have HTH := Lib.hid (wh_there g gp P pool s now cnt k sv cs _ (h.below hbn))
  have HBN := Lib.hid hbn
  have HKP := Lib.hid hkP
  have HT := Lib.hid ht
  have HLN := Lib.hid hlen
  have HNB := Lib.hid (show ¬ foot g gp sv w.heap.size from fun hb => by have := h.lt _ hb; omega)
  have v0 : IntKind.i64.wrap 0 = 0 := by decide
  have v6 : IntKind.i64.wrap 6 = 6 := by decide
  have v12 : IntKind.i64.wrap 12 = 12 := by decide
  have v18 : IntKind.i64.wrap 18 = 18 := by decide
  clear h hbn ht hlen hkl hkP
  go_enter Tryd.func15, Tryd.ntmps15
  go_wp2_with fail
  refine HTH.out.mono ?_
  rintro e w9 ⟨rfl, rfl⟩
  rw [hth]
  generalize w.alloc (.cells #[.int .i64 k] 3) = w1 at *
  obtain ⟨B, hB⟩ : ∃ B, B = w.heap.size := ⟨_, rfl⟩
  rw [← hB] at HBX1 HNB ⊢
  have HBE := Lib.hid hB
  clear hB hbox
  go_upto_region 3 with fail
  have x0 : ∀ w', Below w1.heap.size w1 w' → w'.cell? ⟨g, 0, none⟩ = some (.slice (some ⟨gp, 0, none⟩) P P) := fun w' hb => (HX1.out.below hb).c.cPool
  have x1 : ∀ w', Below w1.heap.size w1 w' → w'.cell? ⟨B, 0, none⟩ = some (.int .i64 k) := fun w' hb => (hb.cell (p := ⟨B, 0, none⟩) (World.block_lt_of_cell? w1 _ HBX1.out)).trans HBX1.out
  have hS0 := below_drew1 w1
  refine wp_region_piv 7 (fun w' => Below w1.heap.size w1 w') (by kernel_rfl) ?_
  change wpAnyP _ _ _ _ _ _ _ _ _ w1.drew
  have HX2 := Lib.hid (HX1.out.below hS0)
  have HS0 := Lib.hid hS0
  have HBX2 := Lib.hid (x1 _ hS0)
  generalize w1.drew = w2 at *
  change wpAnyP _ _ _ _ 7 _ 8 (Array.replicate 8 false) _ _
  refine wpAnyP_read (i := 0) (oi := ?_) (v := ?_) ?_ (by kernel_rfl) (by kernel_rfl) (by kernel_rfl) (by rfl) (by kernel_rfl) ?_ ?_ (by kernel_rfl) (by assumption) ?_
  rotate_left 2; (simp only [List.getElem?_toArray, List.getElem?_cons_succ, List.getElem?_cons_zero]; rfl)
  rotate_left; (first | (refine .inl ⟨by rfl, ?_⟩; intro w9 hS9; go_simp; try with_reducible rfl) | (refine .inr ⟨by rfl, ?_⟩; with_reducible rfl))
  rotate_left; (intro _ _ _ h9; exact h9)
  try simp only [Act.put, List.setIfInBounds_toArray, List.set_cons_zero, List.set_cons_succ]
  refine wpAnyP_read (i := 1) (oi := ?_) (v := ?_) ?_ (by kernel_rfl) (by kernel_rfl) (by kernel_rfl) (by rfl) (by kernel_rfl) ?_ ?_ (by kernel_rfl) (by assumption) ?_
  rotate_left 2; (simp only [List.getElem?_toArray, List.getElem?_cons_succ, List.getElem?_cons_zero]; rfl)
  rotate_left; (first | (refine .inl ⟨by rfl, ?_⟩; intro w9 hS9; go_simp; try with_reducible rfl) | (refine .inr ⟨by rfl, ?_⟩; with_reducible rfl))
  rotate_left; (intro _ _ _ h9; exact h9)
  try simp only [Act.put, List.setIfInBounds_toArray, List.set_cons_zero, List.set_cons_succ]
  refine wpAnyP_read (i := 2) (oi := ?_) (v := ?_) ?_ (by kernel_rfl) (by kernel_rfl) (by kernel_rfl) (by rfl) (by kernel_rfl) ?_ ?_ (by kernel_rfl) (by assumption) ?_
  rotate_left 2; (simp only [List.getElem?_toArray, List.getElem?_cons_succ, List.getElem?_cons_zero]; rfl)
  rotate_left; (first | (refine .inl ⟨by rfl, ?_⟩; intro w9 hS9; go_simp; try with_reducible rfl) | (refine .inr ⟨by rfl, ?_⟩; with_reducible rfl))
  rotate_left; (intro _ _ _ h9; exact h9)
  try simp only [Act.put, List.setIfInBounds_toArray, List.set_cons_zero, List.set_cons_succ]
  refine wpAnyP_read (i := 3) (oi := ?_) (v := ?_) ?_ (by kernel_rfl) (by kernel_rfl) (by kernel_rfl) (by rfl) (by kernel_rfl) ?_ ?_ (by kernel_rfl) (by assumption) ?_
  rotate_left 2; (simp only [List.getElem?_toArray, List.getElem?_cons_succ, List.getElem?_cons_zero]; rfl)
  rotate_left; (first | (refine .inl ⟨by rfl, ?_⟩; intro w9 hS9; go_simp; try with_reducible rfl) | (refine .inr ⟨by rfl, ?_⟩; with_reducible rfl))
  rotate_left; (intro _ _ _ h9; exact h9)
  try simp only [Act.put, List.setIfInBounds_toArray, List.set_cons_zero, List.set_cons_succ]
  refine wpAnyP_read (i := 4) (oi := ?_) (v := ?_) ?_ (by kernel_rfl) (by kernel_rfl) (by kernel_rfl) (by rfl) (by kernel_rfl) ?_ ?_ (by kernel_rfl) (by assumption) ?_
  rotate_left 2; (simp only [List.getElem?_toArray, List.getElem?_cons_succ, List.getElem?_cons_zero]; rfl)
  rotate_left; (first | (refine .inl ⟨by rfl, ?_⟩; intro w9 hS9; go_simp; try with_reducible rfl) | (refine .inr ⟨by rfl, ?_⟩; with_reducible rfl))
  rotate_left; (intro _ _ _ h9; exact h9)
  try simp only [Act.put, List.setIfInBounds_toArray, List.set_cons_zero, List.set_cons_succ]
  refine wpAnyP_read (i := 5) (oi := ?_) (v := ?_) ?_ (by kernel_rfl) (by kernel_rfl) (by kernel_rfl) (by rfl) (by kernel_rfl) ?_ ?_ (by kernel_rfl) (by assumption) ?_
  rotate_left 2; (simp only [List.getElem?_toArray, List.getElem?_cons_succ, List.getElem?_cons_zero]; rfl)
  rotate_left; (first | (refine .inl ⟨by rfl, ?_⟩; intro w9 hS9; go_simp; try with_reducible rfl) | (refine .inr ⟨by rfl, ?_⟩; with_reducible rfl))
  rotate_left; (intro _ _ _ h9; exact h9)
  try simp only [Act.put, List.setIfInBounds_toArray, List.set_cons_zero, List.set_cons_succ]
  refine wpAnyP_read (i := 6) (oi := ?_) (v := ?_) ?_ (by kernel_rfl) (by kernel_rfl) (by kernel_rfl) (by rfl) (by kernel_rfl) ?_ ?_ (by kernel_rfl) (by assumption) ?_
  rotate_left 2; (simp only [List.getElem?_toArray, List.getElem?_cons_succ, List.getElem?_cons_zero]; rfl)
  rotate_left; (first | (refine .inl ⟨by rfl, ?_⟩; intro w9 hS9; go_simp; try with_reducible rfl) | (refine .inr ⟨by rfl, ?_⟩; with_reducible rfl))
  rotate_left; (intro _ _ _ h9; exact h9)
  try simp only [Act.put, List.setIfInBounds_toArray, List.set_cons_zero, List.set_cons_succ]
  obtain ⟨y0, _, _, _⟩ := pool_cells HX2.out.pl HX2.out.len HX2.out.few k HKP.out
  have yf : ∀ i, w2.frozen? ⟨gp, i, none⟩ = false := fun i => by
    rcases HX2.out.pl.2 with ⟨e', _⟩ | ⟨g', cap, cur, e', hb9, hh, _⟩
    · cases e'
    · cases e'
      simp [World.frozen?, hh]
  refine wpAnyP_one (i := 7) (by kernel_rfl) rfl (fun K9 hK9 => ?_)
  go_simp
  refine hK9.out _ _ (fun h9 => nomatch (show true = false from h9)) ?_
  refine wpAnyP_done (by kernel_rfl) ?_ _
  obtain ⟨hx3, hf3⟩ := HX2.out.off k HKP.out t HT.out
  have HX3 := Lib.hid hx3
  have hgpB : gp ≠ B := fun e => HNB.out (.inr (.inl e.symm))
  have HBX3 := Lib.hid (show (w2.setCell ⟨gp, k * 4, none⟩ (.bool false)).cell? ⟨B, 0, none⟩ = some (.int .i64 k) by
    rw [World.cell?_setCell_far _ _ _ _ (fun e => hgpB e)]; exact HBX2.out)
  have HF3 := Lib.hid (show Fr (foot g gp sv) w (w2.setCell ⟨gp, k * 4, none⟩ (.bool false)) from ((Fr.ofBelow HBN.out _).trans (Fr.ofBelow HS0.out (fun _ => False)) (fun b e => e.elim)).trans hf3 (fun b e => .inl (.inr (.inl e))))
  clear hx3 hf3 x0 x1 y0 yf hS0 hgpB
  generalize w2.setCell ⟨gp, k * 4, none⟩ (.bool false) = w3 at *
  have hck : CK w g gp P sv (pool.set k { t with armed := false }) (dropN s k a 0) now cnt B k w3 := ⟨⟨sv, cs, by rw [dropN_zero]; exact HX3.out, fun b hb => .inl hb, HNB.out⟩, HF3.out, HBX3.out⟩
  go_wp2_with fail
  go_loopw [18] (fun s18 wr => ∃ m : Nat, m ≤ 4 ∧ s18 = .int .i64 m ∧ CK w g gp P sv (pool.set k { t with armed := false }) (dropN s k a m) now cnt B k wr) (fun s18 _ => 4 - (intOf s18).toNat)
  case atStart => exact ⟨0, by omega, rfl, hck⟩
  case round =>
    obtain ⟨m, hm, rfl, ⟨⟨sv', cs', hx, hft, hno⟩, hfr, hbx⟩⟩ := hrel
    have HX := Lib.hid hx
    have HFT := Lib.hid hft
    have HNO := Lib.hid hno
    have HFR := Lib.hid hfr
    have HBOX := Lib.hid hbx
    have HAT := Lib.hid (show ((pool.set k { t with armed := false })[k]'(by rw [HX.out.len]; exact HKP.out)).at_ = a by
      rw [List.getElem_set_self]; exact HAE.out.symm)
    have HLEN := Lib.hid (show ∀ l i, (dropN s k a m l i).length ≤ 1000 from fun l i => by
      unfold dropN
      split
      · exact Nat.le_trans (List.length_filter_le _ _) (HLN.out l i)
      · exact HLN.out l i)
    clear hx hft hno hfr hbx hck
    have hm5 : m = 0 ∨ m = 1 ∨ m = 2 ∨ m = 3 ∨ m = 4 := by omega
    clear hm
    rcases hm5 with rfl | rfl | rfl | rfl | rfl
    · obtain ⟨i, hi⟩ : ∃ i : Nat, i = ixw a 0 := ⟨_, rfl⟩
      have hil : i < 64 := by rw [hi]; unfold ixw; simp; omega
      have hi1 : (a : Int).tmod 64 = (i : Int) := by
        rw [hi, Int.tmod_eq_emod_of_nonneg (by omega)]
        unfold ixw
        simp
      have hi2 : (i : Int) < 64 := by omega
      have HI := Lib.hid hi
      have hown := HX.out.r.own 0 i (by omega) hil
      obtain ⟨As, cap, hsv, _⟩ := hown.re (by have := HLEN.out 0 i; omega)
      have x0 : ∀ w', Below wr.heap.size wr w' → w'.cell? ⟨g, 0, none⟩ = some (.slice (some ⟨gp, 0, none⟩) P P) := fun w' hb => (HX.out.below hb).c.cPool
      have x1 : ∀ w', Below wr.heap.size wr w' → w'.cell? ⟨B, 0, none⟩ = some (.int .i64 k) := fun w' hb => (hb.cell (p := ⟨B, 0, none⟩) (World.block_lt_of_cell? wr _ HBOX.out)).trans HBOX.out
      have x2 : ∀ w', Below wr.heap.size wr w' → w'.cell? ⟨gp, k * 4 + 2, none⟩ = some (.int .i64 a) := fun w' hb => by
        have := (pool_cells (HX.out.below hb).pl (HX.out.below hb).len (HX.out.below hb).few k HKP.out).2.2.1
        rw [this, HAT.out]
      have HS := Lib.hid hsv
      have HIL := Lib.hid hil
      have hS0 := below_drew1 wr
      have hXd := HX.out.below hS0
      have cS := hXd.c.cSlot (0 * 64 + i) (by omega)
      rw [show 1 + (0 * 64 + i) = 1 + i by omega, hsv] at cS
      have hbd := x1 _ hS0
      have HXD := Lib.hid hXd
      have HBD := Lib.hid hbd
      have HSZ := Lib.hid hS0.size
      generalize hxl : (dropN s k a 0 0 i).length = n at *
      have HXL := Lib.hid hxl
      clear hi hil hown hsv hXd hbd hxl
      go_upto_region 7 with fail
      refine wp_region_held (S := fun w' => Below wr.heap.size wr w') (by kernel_rfl) ?_
      change wpAnyH _ _ _ _ _ _ _ _ wr.drew
      have HD := Lib.hid (below_drew1 wr)
      generalize wr.drew = w5 at *
      change wpAnyH _ _ _ _ _ 19 (Array.replicate 19 false) _ _
      refine wpAnyH_take (i := 0) (oi := ?_) (v := ?_) ?_ (by kernel_rfl) (by kernel_rfl) (by kernel_rfl) ?_ ?_ (by assumption) ?_
      rotate_left 2; (simp only [List.getElem?_toArray, List.getElem?_cons_succ, List.getElem?_cons_zero]; rfl)
      rotate_left; (first | (refine .inl ⟨by rfl, ?_⟩; intro w9 hS9; go_simp; try with_reducible rfl) | (refine .inr ⟨by rfl, ?_⟩; with_reducible rfl))
      rotate_left; (intro _ _ _ h9; exact h9)
      try simp only [Act.put, List.setIfInBounds_toArray, List.set_cons_zero, List.set_cons_succ]
      refine wpAnyH_take (i := 1) (oi := ?_) (v := ?_) ?_ (by kernel_rfl) (by kernel_rfl) (by kernel_rfl) ?_ ?_ (by assumption) ?_
      rotate_left 2; (simp only [List.getElem?_toArray, List.getElem?_cons_succ, List.getElem?_cons_zero]; rfl)
      rotate_left; (first | (refine .inl ⟨by rfl, ?_⟩; intro w9 hS9; go_simp; try with_reducible rfl) | (refine .inr ⟨by rfl, ?_⟩; with_reducible rfl))
      rotate_left; (intro _ _ _ h9; exact h9)
      try simp only [Act.put, List.setIfInBounds_toArray, List.set_cons_zero, List.set_cons_succ]
      refine wpAnyH_take (i := 2) (oi := ?_) (v := ?_) ?_ (by kernel_rfl) (by kernel_rfl) (by kernel_rfl) ?_ ?_ (by assumption) ?_
      rotate_left 2; (simp only [List.getElem?_toArray, List.getElem?_cons_succ, List.getElem?_cons_zero]; rfl)
      rotate_left; (first | (refine .inl ⟨by rfl, ?_⟩; intro w9 hS9; go_simp; try with_reducible rfl) | (refine .inr ⟨by rfl, ?_⟩; with_reducible rfl))
      rotate_left; (intro _ _ _ h9; exact h9)
      try simp only [Act.put, List.setIfInBounds_toArray, List.set_cons_zero, List.set_cons_succ]
      refine wpAnyH_take (i := 3) (oi := ?_) (v := ?_) ?_ (by kernel_rfl) (by kernel_rfl) (by kernel_rfl) ?_ ?_ (by assumption) ?_
      rotate_left 2; (simp only [List.getElem?_toArray, List.getElem?_cons_succ, List.getElem?_cons_zero]; rfl)
      rotate_left; (first | (refine .inl ⟨by rfl, ?_⟩; intro w9 hS9; go_simp; try with_reducible rfl) | (refine .inr ⟨by rfl, ?_⟩; with_reducible rfl))
      rotate_left; (intro _ _ _ h9; exact h9)
      try simp only [Act.put, List.setIfInBounds_toArray, List.set_cons_zero, List.set_cons_succ]
      refine wpAnyH_take (i := 4) (oi := ?_) (v := ?_) ?_ (by kernel_rfl) (by kernel_rfl) (by kernel_rfl) ?_ ?_ (by assumption) ?_
      rotate_left 2; (simp only [List.getElem?_toArray, List.getElem?_cons_succ, List.getElem?_cons_zero]; rfl)
      rotate_left; (first | (refine .inl ⟨by rfl, ?_⟩; intro w9 hS9; go_simp; try with_reducible rfl) | (refine .inr ⟨by rfl, ?_⟩; with_reducible rfl))
      rotate_left; (intro _ _ _ h9; exact h9)
      try simp only [Act.put, List.setIfInBounds_toArray, List.set_cons_zero, List.set_cons_succ]
      refine wpAnyH_take (i := 5) (oi := ?_) (v := ?_) ?_ (by kernel_rfl) (by kernel_rfl) (by kernel_rfl) ?_ ?_ (by assumption) ?_
      rotate_left 2; (simp only [List.getElem?_toArray, List.getElem?_cons_succ, List.getElem?_cons_zero]; rfl)
      rotate_left; (first | (refine .inl ⟨by rfl, ?_⟩; intro w9 hS9; go_simp; try with_reducible rfl) | (refine .inr ⟨by rfl, ?_⟩; with_reducible rfl))
      rotate_left; (intro _ _ _ h9; exact h9)
      try simp only [Act.put, List.setIfInBounds_toArray, List.set_cons_zero, List.set_cons_succ]
      refine wpAnyH_take (i := 6) (oi := ?_) (v := ?_) ?_ (by kernel_rfl) (by kernel_rfl) (by kernel_rfl) ?_ ?_ (by assumption) ?_
      rotate_left 2; (simp only [List.getElem?_toArray, List.getElem?_cons_succ, List.getElem?_cons_zero]; rfl)
      rotate_left; (first | (refine .inl ⟨by rfl, ?_⟩; intro w9 hS9; go_simp; try with_reducible rfl) | (refine .inr ⟨by rfl, ?_⟩; with_reducible rfl))
      rotate_left; (intro _ _ _ h9; exact h9)
      try simp only [Act.put, List.setIfInBounds_toArray, List.set_cons_zero, List.set_cons_succ]
      refine wpAnyH_take (i := 7) (oi := ?_) (v := ?_) ?_ (by kernel_rfl) (by kernel_rfl) (by kernel_rfl) ?_ ?_ (by assumption) ?_
      rotate_left 2; (simp only [List.getElem?_toArray, List.getElem?_cons_succ, List.getElem?_cons_zero]; rfl)
      rotate_left; (first | (refine .inl ⟨by rfl, ?_⟩; intro w9 hS9; go_simp; try with_reducible rfl) | (refine .inr ⟨by rfl, ?_⟩; with_reducible rfl))
      rotate_left; (intro _ _ _ h9; exact h9)
      try simp only [Act.put, List.setIfInBounds_toArray, List.set_cons_zero, List.set_cons_succ]
      refine wpAnyH_take (i := 8) (oi := ?_) (v := ?_) ?_ (by kernel_rfl) (by kernel_rfl) (by kernel_rfl) ?_ ?_ (by assumption) ?_
      rotate_left 2; (simp only [List.getElem?_toArray, List.getElem?_cons_succ, List.getElem?_cons_zero]; rfl)
      rotate_left; (first | (refine .inl ⟨by rfl, ?_⟩; intro w9 hS9; go_simp; try with_reducible rfl) | (refine .inr ⟨by rfl, ?_⟩; with_reducible rfl))
      rotate_left; (intro _ _ _ h9; exact h9)
      try simp only [Act.put, List.setIfInBounds_toArray, List.set_cons_zero, List.set_cons_succ]
      refine wpAnyH_take (i := 9) (oi := ?_) (v := ?_) ?_ (by kernel_rfl) (by kernel_rfl) (by kernel_rfl) ?_ ?_ (by assumption) ?_
      rotate_left 2; (simp only [List.getElem?_toArray, List.getElem?_cons_succ, List.getElem?_cons_zero]; rfl)
      rotate_left; (first | (refine .inl ⟨by rfl, ?_⟩; intro w9 hS9; go_simp; try with_reducible rfl) | (refine .inr ⟨by rfl, ?_⟩; with_reducible rfl))
      rotate_left; (intro _ _ _ h9; exact h9)
      try simp only [Act.put, List.setIfInBounds_toArray, List.set_cons_zero, List.set_cons_succ]
      refine wpAnyH_take (i := 10) (oi := ?_) (v := ?_) ?_ (by kernel_rfl) (by kernel_rfl) (by kernel_rfl) ?_ ?_ (by assumption) ?_
      rotate_left 2; (simp only [List.getElem?_toArray, List.getElem?_cons_succ, List.getElem?_cons_zero]; rfl)
      rotate_left; (first | (refine .inl ⟨by rfl, ?_⟩; intro w9 hS9; go_simp; try with_reducible rfl) | (refine .inr ⟨by rfl, ?_⟩; with_reducible rfl))
      rotate_left; (intro _ _ _ h9; exact h9)
      try simp only [Act.put, List.setIfInBounds_toArray, List.set_cons_zero, List.set_cons_succ]
      refine wpAnyH_take (i := 11) (oi := ?_) (v := ?_) ?_ (by kernel_rfl) (by kernel_rfl) (by kernel_rfl) ?_ ?_ (by assumption) ?_
      rotate_left 2; (simp only [List.getElem?_toArray, List.getElem?_cons_succ, List.getElem?_cons_zero]; rfl)
      rotate_left; (first | (refine .inl ⟨by rfl, ?_⟩; intro w9 hS9; go_simp; try with_reducible rfl) | (refine .inr ⟨by rfl, ?_⟩; with_reducible rfl))
      rotate_left; (intro _ _ _ h9; exact h9)
      try simp only [Act.put, List.setIfInBounds_toArray, List.set_cons_zero, List.set_cons_succ]
      refine wpAnyH_take (i := 12) (oi := ?_) (v := ?_) ?_ (by kernel_rfl) (by kernel_rfl) (by kernel_rfl) ?_ ?_ (by assumption) ?_
      rotate_left 2; (simp only [List.getElem?_toArray, List.getElem?_cons_succ, List.getElem?_cons_zero]; rfl)
      rotate_left; (first | (refine .inl ⟨by rfl, ?_⟩; intro w9 hS9; go_simp; try with_reducible rfl) | (refine .inr ⟨by rfl, ?_⟩; with_reducible rfl))
      rotate_left; (intro _ _ _ h9; exact h9)
      try simp only [Act.put, List.setIfInBounds_toArray, List.set_cons_zero, List.set_cons_succ]
      refine wpAnyH_take (i := 13) (oi := ?_) (v := ?_) ?_ (by kernel_rfl) (by kernel_rfl) (by kernel_rfl) ?_ ?_ (by assumption) ?_
      rotate_left 2; (simp only [List.getElem?_toArray, List.getElem?_cons_succ, List.getElem?_cons_zero]; rfl)
      rotate_left; (first | (refine .inl ⟨by rfl, ?_⟩; intro w9 hS9; go_simp; try with_reducible rfl) | (refine .inr ⟨by rfl, ?_⟩; with_reducible rfl))
      rotate_left; (intro _ _ _ h9; exact h9)
      try simp only [Act.put, List.setIfInBounds_toArray, List.set_cons_zero, List.set_cons_succ]
      refine wpAnyH_take (i := 14) (oi := ?_) (v := ?_) ?_ (by kernel_rfl) (by kernel_rfl) (by kernel_rfl) ?_ ?_ (by assumption) ?_
      rotate_left 2; (simp only [List.getElem?_toArray, List.getElem?_cons_succ, List.getElem?_cons_zero]; rfl)
      rotate_left; (first | (refine .inl ⟨by rfl, ?_⟩; intro w9 hS9; go_simp; try with_reducible rfl) | (refine .inr ⟨by rfl, ?_⟩; with_reducible rfl))
      rotate_left; (intro _ _ _ h9; exact h9)
      try simp only [Act.put, List.setIfInBounds_toArray, List.set_cons_zero, List.set_cons_succ]
      refine wpAnyH_take (i := 15) (oi := ?_) (v := ?_) ?_ (by kernel_rfl) (by kernel_rfl) (by kernel_rfl) ?_ ?_ (by assumption) ?_
      rotate_left 2; (simp only [List.getElem?_toArray, List.getElem?_cons_succ, List.getElem?_cons_zero]; rfl)
      rotate_left; (first | (refine .inl ⟨by rfl, ?_⟩; intro w9 hS9; go_simp; try with_reducible rfl) | (refine .inr ⟨by rfl, ?_⟩; with_reducible rfl))
      rotate_left; (intro _ _ _ h9; exact h9)
      try simp only [Act.put, List.setIfInBounds_toArray, List.set_cons_zero, List.set_cons_succ]
      refine wpAnyH_take (i := 16) (oi := ?_) (v := ?_) ?_ (by kernel_rfl) (by kernel_rfl) (by kernel_rfl) ?_ ?_ (by assumption) ?_
      rotate_left 2; (simp only [List.getElem?_toArray, List.getElem?_cons_succ, List.getElem?_cons_zero]; rfl)
      rotate_left; (first | (refine .inl ⟨by rfl, ?_⟩; intro w9 hS9; go_simp; try with_reducible rfl) | (refine .inr ⟨by rfl, ?_⟩; with_reducible rfl))
      rotate_left; (intro _ _ _ h9; exact h9)
      try simp only [Act.put, List.setIfInBounds_toArray, List.set_cons_zero, List.set_cons_succ]
      refine wpAnyH_take (i := 17) (oi := ?_) (v := ?_) ?_ (by kernel_rfl) (by kernel_rfl) (by kernel_rfl) ?_ ?_ (by assumption) ?_
      rotate_left 2; (simp only [List.getElem?_toArray, List.getElem?_cons_succ, List.getElem?_cons_zero]; rfl)
      rotate_left; (first | (refine .inl ⟨by rfl, ?_⟩; intro w9 hS9; go_simp; try with_reducible rfl) | (refine .inr ⟨by rfl, ?_⟩; with_reducible rfl))
      rotate_left; (intro _ _ _ h9; exact h9)
      try simp only [Act.put, List.setIfInBounds_toArray, List.set_cons_zero, List.set_cons_succ]
      refine wpAnyH_take (i := 18) (oi := ?_) (v := ?_) ?_ (by kernel_rfl) (by kernel_rfl) (by kernel_rfl) ?_ ?_ (by assumption) ?_
      rotate_left 2; (simp only [List.getElem?_toArray, List.getElem?_cons_succ, List.getElem?_cons_zero]; rfl)
      rotate_left; (first | (refine .inl ⟨by rfl, ?_⟩; intro w9 hS9; go_simp; try with_reducible rfl) | (refine .inr ⟨by rfl, ?_⟩; with_reducible rfl))
      rotate_left; (intro _ _ _ h9; exact h9)
      try simp only [Act.put, List.setIfInBounds_toArray, List.set_cons_zero, List.set_cons_succ]
      refine wpAnyH_done (by kernel_rfl) ?_ _
      clear hS0 x0 x1 x2
      go_wp2_with fail
      have hrow := HXD.out.r.own 0 i (by omega) HIL.out
      rw [HS.out] at hrow
      refine (wh_del _ (dropN s k a 0 0 i) k B _ hrow (World.block_lt_of_cell? _ _ HBD.out) (fun e => HNO.out (.inr (.inr ⟨0 * 64 + i, by have := HIL.out; omega, by rw [HS.out]; exact e⟩))) HBD.out).mono ?_
      rintro e w6 ⟨⟨v6, rfl, hown6, hv6⟩, hg6⟩
      have hap := HXD.out.append (Below.refl _ _) 0 i (by omega) HIL.out hown6 (by rw [HS.out]; exact hg6) (fun b hb => .inl (by rw [HS.out, ← hv6]; exact hb)) (1 + i) (by omega)
      rw [HS.out] at hap
      have HAP := Lib.hid hap.1
      obtain ⟨_, z1, z2⟩ := hap
      have hbox6 : w6.cell? ⟨B, 0, none⟩ = some (.int .i64 k) := by
        have hfg := (Fr.ofGrown hg6)
        exact (hfg.cell (p := ⟨B, 0, none⟩) (World.block_lt_of_cell? _ _ HBD.out) (fun e => HNO.out (.inr (.inr ⟨0 * 64 + i, by have := HIL.out; omega, by rw [HS.out]; exact e.symm⟩)))).trans HBD.out
      have HB6 := Lib.hid hbox6
      have hgB : g ≠ B := fun e => HNO.out (.inl e.symm)
      have HGB := Lib.hid hgB
      obtain ⟨A6, c6, hv6e, _⟩ := hown6.re (by have h1 : ((dropN s k a 0 0 i).filter (fun x => x ≠ k)).length ≤ (dropN s k a 0 0 i).length := List.length_filter_le _ _; have := HXL.out; have := HLEN.out 0 i; omega)
      generalize ((dropN s k a 0 0 i).filter (fun x => x ≠ k)).length = n6 at *
      subst hv6e
      clear hrow hown6 hv6 hg6 hbox6 cS hgB
      go_wp2_with fail
      refine ⟨⟨1, by omega, by go_num, ?_⟩, by simp [intOf]⟩
      obtain ⟨⟨sv9, cs9, hx9, hft9⟩, hfr9⟩ := HAP.out
      refine ⟨⟨sv9, cs9, ?_, fun b hb => ?_, fun hb => ?_⟩, ?_, ?_⟩
      · rw [dropN_succ, ← HI.out]
        exact hx9
      · rcases hft9 b hb with h1 | h1
        · exact HFT.out b h1
        · have := HSZ.out; have := HFR.out.size; exact .inr (by omega)
      · rcases hft9 B hb with h1 | h1
        · exact HNO.out h1
        · have := World.block_lt_of_cell? _ _ HBD.out
          have h2 : B < w5.heap.size := this
          omega
      · exact (HFR.out.trans (Fr.ofBelow HD.out (fun _ => False)) (fun b e => e.elim)).trans hfr9 (fun b hb => HFT.out b hb |>.imp id id)
      · rw [World.cell?_setCell_far _ _ _ _ (fun e => HGB.out e)]
        exact HB6.out
    · obtain ⟨i, hi⟩ : ∃ i : Nat, i = ixw a 1 := ⟨_, rfl⟩
      have hil : i < 64 := by rw [hi]; unfold ixw; simp; omega
      have hi1 : ((a : Int) / 64).tmod 64 = (i : Int) := by
        rw [hi, Int.tmod_eq_emod_of_nonneg (by omega)]
        unfold ixw
        simp
      have hi2 : (i : Int) < 64 := by omega
      have HI := Lib.hid hi
      have hown := HX.out.r.own 1 i (by omega) hil
      obtain ⟨As, cap, hsv, _⟩ := hown.re (by have := HLEN.out 1 i; omega)
      have x0 : ∀ w', Below wr.heap.size wr w' → w'.cell? ⟨g, 0, none⟩ = some (.slice (some ⟨gp, 0, none⟩) P P) := fun w' hb => (HX.out.below hb).c.cPool
      have x1 : ∀ w', Below wr.heap.size wr w' → w'.cell? ⟨B, 0, none⟩ = some (.int .i64 k) := fun w' hb => (hb.cell (p := ⟨B, 0, none⟩) (World.block_lt_of_cell? wr _ HBOX.out)).trans HBOX.out
      have x2 : ∀ w', Below wr.heap.size wr w' → w'.cell? ⟨gp, k * 4 + 2, none⟩ = some (.int .i64 a) := fun w' hb => by
        have := (pool_cells (HX.out.below hb).pl (HX.out.below hb).len (HX.out.below hb).few k HKP.out).2.2.1
        rw [this, HAT.out]
      have HS := Lib.hid hsv
      have HIL := Lib.hid hil
      have hS0 := below_drew1 wr
      have hXd := HX.out.below hS0
      have cS := hXd.c.cSlot (1 * 64 + i) (by omega)
      rw [show 1 + (1 * 64 + i) = 65 + i by omega, hsv] at cS
      have hbd := x1 _ hS0
      have HXD := Lib.hid hXd
      have HBD := Lib.hid hbd
      have HSZ := Lib.hid hS0.size
      generalize hxl : (dropN s k a 1 1 i).length = n at *
      have HXL := Lib.hid hxl
      clear hi hil hown hsv hXd hbd hxl
      go_upto_region 7 with fail
      refine wp_region_held (S := fun w' => Below wr.heap.size wr w') (by kernel_rfl) ?_
      change wpAnyH _ _ _ _ _ _ _ _ wr.drew
      have HD := Lib.hid (below_drew1 wr)
      generalize wr.drew = w5 at *
      change wpAnyH _ _ _ _ _ 19 (Array.replicate 19 false) _ _
      refine wpAnyH_take (i := 0) (oi := ?_) (v := ?_) ?_ (by kernel_rfl) (by kernel_rfl) (by kernel_rfl) ?_ ?_ (by assumption) ?_
      rotate_left 2; (simp only [List.getElem?_toArray, List.getElem?_cons_succ, List.getElem?_cons_zero]; rfl)
      rotate_left; (first | (refine .inl ⟨by rfl, ?_⟩; intro w9 hS9; go_simp; try with_reducible rfl) | (refine .inr ⟨by rfl, ?_⟩; with_reducible rfl))
      rotate_left; (intro _ _ _ h9; exact h9)
      try simp only [Act.put, List.setIfInBounds_toArray, List.set_cons_zero, List.set_cons_succ]
      refine wpAnyH_take (i := 1) (oi := ?_) (v := ?_) ?_ (by kernel_rfl) (by kernel_rfl) (by kernel_rfl) ?_ ?_ (by assumption) ?_
      rotate_left 2; (simp only [List.getElem?_toArray, List.getElem?_cons_succ, List.getElem?_cons_zero]; rfl)
      rotate_left; (first | (refine .inl ⟨by rfl, ?_⟩; intro w9 hS9; go_simp; try with_reducible rfl) | (refine .inr ⟨by rfl, ?_⟩; with_reducible rfl))
      rotate_left; (intro _ _ _ h9; exact h9)
      try simp only [Act.put, List.setIfInBounds_toArray, List.set_cons_zero, List.set_cons_succ]
      refine wpAnyH_take (i := 2) (oi := ?_) (v := ?_) ?_ (by kernel_rfl) (by kernel_rfl) (by kernel_rfl) ?_ ?_ (by assumption) ?_
      rotate_left 2; (simp only [List.getElem?_toArray, List.getElem?_cons_succ, List.getElem?_cons_zero]; rfl)
      rotate_left; (first | (refine .inl ⟨by rfl, ?_⟩; intro w9 hS9; go_simp; try with_reducible rfl) | (refine .inr ⟨by rfl, ?_⟩; with_reducible rfl))
      rotate_left; (intro _ _ _ h9; exact h9)
      try simp only [Act.put, List.setIfInBounds_toArray, List.set_cons_zero, List.set_cons_succ]
      refine wpAnyH_take (i := 3) (oi := ?_) (v := ?_) ?_ (by kernel_rfl) (by kernel_rfl) (by kernel_rfl) ?_ ?_ (by assumption) ?_
      rotate_left 2; (simp only [List.getElem?_toArray, List.getElem?_cons_succ, List.getElem?_cons_zero]; rfl)
      rotate_left; (first | (refine .inl ⟨by rfl, ?_⟩; intro w9 hS9; go_simp; try with_reducible rfl) | (refine .inr ⟨by rfl, ?_⟩; with_reducible rfl))
      rotate_left; (intro _ _ _ h9; exact h9)
      try simp only [Act.put, List.setIfInBounds_toArray, List.set_cons_zero, List.set_cons_succ]
      refine wpAnyH_take (i := 4) (oi := ?_) (v := ?_) ?_ (by kernel_rfl) (by kernel_rfl) (by kernel_rfl) ?_ ?_ (by assumption) ?_
      rotate_left 2; (simp only [List.getElem?_toArray, List.getElem?_cons_succ, List.getElem?_cons_zero]; rfl)
      rotate_left; (first | (refine .inl ⟨by rfl, ?_⟩; intro w9 hS9; go_simp; try with_reducible rfl) | (refine .inr ⟨by rfl, ?_⟩; with_reducible rfl))
      rotate_left; (intro _ _ _ h9; exact h9)
      try simp only [Act.put, List.setIfInBounds_toArray, List.set_cons_zero, List.set_cons_succ]
      refine wpAnyH_take (i := 5) (oi := ?_) (v := ?_) ?_ (by kernel_rfl) (by kernel_rfl) (by kernel_rfl) ?_ ?_ (by assumption) ?_
      rotate_left 2; (simp only [List.getElem?_toArray, List.getElem?_cons_succ, List.getElem?_cons_zero]; rfl)
      rotate_left; (first | (refine .inl ⟨by rfl, ?_⟩; intro w9 hS9; go_simp; try with_reducible rfl) | (refine .inr ⟨by rfl, ?_⟩; with_reducible rfl))
      rotate_left; (intro _ _ _ h9; exact h9)
      try simp only [Act.put, List.setIfInBounds_toArray, List.set_cons_zero, List.set_cons_succ]
      refine wpAnyH_take (i := 6) (oi := ?_) (v := ?_) ?_ (by kernel_rfl) (by kernel_rfl) (by kernel_rfl) ?_ ?_ (by assumption) ?_
      rotate_left 2; (simp only [List.getElem?_toArray, List.getElem?_cons_succ, List.getElem?_cons_zero]; rfl)
      rotate_left; (first | (refine .inl ⟨by rfl, ?_⟩; intro w9 hS9; go_simp; try with_reducible rfl) | (refine .inr ⟨by rfl, ?_⟩; with_reducible rfl))
      rotate_left; (intro _ _ _ h9; exact h9)
      try simp only [Act.put, List.setIfInBounds_toArray, List.set_cons_zero, List.set_cons_succ]
      refine wpAnyH_take (i := 7) (oi := ?_) (v := ?_) ?_ (by kernel_rfl) (by kernel_rfl) (by kernel_rfl) ?_ ?_ (by assumption) ?_
      rotate_left 2; (simp only [List.getElem?_toArray, List.getElem?_cons_succ, List.getElem?_cons_zero]; rfl)
      rotate_left; (first | (refine .inl ⟨by rfl, ?_⟩; intro w9 hS9; go_simp; try with_reducible rfl) | (refine .inr ⟨by rfl, ?_⟩; with_reducible rfl))
      rotate_left; (intro _ _ _ h9; exact h9)
      try simp only [Act.put, List.setIfInBounds_toArray, List.set_cons_zero, List.set_cons_succ]
      refine wpAnyH_take (i := 8) (oi := ?_) (v := ?_) ?_ (by kernel_rfl) (by kernel_rfl) (by kernel_rfl) ?_ ?_ (by assumption) ?_
      rotate_left 2; (simp only [List.getElem?_toArray, List.getElem?_cons_succ, List.getElem?_cons_zero]; rfl)
      rotate_left; (first | (refine .inl ⟨by rfl, ?_⟩; intro w9 hS9; go_simp; try with_reducible rfl) | (refine .inr ⟨by rfl, ?_⟩; with_reducible rfl))
      rotate_left; (intro _ _ _ h9; exact h9)
      try simp only [Act.put, List.setIfInBounds_toArray, List.set_cons_zero, List.set_cons_succ]
      refine wpAnyH_take (i := 9) (oi := ?_) (v := ?_) ?_ (by kernel_rfl) (by kernel_rfl) (by kernel_rfl) ?_ ?_ (by assumption) ?_
      rotate_left 2; (simp only [List.getElem?_toArray, List.getElem?_cons_succ, List.getElem?_cons_zero]; rfl)
      rotate_left; (first | (refine .inl ⟨by rfl, ?_⟩; intro w9 hS9; go_simp; try with_reducible rfl) | (refine .inr ⟨by rfl, ?_⟩; with_reducible rfl))
      rotate_left; (intro _ _ _ h9; exact h9)
      try simp only [Act.put, List.setIfInBounds_toArray, List.set_cons_zero, List.set_cons_succ]
      refine wpAnyH_take (i := 10) (oi := ?_) (v := ?_) ?_ (by kernel_rfl) (by kernel_rfl) (by kernel_rfl) ?_ ?_ (by assumption) ?_
      rotate_left 2; (simp only [List.getElem?_toArray, List.getElem?_cons_succ, List.getElem?_cons_zero]; rfl)
      rotate_left; (first | (refine .inl ⟨by rfl, ?_⟩; intro w9 hS9; go_simp; try with_reducible rfl) | (refine .inr ⟨by rfl, ?_⟩; with_reducible rfl))
      rotate_left; (intro _ _ _ h9; exact h9)
      try simp only [Act.put, List.setIfInBounds_toArray, List.set_cons_zero, List.set_cons_succ]
      refine wpAnyH_take (i := 11) (oi := ?_) (v := ?_) ?_ (by kernel_rfl) (by kernel_rfl) (by kernel_rfl) ?_ ?_ (by assumption) ?_
      rotate_left 2; (simp only [List.getElem?_toArray, List.getElem?_cons_succ, List.getElem?_cons_zero]; rfl)
      rotate_left; (first | (refine .inl ⟨by rfl, ?_⟩; intro w9 hS9; go_simp; try with_reducible rfl) | (refine .inr ⟨by rfl, ?_⟩; with_reducible rfl))
      rotate_left; (intro _ _ _ h9; exact h9)
      try simp only [Act.put, List.setIfInBounds_toArray, List.set_cons_zero, List.set_cons_succ]
      refine wpAnyH_take (i := 12) (oi := ?_) (v := ?_) ?_ (by kernel_rfl) (by kernel_rfl) (by kernel_rfl) ?_ ?_ (by assumption) ?_
      rotate_left 2; (simp only [List.getElem?_toArray, List.getElem?_cons_succ, List.getElem?_cons_zero]; rfl)
      rotate_left; (first | (refine .inl ⟨by rfl, ?_⟩; intro w9 hS9; go_simp; try with_reducible rfl) | (refine .inr ⟨by rfl, ?_⟩; with_reducible rfl))
      rotate_left; (intro _ _ _ h9; exact h9)
      try simp only [Act.put, List.setIfInBounds_toArray, List.set_cons_zero, List.set_cons_succ]
      refine wpAnyH_take (i := 13) (oi := ?_) (v := ?_) ?_ (by kernel_rfl) (by kernel_rfl) (by kernel_rfl) ?_ ?_ (by assumption) ?_
      rotate_left 2; (simp only [List.getElem?_toArray, List.getElem?_cons_succ, List.getElem?_cons_zero]; rfl)
      rotate_left; (first | (refine .inl ⟨by rfl, ?_⟩; intro w9 hS9; go_simp; try with_reducible rfl) | (refine .inr ⟨by rfl, ?_⟩; with_reducible rfl))
      rotate_left; (intro _ _ _ h9; exact h9)
      try simp only [Act.put, List.setIfInBounds_toArray, List.set_cons_zero, List.set_cons_succ]
      refine wpAnyH_take (i := 14) (oi := ?_) (v := ?_) ?_ (by kernel_rfl) (by kernel_rfl) (by kernel_rfl) ?_ ?_ (by assumption) ?_
      rotate_left 2; (simp only [List.getElem?_toArray, List.getElem?_cons_succ, List.getElem?_cons_zero]; rfl)
      rotate_left; (first | (refine .inl ⟨by rfl, ?_⟩; intro w9 hS9; go_simp; try with_reducible rfl) | (refine .inr ⟨by rfl, ?_⟩; with_reducible rfl))
      rotate_left; (intro _ _ _ h9; exact h9)
      try simp only [Act.put, List.setIfInBounds_toArray, List.set_cons_zero, List.set_cons_succ]
      refine wpAnyH_take (i := 15) (oi := ?_) (v := ?_) ?_ (by kernel_rfl) (by kernel_rfl) (by kernel_rfl) ?_ ?_ (by assumption) ?_
      rotate_left 2; (simp only [List.getElem?_toArray, List.getElem?_cons_succ, List.getElem?_cons_zero]; rfl)
      rotate_left; (first | (refine .inl ⟨by rfl, ?_⟩; intro w9 hS9; go_simp; try with_reducible rfl) | (refine .inr ⟨by rfl, ?_⟩; with_reducible rfl))
      rotate_left; (intro _ _ _ h9; exact h9)
      try simp only [Act.put, List.setIfInBounds_toArray, List.set_cons_zero, List.set_cons_succ]
      refine wpAnyH_take (i := 16) (oi := ?_) (v := ?_) ?_ (by kernel_rfl) (by kernel_rfl) (by kernel_rfl) ?_ ?_ (by assumption) ?_
      rotate_left 2; (simp only [List.getElem?_toArray, List.getElem?_cons_succ, List.getElem?_cons_zero]; rfl)
      rotate_left; (first | (refine .inl ⟨by rfl, ?_⟩; intro w9 hS9; go_simp; try with_reducible rfl) | (refine .inr ⟨by rfl, ?_⟩; with_reducible rfl))
      rotate_left; (intro _ _ _ h9; exact h9)
      try simp only [Act.put, List.setIfInBounds_toArray, List.set_cons_zero, List.set_cons_succ]
      refine wpAnyH_take (i := 17) (oi := ?_) (v := ?_) ?_ (by kernel_rfl) (by kernel_rfl) (by kernel_rfl) ?_ ?_ (by assumption) ?_
      rotate_left 2; (simp only [List.getElem?_toArray, List.getElem?_cons_succ, List.getElem?_cons_zero]; rfl)
      rotate_left; (first | (refine .inl ⟨by rfl, ?_⟩; intro w9 hS9; go_simp; try with_reducible rfl) | (refine .inr ⟨by rfl, ?_⟩; with_reducible rfl))
      rotate_left; (intro _ _ _ h9; exact h9)
      try simp only [Act.put, List.setIfInBounds_toArray, List.set_cons_zero, List.set_cons_succ]
      refine wpAnyH_take (i := 18) (oi := ?_) (v := ?_) ?_ (by kernel_rfl) (by kernel_rfl) (by kernel_rfl) ?_ ?_ (by assumption) ?_
      rotate_left 2; (simp only [List.getElem?_toArray, List.getElem?_cons_succ, List.getElem?_cons_zero]; rfl)
      rotate_left; (first | (refine .inl ⟨by rfl, ?_⟩; intro w9 hS9; go_simp; try with_reducible rfl) | (refine .inr ⟨by rfl, ?_⟩; with_reducible rfl))
      rotate_left; (intro _ _ _ h9; exact h9)
      try simp only [Act.put, List.setIfInBounds_toArray, List.set_cons_zero, List.set_cons_succ]
      refine wpAnyH_done (by kernel_rfl) ?_ _
      clear hS0 x0 x1 x2
      go_wp2_with fail
      have hrow := HXD.out.r.own 1 i (by omega) HIL.out
      rw [HS.out] at hrow
      refine (wh_del _ (dropN s k a 1 1 i) k B _ hrow (World.block_lt_of_cell? _ _ HBD.out) (fun e => HNO.out (.inr (.inr ⟨1 * 64 + i, by have := HIL.out; omega, by rw [HS.out]; exact e⟩))) HBD.out).mono ?_
      rintro e w6 ⟨⟨v6, rfl, hown6, hv6⟩, hg6⟩
      have hap := HXD.out.append (Below.refl _ _) 1 i (by omega) HIL.out hown6 (by rw [HS.out]; exact hg6) (fun b hb => .inl (by rw [HS.out, ← hv6]; exact hb)) (65 + i) (by omega)
      rw [HS.out] at hap
      have HAP := Lib.hid hap.1
      obtain ⟨_, z1, z2⟩ := hap
      have hbox6 : w6.cell? ⟨B, 0, none⟩ = some (.int .i64 k) := by
        have hfg := (Fr.ofGrown hg6)
        exact (hfg.cell (p := ⟨B, 0, none⟩) (World.block_lt_of_cell? _ _ HBD.out) (fun e => HNO.out (.inr (.inr ⟨1 * 64 + i, by have := HIL.out; omega, by rw [HS.out]; exact e.symm⟩)))).trans HBD.out
      have HB6 := Lib.hid hbox6
      have hgB : g ≠ B := fun e => HNO.out (.inl e.symm)
      have HGB := Lib.hid hgB
      obtain ⟨A6, c6, hv6e, _⟩ := hown6.re (by have h1 : ((dropN s k a 1 1 i).filter (fun x => x ≠ k)).length ≤ (dropN s k a 1 1 i).length := List.length_filter_le _ _; have := HXL.out; have := HLEN.out 1 i; omega)
      generalize ((dropN s k a 1 1 i).filter (fun x => x ≠ k)).length = n6 at *
      subst hv6e
      clear hrow hown6 hv6 hg6 hbox6 cS hgB
      go_wp2_with fail
      refine ⟨⟨2, by omega, by go_num, ?_⟩, by simp [intOf]⟩
      obtain ⟨⟨sv9, cs9, hx9, hft9⟩, hfr9⟩ := HAP.out
      refine ⟨⟨sv9, cs9, ?_, fun b hb => ?_, fun hb => ?_⟩, ?_, ?_⟩
      · rw [dropN_succ, ← HI.out]
        exact hx9
      · rcases hft9 b hb with h1 | h1
        · exact HFT.out b h1
        · have := HSZ.out; have := HFR.out.size; exact .inr (by omega)
      · rcases hft9 B hb with h1 | h1
        · exact HNO.out h1
        · have := World.block_lt_of_cell? _ _ HBD.out
          have h2 : B < w5.heap.size := this
          omega
      · exact (HFR.out.trans (Fr.ofBelow HD.out (fun _ => False)) (fun b e => e.elim)).trans hfr9 (fun b hb => HFT.out b hb |>.imp id id)
      · rw [World.cell?_setCell_far _ _ _ _ (fun e => HGB.out e)]
        exact HB6.out
    · obtain ⟨i, hi⟩ : ∃ i : Nat, i = ixw a 2 := ⟨_, rfl⟩
      have hil : i < 64 := by rw [hi]; unfold ixw; simp; omega
      have hi1 : ((a : Int) / 4096).tmod 64 = (i : Int) := by
        rw [hi, Int.tmod_eq_emod_of_nonneg (by omega)]
        unfold ixw
        simp
      have hi2 : (i : Int) < 64 := by omega
      have HI := Lib.hid hi
      have hown := HX.out.r.own 2 i (by omega) hil
      obtain ⟨As, cap, hsv, _⟩ := hown.re (by have := HLEN.out 2 i; omega)
      have x0 : ∀ w', Below wr.heap.size wr w' → w'.cell? ⟨g, 0, none⟩ = some (.slice (some ⟨gp, 0, none⟩) P P) := fun w' hb => (HX.out.below hb).c.cPool
      have x1 : ∀ w', Below wr.heap.size wr w' → w'.cell? ⟨B, 0, none⟩ = some (.int .i64 k) := fun w' hb => (hb.cell (p := ⟨B, 0, none⟩) (World.block_lt_of_cell? wr _ HBOX.out)).trans HBOX.out
      have x2 : ∀ w', Below wr.heap.size wr w' → w'.cell? ⟨gp, k * 4 + 2, none⟩ = some (.int .i64 a) := fun w' hb => by
        have := (pool_cells (HX.out.below hb).pl (HX.out.below hb).len (HX.out.below hb).few k HKP.out).2.2.1
        rw [this, HAT.out]
      have HS := Lib.hid hsv
      have HIL := Lib.hid hil
      have hS0 := below_drew1 wr
      have hXd := HX.out.below hS0
      have cS := hXd.c.cSlot (2 * 64 + i) (by omega)
      rw [show 1 + (2 * 64 + i) = 129 + i by omega, hsv] at cS
      have hbd := x1 _ hS0
      have HXD := Lib.hid hXd
      have HBD := Lib.hid hbd
      have HSZ := Lib.hid hS0.size
      generalize hxl : (dropN s k a 2 2 i).length = n at *
      have HXL := Lib.hid hxl
      clear hi hil hown hsv hXd hbd hxl
      go_upto_region 7 with fail
      refine wp_region_held (S := fun w' => Below wr.heap.size wr w') (by kernel_rfl) ?_
      change wpAnyH _ _ _ _ _ _ _ _ wr.drew
      have HD := Lib.hid (below_drew1 wr)
      generalize wr.drew = w5 at *
      change wpAnyH _ _ _ _ _ 19 (Array.replicate 19 false) _ _
      refine wpAnyH_take (i := 0) (oi := ?_) (v := ?_) ?_ (by kernel_rfl) (by kernel_rfl) (by kernel_rfl) ?_ ?_ (by assumption) ?_
      rotate_left 2; (simp only [List.getElem?_toArray, List.getElem?_cons_succ, List.getElem?_cons_zero]; rfl)
      rotate_left; (first | (refine .inl ⟨by rfl, ?_⟩; intro w9 hS9; go_simp; try with_reducible rfl) | (refine .inr ⟨by rfl, ?_⟩; with_reducible rfl))
      rotate_left; (intro _ _ _ h9; exact h9)
      try simp only [Act.put, List.setIfInBounds_toArray, List.set_cons_zero, List.set_cons_succ]
      refine wpAnyH_take (i := 1) (oi := ?_) (v := ?_) ?_ (by kernel_rfl) (by kernel_rfl) (by kernel_rfl) ?_ ?_ (by assumption) ?_
      rotate_left 2; (simp only [List.getElem?_toArray, List.getElem?_cons_succ, List.getElem?_cons_zero]; rfl)
      rotate_left; (first | (refine .inl ⟨by rfl, ?_⟩; intro w9 hS9; go_simp; try with_reducible rfl) | (refine .inr ⟨by rfl, ?_⟩; with_reducible rfl))
      rotate_left; (intro _ _ _ h9; exact h9)
      try simp only [Act.put, List.setIfInBounds_toArray, List.set_cons_zero, List.set_cons_succ]
      refine wpAnyH_take (i := 2) (oi := ?_) (v := ?_) ?_ (by kernel_rfl) (by kernel_rfl) (by kernel_rfl) ?_ ?_ (by assumption) ?_
      rotate_left 2; (simp only [List.getElem?_toArray, List.getElem?_cons_succ, List.getElem?_cons_zero]; rfl)
      rotate_left; (first | (refine .inl ⟨by rfl, ?_⟩; intro w9 hS9; go_simp; try with_reducible rfl) | (refine .inr ⟨by rfl, ?_⟩; with_reducible rfl))
      rotate_left; (intro _ _ _ h9; exact h9)
      try simp only [Act.put, List.setIfInBounds_toArray, List.set_cons_zero, List.set_cons_succ]
      refine wpAnyH_take (i := 3) (oi := ?_) (v := ?_) ?_ (by kernel_rfl) (by kernel_rfl) (by kernel_rfl) ?_ ?_ (by assumption) ?_
      rotate_left 2; (simp only [List.getElem?_toArray, List.getElem?_cons_succ, List.getElem?_cons_zero]; rfl)
      rotate_left; (first | (refine .inl ⟨by rfl, ?_⟩; intro w9 hS9; go_simp; try with_reducible rfl) | (refine .inr ⟨by rfl, ?_⟩; with_reducible rfl))
      rotate_left; (intro _ _ _ h9; exact h9)
      try simp only [Act.put, List.setIfInBounds_toArray, List.set_cons_zero, List.set_cons_succ]
      refine wpAnyH_take (i := 4) (oi := ?_) (v := ?_) ?_ (by kernel_rfl) (by kernel_rfl) (by kernel_rfl) ?_ ?_ (by assumption) ?_
      rotate_left 2; (simp only [List.getElem?_toArray, List.getElem?_cons_succ, List.getElem?_cons_zero]; rfl)
      rotate_left; (first | (refine .inl ⟨by rfl, ?_⟩; intro w9 hS9; go_simp; try with_reducible rfl) | (refine .inr ⟨by rfl, ?_⟩; with_reducible rfl))
      rotate_left; (intro _ _ _ h9; exact h9)
      try simp only [Act.put, List.setIfInBounds_toArray, List.set_cons_zero, List.set_cons_succ]
      refine wpAnyH_take (i := 5) (oi := ?_) (v := ?_) ?_ (by kernel_rfl) (by kernel_rfl) (by kernel_rfl) ?_ ?_ (by assumption) ?_
      rotate_left 2; (simp only [List.getElem?_toArray, List.getElem?_cons_succ, List.getElem?_cons_zero]; rfl)
      rotate_left; (first | (refine .inl ⟨by rfl, ?_⟩; intro w9 hS9; go_simp; try with_reducible rfl) | (refine .inr ⟨by rfl, ?_⟩; with_reducible rfl))
      rotate_left; (intro _ _ _ h9; exact h9)
      try simp only [Act.put, List.setIfInBounds_toArray, List.set_cons_zero, List.set_cons_succ]
      refine wpAnyH_take (i := 6) (oi := ?_) (v := ?_) ?_ (by kernel_rfl) (by kernel_rfl) (by kernel_rfl) ?_ ?_ (by assumption) ?_
      rotate_left 2; (simp only [List.getElem?_toArray, List.getElem?_cons_succ, List.getElem?_cons_zero]; rfl)
      rotate_left; (first | (refine .inl ⟨by rfl, ?_⟩; intro w9 hS9; go_simp; try with_reducible rfl) | (refine .inr ⟨by rfl, ?_⟩; with_reducible rfl))
      rotate_left; (intro _ _ _ h9; exact h9)
      try simp only [Act.put, List.setIfInBounds_toArray, List.set_cons_zero, List.set_cons_succ]
      refine wpAnyH_take (i := 7) (oi := ?_) (v := ?_) ?_ (by kernel_rfl) (by kernel_rfl) (by kernel_rfl) ?_ ?_ (by assumption) ?_
      rotate_left 2; (simp only [List.getElem?_toArray, List.getElem?_cons_succ, List.getElem?_cons_zero]; rfl)
      rotate_left; (first | (refine .inl ⟨by rfl, ?_⟩; intro w9 hS9; go_simp; try with_reducible rfl) | (refine .inr ⟨by rfl, ?_⟩; with_reducible rfl))
      rotate_left; (intro _ _ _ h9; exact h9)
      try simp only [Act.put, List.setIfInBounds_toArray, List.set_cons_zero, List.set_cons_succ]
      refine wpAnyH_take (i := 8) (oi := ?_) (v := ?_) ?_ (by kernel_rfl) (by kernel_rfl) (by kernel_rfl) ?_ ?_ (by assumption) ?_
      rotate_left 2; (simp only [List.getElem?_toArray, List.getElem?_cons_succ, List.getElem?_cons_zero]; rfl)
      rotate_left; (first | (refine .inl ⟨by rfl, ?_⟩; intro w9 hS9; go_simp; try with_reducible rfl) | (refine .inr ⟨by rfl, ?_⟩; with_reducible rfl))
      rotate_left; (intro _ _ _ h9; exact h9)
      try simp only [Act.put, List.setIfInBounds_toArray, List.set_cons_zero, List.set_cons_succ]
      refine wpAnyH_take (i := 9) (oi := ?_) (v := ?_) ?_ (by kernel_rfl) (by kernel_rfl) (by kernel_rfl) ?_ ?_ (by assumption) ?_
      rotate_left 2; (simp only [List.getElem?_toArray, List.getElem?_cons_succ, List.getElem?_cons_zero]; rfl)
      rotate_left; (first | (refine .inl ⟨by rfl, ?_⟩; intro w9 hS9; go_simp; try with_reducible rfl) | (refine .inr ⟨by rfl, ?_⟩; with_reducible rfl))
      rotate_left; (intro _ _ _ h9; exact h9)
      try simp only [Act.put, List.setIfInBounds_toArray, List.set_cons_zero, List.set_cons_succ]
      refine wpAnyH_take (i := 10) (oi := ?_) (v := ?_) ?_ (by kernel_rfl) (by kernel_rfl) (by kernel_rfl) ?_ ?_ (by assumption) ?_
      rotate_left 2; (simp only [List.getElem?_toArray, List.getElem?_cons_succ, List.getElem?_cons_zero]; rfl)
      rotate_left; (first | (refine .inl ⟨by rfl, ?_⟩; intro w9 hS9; go_simp; try with_reducible rfl) | (refine .inr ⟨by rfl, ?_⟩; with_reducible rfl))
      rotate_left; (intro _ _ _ h9; exact h9)
      try simp only [Act.put, List.setIfInBounds_toArray, List.set_cons_zero, List.set_cons_succ]
      refine wpAnyH_take (i := 11) (oi := ?_) (v := ?_) ?_ (by kernel_rfl) (by kernel_rfl) (by kernel_rfl) ?_ ?_ (by assumption) ?_
      rotate_left 2; (simp only [List.getElem?_toArray, List.getElem?_cons_succ, List.getElem?_cons_zero]; rfl)
      rotate_left; (first | (refine .inl ⟨by rfl, ?_⟩; intro w9 hS9; go_simp; try with_reducible rfl) | (refine .inr ⟨by rfl, ?_⟩; with_reducible rfl))
      rotate_left; (intro _ _ _ h9; exact h9)
      try simp only [Act.put, List.setIfInBounds_toArray, List.set_cons_zero, List.set_cons_succ]
      refine wpAnyH_take (i := 12) (oi := ?_) (v := ?_) ?_ (by kernel_rfl) (by kernel_rfl) (by kernel_rfl) ?_ ?_ (by assumption) ?_
      rotate_left 2; (simp only [List.getElem?_toArray, List.getElem?_cons_succ, List.getElem?_cons_zero]; rfl)
      rotate_left; (first | (refine .inl ⟨by rfl, ?_⟩; intro w9 hS9; go_simp; try with_reducible rfl) | (refine .inr ⟨by rfl, ?_⟩; with_reducible rfl))
      rotate_left; (intro _ _ _ h9; exact h9)
      try simp only [Act.put, List.setIfInBounds_toArray, List.set_cons_zero, List.set_cons_succ]
      refine wpAnyH_take (i := 13) (oi := ?_) (v := ?_) ?_ (by kernel_rfl) (by kernel_rfl) (by kernel_rfl) ?_ ?_ (by assumption) ?_
      rotate_left 2; (simp only [List.getElem?_toArray, List.getElem?_cons_succ, List.getElem?_cons_zero]; rfl)
      rotate_left; (first | (refine .inl ⟨by rfl, ?_⟩; intro w9 hS9; go_simp; try with_reducible rfl) | (refine .inr ⟨by rfl, ?_⟩; with_reducible rfl))
      rotate_left; (intro _ _ _ h9; exact h9)
      try simp only [Act.put, List.setIfInBounds_toArray, List.set_cons_zero, List.set_cons_succ]
      refine wpAnyH_take (i := 14) (oi := ?_) (v := ?_) ?_ (by kernel_rfl) (by kernel_rfl) (by kernel_rfl) ?_ ?_ (by assumption) ?_
      rotate_left 2; (simp only [List.getElem?_toArray, List.getElem?_cons_succ, List.getElem?_cons_zero]; rfl)
      rotate_left; (first | (refine .inl ⟨by rfl, ?_⟩; intro w9 hS9; go_simp; try with_reducible rfl) | (refine .inr ⟨by rfl, ?_⟩; with_reducible rfl))
      rotate_left; (intro _ _ _ h9; exact h9)
      try simp only [Act.put, List.setIfInBounds_toArray, List.set_cons_zero, List.set_cons_succ]
      refine wpAnyH_take (i := 15) (oi := ?_) (v := ?_) ?_ (by kernel_rfl) (by kernel_rfl) (by kernel_rfl) ?_ ?_ (by assumption) ?_
      rotate_left 2; (simp only [List.getElem?_toArray, List.getElem?_cons_succ, List.getElem?_cons_zero]; rfl)
      rotate_left; (first | (refine .inl ⟨by rfl, ?_⟩; intro w9 hS9; go_simp; try with_reducible rfl) | (refine .inr ⟨by rfl, ?_⟩; with_reducible rfl))
      rotate_left; (intro _ _ _ h9; exact h9)
      try simp only [Act.put, List.setIfInBounds_toArray, List.set_cons_zero, List.set_cons_succ]
      refine wpAnyH_take (i := 16) (oi := ?_) (v := ?_) ?_ (by kernel_rfl) (by kernel_rfl) (by kernel_rfl) ?_ ?_ (by assumption) ?_
      rotate_left 2; (simp only [List.getElem?_toArray, List.getElem?_cons_succ, List.getElem?_cons_zero]; rfl)
      rotate_left; (first | (refine .inl ⟨by rfl, ?_⟩; intro w9 hS9; go_simp; try with_reducible rfl) | (refine .inr ⟨by rfl, ?_⟩; with_reducible rfl))
      rotate_left; (intro _ _ _ h9; exact h9)
      try simp only [Act.put, List.setIfInBounds_toArray, List.set_cons_zero, List.set_cons_succ]
      refine wpAnyH_take (i := 17) (oi := ?_) (v := ?_) ?_ (by kernel_rfl) (by kernel_rfl) (by kernel_rfl) ?_ ?_ (by assumption) ?_
      rotate_left 2; (simp only [List.getElem?_toArray, List.getElem?_cons_succ, List.getElem?_cons_zero]; rfl)
      rotate_left; (first | (refine .inl ⟨by rfl, ?_⟩; intro w9 hS9; go_simp; try with_reducible rfl) | (refine .inr ⟨by rfl, ?_⟩; with_reducible rfl))
      rotate_left; (intro _ _ _ h9; exact h9)
      try simp only [Act.put, List.setIfInBounds_toArray, List.set_cons_zero, List.set_cons_succ]
      refine wpAnyH_take (i := 18) (oi := ?_) (v := ?_) ?_ (by kernel_rfl) (by kernel_rfl) (by kernel_rfl) ?_ ?_ (by assumption) ?_
      rotate_left 2; (simp only [List.getElem?_toArray, List.getElem?_cons_succ, List.getElem?_cons_zero]; rfl)
      rotate_left; (first | (refine .inl ⟨by rfl, ?_⟩; intro w9 hS9; go_simp; try with_reducible rfl) | (refine .inr ⟨by rfl, ?_⟩; with_reducible rfl))
      rotate_left; (intro _ _ _ h9; exact h9)
      try simp only [Act.put, List.setIfInBounds_toArray, List.set_cons_zero, List.set_cons_succ]
      refine wpAnyH_done (by kernel_rfl) ?_ _
      clear hS0 x0 x1 x2
      go_wp2_with fail
      have hrow := HXD.out.r.own 2 i (by omega) HIL.out
      rw [HS.out] at hrow
      refine (wh_del _ (dropN s k a 2 2 i) k B _ hrow (World.block_lt_of_cell? _ _ HBD.out) (fun e => HNO.out (.inr (.inr ⟨2 * 64 + i, by have := HIL.out; omega, by rw [HS.out]; exact e⟩))) HBD.out).mono ?_
      rintro e w6 ⟨⟨v6, rfl, hown6, hv6⟩, hg6⟩
      have hap := HXD.out.append (Below.refl _ _) 2 i (by omega) HIL.out hown6 (by rw [HS.out]; exact hg6) (fun b hb => .inl (by rw [HS.out, ← hv6]; exact hb)) (129 + i) (by omega)
      rw [HS.out] at hap
      have HAP := Lib.hid hap.1
      obtain ⟨_, z1, z2⟩ := hap
      have hbox6 : w6.cell? ⟨B, 0, none⟩ = some (.int .i64 k) := by
        have hfg := (Fr.ofGrown hg6)
        exact (hfg.cell (p := ⟨B, 0, none⟩) (World.block_lt_of_cell? _ _ HBD.out) (fun e => HNO.out (.inr (.inr ⟨2 * 64 + i, by have := HIL.out; omega, by rw [HS.out]; exact e.symm⟩)))).trans HBD.out
      have HB6 := Lib.hid hbox6
      have hgB : g ≠ B := fun e => HNO.out (.inl e.symm)
      have HGB := Lib.hid hgB
      obtain ⟨A6, c6, hv6e, _⟩ := hown6.re (by have h1 : ((dropN s k a 2 2 i).filter (fun x => x ≠ k)).length ≤ (dropN s k a 2 2 i).length := List.length_filter_le _ _; have := HXL.out; have := HLEN.out 2 i; omega)
      generalize ((dropN s k a 2 2 i).filter (fun x => x ≠ k)).length = n6 at *
      subst hv6e
      clear hrow hown6 hv6 hg6 hbox6 cS hgB
      go_wp2_with fail
      refine ⟨⟨3, by omega, by go_num, ?_⟩, by simp [intOf]⟩
      obtain ⟨⟨sv9, cs9, hx9, hft9⟩, hfr9⟩ := HAP.out
      refine ⟨⟨sv9, cs9, ?_, fun b hb => ?_, fun hb => ?_⟩, ?_, ?_⟩
      · rw [dropN_succ, ← HI.out]
        exact hx9
      · rcases hft9 b hb with h1 | h1
        · exact HFT.out b h1
        · have := HSZ.out; have := HFR.out.size; exact .inr (by omega)
      · rcases hft9 B hb with h1 | h1
        · exact HNO.out h1
        · have := World.block_lt_of_cell? _ _ HBD.out
          have h2 : B < w5.heap.size := this
          omega
      · exact (HFR.out.trans (Fr.ofBelow HD.out (fun _ => False)) (fun b e => e.elim)).trans hfr9 (fun b hb => HFT.out b hb |>.imp id id)
      · rw [World.cell?_setCell_far _ _ _ _ (fun e => HGB.out e)]
        exact HB6.out
    · obtain ⟨i, hi⟩ : ∃ i : Nat, i = ixw a 3 := ⟨_, rfl⟩
      have hil : i < 64 := by rw [hi]; unfold ixw; simp; omega
      have hi1 : ((a : Int) / 262144).tmod 64 = (i : Int) := by
        rw [hi, Int.tmod_eq_emod_of_nonneg (by omega)]
        unfold ixw
        simp
      have hi2 : (i : Int) < 64 := by omega
      have HI := Lib.hid hi
      have hown := HX.out.r.own 3 i (by omega) hil
      obtain ⟨As, cap, hsv, _⟩ := hown.re (by have := HLEN.out 3 i; omega)
      have x0 : ∀ w', Below wr.heap.size wr w' → w'.cell? ⟨g, 0, none⟩ = some (.slice (some ⟨gp, 0, none⟩) P P) := fun w' hb => (HX.out.below hb).c.cPool
      have x1 : ∀ w', Below wr.heap.size wr w' → w'.cell? ⟨B, 0, none⟩ = some (.int .i64 k) := fun w' hb => (hb.cell (p := ⟨B, 0, none⟩) (World.block_lt_of_cell? wr _ HBOX.out)).trans HBOX.out
      have x2 : ∀ w', Below wr.heap.size wr w' → w'.cell? ⟨gp, k * 4 + 2, none⟩ = some (.int .i64 a) := fun w' hb => by
        have := (pool_cells (HX.out.below hb).pl (HX.out.below hb).len (HX.out.below hb).few k HKP.out).2.2.1
        rw [this, HAT.out]
      have HS := Lib.hid hsv
      have HIL := Lib.hid hil
      have hS0 := below_drew1 wr
      have hXd := HX.out.below hS0
      have cS := hXd.c.cSlot (3 * 64 + i) (by omega)
      rw [show 1 + (3 * 64 + i) = 193 + i by omega, hsv] at cS
      have hbd := x1 _ hS0
      have HXD := Lib.hid hXd
      have HBD := Lib.hid hbd
      have HSZ := Lib.hid hS0.size
      generalize hxl : (dropN s k a 3 3 i).length = n at *
      have HXL := Lib.hid hxl
      clear hi hil hown hsv hXd hbd hxl
      go_upto_region 7 with fail
      refine wp_region_held (S := fun w' => Below wr.heap.size wr w') (by kernel_rfl) ?_
      change wpAnyH _ _ _ _ _ _ _ _ wr.drew
      have HD := Lib.hid (below_drew1 wr)
      generalize wr.drew = w5 at *
      change wpAnyH _ _ _ _ _ 19 (Array.replicate 19 false) _ _
      refine wpAnyH_take (i := 0) (oi := ?_) (v := ?_) ?_ (by kernel_rfl) (by kernel_rfl) (by kernel_rfl) ?_ ?_ (by assumption) ?_
      rotate_left 2; (simp only [List.getElem?_toArray, List.getElem?_cons_succ, List.getElem?_cons_zero]; rfl)
      rotate_left; (first | (refine .inl ⟨by rfl, ?_⟩; intro w9 hS9; go_simp; try with_reducible rfl) | (refine .inr ⟨by rfl, ?_⟩; with_reducible rfl))
      rotate_left; (intro _ _ _ h9; exact h9)
      try simp only [Act.put, List.setIfInBounds_toArray, List.set_cons_zero, List.set_cons_succ]
      refine wpAnyH_take (i := 1) (oi := ?_) (v := ?_) ?_ (by kernel_rfl) (by kernel_rfl) (by kernel_rfl) ?_ ?_ (by assumption) ?_
      rotate_left 2; (simp only [List.getElem?_toArray, List.getElem?_cons_succ, List.getElem?_cons_zero]; rfl)
      rotate_left; (first | (refine .inl ⟨by rfl, ?_⟩; intro w9 hS9; go_simp; try with_reducible rfl) | (refine .inr ⟨by rfl, ?_⟩; with_reducible rfl))
      rotate_left; (intro _ _ _ h9; exact h9)
      try simp only [Act.put, List.setIfInBounds_toArray, List.set_cons_zero, List.set_cons_succ]
      refine wpAnyH_take (i := 2) (oi := ?_) (v := ?_) ?_ (by kernel_rfl) (by kernel_rfl) (by kernel_rfl) ?_ ?_ (by assumption) ?_
      rotate_left 2; (simp only [List.getElem?_toArray, List.getElem?_cons_succ, List.getElem?_cons_zero]; rfl)
      rotate_left; (first | (refine .inl ⟨by rfl, ?_⟩; intro w9 hS9; go_simp; try with_reducible rfl) | (refine .inr ⟨by rfl, ?_⟩; with_reducible rfl))
      rotate_left; (intro _ _ _ h9; exact h9)
      try simp only [Act.put, List.setIfInBounds_toArray, List.set_cons_zero, List.set_cons_succ]
      refine wpAnyH_take (i := 3) (oi := ?_) (v := ?_) ?_ (by kernel_rfl) (by kernel_rfl) (by kernel_rfl) ?_ ?_ (by assumption) ?_
      rotate_left 2; (simp only [List.getElem?_toArray, List.getElem?_cons_succ, List.getElem?_cons_zero]; rfl)
      rotate_left; (first | (refine .inl ⟨by rfl, ?_⟩; intro w9 hS9; go_simp; try with_reducible rfl) | (refine .inr ⟨by rfl, ?_⟩; with_reducible rfl))
      rotate_left; (intro _ _ _ h9; exact h9)
      try simp only [Act.put, List.setIfInBounds_toArray, List.set_cons_zero, List.set_cons_succ]
      refine wpAnyH_take (i := 4) (oi := ?_) (v := ?_) ?_ (by kernel_rfl) (by kernel_rfl) (by kernel_rfl) ?_ ?_ (by assumption) ?_
      rotate_left 2; (simp only [List.getElem?_toArray, List.getElem?_cons_succ, List.getElem?_cons_zero]; rfl)
      rotate_left; (first | (refine .inl ⟨by rfl, ?_⟩; intro w9 hS9; go_simp; try with_reducible rfl) | (refine .inr ⟨by rfl, ?_⟩; with_reducible rfl))
      rotate_left; (intro _ _ _ h9; exact h9)
      try simp only [Act.put, List.setIfInBounds_toArray, List.set_cons_zero, List.set_cons_succ]
      refine wpAnyH_take (i := 5) (oi := ?_) (v := ?_) ?_ (by kernel_rfl) (by kernel_rfl) (by kernel_rfl) ?_ ?_ (by assumption) ?_
      rotate_left 2; (simp only [List.getElem?_toArray, List.getElem?_cons_succ, List.getElem?_cons_zero]; rfl)
      rotate_left; (first | (refine .inl ⟨by rfl, ?_⟩; intro w9 hS9; go_simp; try with_reducible rfl) | (refine .inr ⟨by rfl, ?_⟩; with_reducible rfl))
      rotate_left; (intro _ _ _ h9; exact h9)
      try simp only [Act.put, List.setIfInBounds_toArray, List.set_cons_zero, List.set_cons_succ]
      refine wpAnyH_take (i := 6) (oi := ?_) (v := ?_) ?_ (by kernel_rfl) (by kernel_rfl) (by kernel_rfl) ?_ ?_ (by assumption) ?_
      rotate_left 2; (simp only [List.getElem?_toArray, List.getElem?_cons_succ, List.getElem?_cons_zero]; rfl)
      rotate_left; (first | (refine .inl ⟨by rfl, ?_⟩; intro w9 hS9; go_simp; try with_reducible rfl) | (refine .inr ⟨by rfl, ?_⟩; with_reducible rfl))
      rotate_left; (intro _ _ _ h9; exact h9)
      try simp only [Act.put, List.setIfInBounds_toArray, List.set_cons_zero, List.set_cons_succ]
      refine wpAnyH_take (i := 7) (oi := ?_) (v := ?_) ?_ (by kernel_rfl) (by kernel_rfl) (by kernel_rfl) ?_ ?_ (by assumption) ?_
      rotate_left 2; (simp only [List.getElem?_toArray, List.getElem?_cons_succ, List.getElem?_cons_zero]; rfl)
      rotate_left; (first | (refine .inl ⟨by rfl, ?_⟩; intro w9 hS9; go_simp; try with_reducible rfl) | (refine .inr ⟨by rfl, ?_⟩; with_reducible rfl))
      rotate_left; (intro _ _ _ h9; exact h9)
      try simp only [Act.put, List.setIfInBounds_toArray, List.set_cons_zero, List.set_cons_succ]
      refine wpAnyH_take (i := 8) (oi := ?_) (v := ?_) ?_ (by kernel_rfl) (by kernel_rfl) (by kernel_rfl) ?_ ?_ (by assumption) ?_
      rotate_left 2; (simp only [List.getElem?_toArray, List.getElem?_cons_succ, List.getElem?_cons_zero]; rfl)
      rotate_left; (first | (refine .inl ⟨by rfl, ?_⟩; intro w9 hS9; go_simp; try with_reducible rfl) | (refine .inr ⟨by rfl, ?_⟩; with_reducible rfl))
      rotate_left; (intro _ _ _ h9; exact h9)
      try simp only [Act.put, List.setIfInBounds_toArray, List.set_cons_zero, List.set_cons_succ]
      refine wpAnyH_take (i := 9) (oi := ?_) (v := ?_) ?_ (by kernel_rfl) (by kernel_rfl) (by kernel_rfl) ?_ ?_ (by assumption) ?_
      rotate_left 2; (simp only [List.getElem?_toArray, List.getElem?_cons_succ, List.getElem?_cons_zero]; rfl)
      rotate_left; (first | (refine .inl ⟨by rfl, ?_⟩; intro w9 hS9; go_simp; try with_reducible rfl) | (refine .inr ⟨by rfl, ?_⟩; with_reducible rfl))
      rotate_left; (intro _ _ _ h9; exact h9)
      try simp only [Act.put, List.setIfInBounds_toArray, List.set_cons_zero, List.set_cons_succ]
      refine wpAnyH_take (i := 10) (oi := ?_) (v := ?_) ?_ (by kernel_rfl) (by kernel_rfl) (by kernel_rfl) ?_ ?_ (by assumption) ?_
      rotate_left 2; (simp only [List.getElem?_toArray, List.getElem?_cons_succ, List.getElem?_cons_zero]; rfl)
      rotate_left; (first | (refine .inl ⟨by rfl, ?_⟩; intro w9 hS9; go_simp; try with_reducible rfl) | (refine .inr ⟨by rfl, ?_⟩; with_reducible rfl))
      rotate_left; (intro _ _ _ h9; exact h9)
      try simp only [Act.put, List.setIfInBounds_toArray, List.set_cons_zero, List.set_cons_succ]
      refine wpAnyH_take (i := 11) (oi := ?_) (v := ?_) ?_ (by kernel_rfl) (by kernel_rfl) (by kernel_rfl) ?_ ?_ (by assumption) ?_
      rotate_left 2; (simp only [List.getElem?_toArray, List.getElem?_cons_succ, List.getElem?_cons_zero]; rfl)
      rotate_left; (first | (refine .inl ⟨by rfl, ?_⟩; intro w9 hS9; go_simp; try with_reducible rfl) | (refine .inr ⟨by rfl, ?_⟩; with_reducible rfl))
      rotate_left; (intro _ _ _ h9; exact h9)
      try simp only [Act.put, List.setIfInBounds_toArray, List.set_cons_zero, List.set_cons_succ]
      refine wpAnyH_take (i := 12) (oi := ?_) (v := ?_) ?_ (by kernel_rfl) (by kernel_rfl) (by kernel_rfl) ?_ ?_ (by assumption) ?_
      rotate_left 2; (simp only [List.getElem?_toArray, List.getElem?_cons_succ, List.getElem?_cons_zero]; rfl)
      rotate_left; (first | (refine .inl ⟨by rfl, ?_⟩; intro w9 hS9; go_simp; try with_reducible rfl) | (refine .inr ⟨by rfl, ?_⟩; with_reducible rfl))
      rotate_left; (intro _ _ _ h9; exact h9)
      try simp only [Act.put, List.setIfInBounds_toArray, List.set_cons_zero, List.set_cons_succ]
      refine wpAnyH_take (i := 13) (oi := ?_) (v := ?_) ?_ (by kernel_rfl) (by kernel_rfl) (by kernel_rfl) ?_ ?_ (by assumption) ?_
      rotate_left 2; (simp only [List.getElem?_toArray, List.getElem?_cons_succ, List.getElem?_cons_zero]; rfl)
      rotate_left; (first | (refine .inl ⟨by rfl, ?_⟩; intro w9 hS9; go_simp; try with_reducible rfl) | (refine .inr ⟨by rfl, ?_⟩; with_reducible rfl))
      rotate_left; (intro _ _ _ h9; exact h9)
      try simp only [Act.put, List.setIfInBounds_toArray, List.set_cons_zero, List.set_cons_succ]
      refine wpAnyH_take (i := 14) (oi := ?_) (v := ?_) ?_ (by kernel_rfl) (by kernel_rfl) (by kernel_rfl) ?_ ?_ (by assumption) ?_
      rotate_left 2; (simp only [List.getElem?_toArray, List.getElem?_cons_succ, List.getElem?_cons_zero]; rfl)
      rotate_left; (first | (refine .inl ⟨by rfl, ?_⟩; intro w9 hS9; go_simp; try with_reducible rfl) | (refine .inr ⟨by rfl, ?_⟩; with_reducible rfl))
      rotate_left; (intro _ _ _ h9; exact h9)
      try simp only [Act.put, List.setIfInBounds_toArray, List.set_cons_zero, List.set_cons_succ]
      refine wpAnyH_take (i := 15) (oi := ?_) (v := ?_) ?_ (by kernel_rfl) (by kernel_rfl) (by kernel_rfl) ?_ ?_ (by assumption) ?_
      rotate_left 2; (simp only [List.getElem?_toArray, List.getElem?_cons_succ, List.getElem?_cons_zero]; rfl)
      rotate_left; (first | (refine .inl ⟨by rfl, ?_⟩; intro w9 hS9; go_simp; try with_reducible rfl) | (refine .inr ⟨by rfl, ?_⟩; with_reducible rfl))
      rotate_left; (intro _ _ _ h9; exact h9)
      try simp only [Act.put, List.setIfInBounds_toArray, List.set_cons_zero, List.set_cons_succ]
      refine wpAnyH_take (i := 16) (oi := ?_) (v := ?_) ?_ (by kernel_rfl) (by kernel_rfl) (by kernel_rfl) ?_ ?_ (by assumption) ?_
      rotate_left 2; (simp only [List.getElem?_toArray, List.getElem?_cons_succ, List.getElem?_cons_zero]; rfl)
      rotate_left; (first | (refine .inl ⟨by rfl, ?_⟩; intro w9 hS9; go_simp; try with_reducible rfl) | (refine .inr ⟨by rfl, ?_⟩; with_reducible rfl))
      rotate_left; (intro _ _ _ h9; exact h9)
      try simp only [Act.put, List.setIfInBounds_toArray, List.set_cons_zero, List.set_cons_succ]
      refine wpAnyH_take (i := 17) (oi := ?_) (v := ?_) ?_ (by kernel_rfl) (by kernel_rfl) (by kernel_rfl) ?_ ?_ (by assumption) ?_
      rotate_left 2; (simp only [List.getElem?_toArray, List.getElem?_cons_succ, List.getElem?_cons_zero]; rfl)
      rotate_left; (first | (refine .inl ⟨by rfl, ?_⟩; intro w9 hS9; go_simp; try with_reducible rfl) | (refine .inr ⟨by rfl, ?_⟩; with_reducible rfl))
      rotate_left; (intro _ _ _ h9; exact h9)
      try simp only [Act.put, List.setIfInBounds_toArray, List.set_cons_zero, List.set_cons_succ]
      refine wpAnyH_take (i := 18) (oi := ?_) (v := ?_) ?_ (by kernel_rfl) (by kernel_rfl) (by kernel_rfl) ?_ ?_ (by assumption) ?_
      rotate_left 2; (simp only [List.getElem?_toArray, List.getElem?_cons_succ, List.getElem?_cons_zero]; rfl)
      rotate_left; (first | (refine .inl ⟨by rfl, ?_⟩; intro w9 hS9; go_simp; try with_reducible rfl) | (refine .inr ⟨by rfl, ?_⟩; with_reducible rfl))
      rotate_left; (intro _ _ _ h9; exact h9)
      try simp only [Act.put, List.setIfInBounds_toArray, List.set_cons_zero, List.set_cons_succ]
      refine wpAnyH_done (by kernel_rfl) ?_ _
      clear hS0 x0 x1 x2
      go_wp2_with fail
      have hrow := HXD.out.r.own 3 i (by omega) HIL.out
      rw [HS.out] at hrow
      refine (wh_del _ (dropN s k a 3 3 i) k B _ hrow (World.block_lt_of_cell? _ _ HBD.out) (fun e => HNO.out (.inr (.inr ⟨3 * 64 + i, by have := HIL.out; omega, by rw [HS.out]; exact e⟩))) HBD.out).mono ?_
      rintro e w6 ⟨⟨v6, rfl, hown6, hv6⟩, hg6⟩
      have hap := HXD.out.append (Below.refl _ _) 3 i (by omega) HIL.out hown6 (by rw [HS.out]; exact hg6) (fun b hb => .inl (by rw [HS.out, ← hv6]; exact hb)) (193 + i) (by omega)
      rw [HS.out] at hap
      have HAP := Lib.hid hap.1
      obtain ⟨_, z1, z2⟩ := hap
      have hbox6 : w6.cell? ⟨B, 0, none⟩ = some (.int .i64 k) := by
        have hfg := (Fr.ofGrown hg6)
        exact (hfg.cell (p := ⟨B, 0, none⟩) (World.block_lt_of_cell? _ _ HBD.out) (fun e => HNO.out (.inr (.inr ⟨3 * 64 + i, by have := HIL.out; omega, by rw [HS.out]; exact e.symm⟩)))).trans HBD.out
      have HB6 := Lib.hid hbox6
      have hgB : g ≠ B := fun e => HNO.out (.inl e.symm)
      have HGB := Lib.hid hgB
      obtain ⟨A6, c6, hv6e, _⟩ := hown6.re (by have h1 : ((dropN s k a 3 3 i).filter (fun x => x ≠ k)).length ≤ (dropN s k a 3 3 i).length := List.length_filter_le _ _; have := HXL.out; have := HLEN.out 3 i; omega)
      generalize ((dropN s k a 3 3 i).filter (fun x => x ≠ k)).length = n6 at *
      subst hv6e
      clear hrow hown6 hv6 hg6 hbox6 cS hgB
      go_wp2_with fail
      refine ⟨⟨4, by omega, by go_num, ?_⟩, by simp [intOf]⟩
      obtain ⟨⟨sv9, cs9, hx9, hft9⟩, hfr9⟩ := HAP.out
      refine ⟨⟨sv9, cs9, ?_, fun b hb => ?_, fun hb => ?_⟩, ?_, ?_⟩
      · rw [dropN_succ, ← HI.out]
        exact hx9
      · rcases hft9 b hb with h1 | h1
        · exact HFT.out b h1
        · have := HSZ.out; have := HFR.out.size; exact .inr (by omega)
      · rcases hft9 B hb with h1 | h1
        · exact HNO.out h1
        · have := World.block_lt_of_cell? _ _ HBD.out
          have h2 : B < w5.heap.size := this
          omega
      · exact (HFR.out.trans (Fr.ofBelow HD.out (fun _ => False)) (fun b e => e.elim)).trans hfr9 (fun b hb => HFT.out b hb |>.imp id id)
      · rw [World.cell?_setCell_far _ _ _ _ (fun e => HGB.out e)]
        exact HB6.out
    · go_wp2_with fail
      go_ret
      have hae := HAE.out
      subst hae
      exact ⟨rfl, ⟨sv', cs', HX.out, HFT.out⟩, HFR.out⟩
end Go.Proofs.YtpfoocndohpbbaaDoor
