/- wheel: sink. -/
import Derived.Test.YtpfoocndohpbbaaDoorWhLay
namespace Go.Proofs.YtpfoocndohpbbaaDoor
open Go Go.RowKit
set_option linter.unusedVariables false
set_option linter.unusedSimpArgs false
/-- A slot is emptied. -/
theorem WhX.clear {w : World} {g gp P : Nat} {pool : List Tw} {s : Slots} {now cnt : Nat} {sv : Nat → Value} {cs : Array Value} (h : WhX w g gp P pool s now cnt sv cs) (l i : Nat) (hl : l < 4) (hi : i < 64) (o : Nat) (ho : o = 1 + (l * 64 + i)) :
    ∃ sv' cs', WhX (w.setCell ⟨g, o, none⟩ (.slice none 0 0)) g gp P pool (up s l i []) now cnt sv' cs' ∧ Fr (fun b => b = g) w (w.setCell ⟨g, o, none⟩ (.slice none 0 0)) ∧ (∀ b, foot g gp sv' b → foot g gp sv b) ∧ ∀ b, (sv (l * 64 + i)).ownBlock = some b → ¬ foot g gp sv' b := by
  subst ho
  have hm : l * 64 + i < 256 := by omega
  have hr2 := h.r.up l i hl hi (v := .slice none 0 0) (xs := []) (OwnE.nil _ _) (Fr.refl _ _) (fun b hb => by cases hb) h.c.lt (h.pl.lt gp rfl)
  have hcs := h.c.setSlot (l * 64 + i) hm (.slice none 0 0)
  have hsf := fr_setCell (F := fun b => b = g) (w := w) ⟨g, 1 + (l * 64 + i), none⟩ (.slice none 0 0) rfl
  refine ⟨_, _, ⟨hcs, hr2.fr hsf (fun m hm2 b hb2 e => (hr2.off m hm2 b hb2).1 e), h.pl.fr hsf (fun b hb2 e => by cases hb2; exact h.ne e.symm), h.len, h.few, h.ne⟩, hsf, ?_, ?_⟩
  · rintro b (e | e | ⟨m, hm2, e⟩)
    · exact .inl e
    · exact .inr (.inl e)
    · change (if m = l * 64 + i then Value.slice none 0 0 else sv m).ownBlock = some b at e
      by_cases he : m = l * 64 + i
      · rw [if_pos he] at e; cases e
      · rw [if_neg he] at e; exact .inr (.inr ⟨m, hm2, e⟩)
  · rintro b hb (e | e | ⟨m, hm2, e⟩)
    · exact (h.r.off _ hm b hb).1 e
    · exact (h.r.off _ hm b hb).2 e
    · change (if m = l * 64 + i then Value.slice none 0 0 else sv m).ownBlock = some b at e
      by_cases he : m = l * 64 + i
      · rw [if_pos he] at e; cases e
      · rw [if_neg he] at e; exact h.r.apart m _ hm2 hm he b e hb
def qof (pool : List Tw) (now k : Nat) : Nat × Nat := pos now ((pool[k]?.map (·.at_)).getD 0)
theorem lays_len (q : Nat → Nat × Nat) : ∀ (ks : List Nat) (s : Slots) (l i : Nat), (lays q s ks l i).length ≤ (s l i).length + ks.length := by
  intro ks
  induction ks with
  | nil => intro s l i; exact Nat.le_refl _
  | cons k ks ih =>
    intro s l i
    refine Nat.le_trans (ih _ l i) ?_
    have : (up s (q k).1 (q k).2 (s (q k).1 (q k).2 ++ [k]) l i).length ≤ (s l i).length + 1 := by
      unfold up
      split
      · rename_i hh
        obtain ⟨rfl, rfl⟩ := hh
        rw [List.length_append]
        exact Nat.le_refl _
      · omega
    rw [List.length_cons]
    omega
/-- How far a sink has come. -/
structure SK (w : World) (g gp P : Nat) (pool : List Tw) (s0 : Slots) (now cnt : Nat) (sv : Nat → Value) (As : Value) (xs : List Nat) (j : Nat) (wr : World) : Prop where
  ex : ∃ sv' cs', WhX wr g gp P pool (lays (qof pool now) s0 (xs.take j)) now cnt sv' cs' ∧ (∀ b, foot g gp sv' b → foot g gp sv b ∨ w.heap.size ≤ b) ∧ (∀ b, As.ownBlock = some b → ¬ foot g gp sv' b)
  fr : Fr (foot g gp sv) w wr
  row : OwnE kc 1 3 wr As xs
set_option maxHeartbeats 16000000 in
set_option maxRecDepth 100000 in
theorem wh_sink (g gp P : Nat) (pool : List Tw) (s : Slots) (now cnt : Nat) (m : Nat) (hm : m = 1 ∨ m = 2 ∨ m = 3) (sv : Nat → Value) (cs : Array Value) (w : World) (h : WhX w g gp P pool s now cnt sv cs) (hn : now ≤ 1000000000) (hat : ∀ t ∈ pool, t.at_ ≤ 2000000000) (hlen : ∀ l i, (s l i).length ≤ 500) (hmem : ∀ k ∈ s m (ixw now m), k < P) :
    Calls Tryd.prog 33 #[.pointer (some ⟨g, 0, none⟩), .int .i64 m] w fun e w' => e = .returned (.tuple #[]) ∧ WhTo w w' g gp P sv pool (sinkS (qof pool now) s m (ixw now m)) now cnt := by
  have v0 : IntKind.i64.wrap 0 = 0 := by decide
  have v6 : IntKind.i64.wrap 6 = 6 := by decide
  have v12 : IntKind.i64.wrap 12 = 12 := by decide
  have v18 : IntKind.i64.wrap 18 = 18 := by decide
  rcases hm with rfl | rfl | rfl
  · show Calls _ _ #[_, .int .i64 1] _ _
    obtain ⟨i, hi⟩ : ∃ i : Nat, i = ixw now 1 := ⟨_, rfl⟩
    have hil : i < 64 := by rw [hi]; unfold ixw; simp; omega
    have hi1 : ((now : Int) / 64).tmod 64 = (i : Int) := by
      rw [hi, Int.tmod_eq_emod_of_nonneg (by omega)]
      unfold ixw
      simp
    have hi2 : (i : Int) < 64 := by omega
    have HI := Lib.hid hi
    rw [← hi] at hmem
    rw [← hi]
    have hxs := hlen 1 i
    have hown0 := h.r.own 1 i (by omega) hil
    obtain ⟨As, cap, hsv, _⟩ := hown0.re (by omega)
    have c1 : ∀ w', Below w.heap.size w w' → w'.cell? ⟨g, 257, none⟩ = some (.int .i64 now) := fun w' hb => (h.below hb).c.cNow
    have hd := h.below (below_drew1 w)
    have cS := hd.c.cSlot (1 * 64 + i) (by omega)
    rw [show 1 + (1 * 64 + i) = 65 + i by omega, hsv] at cS
    have cF := hd.c.free (65 + i)
    obtain ⟨sv1, cs1, hx1, hf1, hft, hno⟩ := hd.clear 1 i (by omega) hil (65 + i) (by omega)
    have hwr : SK w g gp P pool (up s 1 i []) now cnt sv (.slice As (s 1 i).length cap) (s 1 i) 0 (w.drew.setCell ⟨g, 65 + i, none⟩ (.slice none 0 0)) := by
      refine ⟨⟨sv1, cs1, hx1, fun b hb => .inl (hft b hb), fun b hb => hno b (by rw [hsv]; exact hb)⟩, (Fr.ofBelow (below_drew1 w) _).trans hf1 (fun b e => .inl (.inl e)), ?_⟩
      rw [← hsv]
      exact (hown0.fr (Fr.ofBelow (below_drew1 w) (fun _ => False)) (fun _ _ h => h)).fr hf1 (fun b hb e => (hd.r.off _ (by omega) b hb).1 e)
    have HWR := Lib.hid hwr
    generalize hxl : (s 1 i).length = n at *
    have HXL := Lib.hid hxl
    have HS := Lib.hid (show ∀ ks, sinkS (qof pool now) s 1 i = lays (qof pool now) (up s 1 i []) ks ↔ lays (qof pool now) (up s 1 i []) (s 1 i) = lays (qof pool now) (up s 1 i []) ks from fun ks => Iff.rfl)
    have HLEN := Lib.hid hlen
    have HMEM := Lib.hid hmem
    clear h hi hil hown0 hsv hxl hlen hd hx1 hf1 hft hno hwr hmem
    go_enter Tryd.func33, Tryd.ntmps33
    go_upto_region 0 with fail
    have hS0 := below_drew1 w
    refine wp_region_held (S := fun w' => Below w.heap.size w w') (by kernel_rfl) ?_
    change wpAnyH _ _ _ _ _ _ _ _ w.drew
    generalize w.drew = w0 at *
    change wpAnyH _ _ _ _ _ 15 (Array.replicate 15 false) _ _
    refine wpAnyH_take (i := 0) (oi := ?_) (v := ?_) ?_ (by kernel_rfl) (by kernel_rfl) (by kernel_rfl) ?_ ?_ (by assumption) ?_
    rotate_left 2; (simp only [List.getElem?_toArray, List.getElem?_cons_succ, List.getElem?_cons_zero]; rfl)
    rotate_left; (first | (refine .inl ⟨by rfl, ?_⟩; intro w9 hS9; go_simp; try with_reducible rfl) | (refine .inr ⟨by rfl, ?_⟩; with_reducible rfl))
    rotate_left; (intro _ _ _ h9; exact h9)
    try simp only [Act.put, List.setIfInBounds_toArray, List.set_cons_zero, List.set_cons_succ]
    refine wpAnyH_take (i := 1) (oi := ?_) (v := ?_) ?_ (by kernel_rfl) (by kernel_rfl) (by kernel_rfl) ?_ ?_ (by assumption) ?_
    rotate_left 2; (simp only [List.getElem?_toArray, List.getElem?_cons_succ, List.getElem?_cons_zero]; rfl)
    rotate_left; (first | (refine .inl ⟨by rfl, ?_⟩; intro w9 hS9; go_simp; try with_reducible rfl) | (refine .inr ⟨by rfl, ?_⟩; with_reducible rfl))
    rotate_left; (intro _ _ _ h9; exact h9)
    try simp only [Act.put, List.setIfInBounds_toArray, List.set_cons_zero, List.set_cons_succ]
    refine wpAnyH_take (i := 2) (oi := ?_) (v := ?_) ?_ (by kernel_rfl) (by kernel_rfl) (by kernel_rfl) ?_ ?_ (by assumption) ?_
    rotate_left 2; (simp only [List.getElem?_toArray, List.getElem?_cons_succ, List.getElem?_cons_zero]; rfl)
    rotate_left; (first | (refine .inl ⟨by rfl, ?_⟩; intro w9 hS9; go_simp; try with_reducible rfl) | (refine .inr ⟨by rfl, ?_⟩; with_reducible rfl))
    rotate_left; (intro _ _ _ h9; exact h9)
    try simp only [Act.put, List.setIfInBounds_toArray, List.set_cons_zero, List.set_cons_succ]
    refine wpAnyH_take (i := 3) (oi := ?_) (v := ?_) ?_ (by kernel_rfl) (by kernel_rfl) (by kernel_rfl) ?_ ?_ (by assumption) ?_
    rotate_left 2; (simp only [List.getElem?_toArray, List.getElem?_cons_succ, List.getElem?_cons_zero]; rfl)
    rotate_left; (first | (refine .inl ⟨by rfl, ?_⟩; intro w9 hS9; go_simp; try with_reducible rfl) | (refine .inr ⟨by rfl, ?_⟩; with_reducible rfl))
    rotate_left; (intro _ _ _ h9; exact h9)
    try simp only [Act.put, List.setIfInBounds_toArray, List.set_cons_zero, List.set_cons_succ]
    refine wpAnyH_take (i := 4) (oi := ?_) (v := ?_) ?_ (by kernel_rfl) (by kernel_rfl) (by kernel_rfl) ?_ ?_ (by assumption) ?_
    rotate_left 2; (simp only [List.getElem?_toArray, List.getElem?_cons_succ, List.getElem?_cons_zero]; rfl)
    rotate_left; (first | (refine .inl ⟨by rfl, ?_⟩; intro w9 hS9; go_simp; try with_reducible rfl) | (refine .inr ⟨by rfl, ?_⟩; with_reducible rfl))
    rotate_left; (intro _ _ _ h9; exact h9)
    try simp only [Act.put, List.setIfInBounds_toArray, List.set_cons_zero, List.set_cons_succ]
    refine wpAnyH_take (i := 5) (oi := ?_) (v := ?_) ?_ (by kernel_rfl) (by kernel_rfl) (by kernel_rfl) ?_ ?_ (by assumption) ?_
    rotate_left 2; (simp only [List.getElem?_toArray, List.getElem?_cons_succ, List.getElem?_cons_zero]; rfl)
    rotate_left; (first | (refine .inl ⟨by rfl, ?_⟩; intro w9 hS9; go_simp; try with_reducible rfl) | (refine .inr ⟨by rfl, ?_⟩; with_reducible rfl))
    rotate_left; (intro _ _ _ h9; exact h9)
    try simp only [Act.put, List.setIfInBounds_toArray, List.set_cons_zero, List.set_cons_succ]
    refine wpAnyH_take (i := 6) (oi := ?_) (v := ?_) ?_ (by kernel_rfl) (by kernel_rfl) (by kernel_rfl) ?_ ?_ (by assumption) ?_
    rotate_left 2; (simp only [List.getElem?_toArray, List.getElem?_cons_succ, List.getElem?_cons_zero]; rfl)
    rotate_left; (first | (refine .inl ⟨by rfl, ?_⟩; intro w9 hS9; go_simp; try with_reducible rfl) | (refine .inr ⟨by rfl, ?_⟩; with_reducible rfl))
    rotate_left; (intro _ _ _ h9; exact h9)
    try simp only [Act.put, List.setIfInBounds_toArray, List.set_cons_zero, List.set_cons_succ]
    refine wpAnyH_take (i := 7) (oi := ?_) (v := ?_) ?_ (by kernel_rfl) (by kernel_rfl) (by kernel_rfl) ?_ ?_ (by assumption) ?_
    rotate_left 2; (simp only [List.getElem?_toArray, List.getElem?_cons_succ, List.getElem?_cons_zero]; rfl)
    rotate_left; (first | (refine .inl ⟨by rfl, ?_⟩; intro w9 hS9; go_simp; try with_reducible rfl) | (refine .inr ⟨by rfl, ?_⟩; with_reducible rfl))
    rotate_left; (intro _ _ _ h9; exact h9)
    try simp only [Act.put, List.setIfInBounds_toArray, List.set_cons_zero, List.set_cons_succ]
    refine wpAnyH_take (i := 8) (oi := ?_) (v := ?_) ?_ (by kernel_rfl) (by kernel_rfl) (by kernel_rfl) ?_ ?_ (by assumption) ?_
    rotate_left 2; (simp only [List.getElem?_toArray, List.getElem?_cons_succ, List.getElem?_cons_zero]; rfl)
    rotate_left; (first | (refine .inl ⟨by rfl, ?_⟩; intro w9 hS9; go_simp; try with_reducible rfl) | (refine .inr ⟨by rfl, ?_⟩; with_reducible rfl))
    rotate_left; (intro _ _ _ h9; exact h9)
    try simp only [Act.put, List.setIfInBounds_toArray, List.set_cons_zero, List.set_cons_succ]
    refine wpAnyH_take (i := 9) (oi := ?_) (v := ?_) ?_ (by kernel_rfl) (by kernel_rfl) (by kernel_rfl) ?_ ?_ (by assumption) ?_
    rotate_left 2; (simp only [List.getElem?_toArray, List.getElem?_cons_succ, List.getElem?_cons_zero]; rfl)
    rotate_left; (first | (refine .inl ⟨by rfl, ?_⟩; intro w9 hS9; go_simp; try with_reducible rfl) | (refine .inr ⟨by rfl, ?_⟩; with_reducible rfl))
    rotate_left; (intro _ _ _ h9; exact h9)
    try simp only [Act.put, List.setIfInBounds_toArray, List.set_cons_zero, List.set_cons_succ]
    refine wpAnyH_take (i := 10) (oi := ?_) (v := ?_) ?_ (by kernel_rfl) (by kernel_rfl) (by kernel_rfl) ?_ ?_ (by assumption) ?_
    rotate_left 2; (simp only [List.getElem?_toArray, List.getElem?_cons_succ, List.getElem?_cons_zero]; rfl)
    rotate_left; (first | (refine .inl ⟨by rfl, ?_⟩; intro w9 hS9; go_simp; try with_reducible rfl) | (refine .inr ⟨by rfl, ?_⟩; with_reducible rfl))
    rotate_left; (intro _ _ _ h9; exact h9)
    try simp only [Act.put, List.setIfInBounds_toArray, List.set_cons_zero, List.set_cons_succ]
    refine wpAnyH_take (i := 11) (oi := ?_) (v := ?_) ?_ (by kernel_rfl) (by kernel_rfl) (by kernel_rfl) ?_ ?_ (by assumption) ?_
    rotate_left 2; (simp only [List.getElem?_toArray, List.getElem?_cons_succ, List.getElem?_cons_zero]; rfl)
    rotate_left; (first | (refine .inl ⟨by rfl, ?_⟩; intro w9 hS9; go_simp; try with_reducible rfl) | (refine .inr ⟨by rfl, ?_⟩; with_reducible rfl))
    rotate_left; (intro _ _ _ h9; exact h9)
    try simp only [Act.put, List.setIfInBounds_toArray, List.set_cons_zero, List.set_cons_succ]
    refine wpAnyH_take (i := 12) (oi := ?_) (v := ?_) ?_ (by kernel_rfl) (by kernel_rfl) (by kernel_rfl) ?_ ?_ (by assumption) ?_
    rotate_left 2; (simp only [List.getElem?_toArray, List.getElem?_cons_succ, List.getElem?_cons_zero]; rfl)
    rotate_left; (first | (refine .inl ⟨by rfl, ?_⟩; intro w9 hS9; go_simp; try with_reducible rfl) | (refine .inr ⟨by rfl, ?_⟩; with_reducible rfl))
    rotate_left; (intro _ _ _ h9; exact h9)
    try simp only [Act.put, List.setIfInBounds_toArray, List.set_cons_zero, List.set_cons_succ]
    refine wpAnyH_take (i := 13) (oi := ?_) (v := ?_) ?_ (by kernel_rfl) (by kernel_rfl) (by kernel_rfl) ?_ ?_ (by assumption) ?_
    rotate_left 2; (simp only [List.getElem?_toArray, List.getElem?_cons_succ, List.getElem?_cons_zero]; rfl)
    rotate_left; (first | (refine .inl ⟨by rfl, ?_⟩; intro w9 hS9; go_simp; try with_reducible rfl) | (refine .inr ⟨by rfl, ?_⟩; with_reducible rfl))
    rotate_left; (intro _ _ _ h9; exact h9)
    try simp only [Act.put, List.setIfInBounds_toArray, List.set_cons_zero, List.set_cons_succ]
    refine wpAnyH_take (i := 14) (oi := ?_) (v := ?_) ?_ (by kernel_rfl) (by kernel_rfl) (by kernel_rfl) ?_ ?_ (by assumption) ?_
    rotate_left 2; (simp only [List.getElem?_toArray, List.getElem?_cons_succ, List.getElem?_cons_zero]; rfl)
    rotate_left; (first | (refine .inl ⟨by rfl, ?_⟩; intro w9 hS9; go_simp; try with_reducible rfl) | (refine .inr ⟨by rfl, ?_⟩; with_reducible rfl))
    rotate_left; (intro _ _ _ h9; exact h9)
    try simp only [Act.put, List.setIfInBounds_toArray, List.set_cons_zero, List.set_cons_succ]
    refine wpAnyH_done (by kernel_rfl) ?_ _
    clear hS0 c1
    go_wp2_with fail
    generalize w0.setCell ⟨g, 65 + i, none⟩ (.slice none 0 0) = w1 at *
    clear cS cF
    go_loopw [29] (fun s29 wr => ∃ j : Nat, j ≤ n ∧ s29 = .int .i64 j ∧ SK w g gp P pool (up s 1 i []) now cnt sv (.slice As n cap) (s 1 i) j wr) (fun s29 _ => n - (intOf s29).toNat)
    case atStart => exact ⟨0, Nat.zero_le _, rfl, HWR.out⟩
    case round =>
      obtain ⟨j, hj, rfl, ⟨⟨sv', cs', hx, hft, hno⟩, hfr, hrow⟩⟩ := hrel
      have HX := Lib.hid hx
      have HFT := Lib.hid hft
      have HNO := Lib.hid hno
      have HFR := Lib.hid hfr
      have HROW := Lib.hid hrow
      by_cases hlt : j < n
      · have hlt' : (j : Int) < n := by omega
        have HJ := Lib.hid hlt
        have hjl : j < (s 1 i).length := by rw [HXL.out]; exact hlt
        obtain ⟨A3, c3, e3, hre, _⟩ := hrow.re (by rw [HXL.out]; omega)
        rw [HXL.out] at e3 hre
        cases e3
        obtain ⟨b, off, e4, hbl, _⟩ := hre.cells (by omega)
        subst e4
        have q0 := hre.elem kc_len j hjl 0 _ rfl
        have hkm := HMEM.out (s 1 i)[j] (List.getElem_mem hjl)
        have htk : (s 1 i).take (j + 1) = (s 1 i).take j ++ [(s 1 i)[j]] := List.take_succ_eq_append_getElem hjl
        generalize (s 1 i)[j] = k at *
        rw [show off + j * 1 + 0 = off + j by omega] at q0
        have HTK := Lib.hid htk
        have HKM := Lib.hid hkm
        clear hx hft hno hfr hrow hlt hj hjl hre hbl hkm htk
        go_wp2_with fail
        refine (wh_lay g gp P pool _ now cnt k HKM.out ((pool[k]?.map (·.at_)).getD 0) sv' cs' _ HX.out hn (by rw [List.getElem?_eq_getElem (by rw [HX.out.len]; exact HKM.out)]; rfl) (by rw [List.getElem?_eq_getElem (by rw [HX.out.len]; exact HKM.out)]; exact hat _ (List.getElem_mem _)) (fun l' i' => by
          refine Nat.le_trans (lays_len _ _ _ l' i') ?_
          have h1 : (up s 1 i [] l' i').length ≤ 500 := by
            unfold up
            split
            · exact Nat.zero_le _
            · exact HLEN.out l' i'
          have h2 := HLEN.out 1 i
          rw [List.length_take]
          omega)).mono ?_
        rintro e w5 ⟨rfl, ⟨⟨sv5, cs5, hx5, hft5⟩, hfr5⟩⟩
        have hsz := HFR.out.size
        have HN := Lib.hid (show SK w g gp P pool (up s 1 i []) now cnt sv (.slice (some ⟨b, off, none⟩) n cap) (s 1 i) (j + 1) w5 from
          ⟨⟨sv5, cs5, by rw [HTK.out, lays_snoc]; exact hx5, fun b9 hb9 => (hft5 b9 hb9).elim (HFT.out b9) (fun h => .inr (by omega)), fun b9 hb9 hb8 => (hft5 b9 hb8).elim (HNO.out b9 hb9) (fun h => by have := HROW.out.lt b9 hb9; omega)⟩,
            HFR.out.trans hfr5 (fun b9 hb9 => HFT.out b9 hb9), HROW.out.fr hfr5 (fun b9 hb9 => HNO.out b9 hb9)⟩)
        clear hx5 hft5 hfr5 hsz HX HFT HNO HFR HROW
        go_wp2_with fail
        exact ⟨⟨j + 1, by have := HJ.out; omega, by go_num, HN.out⟩, by have := HJ.out; simp [intOf]; omega⟩
      · obtain rfl : j = n := by omega
        have HRES := Lib.hid (show WhTo w wr g gp P sv pool (sinkS (qof pool now) s 1 i) now cnt from ⟨⟨sv', cs', by
          have := HX.out
          rw [List.take_of_length_le (by rw [HXL.out]; exact Nat.le_refl _)] at this
          exact this, HFT.out⟩, HFR.out⟩)
        clear hx hft hno hfr hrow hlt hj
        go_wp2_with fail
        go_end0
        exact ⟨rfl, HRES.out⟩
  · show Calls _ _ #[_, .int .i64 2] _ _
    obtain ⟨i, hi⟩ : ∃ i : Nat, i = ixw now 2 := ⟨_, rfl⟩
    have hil : i < 64 := by rw [hi]; unfold ixw; simp; omega
    have hi1 : ((now : Int) / 4096).tmod 64 = (i : Int) := by
      rw [hi, Int.tmod_eq_emod_of_nonneg (by omega)]
      unfold ixw
      simp
    have hi2 : (i : Int) < 64 := by omega
    have HI := Lib.hid hi
    rw [← hi] at hmem
    rw [← hi]
    have hxs := hlen 2 i
    have hown0 := h.r.own 2 i (by omega) hil
    obtain ⟨As, cap, hsv, _⟩ := hown0.re (by omega)
    have c1 : ∀ w', Below w.heap.size w w' → w'.cell? ⟨g, 257, none⟩ = some (.int .i64 now) := fun w' hb => (h.below hb).c.cNow
    have hd := h.below (below_drew1 w)
    have cS := hd.c.cSlot (2 * 64 + i) (by omega)
    rw [show 1 + (2 * 64 + i) = 129 + i by omega, hsv] at cS
    have cF := hd.c.free (129 + i)
    obtain ⟨sv1, cs1, hx1, hf1, hft, hno⟩ := hd.clear 2 i (by omega) hil (129 + i) (by omega)
    have hwr : SK w g gp P pool (up s 2 i []) now cnt sv (.slice As (s 2 i).length cap) (s 2 i) 0 (w.drew.setCell ⟨g, 129 + i, none⟩ (.slice none 0 0)) := by
      refine ⟨⟨sv1, cs1, hx1, fun b hb => .inl (hft b hb), fun b hb => hno b (by rw [hsv]; exact hb)⟩, (Fr.ofBelow (below_drew1 w) _).trans hf1 (fun b e => .inl (.inl e)), ?_⟩
      rw [← hsv]
      exact (hown0.fr (Fr.ofBelow (below_drew1 w) (fun _ => False)) (fun _ _ h => h)).fr hf1 (fun b hb e => (hd.r.off _ (by omega) b hb).1 e)
    have HWR := Lib.hid hwr
    generalize hxl : (s 2 i).length = n at *
    have HXL := Lib.hid hxl
    have HS := Lib.hid (show ∀ ks, sinkS (qof pool now) s 2 i = lays (qof pool now) (up s 2 i []) ks ↔ lays (qof pool now) (up s 2 i []) (s 2 i) = lays (qof pool now) (up s 2 i []) ks from fun ks => Iff.rfl)
    have HLEN := Lib.hid hlen
    have HMEM := Lib.hid hmem
    clear h hi hil hown0 hsv hxl hlen hd hx1 hf1 hft hno hwr hmem
    go_enter Tryd.func33, Tryd.ntmps33
    go_upto_region 0 with fail
    have hS0 := below_drew1 w
    refine wp_region_held (S := fun w' => Below w.heap.size w w') (by kernel_rfl) ?_
    change wpAnyH _ _ _ _ _ _ _ _ w.drew
    generalize w.drew = w0 at *
    change wpAnyH _ _ _ _ _ 15 (Array.replicate 15 false) _ _
    refine wpAnyH_take (i := 0) (oi := ?_) (v := ?_) ?_ (by kernel_rfl) (by kernel_rfl) (by kernel_rfl) ?_ ?_ (by assumption) ?_
    rotate_left 2; (simp only [List.getElem?_toArray, List.getElem?_cons_succ, List.getElem?_cons_zero]; rfl)
    rotate_left; (first | (refine .inl ⟨by rfl, ?_⟩; intro w9 hS9; go_simp; try with_reducible rfl) | (refine .inr ⟨by rfl, ?_⟩; with_reducible rfl))
    rotate_left; (intro _ _ _ h9; exact h9)
    try simp only [Act.put, List.setIfInBounds_toArray, List.set_cons_zero, List.set_cons_succ]
    refine wpAnyH_take (i := 1) (oi := ?_) (v := ?_) ?_ (by kernel_rfl) (by kernel_rfl) (by kernel_rfl) ?_ ?_ (by assumption) ?_
    rotate_left 2; (simp only [List.getElem?_toArray, List.getElem?_cons_succ, List.getElem?_cons_zero]; rfl)
    rotate_left; (first | (refine .inl ⟨by rfl, ?_⟩; intro w9 hS9; go_simp; try with_reducible rfl) | (refine .inr ⟨by rfl, ?_⟩; with_reducible rfl))
    rotate_left; (intro _ _ _ h9; exact h9)
    try simp only [Act.put, List.setIfInBounds_toArray, List.set_cons_zero, List.set_cons_succ]
    refine wpAnyH_take (i := 2) (oi := ?_) (v := ?_) ?_ (by kernel_rfl) (by kernel_rfl) (by kernel_rfl) ?_ ?_ (by assumption) ?_
    rotate_left 2; (simp only [List.getElem?_toArray, List.getElem?_cons_succ, List.getElem?_cons_zero]; rfl)
    rotate_left; (first | (refine .inl ⟨by rfl, ?_⟩; intro w9 hS9; go_simp; try with_reducible rfl) | (refine .inr ⟨by rfl, ?_⟩; with_reducible rfl))
    rotate_left; (intro _ _ _ h9; exact h9)
    try simp only [Act.put, List.setIfInBounds_toArray, List.set_cons_zero, List.set_cons_succ]
    refine wpAnyH_take (i := 3) (oi := ?_) (v := ?_) ?_ (by kernel_rfl) (by kernel_rfl) (by kernel_rfl) ?_ ?_ (by assumption) ?_
    rotate_left 2; (simp only [List.getElem?_toArray, List.getElem?_cons_succ, List.getElem?_cons_zero]; rfl)
    rotate_left; (first | (refine .inl ⟨by rfl, ?_⟩; intro w9 hS9; go_simp; try with_reducible rfl) | (refine .inr ⟨by rfl, ?_⟩; with_reducible rfl))
    rotate_left; (intro _ _ _ h9; exact h9)
    try simp only [Act.put, List.setIfInBounds_toArray, List.set_cons_zero, List.set_cons_succ]
    refine wpAnyH_take (i := 4) (oi := ?_) (v := ?_) ?_ (by kernel_rfl) (by kernel_rfl) (by kernel_rfl) ?_ ?_ (by assumption) ?_
    rotate_left 2; (simp only [List.getElem?_toArray, List.getElem?_cons_succ, List.getElem?_cons_zero]; rfl)
    rotate_left; (first | (refine .inl ⟨by rfl, ?_⟩; intro w9 hS9; go_simp; try with_reducible rfl) | (refine .inr ⟨by rfl, ?_⟩; with_reducible rfl))
    rotate_left; (intro _ _ _ h9; exact h9)
    try simp only [Act.put, List.setIfInBounds_toArray, List.set_cons_zero, List.set_cons_succ]
    refine wpAnyH_take (i := 5) (oi := ?_) (v := ?_) ?_ (by kernel_rfl) (by kernel_rfl) (by kernel_rfl) ?_ ?_ (by assumption) ?_
    rotate_left 2; (simp only [List.getElem?_toArray, List.getElem?_cons_succ, List.getElem?_cons_zero]; rfl)
    rotate_left; (first | (refine .inl ⟨by rfl, ?_⟩; intro w9 hS9; go_simp; try with_reducible rfl) | (refine .inr ⟨by rfl, ?_⟩; with_reducible rfl))
    rotate_left; (intro _ _ _ h9; exact h9)
    try simp only [Act.put, List.setIfInBounds_toArray, List.set_cons_zero, List.set_cons_succ]
    refine wpAnyH_take (i := 6) (oi := ?_) (v := ?_) ?_ (by kernel_rfl) (by kernel_rfl) (by kernel_rfl) ?_ ?_ (by assumption) ?_
    rotate_left 2; (simp only [List.getElem?_toArray, List.getElem?_cons_succ, List.getElem?_cons_zero]; rfl)
    rotate_left; (first | (refine .inl ⟨by rfl, ?_⟩; intro w9 hS9; go_simp; try with_reducible rfl) | (refine .inr ⟨by rfl, ?_⟩; with_reducible rfl))
    rotate_left; (intro _ _ _ h9; exact h9)
    try simp only [Act.put, List.setIfInBounds_toArray, List.set_cons_zero, List.set_cons_succ]
    refine wpAnyH_take (i := 7) (oi := ?_) (v := ?_) ?_ (by kernel_rfl) (by kernel_rfl) (by kernel_rfl) ?_ ?_ (by assumption) ?_
    rotate_left 2; (simp only [List.getElem?_toArray, List.getElem?_cons_succ, List.getElem?_cons_zero]; rfl)
    rotate_left; (first | (refine .inl ⟨by rfl, ?_⟩; intro w9 hS9; go_simp; try with_reducible rfl) | (refine .inr ⟨by rfl, ?_⟩; with_reducible rfl))
    rotate_left; (intro _ _ _ h9; exact h9)
    try simp only [Act.put, List.setIfInBounds_toArray, List.set_cons_zero, List.set_cons_succ]
    refine wpAnyH_take (i := 8) (oi := ?_) (v := ?_) ?_ (by kernel_rfl) (by kernel_rfl) (by kernel_rfl) ?_ ?_ (by assumption) ?_
    rotate_left 2; (simp only [List.getElem?_toArray, List.getElem?_cons_succ, List.getElem?_cons_zero]; rfl)
    rotate_left; (first | (refine .inl ⟨by rfl, ?_⟩; intro w9 hS9; go_simp; try with_reducible rfl) | (refine .inr ⟨by rfl, ?_⟩; with_reducible rfl))
    rotate_left; (intro _ _ _ h9; exact h9)
    try simp only [Act.put, List.setIfInBounds_toArray, List.set_cons_zero, List.set_cons_succ]
    refine wpAnyH_take (i := 9) (oi := ?_) (v := ?_) ?_ (by kernel_rfl) (by kernel_rfl) (by kernel_rfl) ?_ ?_ (by assumption) ?_
    rotate_left 2; (simp only [List.getElem?_toArray, List.getElem?_cons_succ, List.getElem?_cons_zero]; rfl)
    rotate_left; (first | (refine .inl ⟨by rfl, ?_⟩; intro w9 hS9; go_simp; try with_reducible rfl) | (refine .inr ⟨by rfl, ?_⟩; with_reducible rfl))
    rotate_left; (intro _ _ _ h9; exact h9)
    try simp only [Act.put, List.setIfInBounds_toArray, List.set_cons_zero, List.set_cons_succ]
    refine wpAnyH_take (i := 10) (oi := ?_) (v := ?_) ?_ (by kernel_rfl) (by kernel_rfl) (by kernel_rfl) ?_ ?_ (by assumption) ?_
    rotate_left 2; (simp only [List.getElem?_toArray, List.getElem?_cons_succ, List.getElem?_cons_zero]; rfl)
    rotate_left; (first | (refine .inl ⟨by rfl, ?_⟩; intro w9 hS9; go_simp; try with_reducible rfl) | (refine .inr ⟨by rfl, ?_⟩; with_reducible rfl))
    rotate_left; (intro _ _ _ h9; exact h9)
    try simp only [Act.put, List.setIfInBounds_toArray, List.set_cons_zero, List.set_cons_succ]
    refine wpAnyH_take (i := 11) (oi := ?_) (v := ?_) ?_ (by kernel_rfl) (by kernel_rfl) (by kernel_rfl) ?_ ?_ (by assumption) ?_
    rotate_left 2; (simp only [List.getElem?_toArray, List.getElem?_cons_succ, List.getElem?_cons_zero]; rfl)
    rotate_left; (first | (refine .inl ⟨by rfl, ?_⟩; intro w9 hS9; go_simp; try with_reducible rfl) | (refine .inr ⟨by rfl, ?_⟩; with_reducible rfl))
    rotate_left; (intro _ _ _ h9; exact h9)
    try simp only [Act.put, List.setIfInBounds_toArray, List.set_cons_zero, List.set_cons_succ]
    refine wpAnyH_take (i := 12) (oi := ?_) (v := ?_) ?_ (by kernel_rfl) (by kernel_rfl) (by kernel_rfl) ?_ ?_ (by assumption) ?_
    rotate_left 2; (simp only [List.getElem?_toArray, List.getElem?_cons_succ, List.getElem?_cons_zero]; rfl)
    rotate_left; (first | (refine .inl ⟨by rfl, ?_⟩; intro w9 hS9; go_simp; try with_reducible rfl) | (refine .inr ⟨by rfl, ?_⟩; with_reducible rfl))
    rotate_left; (intro _ _ _ h9; exact h9)
    try simp only [Act.put, List.setIfInBounds_toArray, List.set_cons_zero, List.set_cons_succ]
    refine wpAnyH_take (i := 13) (oi := ?_) (v := ?_) ?_ (by kernel_rfl) (by kernel_rfl) (by kernel_rfl) ?_ ?_ (by assumption) ?_
    rotate_left 2; (simp only [List.getElem?_toArray, List.getElem?_cons_succ, List.getElem?_cons_zero]; rfl)
    rotate_left; (first | (refine .inl ⟨by rfl, ?_⟩; intro w9 hS9; go_simp; try with_reducible rfl) | (refine .inr ⟨by rfl, ?_⟩; with_reducible rfl))
    rotate_left; (intro _ _ _ h9; exact h9)
    try simp only [Act.put, List.setIfInBounds_toArray, List.set_cons_zero, List.set_cons_succ]
    refine wpAnyH_take (i := 14) (oi := ?_) (v := ?_) ?_ (by kernel_rfl) (by kernel_rfl) (by kernel_rfl) ?_ ?_ (by assumption) ?_
    rotate_left 2; (simp only [List.getElem?_toArray, List.getElem?_cons_succ, List.getElem?_cons_zero]; rfl)
    rotate_left; (first | (refine .inl ⟨by rfl, ?_⟩; intro w9 hS9; go_simp; try with_reducible rfl) | (refine .inr ⟨by rfl, ?_⟩; with_reducible rfl))
    rotate_left; (intro _ _ _ h9; exact h9)
    try simp only [Act.put, List.setIfInBounds_toArray, List.set_cons_zero, List.set_cons_succ]
    refine wpAnyH_done (by kernel_rfl) ?_ _
    clear hS0 c1
    go_wp2_with fail
    generalize w0.setCell ⟨g, 129 + i, none⟩ (.slice none 0 0) = w1 at *
    clear cS cF
    go_loopw [29] (fun s29 wr => ∃ j : Nat, j ≤ n ∧ s29 = .int .i64 j ∧ SK w g gp P pool (up s 2 i []) now cnt sv (.slice As n cap) (s 2 i) j wr) (fun s29 _ => n - (intOf s29).toNat)
    case atStart => exact ⟨0, Nat.zero_le _, rfl, HWR.out⟩
    case round =>
      obtain ⟨j, hj, rfl, ⟨⟨sv', cs', hx, hft, hno⟩, hfr, hrow⟩⟩ := hrel
      have HX := Lib.hid hx
      have HFT := Lib.hid hft
      have HNO := Lib.hid hno
      have HFR := Lib.hid hfr
      have HROW := Lib.hid hrow
      by_cases hlt : j < n
      · have hlt' : (j : Int) < n := by omega
        have HJ := Lib.hid hlt
        have hjl : j < (s 2 i).length := by rw [HXL.out]; exact hlt
        obtain ⟨A3, c3, e3, hre, _⟩ := hrow.re (by rw [HXL.out]; omega)
        rw [HXL.out] at e3 hre
        cases e3
        obtain ⟨b, off, e4, hbl, _⟩ := hre.cells (by omega)
        subst e4
        have q0 := hre.elem kc_len j hjl 0 _ rfl
        have hkm := HMEM.out (s 2 i)[j] (List.getElem_mem hjl)
        have htk : (s 2 i).take (j + 1) = (s 2 i).take j ++ [(s 2 i)[j]] := List.take_succ_eq_append_getElem hjl
        generalize (s 2 i)[j] = k at *
        rw [show off + j * 1 + 0 = off + j by omega] at q0
        have HTK := Lib.hid htk
        have HKM := Lib.hid hkm
        clear hx hft hno hfr hrow hlt hj hjl hre hbl hkm htk
        go_wp2_with fail
        refine (wh_lay g gp P pool _ now cnt k HKM.out ((pool[k]?.map (·.at_)).getD 0) sv' cs' _ HX.out hn (by rw [List.getElem?_eq_getElem (by rw [HX.out.len]; exact HKM.out)]; rfl) (by rw [List.getElem?_eq_getElem (by rw [HX.out.len]; exact HKM.out)]; exact hat _ (List.getElem_mem _)) (fun l' i' => by
          refine Nat.le_trans (lays_len _ _ _ l' i') ?_
          have h1 : (up s 2 i [] l' i').length ≤ 500 := by
            unfold up
            split
            · exact Nat.zero_le _
            · exact HLEN.out l' i'
          have h2 := HLEN.out 2 i
          rw [List.length_take]
          omega)).mono ?_
        rintro e w5 ⟨rfl, ⟨⟨sv5, cs5, hx5, hft5⟩, hfr5⟩⟩
        have hsz := HFR.out.size
        have HN := Lib.hid (show SK w g gp P pool (up s 2 i []) now cnt sv (.slice (some ⟨b, off, none⟩) n cap) (s 2 i) (j + 1) w5 from
          ⟨⟨sv5, cs5, by rw [HTK.out, lays_snoc]; exact hx5, fun b9 hb9 => (hft5 b9 hb9).elim (HFT.out b9) (fun h => .inr (by omega)), fun b9 hb9 hb8 => (hft5 b9 hb8).elim (HNO.out b9 hb9) (fun h => by have := HROW.out.lt b9 hb9; omega)⟩,
            HFR.out.trans hfr5 (fun b9 hb9 => HFT.out b9 hb9), HROW.out.fr hfr5 (fun b9 hb9 => HNO.out b9 hb9)⟩)
        clear hx5 hft5 hfr5 hsz HX HFT HNO HFR HROW
        go_wp2_with fail
        exact ⟨⟨j + 1, by have := HJ.out; omega, by go_num, HN.out⟩, by have := HJ.out; simp [intOf]; omega⟩
      · obtain rfl : j = n := by omega
        have HRES := Lib.hid (show WhTo w wr g gp P sv pool (sinkS (qof pool now) s 2 i) now cnt from ⟨⟨sv', cs', by
          have := HX.out
          rw [List.take_of_length_le (by rw [HXL.out]; exact Nat.le_refl _)] at this
          exact this, HFT.out⟩, HFR.out⟩)
        clear hx hft hno hfr hrow hlt hj
        go_wp2_with fail
        go_end0
        exact ⟨rfl, HRES.out⟩
  · show Calls _ _ #[_, .int .i64 3] _ _
    obtain ⟨i, hi⟩ : ∃ i : Nat, i = ixw now 3 := ⟨_, rfl⟩
    have hil : i < 64 := by rw [hi]; unfold ixw; simp; omega
    have hi1 : ((now : Int) / 262144).tmod 64 = (i : Int) := by
      rw [hi, Int.tmod_eq_emod_of_nonneg (by omega)]
      unfold ixw
      simp
    have hi2 : (i : Int) < 64 := by omega
    have HI := Lib.hid hi
    rw [← hi] at hmem
    rw [← hi]
    have hxs := hlen 3 i
    have hown0 := h.r.own 3 i (by omega) hil
    obtain ⟨As, cap, hsv, _⟩ := hown0.re (by omega)
    have c1 : ∀ w', Below w.heap.size w w' → w'.cell? ⟨g, 257, none⟩ = some (.int .i64 now) := fun w' hb => (h.below hb).c.cNow
    have hd := h.below (below_drew1 w)
    have cS := hd.c.cSlot (3 * 64 + i) (by omega)
    rw [show 1 + (3 * 64 + i) = 193 + i by omega, hsv] at cS
    have cF := hd.c.free (193 + i)
    obtain ⟨sv1, cs1, hx1, hf1, hft, hno⟩ := hd.clear 3 i (by omega) hil (193 + i) (by omega)
    have hwr : SK w g gp P pool (up s 3 i []) now cnt sv (.slice As (s 3 i).length cap) (s 3 i) 0 (w.drew.setCell ⟨g, 193 + i, none⟩ (.slice none 0 0)) := by
      refine ⟨⟨sv1, cs1, hx1, fun b hb => .inl (hft b hb), fun b hb => hno b (by rw [hsv]; exact hb)⟩, (Fr.ofBelow (below_drew1 w) _).trans hf1 (fun b e => .inl (.inl e)), ?_⟩
      rw [← hsv]
      exact (hown0.fr (Fr.ofBelow (below_drew1 w) (fun _ => False)) (fun _ _ h => h)).fr hf1 (fun b hb e => (hd.r.off _ (by omega) b hb).1 e)
    have HWR := Lib.hid hwr
    generalize hxl : (s 3 i).length = n at *
    have HXL := Lib.hid hxl
    have HS := Lib.hid (show ∀ ks, sinkS (qof pool now) s 3 i = lays (qof pool now) (up s 3 i []) ks ↔ lays (qof pool now) (up s 3 i []) (s 3 i) = lays (qof pool now) (up s 3 i []) ks from fun ks => Iff.rfl)
    have HLEN := Lib.hid hlen
    have HMEM := Lib.hid hmem
    clear h hi hil hown0 hsv hxl hlen hd hx1 hf1 hft hno hwr hmem
    go_enter Tryd.func33, Tryd.ntmps33
    go_upto_region 0 with fail
    have hS0 := below_drew1 w
    refine wp_region_held (S := fun w' => Below w.heap.size w w') (by kernel_rfl) ?_
    change wpAnyH _ _ _ _ _ _ _ _ w.drew
    generalize w.drew = w0 at *
    change wpAnyH _ _ _ _ _ 15 (Array.replicate 15 false) _ _
    refine wpAnyH_take (i := 0) (oi := ?_) (v := ?_) ?_ (by kernel_rfl) (by kernel_rfl) (by kernel_rfl) ?_ ?_ (by assumption) ?_
    rotate_left 2; (simp only [List.getElem?_toArray, List.getElem?_cons_succ, List.getElem?_cons_zero]; rfl)
    rotate_left; (first | (refine .inl ⟨by rfl, ?_⟩; intro w9 hS9; go_simp; try with_reducible rfl) | (refine .inr ⟨by rfl, ?_⟩; with_reducible rfl))
    rotate_left; (intro _ _ _ h9; exact h9)
    try simp only [Act.put, List.setIfInBounds_toArray, List.set_cons_zero, List.set_cons_succ]
    refine wpAnyH_take (i := 1) (oi := ?_) (v := ?_) ?_ (by kernel_rfl) (by kernel_rfl) (by kernel_rfl) ?_ ?_ (by assumption) ?_
    rotate_left 2; (simp only [List.getElem?_toArray, List.getElem?_cons_succ, List.getElem?_cons_zero]; rfl)
    rotate_left; (first | (refine .inl ⟨by rfl, ?_⟩; intro w9 hS9; go_simp; try with_reducible rfl) | (refine .inr ⟨by rfl, ?_⟩; with_reducible rfl))
    rotate_left; (intro _ _ _ h9; exact h9)
    try simp only [Act.put, List.setIfInBounds_toArray, List.set_cons_zero, List.set_cons_succ]
    refine wpAnyH_take (i := 2) (oi := ?_) (v := ?_) ?_ (by kernel_rfl) (by kernel_rfl) (by kernel_rfl) ?_ ?_ (by assumption) ?_
    rotate_left 2; (simp only [List.getElem?_toArray, List.getElem?_cons_succ, List.getElem?_cons_zero]; rfl)
    rotate_left; (first | (refine .inl ⟨by rfl, ?_⟩; intro w9 hS9; go_simp; try with_reducible rfl) | (refine .inr ⟨by rfl, ?_⟩; with_reducible rfl))
    rotate_left; (intro _ _ _ h9; exact h9)
    try simp only [Act.put, List.setIfInBounds_toArray, List.set_cons_zero, List.set_cons_succ]
    refine wpAnyH_take (i := 3) (oi := ?_) (v := ?_) ?_ (by kernel_rfl) (by kernel_rfl) (by kernel_rfl) ?_ ?_ (by assumption) ?_
    rotate_left 2; (simp only [List.getElem?_toArray, List.getElem?_cons_succ, List.getElem?_cons_zero]; rfl)
    rotate_left; (first | (refine .inl ⟨by rfl, ?_⟩; intro w9 hS9; go_simp; try with_reducible rfl) | (refine .inr ⟨by rfl, ?_⟩; with_reducible rfl))
    rotate_left; (intro _ _ _ h9; exact h9)
    try simp only [Act.put, List.setIfInBounds_toArray, List.set_cons_zero, List.set_cons_succ]
    refine wpAnyH_take (i := 4) (oi := ?_) (v := ?_) ?_ (by kernel_rfl) (by kernel_rfl) (by kernel_rfl) ?_ ?_ (by assumption) ?_
    rotate_left 2; (simp only [List.getElem?_toArray, List.getElem?_cons_succ, List.getElem?_cons_zero]; rfl)
    rotate_left; (first | (refine .inl ⟨by rfl, ?_⟩; intro w9 hS9; go_simp; try with_reducible rfl) | (refine .inr ⟨by rfl, ?_⟩; with_reducible rfl))
    rotate_left; (intro _ _ _ h9; exact h9)
    try simp only [Act.put, List.setIfInBounds_toArray, List.set_cons_zero, List.set_cons_succ]
    refine wpAnyH_take (i := 5) (oi := ?_) (v := ?_) ?_ (by kernel_rfl) (by kernel_rfl) (by kernel_rfl) ?_ ?_ (by assumption) ?_
    rotate_left 2; (simp only [List.getElem?_toArray, List.getElem?_cons_succ, List.getElem?_cons_zero]; rfl)
    rotate_left; (first | (refine .inl ⟨by rfl, ?_⟩; intro w9 hS9; go_simp; try with_reducible rfl) | (refine .inr ⟨by rfl, ?_⟩; with_reducible rfl))
    rotate_left; (intro _ _ _ h9; exact h9)
    try simp only [Act.put, List.setIfInBounds_toArray, List.set_cons_zero, List.set_cons_succ]
    refine wpAnyH_take (i := 6) (oi := ?_) (v := ?_) ?_ (by kernel_rfl) (by kernel_rfl) (by kernel_rfl) ?_ ?_ (by assumption) ?_
    rotate_left 2; (simp only [List.getElem?_toArray, List.getElem?_cons_succ, List.getElem?_cons_zero]; rfl)
    rotate_left; (first | (refine .inl ⟨by rfl, ?_⟩; intro w9 hS9; go_simp; try with_reducible rfl) | (refine .inr ⟨by rfl, ?_⟩; with_reducible rfl))
    rotate_left; (intro _ _ _ h9; exact h9)
    try simp only [Act.put, List.setIfInBounds_toArray, List.set_cons_zero, List.set_cons_succ]
    refine wpAnyH_take (i := 7) (oi := ?_) (v := ?_) ?_ (by kernel_rfl) (by kernel_rfl) (by kernel_rfl) ?_ ?_ (by assumption) ?_
    rotate_left 2; (simp only [List.getElem?_toArray, List.getElem?_cons_succ, List.getElem?_cons_zero]; rfl)
    rotate_left; (first | (refine .inl ⟨by rfl, ?_⟩; intro w9 hS9; go_simp; try with_reducible rfl) | (refine .inr ⟨by rfl, ?_⟩; with_reducible rfl))
    rotate_left; (intro _ _ _ h9; exact h9)
    try simp only [Act.put, List.setIfInBounds_toArray, List.set_cons_zero, List.set_cons_succ]
    refine wpAnyH_take (i := 8) (oi := ?_) (v := ?_) ?_ (by kernel_rfl) (by kernel_rfl) (by kernel_rfl) ?_ ?_ (by assumption) ?_
    rotate_left 2; (simp only [List.getElem?_toArray, List.getElem?_cons_succ, List.getElem?_cons_zero]; rfl)
    rotate_left; (first | (refine .inl ⟨by rfl, ?_⟩; intro w9 hS9; go_simp; try with_reducible rfl) | (refine .inr ⟨by rfl, ?_⟩; with_reducible rfl))
    rotate_left; (intro _ _ _ h9; exact h9)
    try simp only [Act.put, List.setIfInBounds_toArray, List.set_cons_zero, List.set_cons_succ]
    refine wpAnyH_take (i := 9) (oi := ?_) (v := ?_) ?_ (by kernel_rfl) (by kernel_rfl) (by kernel_rfl) ?_ ?_ (by assumption) ?_
    rotate_left 2; (simp only [List.getElem?_toArray, List.getElem?_cons_succ, List.getElem?_cons_zero]; rfl)
    rotate_left; (first | (refine .inl ⟨by rfl, ?_⟩; intro w9 hS9; go_simp; try with_reducible rfl) | (refine .inr ⟨by rfl, ?_⟩; with_reducible rfl))
    rotate_left; (intro _ _ _ h9; exact h9)
    try simp only [Act.put, List.setIfInBounds_toArray, List.set_cons_zero, List.set_cons_succ]
    refine wpAnyH_take (i := 10) (oi := ?_) (v := ?_) ?_ (by kernel_rfl) (by kernel_rfl) (by kernel_rfl) ?_ ?_ (by assumption) ?_
    rotate_left 2; (simp only [List.getElem?_toArray, List.getElem?_cons_succ, List.getElem?_cons_zero]; rfl)
    rotate_left; (first | (refine .inl ⟨by rfl, ?_⟩; intro w9 hS9; go_simp; try with_reducible rfl) | (refine .inr ⟨by rfl, ?_⟩; with_reducible rfl))
    rotate_left; (intro _ _ _ h9; exact h9)
    try simp only [Act.put, List.setIfInBounds_toArray, List.set_cons_zero, List.set_cons_succ]
    refine wpAnyH_take (i := 11) (oi := ?_) (v := ?_) ?_ (by kernel_rfl) (by kernel_rfl) (by kernel_rfl) ?_ ?_ (by assumption) ?_
    rotate_left 2; (simp only [List.getElem?_toArray, List.getElem?_cons_succ, List.getElem?_cons_zero]; rfl)
    rotate_left; (first | (refine .inl ⟨by rfl, ?_⟩; intro w9 hS9; go_simp; try with_reducible rfl) | (refine .inr ⟨by rfl, ?_⟩; with_reducible rfl))
    rotate_left; (intro _ _ _ h9; exact h9)
    try simp only [Act.put, List.setIfInBounds_toArray, List.set_cons_zero, List.set_cons_succ]
    refine wpAnyH_take (i := 12) (oi := ?_) (v := ?_) ?_ (by kernel_rfl) (by kernel_rfl) (by kernel_rfl) ?_ ?_ (by assumption) ?_
    rotate_left 2; (simp only [List.getElem?_toArray, List.getElem?_cons_succ, List.getElem?_cons_zero]; rfl)
    rotate_left; (first | (refine .inl ⟨by rfl, ?_⟩; intro w9 hS9; go_simp; try with_reducible rfl) | (refine .inr ⟨by rfl, ?_⟩; with_reducible rfl))
    rotate_left; (intro _ _ _ h9; exact h9)
    try simp only [Act.put, List.setIfInBounds_toArray, List.set_cons_zero, List.set_cons_succ]
    refine wpAnyH_take (i := 13) (oi := ?_) (v := ?_) ?_ (by kernel_rfl) (by kernel_rfl) (by kernel_rfl) ?_ ?_ (by assumption) ?_
    rotate_left 2; (simp only [List.getElem?_toArray, List.getElem?_cons_succ, List.getElem?_cons_zero]; rfl)
    rotate_left; (first | (refine .inl ⟨by rfl, ?_⟩; intro w9 hS9; go_simp; try with_reducible rfl) | (refine .inr ⟨by rfl, ?_⟩; with_reducible rfl))
    rotate_left; (intro _ _ _ h9; exact h9)
    try simp only [Act.put, List.setIfInBounds_toArray, List.set_cons_zero, List.set_cons_succ]
    refine wpAnyH_take (i := 14) (oi := ?_) (v := ?_) ?_ (by kernel_rfl) (by kernel_rfl) (by kernel_rfl) ?_ ?_ (by assumption) ?_
    rotate_left 2; (simp only [List.getElem?_toArray, List.getElem?_cons_succ, List.getElem?_cons_zero]; rfl)
    rotate_left; (first | (refine .inl ⟨by rfl, ?_⟩; intro w9 hS9; go_simp; try with_reducible rfl) | (refine .inr ⟨by rfl, ?_⟩; with_reducible rfl))
    rotate_left; (intro _ _ _ h9; exact h9)
    try simp only [Act.put, List.setIfInBounds_toArray, List.set_cons_zero, List.set_cons_succ]
    refine wpAnyH_done (by kernel_rfl) ?_ _
    clear hS0 c1
    go_wp2_with fail
    generalize w0.setCell ⟨g, 193 + i, none⟩ (.slice none 0 0) = w1 at *
    clear cS cF
    go_loopw [29] (fun s29 wr => ∃ j : Nat, j ≤ n ∧ s29 = .int .i64 j ∧ SK w g gp P pool (up s 3 i []) now cnt sv (.slice As n cap) (s 3 i) j wr) (fun s29 _ => n - (intOf s29).toNat)
    case atStart => exact ⟨0, Nat.zero_le _, rfl, HWR.out⟩
    case round =>
      obtain ⟨j, hj, rfl, ⟨⟨sv', cs', hx, hft, hno⟩, hfr, hrow⟩⟩ := hrel
      have HX := Lib.hid hx
      have HFT := Lib.hid hft
      have HNO := Lib.hid hno
      have HFR := Lib.hid hfr
      have HROW := Lib.hid hrow
      by_cases hlt : j < n
      · have hlt' : (j : Int) < n := by omega
        have HJ := Lib.hid hlt
        have hjl : j < (s 3 i).length := by rw [HXL.out]; exact hlt
        obtain ⟨A3, c3, e3, hre, _⟩ := hrow.re (by rw [HXL.out]; omega)
        rw [HXL.out] at e3 hre
        cases e3
        obtain ⟨b, off, e4, hbl, _⟩ := hre.cells (by omega)
        subst e4
        have q0 := hre.elem kc_len j hjl 0 _ rfl
        have hkm := HMEM.out (s 3 i)[j] (List.getElem_mem hjl)
        have htk : (s 3 i).take (j + 1) = (s 3 i).take j ++ [(s 3 i)[j]] := List.take_succ_eq_append_getElem hjl
        generalize (s 3 i)[j] = k at *
        rw [show off + j * 1 + 0 = off + j by omega] at q0
        have HTK := Lib.hid htk
        have HKM := Lib.hid hkm
        clear hx hft hno hfr hrow hlt hj hjl hre hbl hkm htk
        go_wp2_with fail
        refine (wh_lay g gp P pool _ now cnt k HKM.out ((pool[k]?.map (·.at_)).getD 0) sv' cs' _ HX.out hn (by rw [List.getElem?_eq_getElem (by rw [HX.out.len]; exact HKM.out)]; rfl) (by rw [List.getElem?_eq_getElem (by rw [HX.out.len]; exact HKM.out)]; exact hat _ (List.getElem_mem _)) (fun l' i' => by
          refine Nat.le_trans (lays_len _ _ _ l' i') ?_
          have h1 : (up s 3 i [] l' i').length ≤ 500 := by
            unfold up
            split
            · exact Nat.zero_le _
            · exact HLEN.out l' i'
          have h2 := HLEN.out 3 i
          rw [List.length_take]
          omega)).mono ?_
        rintro e w5 ⟨rfl, ⟨⟨sv5, cs5, hx5, hft5⟩, hfr5⟩⟩
        have hsz := HFR.out.size
        have HN := Lib.hid (show SK w g gp P pool (up s 3 i []) now cnt sv (.slice (some ⟨b, off, none⟩) n cap) (s 3 i) (j + 1) w5 from
          ⟨⟨sv5, cs5, by rw [HTK.out, lays_snoc]; exact hx5, fun b9 hb9 => (hft5 b9 hb9).elim (HFT.out b9) (fun h => .inr (by omega)), fun b9 hb9 hb8 => (hft5 b9 hb8).elim (HNO.out b9 hb9) (fun h => by have := HROW.out.lt b9 hb9; omega)⟩,
            HFR.out.trans hfr5 (fun b9 hb9 => HFT.out b9 hb9), HROW.out.fr hfr5 (fun b9 hb9 => HNO.out b9 hb9)⟩)
        clear hx5 hft5 hfr5 hsz HX HFT HNO HFR HROW
        go_wp2_with fail
        exact ⟨⟨j + 1, by have := HJ.out; omega, by go_num, HN.out⟩, by have := HJ.out; simp [intOf]; omega⟩
      · obtain rfl : j = n := by omega
        have HRES := Lib.hid (show WhTo w wr g gp P sv pool (sinkS (qof pool now) s 3 i) now cnt from ⟨⟨sv', cs', by
          have := HX.out
          rw [List.take_of_length_le (by rw [HXL.out]; exact Nat.le_refl _)] at this
          exact this, HFT.out⟩, HFR.out⟩)
        clear hx hft hno hfr hrow hlt hj
        go_wp2_with fail
        go_end0
        exact ⟨rfl, HRES.out⟩
end Go.Proofs.YtpfoocndohpbbaaDoor
