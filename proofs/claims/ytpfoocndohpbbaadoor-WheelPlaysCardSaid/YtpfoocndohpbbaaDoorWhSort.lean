/- slices.SortFunc at a row of timers' numbers, by when they were armed. -/
import Derived.Test.YtpfoocndohpbbaaDoorWhCan
import Derived.Shelf.SlSortCmp.NoneTotal
import Derived.Shelf.Lay
import Derived.Ground.SlsfProg
namespace Go.Proofs
open Go.Shelf
shelf_lay_g SlLaysF.n6 Slsf 6 at Tryd 34 as Tryd.sortF
end Go.Proofs
namespace Go.Proofs.YtpfoocndohpbbaaDoor
open Go Go.RowKit Go.Shelf Go.Sort Go.Lib
set_option linter.unusedVariables false
set_option linter.unusedSimpArgs false
set_option maxHeartbeats 4000000 in
theorem sort_c (gp P g B x y : Nat) (od : Nat → Nat) (hx : x < P) (hy : y < P) (ho : ∀ k, k < P → od k ≤ 2000000000) (W : World) (hB : W.cell? ⟨B, 0, none⟩ = some (.pointer (some ⟨g, 0, none⟩))) (hg : W.cell? ⟨g, 0, none⟩ = some (.slice (some ⟨gp, 0, none⟩) P P)) (hc : ∀ k, k < P → W.cell? ⟨gp, k * 4 + 3, none⟩ = some (.int .i64 (od k))) :
    Calls Tryd.prog 35 #[.int .i64 x, .int .i64 y, .pointer (some ⟨B, 0, none⟩)] W fun e w' => e = .returned (.int .i64 ((od x : Int) - (od y : Int))) ∧ ∃ q, w' = W.drewN q := by
  have hx' : (x : Int) < P := by omega
  have hy' : (y : Int) < P := by omega
  have o1 := ho x hx
  have o2 := ho y hy
  have es : IntKind.i64.wrap ((od x : Int) - (od y : Int)) = (od x : Int) - (od y : Int) := by simp [IntKind.wrap, IntKind.bits, IntKind.signed]; omega
  have x0 : ∀ w', (∃ q, w' = W.drewN q) → w'.cell? ⟨B, 0, none⟩ = some (.pointer (some ⟨g, 0, none⟩)) := by rintro w' ⟨q, rfl⟩; exact hB
  have x1 : ∀ w', (∃ q, w' = W.drewN q) → w'.cell? ⟨g, 0, none⟩ = some (.slice (some ⟨gp, 0, none⟩) P P) := by rintro w' ⟨q, rfl⟩; exact hg
  have x2 : ∀ w', (∃ q, w' = W.drewN q) → w'.cell? ⟨gp, x * 4 + 3, none⟩ = some (.int .i64 (od x)) := by rintro w' ⟨q, rfl⟩; exact hc x hx
  have x3 : ∀ w', (∃ q, w' = W.drewN q) → w'.cell? ⟨gp, y * 4 + 3, none⟩ = some (.int .i64 (od y)) := by rintro w' ⟨q, rfl⟩; exact hc y hy
  clear hB hg hc ho hx hy
  generalize od x = ox at *
  generalize od y = oy at *
  go_enter Tryd.func35, Tryd.ntmps35
  go_upto_region 1 with fail
  have hS0 : ∃ q, W.drew = W.drewN q := ⟨1, rfl⟩
  refine wp_region_held (S := fun w' => ∃ q, w' = W.drewN q) (by kernel_rfl) ?_
  change wpAnyH _ _ _ _ _ _ _ _ W.drew
  generalize W.drew = w0 at *
  change wpAnyH _ _ _ _ _ 18 (Array.replicate 18 false) _ _
  refine wpAnyH_take (i := 0) (oi := ?_) (v := ?_) ?_ (by kernel_rfl) (by kernel_rfl) (by kernel_rfl) ?_ ?_ (by assumption) ?_
  rotate_left 2; (simp only [List.getElem?_toArray, List.getElem?_cons_succ, List.getElem?_cons_zero]; rfl)
  rotate_left; (first | (refine .inl ⟨by rfl, ?_⟩; intro w9 hS9; go_simp; try with_reducible rfl) | (refine .inr ⟨by rfl, ?_⟩; with_reducible rfl))
  rotate_left; (intro _ _ _ h9; exact h9)
  try simp only [Act.put, List.setIfInBounds_toArray, List.set_cons_zero, List.set_cons_succ]
  refine wpAnyH_take (i := 1) (oi := ?_) (v := ?_) ?_ (by kernel_rfl) (by kernel_rfl) (by kernel_rfl) ?_ ?_ (by assumption) ?_
  rotate_left 2; (simp only [List.getElem?_toArray, List.getElem?_cons_succ, List.getElem?_cons_zero]; rfl)
  rotate_left; (first | (refine .inl ⟨by rfl, ?_⟩; intro w9 hS9; go_simp; try with_reducible rfl) | (refine .inr ⟨by rfl, ?_⟩; with_reducible rfl))
  rotate_left; (intro _ _ _ h9; exact h9)
  try simp only [Act.put, List.setIfInBounds_toArray, List.set_cons_zero, List.set_cons_succ]
  refine wpAnyH_take (i := 2) (oi := ?_) (v := ?_) ?_ (by kernel_rfl) (by kernel_rfl) (by kernel_rfl) ?_ ?_ (by assumption) ?_
  rotate_left 2; (simp only [List.getElem?_toArray, List.getElem?_cons_succ, List.getElem?_cons_zero]; rfl)
  rotate_left; (first | (refine .inl ⟨by rfl, ?_⟩; intro w9 hS9; go_simp; try with_reducible rfl) | (refine .inr ⟨by rfl, ?_⟩; with_reducible rfl))
  rotate_left; (intro _ _ _ h9; exact h9)
  try simp only [Act.put, List.setIfInBounds_toArray, List.set_cons_zero, List.set_cons_succ]
  refine wpAnyH_take (i := 3) (oi := ?_) (v := ?_) ?_ (by kernel_rfl) (by kernel_rfl) (by kernel_rfl) ?_ ?_ (by assumption) ?_
  rotate_left 2; (simp only [List.getElem?_toArray, List.getElem?_cons_succ, List.getElem?_cons_zero]; rfl)
  rotate_left; (first | (refine .inl ⟨by rfl, ?_⟩; intro w9 hS9; go_simp; try with_reducible rfl) | (refine .inr ⟨by rfl, ?_⟩; with_reducible rfl))
  rotate_left; (intro _ _ _ h9; exact h9)
  try simp only [Act.put, List.setIfInBounds_toArray, List.set_cons_zero, List.set_cons_succ]
  refine wpAnyH_take (i := 4) (oi := ?_) (v := ?_) ?_ (by kernel_rfl) (by kernel_rfl) (by kernel_rfl) ?_ ?_ (by assumption) ?_
  rotate_left 2; (simp only [List.getElem?_toArray, List.getElem?_cons_succ, List.getElem?_cons_zero]; rfl)
  rotate_left; (first | (refine .inl ⟨by rfl, ?_⟩; intro w9 hS9; go_simp; try with_reducible rfl) | (refine .inr ⟨by rfl, ?_⟩; with_reducible rfl))
  rotate_left; (intro _ _ _ h9; exact h9)
  try simp only [Act.put, List.setIfInBounds_toArray, List.set_cons_zero, List.set_cons_succ]
  refine wpAnyH_take (i := 5) (oi := ?_) (v := ?_) ?_ (by kernel_rfl) (by kernel_rfl) (by kernel_rfl) ?_ ?_ (by assumption) ?_
  rotate_left 2; (simp only [List.getElem?_toArray, List.getElem?_cons_succ, List.getElem?_cons_zero]; rfl)
  rotate_left; (first | (refine .inl ⟨by rfl, ?_⟩; intro w9 hS9; go_simp; try with_reducible rfl) | (refine .inr ⟨by rfl, ?_⟩; with_reducible rfl))
  rotate_left; (intro _ _ _ h9; exact h9)
  try simp only [Act.put, List.setIfInBounds_toArray, List.set_cons_zero, List.set_cons_succ]
  refine wpAnyH_take (i := 6) (oi := ?_) (v := ?_) ?_ (by kernel_rfl) (by kernel_rfl) (by kernel_rfl) ?_ ?_ (by assumption) ?_
  rotate_left 2; (simp only [List.getElem?_toArray, List.getElem?_cons_succ, List.getElem?_cons_zero]; rfl)
  rotate_left; (first | (refine .inl ⟨by rfl, ?_⟩; intro w9 hS9; go_simp; try with_reducible rfl) | (refine .inr ⟨by rfl, ?_⟩; with_reducible rfl))
  rotate_left; (intro _ _ _ h9; exact h9)
  try simp only [Act.put, List.setIfInBounds_toArray, List.set_cons_zero, List.set_cons_succ]
  refine wpAnyH_take (i := 7) (oi := ?_) (v := ?_) ?_ (by kernel_rfl) (by kernel_rfl) (by kernel_rfl) ?_ ?_ (by assumption) ?_
  rotate_left 2; (simp only [List.getElem?_toArray, List.getElem?_cons_succ, List.getElem?_cons_zero]; rfl)
  rotate_left; (first | (refine .inl ⟨by rfl, ?_⟩; intro w9 hS9; go_simp; try with_reducible rfl) | (refine .inr ⟨by rfl, ?_⟩; with_reducible rfl))
  rotate_left; (intro _ _ _ h9; exact h9)
  try simp only [Act.put, List.setIfInBounds_toArray, List.set_cons_zero, List.set_cons_succ]
  refine wpAnyH_take (i := 8) (oi := ?_) (v := ?_) ?_ (by kernel_rfl) (by kernel_rfl) (by kernel_rfl) ?_ ?_ (by assumption) ?_
  rotate_left 2; (simp only [List.getElem?_toArray, List.getElem?_cons_succ, List.getElem?_cons_zero]; rfl)
  rotate_left; (first | (refine .inl ⟨by rfl, ?_⟩; intro w9 hS9; go_simp; try with_reducible rfl) | (refine .inr ⟨by rfl, ?_⟩; with_reducible rfl))
  rotate_left; (intro _ _ _ h9; exact h9)
  try simp only [Act.put, List.setIfInBounds_toArray, List.set_cons_zero, List.set_cons_succ]
  refine wpAnyH_take (i := 9) (oi := ?_) (v := ?_) ?_ (by kernel_rfl) (by kernel_rfl) (by kernel_rfl) ?_ ?_ (by assumption) ?_
  rotate_left 2; (simp only [List.getElem?_toArray, List.getElem?_cons_succ, List.getElem?_cons_zero]; rfl)
  rotate_left; (first | (refine .inl ⟨by rfl, ?_⟩; intro w9 hS9; go_simp; try with_reducible rfl) | (refine .inr ⟨by rfl, ?_⟩; with_reducible rfl))
  rotate_left; (intro _ _ _ h9; exact h9)
  try simp only [Act.put, List.setIfInBounds_toArray, List.set_cons_zero, List.set_cons_succ]
  refine wpAnyH_take (i := 10) (oi := ?_) (v := ?_) ?_ (by kernel_rfl) (by kernel_rfl) (by kernel_rfl) ?_ ?_ (by assumption) ?_
  rotate_left 2; (simp only [List.getElem?_toArray, List.getElem?_cons_succ, List.getElem?_cons_zero]; rfl)
  rotate_left; (first | (refine .inl ⟨by rfl, ?_⟩; intro w9 hS9; go_simp; try with_reducible rfl) | (refine .inr ⟨by rfl, ?_⟩; with_reducible rfl))
  rotate_left; (intro _ _ _ h9; exact h9)
  try simp only [Act.put, List.setIfInBounds_toArray, List.set_cons_zero, List.set_cons_succ]
  refine wpAnyH_take (i := 11) (oi := ?_) (v := ?_) ?_ (by kernel_rfl) (by kernel_rfl) (by kernel_rfl) ?_ ?_ (by assumption) ?_
  rotate_left 2; (simp only [List.getElem?_toArray, List.getElem?_cons_succ, List.getElem?_cons_zero]; rfl)
  rotate_left; (first | (refine .inl ⟨by rfl, ?_⟩; intro w9 hS9; go_simp; try with_reducible rfl) | (refine .inr ⟨by rfl, ?_⟩; with_reducible rfl))
  rotate_left; (intro _ _ _ h9; exact h9)
  try simp only [Act.put, List.setIfInBounds_toArray, List.set_cons_zero, List.set_cons_succ]
  refine wpAnyH_take (i := 12) (oi := ?_) (v := ?_) ?_ (by kernel_rfl) (by kernel_rfl) (by kernel_rfl) ?_ ?_ (by assumption) ?_
  rotate_left 2; (simp only [List.getElem?_toArray, List.getElem?_cons_succ, List.getElem?_cons_zero]; rfl)
  rotate_left; (first | (refine .inl ⟨by rfl, ?_⟩; intro w9 hS9; go_simp; try with_reducible rfl) | (refine .inr ⟨by rfl, ?_⟩; with_reducible rfl))
  rotate_left; (intro _ _ _ h9; exact h9)
  try simp only [Act.put, List.setIfInBounds_toArray, List.set_cons_zero, List.set_cons_succ]
  refine wpAnyH_take (i := 13) (oi := ?_) (v := ?_) ?_ (by kernel_rfl) (by kernel_rfl) (by kernel_rfl) ?_ ?_ (by assumption) ?_
  rotate_left 2; (simp only [List.getElem?_toArray, List.getElem?_cons_succ, List.getElem?_cons_zero]; rfl)
  rotate_left; (first | (refine .inl ⟨by rfl, ?_⟩; intro w9 hS9; go_simp; try with_reducible rfl) | (refine .inr ⟨by rfl, ?_⟩; with_reducible rfl))
  rotate_left; (intro _ _ _ h9; exact h9)
  try simp only [Act.put, List.setIfInBounds_toArray, List.set_cons_zero, List.set_cons_succ]
  refine wpAnyH_take (i := 14) (oi := ?_) (v := ?_) ?_ (by kernel_rfl) (by kernel_rfl) (by kernel_rfl) ?_ ?_ (by assumption) ?_
  rotate_left 2; (simp only [List.getElem?_toArray, List.getElem?_cons_succ, List.getElem?_cons_zero]; rfl)
  rotate_left; (first | (refine .inl ⟨by rfl, ?_⟩; intro w9 hS9; go_simp; try with_reducible rfl) | (refine .inr ⟨by rfl, ?_⟩; with_reducible rfl))
  rotate_left; (intro _ _ _ h9; exact h9)
  try simp only [Act.put, List.setIfInBounds_toArray, List.set_cons_zero, List.set_cons_succ]
  refine wpAnyH_take (i := 15) (oi := ?_) (v := ?_) ?_ (by kernel_rfl) (by kernel_rfl) (by kernel_rfl) ?_ ?_ (by assumption) ?_
  rotate_left 2; (simp only [List.getElem?_toArray, List.getElem?_cons_succ, List.getElem?_cons_zero]; rfl)
  rotate_left; (first | (refine .inl ⟨by rfl, ?_⟩; intro w9 hS9; go_simp; try with_reducible rfl) | (refine .inr ⟨by rfl, ?_⟩; with_reducible rfl))
  rotate_left; (intro _ _ _ h9; exact h9)
  try simp only [Act.put, List.setIfInBounds_toArray, List.set_cons_zero, List.set_cons_succ]
  refine wpAnyH_take (i := 16) (oi := ?_) (v := ?_) ?_ (by kernel_rfl) (by kernel_rfl) (by kernel_rfl) ?_ ?_ (by assumption) ?_
  rotate_left 2; (simp only [List.getElem?_toArray, List.getElem?_cons_succ, List.getElem?_cons_zero]; rfl)
  rotate_left; (first | (refine .inl ⟨by rfl, ?_⟩; intro w9 hS9; go_simp; try with_reducible rfl) | (refine .inr ⟨by rfl, ?_⟩; with_reducible rfl))
  rotate_left; (intro _ _ _ h9; exact h9)
  try simp only [Act.put, List.setIfInBounds_toArray, List.set_cons_zero, List.set_cons_succ]
  refine wpAnyH_take (i := 17) (oi := ?_) (v := ?_) ?_ (by kernel_rfl) (by kernel_rfl) (by kernel_rfl) ?_ ?_ (by assumption) ?_
  rotate_left 2; (simp only [List.getElem?_toArray, List.getElem?_cons_succ, List.getElem?_cons_zero]; rfl)
  rotate_left; (first | (refine .inl ⟨by rfl, ?_⟩; intro w9 hS9; go_simp; try with_reducible rfl) | (refine .inr ⟨by rfl, ?_⟩; with_reducible rfl))
  rotate_left; (intro _ _ _ h9; exact h9)
  try simp only [Act.put, List.setIfInBounds_toArray, List.set_cons_zero, List.set_cons_succ]
  refine wpAnyH_done (by kernel_rfl) ?_ _
  have HS := Lib.hid hS0
  clear hS0 x0 x1 x2 x3
  go_wp2_with fail
  go_ret
  exact ⟨rfl, HS.out⟩
section
variable {α : Type} [Inhabited α] (enc : α → Value)
theorem holds_of {w : World} {g : Nat} {cur : Array Value} {e : TypeId} {ss : List α} (hb : w.heap[g]? = some (.cells cur e (0, 0))) (ht : cur.toList.take ss.length = ss.map enc) : Holds enc w g 0 ss.toArray := by
  intro j hj
  have hj' : j < ss.length := by simpa using hj
  refine ⟨?_, by simp [World.frozen?, hb]⟩
  have h1 : (cur.toList.take ss.length)[j]? = (ss.map enc)[j]? := by rw [ht]
  rw [List.getElem?_take_of_lt hj'] at h1
  simp only [World.cell?, hb, Nat.zero_add]
  simp only [Option.isSome_none, Bool.false_eq_true, if_false]
  rw [← Array.getElem?_toList, h1]
  simp [hj']
theorem heap_put {w : World} {g n : Nat} {os : Array Obj} {cur : Array Value} {e : TypeId} {fr : Nat × Nat} (d : Array α) (hb : w.heap[g]? = some (.cells cur e fr)) :
    (grow (putRow enc (Sort.ahead w n) g 0 d) os).heap[g]? = some (.cells (putCells enc 0 d cur) e fr) := by
  have hg : g < w.heap.size := (Array.getElem?_eq_some_iff.1 hb).1
  rw [heap_grow_old _ _ (by simpa using hg)]
  simp [putRow, mapBlock, Sort.ahead, Array.getElem?_modify, hb, onCells]
theorem grown_put {w : World} {g n : Nat} {os : Array Obj} (d : Array α) : w.grownBy (grow (putRow enc (Sort.ahead w n) g 0 d) os) (some g) := by
  refine ⟨rfl, rfl, rfl, by simp, fun k hk hne => ?_⟩
  rw [heap_grow_old _ _ (by simpa using hk)]
  have : g ≠ k := fun e => hne (by rw [e])
  simp [putRow, mapBlock, Sort.ahead, Array.getElem?_modify, this]
theorem take_put (cur : Array Value) (ts : List α) (h : ts.length ≤ cur.size) : (putCells enc 0 ts.toArray cur).toList.take ts.length = ts.map enc := by
  apply List.ext_getElem?
  intro j
  by_cases hj : j < ts.length
  · rw [List.getElem?_take_of_lt hj, Array.getElem?_toList]
    simp [putCells, hj, show j < cur.size by omega]
  · rw [List.getElem?_take_eq_none (by omega), List.getElem?_eq_none (by simp; omega)]
end
structure IsSort (w : World) (v : Value) (xs : List Nat) (od : Nat → Nat) (e : Ending) (w' : World) : Prop where
  ret : e = .returned (.tuple #[])
  ex : ∃ ys, OwnE kc 1 3 w' v ys ∧ ys.Perm xs ∧ ys.Pairwise (fun a b => od a ≤ od b)
  gr : w.grownBy w' v.ownBlock
abbrev Nm (P : Nat) := { k : Nat // k < P }
def nmE {P : Nat} (x : Nm P) : Value := .int .i64 (x.1 : Nat)
def nmC {P : Nat} (od : Nat → Nat) (x y : Nm P) : Int := (od x.1 : Int) - (od y.1 : Int)
theorem nm_lt {P : Nat} (od : Nat → Nat) (x y : Nm P) : ltOf (nmC od) x y = decide (od x.1 < od y.1) := by
  unfold ltOf nmC
  congr 1
  apply propext
  omega
theorem nm_swo {P : Nat} (od : Nat → Nat) : SWO (ltOf (nmC (P := P) od)) where
  irrefl x := by rw [nm_lt]; simp
  trans x y z h1 h2 := by rw [nm_lt] at *; simp at *; omega
  ntrans x y z h1 h2 := by rw [nm_lt] at *; simp at *; omega
theorem nm_kc {P : Nat} (ds : List (Nm P)) : ds.map nmE = (ds.map (·.1)).flatMap kc := by
  induction ds with
  | nil => rfl
  | cons d ds ih =>
    show nmE d :: ds.map nmE = kc d.1 ++ (ds.map (·.1)).flatMap kc
    rw [ih]; rfl
theorem wh_sort (v : Value) (xs : List Nat) (gp P g B : Nat) (od : Nat → Nat) (w : World) (hown : OwnE kc 1 3 w v xs) (hmem : ∀ x ∈ xs, x < P) (hl : xs.length ≤ 1000) (ho : ∀ k, k < P → od k ≤ 2000000000)
    (hBv : v.ownBlock ≠ some B) (hgv : v.ownBlock ≠ some g) (hpv : v.ownBlock ≠ some gp)
    (hB : w.cell? ⟨B, 0, none⟩ = some (.pointer (some ⟨g, 0, none⟩))) (hg : w.cell? ⟨g, 0, none⟩ = some (.slice (some ⟨gp, 0, none⟩) P P)) (hc : ∀ k, k < P → w.cell? ⟨gp, k * 4 + 3, none⟩ = some (.int .i64 (od k))) :
    Calls Tryd.prog 34 #[v, .func (.func 35) #[] #[.pointer (some ⟨B, 0, none⟩)]] w (IsSort w v xs od) := by
  by_cases hx0 : xs = []
  · subst hx0
    obtain ⟨A, c, rfl, _⟩ := hown.re (by simp)
    have hS := AnyF.slices_SortFunc_none (P := Tryd.prog) (ρ := Tryd.sortF_ren) { Tryd.sortF with } A c (.func (.func 35) #[] #[.pointer (some ⟨B, 0, none⟩)]) w
    change Calls Tryd.prog 34 _ _ _ at hS
    refine hS.mono ?_
    rintro e w' ⟨rfl, rfl⟩
    exact ⟨rfl, ⟨[], hown, List.Perm.refl _, List.Pairwise.nil⟩, ⟨rfl, rfl, rfl, Nat.le_refl _, fun _ _ _ => rfl⟩⟩
  · obtain ⟨x0, hx0m⟩ := List.exists_mem_of_ne_nil xs hx0
    have hP : 0 < P := by have := hmem x0 hx0m; omega
    haveI : Inhabited (Nm P) := ⟨⟨0, hP⟩⟩
    rcases hown.2 with ⟨rfl, h0⟩ | ⟨b, cap, cur, rfl, hb, hh, h1, h2, h3, h4⟩
    · exact absurd (List.eq_nil_of_length_eq_zero h0) hx0
    rw [Nat.mul_one] at h4
    obtain ⟨ds, hds⟩ : ∃ ds : List (Nm P), ds.map (·.1) = xs := ⟨xs.pmap (fun x h => ⟨x, h⟩) hmem, by rw [List.map_pmap]; simp⟩
    have hdl : ds.length = xs.length := by rw [← hds, List.length_map]
    have hH : Holds nmE w b 0 ds.toArray := holds_of nmE hh (by rw [hdl, nm_kc, hds]; exact h4)
    have eg : ∀ args w, (callFunc 35 args).run Tryd.prog w = .ok (.enter 35 args) w := enters_of Tryd.func35 (by kernel_rfl) rfl
    have hBb : B ≠ b := fun e => hBv (by rw [e]; rfl)
    have hgb : g ≠ b := fun e => hgv (by rw [e]; rfl)
    have hpb : gp ≠ b := fun e => hpv (by rw [e]; rfl)
    have hold : ∀ (m : Nat) (os : Array Obj) (dk : Array (Nm P)) (p : Addr) (u : Value), p.block ≠ b → w.cell? p = some u → (sortWorld nmE w b 0 m dk os).cell? p = some u := fun m os dk p u hpb2 hpu => by
      unfold sortWorld
      rw [cell?_grow _ _ _ (by show p.block < (putRow _ _ _ _ _).heap.size; rw [size_putRow]; exact World.block_lt_of_cell? w _ hpu), cell?_putRow_other _ _ b 0 _ _ (Or.inl hpb2)]
      exact hpu
    have hcmp : CmpReads Tryd.prog 35 #[.pointer (some ⟨B, 0, none⟩)] nmE (nmC od) b 0 ds.toArray.size w := fun m os dk _ x y =>
      sort_c gp P g B x.1 y.1 od x.2 y.2 ho _ (hold m os dk _ _ hBb hB) (hold m os dk _ _ hgb hg) (fun k hk => hold m os dk _ _ hpb (hc k hk))
    have hS := Any.slices_SortFunc Tryd.sortF nmE (fun _ => rfl) (nmC od) (nm_swo od) 35 #[.pointer (some ⟨B, 0, none⟩)] b 0 cap ds.toArray w eg hcmp.lays hH (Array.getElem?_eq_some_iff.mp hh).1 (by simp [hdl]; omega)
    change Calls Tryd.prog 34 _ _ _ at hS
    rw [show ds.toArray.size = xs.length by simp [hdl]] at hS
    refine hS.mono ?_
    rintro e w' ⟨rfl, d', n, os, hperm, hsort, rfl⟩
    obtain ⟨hsz, _, hpm⟩ := hperm
    have hsz' : d'.size = xs.length := by rw [hsz]; simp [hdl]
    have hpm2 : d'.toList.Perm ds := by
      have e1 : (d'.extract 0 xs.length).toList = d'.toList := by rw [← hsz']; simp
      have e2 : (ds.toArray.extract 0 xs.length).toList = ds := by rw [← hdl]; simp
      rw [e1, e2] at hpm
      exact hpm
    have hlen2 : (d'.toList.map (·.1)).length = xs.length := by rw [List.length_map, Array.length_toList, hsz']
    refine ⟨rfl, ⟨d'.toList.map (·.1), ?_, by rw [← hds]; exact hpm2.map _, ?_⟩, grown_put nmE d'⟩
    · refine ⟨flat_len kc_len _, .inr ⟨b, cap, _, by rw [hlen2], Nat.zero_le _, heap_put nmE d' hh, by omega, h2, by simp [putCells, h3], ?_⟩⟩
      rw [Nat.mul_one, hlen2, ← nm_kc]
      have ht := take_put nmE cur d'.toList (by rw [Array.length_toList, hsz', h3]; omega)
      rw [Array.length_toList, hsz'] at ht
      simpa using ht
    · rw [List.pairwise_map, List.pairwise_iff_getElem]
      intro i j hi hj hij
      have hi' : i < d'.size := by simpa using hi
      have hj' : j < d'.size := by simpa using hj
      have := hsort i j (Nat.zero_le _) hij (by rw [← hsz']; exact hj')
      rw [nm_lt, decide_eq_false_iff_not, getElem!_pos d' i hi', getElem!_pos d' j hj'] at this
      simp only [Array.getElem_toList]
      omega
end Go.Proofs.YtpfoocndohpbbaaDoor
