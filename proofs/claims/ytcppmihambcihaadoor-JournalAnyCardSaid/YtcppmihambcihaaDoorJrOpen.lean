/- journal.Open. -/
import Derived.Test.YtcppmihambcihaaDoorJrRoom
import Derived.Test.YtcppmihambcihaaDoorBkLaw
import Derived.LoopTactic
namespace Go.Proofs.YtcppmihambcihaaDoor
open Go Go.RowKit Go.Shelf
set_option linter.unusedVariables false
set_option linter.unusedSimpArgs false
/-- A journal's own part: its bank, its last record, whether there is one. -/
structure Jn where
  bank : Nat
  nt : Nt
  has : Bool
def jNone : Jn := ⟨0, ⟨0, [], 0⟩, false⟩
def jLast (xs : List UInt8) (k : Nat) : Option Nt := (bkNotes (half xs k)).getLast?
def jStep (s : Jn) (k : Nat) (r : Option Nt) : Jn := match r with
  | none => s
  | some x => if s.has = false ∨ s.nt.seq < x.seq then ⟨k, x, true⟩ else s
def jTo (xs : List UInt8) : Nat → Jn
  | 0 => jNone
  | k + 1 => jStep (jTo xs k) k (jLast xs k)
def jOpen (xs : List UInt8) : Jn := jTo xs 2
/-- What Open has between two rounds. -/
structure JO (w : World) (g gb : Nat) (s : Jn) (wr : World) : Prop where
  ex : ∃ A c, JrIs wr w.heap.size g gb s.bank s.nt A c s.has ∧ ∀ b o, A = some ⟨b, o, none⟩ → w.heap.size < b
  bel : Below w.heap.size w wr
theorem jLast_at {xs : List UInt8} {k : Nat} {x : Nt} (h : jLast xs k = some x) : bkOk x.dat = true ∧ x.seq < 4294967296 ∧ x.fin ≤ (half xs k).length := by
  unfold jLast at h
  have hne : bkNotes (half xs k) ≠ [] := fun e => by rw [e] at h; cases h
  have hl : 0 < (bkNotes (half xs k)).length := List.length_pos_iff.2 hne
  have hat := bkNotes_at (half xs k) ((bkNotes (half xs k)).length - 1) (by omega)
  rw [List.getLast?_eq_getElem?, List.getElem?_eq_getElem (by omega)] at h
  rw [Option.some.inj h] at hat
  exact ⟨hat.ok, hat.u32, hat.le⟩
theorem jn_set {w : World} {j g n c n0 c0 : Nat} {s0 s f0 f : Int} {A0 A : Option Addr} {h0 : Bool} {t : TypeId} {b0 : Int} (h : w.heap[j]? = some (.cells #[.pointer (some ⟨g, 0, none⟩), .int .i64 b0, .int .u32 s0, .slice A0 n0 c0, .int .i64 f0, .bool h0] t (0, 0))) (b1 : Int) :
    ((((((w.setCell ⟨j, 1, none⟩ (.int .i64 b1)).setCell ⟨j, 2, none⟩ (.int .u32 s)).setCell ⟨j, 3, none⟩ (.slice A n c)).setCell ⟨j, 4, none⟩ (.int .i64 f)).setCell ⟨j, 5, none⟩ (.bool true)).heap[j]?) = some (.cells #[.pointer (some ⟨g, 0, none⟩), .int .i64 b1, .int .u32 s, .slice A n c, .int .i64 f, .bool true] t (0, 0)) := by
  simp [World.setCell, Array.getElem?_modify, h]
/-- A record lies in a block of its own. -/
def BoxAt (g : Nat) (x : Nt) (A : Option Addr) (c : Nat) (w : World) : Prop := w.heap[g]? = some (.cells (nta x.seq A x.dat.length c x.fin) 54 (0, 0))
theorem BoxAt.cell {g : Nat} {x : Nt} {A : Option Addr} {c : Nat} {w : World} (h : BoxAt g x A c w) (i : Nat) (v : Value) (hv : (nta x.seq A x.dat.length c x.fin)[i]? = some v) : w.cell? ⟨g, i, none⟩ = some v := by
  unfold BoxAt at h
  rw [cell_of_row w g i _ _ _ h]
  exact hv
theorem box_keep {w : World} {j g : Nat} {x : Nt} {A : Option Addr} {c : Nat} (h : BoxAt g x A c w) (hne : g ≠ j) (i : Nat) (v : Value) : BoxAt g x A c (w.setCell ⟨j, i, none⟩ v) := by
  unfold BoxAt at h ⊢
  simp [World.setCell, Array.getElem?_modify, h, Ne.symm hne]
set_option maxHeartbeats 8000000 in
set_option maxRecDepth 100000 in
theorem jr_open (g gb : Nat) (xs : List UInt8) (lim : Option Nat) (dead : Bool) (w : World) (hs : StIs w g gb xs lim dead) :
    Calls Tryd.prog 10 #[.pointer (some ⟨g, 0, none⟩)] w fun e w' => e = .returned (.pointer (some ⟨w.heap.size, 0, none⟩)) ∧ JO w g gb (jOpen xs) w' := by
  have HS := Lib.hid hs
  have hlt := hs.lt
  have HLT := Lib.hid hlt
  have hsm := Lib.hid hs.small
  clear hs hlt
  go_enter Tryd.func10, Tryd.ntmps10
  go_wp2_with fail
  go_loopw [10] (fun s10 wr => ∃ k : Nat, k ≤ 2 ∧ s10 = .int .i64 k ∧ JO w g gb (jTo xs k) wr) (fun s10 _ => 2 - (intOf s10).toNat)
  case atStart =>
    refine ⟨0, by omega, rfl, ⟨none, 0, ⟨heap_alloc_new w _, RS.none _, fun h => absurd h (by simp [jTo, jNone]), by simp [jTo, jNone]⟩, fun b o e => by cases e⟩, below_new w _⟩
  case round =>
    obtain ⟨k, hk, rfl, hjo⟩ := hrel
    by_cases hlt : k < 2
    · have hlt' : (k : Int) < 2 := by omega
      obtain ⟨⟨A, c, hj, hfar⟩, hbw⟩ := hjo
      have HBW := Lib.hid hbw
      have HJ := Lib.hid hj
      have HFAR := Lib.hid hfar
      have HK := Lib.hid hlt
      have HSW := Lib.hid (HS.out.fr (Fr.ofBelow hbw (fun _ => False)) id id)
      clear hbw hj hfar hlt
      generalize hst : jTo xs k = st at *
      have HST := Lib.hid hst
      clear hst
      go_wp2_with fail
      refine (jr_bytes w.heap.size g gb st.bank st.nt A c st.has xs lim dead k (by have := HK.out; omega) _ HJ.out HSW.out).mono ?_
      rintro e w1 ⟨v1, rfl, hown1, hb1⟩
      obtain ⟨A1, c1, rfl, hr1⟩ := hown1.reads
      have HR1 := Lib.hid hr1
      have HB1 := Lib.hid hb1
      have hl1 : (half xs k).length ≤ 65536 := by rw [half_len xs k (by have := HK.out; omega)]; have := hsm.out; omega
      clear hown1 hr1 hb1
      generalize (half xs k).length = n1 at *
      go_wp2_with fail
      refine (bk_last A1 n1 c1 (half xs k) _ HR1.out (by omega)).mono ?_
      rintro e w2 hq
      rw [show (bkNotes (half xs k)).getLast? = jLast xs k from rfl] at hq
      cases hjl : jLast xs k with
      | none =>
        rw [hjl] at hq
        obtain ⟨rfl, hb2⟩ := hq
        have HQ := Lib.hid hjl
        have hb3 := below_step hb2 (below_new w2 (.cells (nta 0 none 0 0 0) 54))
        have HBW3 := Lib.hid (HBW.out.trans ((below_step HB1.out hb3).mono HBW.out.size))
        have HJ3 := Lib.hid (HJ.out.below (below_step HB1.out hb3))
        clear hjl hb2 hb3
        go_upto_region 6 with fail
        change Code.wp _ _ _ _ (w2.alloc (.cells (nta 0 none 0 0 0) 54))
        generalize w2.alloc (.cells (nta 0 none 0 0 0) 54) = w3 at *
        have y0 : True := trivial
        have z2 : True := trivial
        have z5 : True := trivial
        have hS6 := below_drew1 w3
        refine wp_region_held (S := fun w' => Below w3.heap.size w3 w') (by kernel_rfl) ?_
        change wpAnyH _ _ _ _ _ _ _ _ w3.drew
        change wpAnyH _ _ _ _ _ 18 (Array.replicate 18 false) _ _
        refine wpAnyH_take (i := 0) (oi := ?_) (v := ?_) ?_ (by kernel_rfl) (by kernel_rfl) (by kernel_rfl) ?_ ?_ (by assumption) ?_
        rotate_left 2; (simp only [List.getElem?_toArray, List.getElem?_cons_succ, List.getElem?_cons_zero]; rfl)
        rotate_left; (first | (refine .inl ⟨by rfl, ?_⟩; intro w9 hS9; go_simp; try with_reducible rfl) | (refine .inr ⟨by rfl, ?_⟩; with_reducible rfl))
        rotate_left; (intro _ _ _ h9; exact h9)
        try simp only [Act.put, List.setIfInBounds_toArray, List.set_cons_zero, List.set_cons_succ]
        refine wpAnyH_take (i := 1) (oi := ?_) (v := ?_) ?_ (by kernel_rfl) (by kernel_rfl) (by kernel_rfl) ?_ ?_ (by assumption) ?_
        rotate_left 2; (simp only [List.getElem?_toArray, List.getElem?_cons_succ, List.getElem?_cons_zero]; rfl)
        rotate_left; (first | (refine .inl ⟨by rfl, ?_⟩; intro w9 hS9; go_simp; try with_reducible rfl) | (refine .inr ⟨by rfl, ?_⟩; with_reducible rfl))
        rotate_left; (intro _ _ _ h9; exact h9)
        try simp only [Act.put, List.setIfInBounds_toArray, List.set_cons_zero, List.set_cons_succ]
        refine wpAnyH_take (i := 2) (oi := ?_) (v := ?_) ?_ (by kernel_rfl) (by kernel_rfl) (by kernel_rfl) ?_ ?_ (by assumption) ?_
        rotate_left 2; (simp only [List.getElem?_toArray, List.getElem?_cons_succ, List.getElem?_cons_zero]; rfl)
        rotate_left; (first | (refine .inl ⟨by rfl, ?_⟩; intro w9 hS9; go_simp; try with_reducible rfl) | (refine .inr ⟨by rfl, ?_⟩; with_reducible rfl))
        rotate_left; (intro _ _ _ h9; exact h9)
        try simp only [Act.put, List.setIfInBounds_toArray, List.set_cons_zero, List.set_cons_succ]
        refine wpAnyH_take (i := 3) (oi := ?_) (v := ?_) ?_ (by kernel_rfl) (by kernel_rfl) (by kernel_rfl) ?_ ?_ (by assumption) ?_
        rotate_left 2; (simp only [List.getElem?_toArray, List.getElem?_cons_succ, List.getElem?_cons_zero]; rfl)
        rotate_left; (first | (refine .inl ⟨by rfl, ?_⟩; intro w9 hS9; go_simp; try with_reducible rfl) | (refine .inr ⟨by rfl, ?_⟩; with_reducible rfl))
        rotate_left; (intro _ _ _ h9; exact h9)
        try simp only [Act.put, List.setIfInBounds_toArray, List.set_cons_zero, List.set_cons_succ]
        refine wpAnyH_take (i := 4) (oi := ?_) (v := ?_) ?_ (by kernel_rfl) (by kernel_rfl) (by kernel_rfl) ?_ ?_ (by assumption) ?_
        rotate_left 2; (simp only [List.getElem?_toArray, List.getElem?_cons_succ, List.getElem?_cons_zero]; rfl)
        rotate_left; (first | (refine .inl ⟨by rfl, ?_⟩; intro w9 hS9; go_simp; try with_reducible rfl) | (refine .inr ⟨by rfl, ?_⟩; with_reducible rfl))
        rotate_left; (intro _ _ _ h9; exact h9)
        try simp only [Act.put, List.setIfInBounds_toArray, List.set_cons_zero, List.set_cons_succ]
        refine wpAnyH_take (i := 5) (oi := ?_) (v := ?_) ?_ (by kernel_rfl) (by kernel_rfl) (by kernel_rfl) ?_ ?_ (by assumption) ?_
        rotate_left 2; (simp only [List.getElem?_toArray, List.getElem?_cons_succ, List.getElem?_cons_zero]; rfl)
        rotate_left; (first | (refine .inl ⟨by rfl, ?_⟩; intro w9 hS9; go_simp; try with_reducible rfl) | (refine .inr ⟨by rfl, ?_⟩; with_reducible rfl))
        rotate_left; (intro _ _ _ h9; exact h9)
        try simp only [Act.put, List.setIfInBounds_toArray, List.set_cons_zero, List.set_cons_succ]
        refine wpAnyH_take (i := 6) (oi := ?_) (v := ?_) ?_ (by kernel_rfl) (by kernel_rfl) (by kernel_rfl) ?_ ?_ (by assumption) ?_
        rotate_left 2; (simp only [List.getElem?_toArray, List.getElem?_cons_succ, List.getElem?_cons_zero]; rfl)
        rotate_left; (first | (refine .inl ⟨by rfl, ?_⟩; intro w9 hS9; go_simp; try with_reducible rfl) | (refine .inr ⟨by rfl, ?_⟩; with_reducible rfl))
        rotate_left; (intro _ _ _ h9; exact h9)
        try simp only [Act.put, List.setIfInBounds_toArray, List.set_cons_zero, List.set_cons_succ]
        refine wpAnyH_take (i := 7) (oi := ?_) (v := ?_) ?_ (by kernel_rfl) (by kernel_rfl) (by kernel_rfl) ?_ ?_ (by assumption) ?_
        rotate_left 2; (simp only [List.getElem?_toArray, List.getElem?_cons_succ, List.getElem?_cons_zero]; rfl)
        rotate_left; (first | (refine .inl ⟨by rfl, ?_⟩; intro w9 hS9; go_simp; try with_reducible rfl) | (refine .inr ⟨by rfl, ?_⟩; with_reducible rfl))
        rotate_left; (intro _ _ _ h9; exact h9)
        try simp only [Act.put, List.setIfInBounds_toArray, List.set_cons_zero, List.set_cons_succ]
        refine wpAnyH_take (i := 8) (oi := ?_) (v := ?_) ?_ (by kernel_rfl) (by kernel_rfl) (by kernel_rfl) ?_ ?_ (by assumption) ?_
        rotate_left 2; (simp only [List.getElem?_toArray, List.getElem?_cons_succ, List.getElem?_cons_zero]; rfl)
        rotate_left; (first | (refine .inl ⟨by rfl, ?_⟩; intro w9 hS9; go_simp; try with_reducible rfl) | (refine .inr ⟨by rfl, ?_⟩; with_reducible rfl))
        rotate_left; (intro _ _ _ h9; exact h9)
        try simp only [Act.put, List.setIfInBounds_toArray, List.set_cons_zero, List.set_cons_succ]
        refine wpAnyH_take (i := 9) (oi := ?_) (v := ?_) ?_ (by kernel_rfl) (by kernel_rfl) (by kernel_rfl) ?_ ?_ (by assumption) ?_
        rotate_left 2; (simp only [List.getElem?_toArray, List.getElem?_cons_succ, List.getElem?_cons_zero]; rfl)
        rotate_left; (first | (refine .inl ⟨by rfl, ?_⟩; intro w9 hS9; go_simp; try with_reducible rfl) | (refine .inr ⟨by rfl, ?_⟩; with_reducible rfl))
        rotate_left; (intro _ _ _ h9; exact h9)
        try simp only [Act.put, List.setIfInBounds_toArray, List.set_cons_zero, List.set_cons_succ]
        refine wpAnyH_take (i := 10) (oi := ?_) (v := ?_) ?_ (by kernel_rfl) (by kernel_rfl) (by kernel_rfl) ?_ ?_ (by assumption) ?_
        rotate_left 2; (simp only [List.getElem?_toArray, List.getElem?_cons_succ, List.getElem?_cons_zero]; rfl)
        rotate_left; (first | (refine .inl ⟨by rfl, ?_⟩; intro w9 hS9; go_simp; try with_reducible rfl) | (refine .inr ⟨by rfl, ?_⟩; with_reducible rfl))
        rotate_left; (intro _ _ _ h9; exact h9)
        try simp only [Act.put, List.setIfInBounds_toArray, List.set_cons_zero, List.set_cons_succ]
        refine wpAnyH_take (i := 11) (oi := ?_) (v := ?_) ?_ (by kernel_rfl) (by kernel_rfl) (by kernel_rfl) ?_ ?_ (by assumption) ?_
        rotate_left 2; (simp only [List.getElem?_toArray, List.getElem?_cons_succ, List.getElem?_cons_zero]; rfl)
        rotate_left; (first | (refine .inl ⟨by rfl, ?_⟩; intro w9 hS9; go_simp; try with_reducible rfl) | (refine .inr ⟨by rfl, ?_⟩; with_reducible rfl))
        rotate_left; (intro _ _ _ h9; exact h9)
        try simp only [Act.put, List.setIfInBounds_toArray, List.set_cons_zero, List.set_cons_succ]
        refine wpAnyH_take (i := 12) (oi := ?_) (v := ?_) ?_ (by kernel_rfl) (by kernel_rfl) (by kernel_rfl) ?_ ?_ (by assumption) ?_
        rotate_left 2; (simp only [List.getElem?_toArray, List.getElem?_cons_succ, List.getElem?_cons_zero]; rfl)
        rotate_left; (first | (refine .inl ⟨by rfl, ?_⟩; intro w9 hS9; go_simp; try with_reducible rfl) | (refine .inr ⟨by rfl, ?_⟩; with_reducible rfl))
        rotate_left; (intro _ _ _ h9; exact h9)
        try simp only [Act.put, List.setIfInBounds_toArray, List.set_cons_zero, List.set_cons_succ]
        refine wpAnyH_take (i := 13) (oi := ?_) (v := ?_) ?_ (by kernel_rfl) (by kernel_rfl) (by kernel_rfl) ?_ ?_ (by assumption) ?_
        rotate_left 2; (simp only [List.getElem?_toArray, List.getElem?_cons_succ, List.getElem?_cons_zero]; rfl)
        rotate_left; (first | (refine .inl ⟨by rfl, ?_⟩; intro w9 hS9; go_simp; try with_reducible rfl) | (refine .inr ⟨by rfl, ?_⟩; with_reducible rfl))
        rotate_left; (intro _ _ _ h9; exact h9)
        try simp only [Act.put, List.setIfInBounds_toArray, List.set_cons_zero, List.set_cons_succ]
        refine wpAnyH_take (i := 14) (oi := ?_) (v := ?_) ?_ (by kernel_rfl) (by kernel_rfl) (by kernel_rfl) ?_ ?_ (by assumption) ?_
        rotate_left 2; (simp only [List.getElem?_toArray, List.getElem?_cons_succ, List.getElem?_cons_zero]; rfl)
        rotate_left; (first | (refine .inl ⟨by rfl, ?_⟩; intro w9 hS9; go_simp; try with_reducible rfl) | (refine .inr ⟨by rfl, ?_⟩; with_reducible rfl))
        rotate_left; (intro _ _ _ h9; exact h9)
        try simp only [Act.put, List.setIfInBounds_toArray, List.set_cons_zero, List.set_cons_succ]
        refine wpAnyH_take (i := 15) (oi := ?_) (v := ?_) ?_ (by kernel_rfl) (by kernel_rfl) (by kernel_rfl) ?_ ?_ (by assumption) ?_
        rotate_left 2; (simp only [List.getElem?_toArray, List.getElem?_cons_succ, List.getElem?_cons_zero]; rfl)
        rotate_left; (first | (refine .inl ⟨by rfl, ?_⟩; intro w9 hS9; go_simp; try with_reducible rfl) | (refine .inr ⟨by rfl, ?_⟩; with_reducible rfl))
        rotate_left; (intro _ _ _ h9; exact h9)
        try simp only [Act.put, List.setIfInBounds_toArray, List.set_cons_zero, List.set_cons_succ]
        refine wpAnyH_take (i := 16) (oi := ?_) (v := ?_) ?_ (by kernel_rfl) (by kernel_rfl) (by kernel_rfl) ?_ ?_ (by assumption) ?_
        rotate_left 2; (simp only [List.getElem?_toArray, List.getElem?_cons_succ, List.getElem?_cons_zero]; rfl)
        rotate_left; (first | (refine .inl ⟨by rfl, ?_⟩; intro w9 hS9; go_simp; try with_reducible rfl) | (refine .inr ⟨by rfl, ?_⟩; with_reducible rfl))
        rotate_left; (intro _ _ _ h9; exact h9)
        try simp only [Act.put, List.setIfInBounds_toArray, List.set_cons_zero, List.set_cons_succ]
        refine wpAnyH_take (i := 17) (oi := ?_) (v := ?_) ?_ (by kernel_rfl) (by kernel_rfl) (by kernel_rfl) ?_ ?_ (by assumption) ?_
        rotate_left 2; (simp only [List.getElem?_toArray, List.getElem?_cons_succ, List.getElem?_cons_zero]; rfl)
        rotate_left; (first | (refine .inl ⟨by rfl, ?_⟩; intro w9 hS9; go_simp; try with_reducible rfl) | (refine .inr ⟨by rfl, ?_⟩; with_reducible rfl))
        rotate_left; (intro _ _ _ h9; exact h9)
        try simp only [Act.put, List.setIfInBounds_toArray, List.set_cons_zero, List.set_cons_succ]
        refine wpAnyH_done (by kernel_rfl) ?_ _
        have HS6 := Lib.hid hS6
        clear hS6
        clear y0 z2 z5
        go_wp2_with fail
        exact ⟨⟨k + 1, by have := HK.out; omega, by go_num, by
          show JO w g gb (jStep (jTo xs k) k (jLast xs k)) _
          rw [HST.out, HQ.out, (show jStep st k none = st from rfl)]
          exact ⟨⟨A, c, (HJ3.out.below HS6.out), HFAR.out⟩, below_step HBW3.out HS6.out⟩⟩, by have := HK.out; simp [intOf]; omega⟩
      | some x =>
        rw [hjl] at hq
        obtain ⟨A2, c2, rfl, hd2, hb2⟩ := hq
        have HQ := Lib.hid hjl
        have HLA := Lib.hid (jLast_at hjl)
        have hbn := below_new w2 (.cells (nta x.seq A2 x.dat.length c2 x.fin) 54)
        have HBX := Lib.hid (heap_alloc_new w2 (.cells (nta x.seq A2 x.dat.length c2 x.fin) 54))
        have HD3 := Lib.hid (hd2.fr (Fr.ofBelow hbn (fun _ => False)) (fun _ _ _ h => h))
        have hb3 := below_step hb2 hbn
        have HBW3 := Lib.hid (HBW.out.trans ((below_step HB1.out hb3).mono HBW.out.size))
        have HJ3 := Lib.hid (HJ.out.below (below_step HB1.out hb3))
        have HSZ := Lib.hid (show wr.heap.size ≤ w1.heap.size ∧ w1.heap.size ≤ w2.heap.size from ⟨HB1.out.size, hb2.size⟩)
        clear hjl hb2 hb3 hbn hd2
        go_upto_region 6 with fail
        change Code.wp _ _ _ _ (w2.alloc (.cells (nta x.seq A2 x.dat.length c2 x.fin) 54))
        generalize w2.alloc (.cells (nta x.seq A2 x.dat.length c2 x.fin) 54) = w3 at *
        have hbx := HBX.out
        have y0 : ∀ w', Below w3.heap.size w3 w' → w'.cell? ⟨w2.heap.size, 0, none⟩ = some (.int .u32 x.seq) := fun w' hb => (hb.cell (p := ⟨w2.heap.size, 0, none⟩) (Array.getElem?_eq_some_iff.mp hbx).1).trans (by simp [World.cell?, hbx])
        have z2 : ∀ w', Below w3.heap.size w3 w' → w'.cell? ⟨w.heap.size, 2, none⟩ = some (.int .u32 st.nt.seq) := fun w' hb => (HJ3.out.below hb).cells.2.2.1
        have z5 : ∀ w', Below w3.heap.size w3 w' → w'.cell? ⟨w.heap.size, 5, none⟩ = some (.bool st.has) := fun w' hb => (HJ3.out.below hb).cells.2.2.2.2.2
        clear hbx
        cases hh : st.has with
        | false =>
          rw [hh] at z5
          have HTK := Lib.hid (show jStep st k (some x) = ⟨k, x, true⟩ by simp [jStep, hh])
          have HH := Lib.hid hh
          clear hh
          have hS6 := below_drew1 w3
          refine wp_region_held (S := fun w' => Below w3.heap.size w3 w') (by kernel_rfl) ?_
          change wpAnyH _ _ _ _ _ _ _ _ w3.drew
          change wpAnyH _ _ _ _ _ 18 (Array.replicate 18 false) _ _
          refine wpAnyH_take (i := 0) (oi := ?_) (v := ?_) ?_ (by kernel_rfl) (by kernel_rfl) (by kernel_rfl) ?_ ?_ (by assumption) ?_
          rotate_left 2; (simp only [List.getElem?_toArray, List.getElem?_cons_succ, List.getElem?_cons_zero]; rfl)
          rotate_left; (first | (refine .inl ⟨by rfl, ?_⟩; intro w9 hS9; go_simp; try with_reducible rfl) | (refine .inr ⟨by rfl, ?_⟩; with_reducible rfl))
          rotate_left; (intro _ _ _ h9; exact h9)
          try simp only [Act.put, List.setIfInBounds_toArray, List.set_cons_zero, List.set_cons_succ]
          refine wpAnyH_take (i := 1) (oi := ?_) (v := ?_) ?_ (by kernel_rfl) (by kernel_rfl) (by kernel_rfl) ?_ ?_ (by assumption) ?_
          rotate_left 2; (simp only [List.getElem?_toArray, List.getElem?_cons_succ, List.getElem?_cons_zero]; rfl)
          rotate_left; (first | (refine .inl ⟨by rfl, ?_⟩; intro w9 hS9; go_simp; try with_reducible rfl) | (refine .inr ⟨by rfl, ?_⟩; with_reducible rfl))
          rotate_left; (intro _ _ _ h9; exact h9)
          try simp only [Act.put, List.setIfInBounds_toArray, List.set_cons_zero, List.set_cons_succ]
          refine wpAnyH_take (i := 2) (oi := ?_) (v := ?_) ?_ (by kernel_rfl) (by kernel_rfl) (by kernel_rfl) ?_ ?_ (by assumption) ?_
          rotate_left 2; (simp only [List.getElem?_toArray, List.getElem?_cons_succ, List.getElem?_cons_zero]; rfl)
          rotate_left; (first | (refine .inl ⟨by rfl, ?_⟩; intro w9 hS9; go_simp; try with_reducible rfl) | (refine .inr ⟨by rfl, ?_⟩; with_reducible rfl))
          rotate_left; (intro _ _ _ h9; exact h9)
          try simp only [Act.put, List.setIfInBounds_toArray, List.set_cons_zero, List.set_cons_succ]
          refine wpAnyH_take (i := 3) (oi := ?_) (v := ?_) ?_ (by kernel_rfl) (by kernel_rfl) (by kernel_rfl) ?_ ?_ (by assumption) ?_
          rotate_left 2; (simp only [List.getElem?_toArray, List.getElem?_cons_succ, List.getElem?_cons_zero]; rfl)
          rotate_left; (first | (refine .inl ⟨by rfl, ?_⟩; intro w9 hS9; go_simp; try with_reducible rfl) | (refine .inr ⟨by rfl, ?_⟩; with_reducible rfl))
          rotate_left; (intro _ _ _ h9; exact h9)
          try simp only [Act.put, List.setIfInBounds_toArray, List.set_cons_zero, List.set_cons_succ]
          refine wpAnyH_take (i := 4) (oi := ?_) (v := ?_) ?_ (by kernel_rfl) (by kernel_rfl) (by kernel_rfl) ?_ ?_ (by assumption) ?_
          rotate_left 2; (simp only [List.getElem?_toArray, List.getElem?_cons_succ, List.getElem?_cons_zero]; rfl)
          rotate_left; (first | (refine .inl ⟨by rfl, ?_⟩; intro w9 hS9; go_simp; try with_reducible rfl) | (refine .inr ⟨by rfl, ?_⟩; with_reducible rfl))
          rotate_left; (intro _ _ _ h9; exact h9)
          try simp only [Act.put, List.setIfInBounds_toArray, List.set_cons_zero, List.set_cons_succ]
          refine wpAnyH_take (i := 5) (oi := ?_) (v := ?_) ?_ (by kernel_rfl) (by kernel_rfl) (by kernel_rfl) ?_ ?_ (by assumption) ?_
          rotate_left 2; (simp only [List.getElem?_toArray, List.getElem?_cons_succ, List.getElem?_cons_zero]; rfl)
          rotate_left; (first | (refine .inl ⟨by rfl, ?_⟩; intro w9 hS9; go_simp; try with_reducible rfl) | (refine .inr ⟨by rfl, ?_⟩; with_reducible rfl))
          rotate_left; (intro _ _ _ h9; exact h9)
          try simp only [Act.put, List.setIfInBounds_toArray, List.set_cons_zero, List.set_cons_succ]
          refine wpAnyH_take (i := 6) (oi := ?_) (v := ?_) ?_ (by kernel_rfl) (by kernel_rfl) (by kernel_rfl) ?_ ?_ (by assumption) ?_
          rotate_left 2; (simp only [List.getElem?_toArray, List.getElem?_cons_succ, List.getElem?_cons_zero]; rfl)
          rotate_left; (first | (refine .inl ⟨by rfl, ?_⟩; intro w9 hS9; go_simp; try with_reducible rfl) | (refine .inr ⟨by rfl, ?_⟩; with_reducible rfl))
          rotate_left; (intro _ _ _ h9; exact h9)
          try simp only [Act.put, List.setIfInBounds_toArray, List.set_cons_zero, List.set_cons_succ]
          refine wpAnyH_take (i := 7) (oi := ?_) (v := ?_) ?_ (by kernel_rfl) (by kernel_rfl) (by kernel_rfl) ?_ ?_ (by assumption) ?_
          rotate_left 2; (simp only [List.getElem?_toArray, List.getElem?_cons_succ, List.getElem?_cons_zero]; rfl)
          rotate_left; (first | (refine .inl ⟨by rfl, ?_⟩; intro w9 hS9; go_simp; try with_reducible rfl) | (refine .inr ⟨by rfl, ?_⟩; with_reducible rfl))
          rotate_left; (intro _ _ _ h9; exact h9)
          try simp only [Act.put, List.setIfInBounds_toArray, List.set_cons_zero, List.set_cons_succ]
          refine wpAnyH_take (i := 8) (oi := ?_) (v := ?_) ?_ (by kernel_rfl) (by kernel_rfl) (by kernel_rfl) ?_ ?_ (by assumption) ?_
          rotate_left 2; (simp only [List.getElem?_toArray, List.getElem?_cons_succ, List.getElem?_cons_zero]; rfl)
          rotate_left; (first | (refine .inl ⟨by rfl, ?_⟩; intro w9 hS9; go_simp; try with_reducible rfl) | (refine .inr ⟨by rfl, ?_⟩; with_reducible rfl))
          rotate_left; (intro _ _ _ h9; exact h9)
          try simp only [Act.put, List.setIfInBounds_toArray, List.set_cons_zero, List.set_cons_succ]
          refine wpAnyH_take (i := 9) (oi := ?_) (v := ?_) ?_ (by kernel_rfl) (by kernel_rfl) (by kernel_rfl) ?_ ?_ (by assumption) ?_
          rotate_left 2; (simp only [List.getElem?_toArray, List.getElem?_cons_succ, List.getElem?_cons_zero]; rfl)
          rotate_left; (first | (refine .inl ⟨by rfl, ?_⟩; intro w9 hS9; go_simp; try with_reducible rfl) | (refine .inr ⟨by rfl, ?_⟩; with_reducible rfl))
          rotate_left; (intro _ _ _ h9; exact h9)
          try simp only [Act.put, List.setIfInBounds_toArray, List.set_cons_zero, List.set_cons_succ]
          refine wpAnyH_take (i := 10) (oi := ?_) (v := ?_) ?_ (by kernel_rfl) (by kernel_rfl) (by kernel_rfl) ?_ ?_ (by assumption) ?_
          rotate_left 2; (simp only [List.getElem?_toArray, List.getElem?_cons_succ, List.getElem?_cons_zero]; rfl)
          rotate_left; (first | (refine .inl ⟨by rfl, ?_⟩; intro w9 hS9; go_simp; try with_reducible rfl) | (refine .inr ⟨by rfl, ?_⟩; with_reducible rfl))
          rotate_left; (intro _ _ _ h9; exact h9)
          try simp only [Act.put, List.setIfInBounds_toArray, List.set_cons_zero, List.set_cons_succ]
          refine wpAnyH_take (i := 11) (oi := ?_) (v := ?_) ?_ (by kernel_rfl) (by kernel_rfl) (by kernel_rfl) ?_ ?_ (by assumption) ?_
          rotate_left 2; (simp only [List.getElem?_toArray, List.getElem?_cons_succ, List.getElem?_cons_zero]; rfl)
          rotate_left; (first | (refine .inl ⟨by rfl, ?_⟩; intro w9 hS9; go_simp; try with_reducible rfl) | (refine .inr ⟨by rfl, ?_⟩; with_reducible rfl))
          rotate_left; (intro _ _ _ h9; exact h9)
          try simp only [Act.put, List.setIfInBounds_toArray, List.set_cons_zero, List.set_cons_succ]
          refine wpAnyH_take (i := 12) (oi := ?_) (v := ?_) ?_ (by kernel_rfl) (by kernel_rfl) (by kernel_rfl) ?_ ?_ (by assumption) ?_
          rotate_left 2; (simp only [List.getElem?_toArray, List.getElem?_cons_succ, List.getElem?_cons_zero]; rfl)
          rotate_left; (first | (refine .inl ⟨by rfl, ?_⟩; intro w9 hS9; go_simp; try with_reducible rfl) | (refine .inr ⟨by rfl, ?_⟩; with_reducible rfl))
          rotate_left; (intro _ _ _ h9; exact h9)
          try simp only [Act.put, List.setIfInBounds_toArray, List.set_cons_zero, List.set_cons_succ]
          refine wpAnyH_take (i := 13) (oi := ?_) (v := ?_) ?_ (by kernel_rfl) (by kernel_rfl) (by kernel_rfl) ?_ ?_ (by assumption) ?_
          rotate_left 2; (simp only [List.getElem?_toArray, List.getElem?_cons_succ, List.getElem?_cons_zero]; rfl)
          rotate_left; (first | (refine .inl ⟨by rfl, ?_⟩; intro w9 hS9; go_simp; try with_reducible rfl) | (refine .inr ⟨by rfl, ?_⟩; with_reducible rfl))
          rotate_left; (intro _ _ _ h9; exact h9)
          try simp only [Act.put, List.setIfInBounds_toArray, List.set_cons_zero, List.set_cons_succ]
          refine wpAnyH_take (i := 14) (oi := ?_) (v := ?_) ?_ (by kernel_rfl) (by kernel_rfl) (by kernel_rfl) ?_ ?_ (by assumption) ?_
          rotate_left 2; (simp only [List.getElem?_toArray, List.getElem?_cons_succ, List.getElem?_cons_zero]; rfl)
          rotate_left; (first | (refine .inl ⟨by rfl, ?_⟩; intro w9 hS9; go_simp; try with_reducible rfl) | (refine .inr ⟨by rfl, ?_⟩; with_reducible rfl))
          rotate_left; (intro _ _ _ h9; exact h9)
          try simp only [Act.put, List.setIfInBounds_toArray, List.set_cons_zero, List.set_cons_succ]
          refine wpAnyH_take (i := 15) (oi := ?_) (v := ?_) ?_ (by kernel_rfl) (by kernel_rfl) (by kernel_rfl) ?_ ?_ (by assumption) ?_
          rotate_left 2; (simp only [List.getElem?_toArray, List.getElem?_cons_succ, List.getElem?_cons_zero]; rfl)
          rotate_left; (first | (refine .inl ⟨by rfl, ?_⟩; intro w9 hS9; go_simp; try with_reducible rfl) | (refine .inr ⟨by rfl, ?_⟩; with_reducible rfl))
          rotate_left; (intro _ _ _ h9; exact h9)
          try simp only [Act.put, List.setIfInBounds_toArray, List.set_cons_zero, List.set_cons_succ]
          refine wpAnyH_take (i := 16) (oi := ?_) (v := ?_) ?_ (by kernel_rfl) (by kernel_rfl) (by kernel_rfl) ?_ ?_ (by assumption) ?_
          rotate_left 2; (simp only [List.getElem?_toArray, List.getElem?_cons_succ, List.getElem?_cons_zero]; rfl)
          rotate_left; (first | (refine .inl ⟨by rfl, ?_⟩; intro w9 hS9; go_simp; try with_reducible rfl) | (refine .inr ⟨by rfl, ?_⟩; with_reducible rfl))
          rotate_left; (intro _ _ _ h9; exact h9)
          try simp only [Act.put, List.setIfInBounds_toArray, List.set_cons_zero, List.set_cons_succ]
          refine wpAnyH_take (i := 17) (oi := ?_) (v := ?_) ?_ (by kernel_rfl) (by kernel_rfl) (by kernel_rfl) ?_ ?_ (by assumption) ?_
          rotate_left 2; (simp only [List.getElem?_toArray, List.getElem?_cons_succ, List.getElem?_cons_zero]; rfl)
          rotate_left; (first | (refine .inl ⟨by rfl, ?_⟩; intro w9 hS9; go_simp; try with_reducible rfl) | (refine .inr ⟨by rfl, ?_⟩; with_reducible rfl))
          rotate_left; (intro _ _ _ h9; exact h9)
          try simp only [Act.put, List.setIfInBounds_toArray, List.set_cons_zero, List.set_cons_succ]
          refine wpAnyH_done (by kernel_rfl) ?_ _
          have HS6 := Lib.hid hS6
          clear hS6
          clear y0 z2 z5
          go_upto_region 7 with fail
          have HS7 := Lib.hid (below_step HS6.out (below_drew1 w3.drew))
          have HJ4 := Lib.hid (HJ3.out.below HS7.out)
          have HBX4 := Lib.hid (show w3.drew.drew.heap[w2.heap.size]? = some (.cells (nta x.seq A2 x.dat.length c2 x.fin) 54 (0, 0)) from HBX.out)
          have HD4 := Lib.hid (HD3.out.fr (Fr.ofBelow HS7.out (fun _ => False)) (fun _ _ _ h => h))
          have HBW4 := Lib.hid (below_step HBW3.out HS7.out)
          clear HS6 HS7 HJ3 HBX HD3 HBW3
          refine wp_region_held (S := fun w' => BoxAt w2.heap.size x A2 c2 w') (by kernel_rfl) ?_
          change wpAnyH _ _ _ _ _ _ _ _ w3.drew.drew
          generalize w3.drew.drew = w4 at *
          have hj4 := HJ4.out.heap
          unfold jrc at hj4
          have m1 : w4.cell? ⟨w.heap.size, 1, none⟩ = some (.int .i64 st.bank) := by simp [World.cell?, hj4]
          have m2 : w4.cell? ⟨w.heap.size, 2, none⟩ = some (.int .u32 st.nt.seq) := by simp [World.cell?, hj4]
          have m3 : w4.cell? ⟨w.heap.size, 3, none⟩ = some (.slice A st.nt.dat.length c) := by simp [World.cell?, hj4]
          have m4 : w4.cell? ⟨w.heap.size, 4, none⟩ = some (.int .i64 st.nt.fin) := by simp [World.cell?, hj4]
          have m5 : w4.cell? ⟨w.heap.size, 5, none⟩ = some (.bool st.has) := by simp [World.cell?, hj4]
          have mf : ∀ i, w4.frozen? ⟨w.heap.size, i, none⟩ = false := fun i => by simp [World.frozen?, hj4]
          have HH4 := Lib.hid hj4
          clear hj4
          have hS0 : BoxAt w2.heap.size x A2 c2 w4 := HBX4.out
          have hne : w2.heap.size ≠ w.heap.size := by have h1 := HSZ.out; have h2 := HJ.out.lt; omega
          have HNE := Lib.hid hne
          have hset := jn_set (g := g) (s := x.seq) (A := A2) (n := x.dat.length) (c := c2) (f := x.fin) (show w4.heap[w.heap.size]? = _ from HH4.out) (k : Int)
          have hfr : Fr (fun i => i = w.heap.size) w4 (((((w4.setCell ⟨w.heap.size, 1, none⟩ (.int .i64 k)).setCell ⟨w.heap.size, 2, none⟩ (.int .u32 x.seq)).setCell ⟨w.heap.size, 3, none⟩ (.slice A2 x.dat.length c2)).setCell ⟨w.heap.size, 4, none⟩ (.int .i64 x.fin)).setCell ⟨w.heap.size, 5, none⟩ (.bool true)) :=
            fr_same (fr_same (fr_same (fr_same (fr_setCell _ _ rfl) (fr_setCell _ _ rfl)) (fr_setCell _ _ rfl)) (fr_setCell _ _ rfl)) (fr_setCell _ _ rfl)
          have HSET := Lib.hid hset
          have HFR := Lib.hid hfr
          clear hset hfr hne
          have z0 : ∀ w' : World, BoxAt w2.heap.size x A2 c2 w' → w'.cell? ⟨w2.heap.size, 0, none⟩ = some (.int .u32 x.seq) := fun w' h => BoxAt.cell h _ _ rfl
          have z1 : ∀ w' : World, BoxAt w2.heap.size x A2 c2 w' → w'.cell? ⟨w2.heap.size, 1, none⟩ = some (.slice A2 x.dat.length c2) := fun w' h => BoxAt.cell h _ _ rfl
          have z2 : ∀ w' : World, BoxAt w2.heap.size x A2 c2 w' → w'.cell? ⟨w2.heap.size, 2, none⟩ = some (.int .i64 x.fin) := fun w' h => BoxAt.cell h _ _ rfl
          have hSb := hS0
          clear hS0
          change wpAnyH _ _ _ _ _ 14 (Array.replicate 14 false) _ _
          refine wpAnyH_take (i := 0) (oi := ?_) (v := ?_) ?_ (by kernel_rfl) (by kernel_rfl) (by kernel_rfl) ?_ ?_ (by assumption) ?_
          rotate_left 2; (simp only [List.getElem?_toArray, List.getElem?_cons_succ, List.getElem?_cons_zero]; rfl)
          rotate_left; (first | (refine .inl ⟨by rfl, ?_⟩; intro w9 hS9; go_simp; try with_reducible rfl) | (refine .inr ⟨by rfl, ?_⟩; with_reducible rfl))
          rotate_left; (intro _ _ _ h9; exact h9)
          try simp only [Act.put, List.setIfInBounds_toArray, List.set_cons_zero, List.set_cons_succ]
          refine wpAnyH_take (i := 1) (oi := ?_) (v := ?_) ?_ (by kernel_rfl) (by kernel_rfl) (by kernel_rfl) ?_ ?_ (by assumption) ?_
          rotate_left 2; (simp only [List.getElem?_toArray, List.getElem?_cons_succ, List.getElem?_cons_zero]; rfl)
          rotate_left; (first | (refine .inl ⟨by rfl, ?_⟩; intro w9 hS9; go_simp; try with_reducible rfl) | (refine .inr ⟨by rfl, ?_⟩; with_reducible rfl))
          rotate_left; (intro _ _ _ h9; exact h9)
          try simp only [Act.put, List.setIfInBounds_toArray, List.set_cons_zero, List.set_cons_succ]
          refine wpAnyH_take (i := 2) (oi := ?_) (v := ?_) ?_ (by kernel_rfl) (by kernel_rfl) (by kernel_rfl) ?_ ?_ (by assumption) ?_
          rotate_left 2; (simp only [List.getElem?_toArray, List.getElem?_cons_succ, List.getElem?_cons_zero]; rfl)
          rotate_left; (first | (refine .inl ⟨by rfl, ?_⟩; intro w9 hS9; go_simp; try with_reducible rfl) | (refine .inr ⟨by rfl, ?_⟩; with_reducible rfl))
          rotate_left; (intro _ _ _ h9; exact h9)
          try simp only [Act.put, List.setIfInBounds_toArray, List.set_cons_zero, List.set_cons_succ]
          refine wpAnyH_take (i := 3) (oi := ?_) (v := ?_) ?_ (by kernel_rfl) (by kernel_rfl) (by kernel_rfl) ?_ ?_ (by assumption) ?_
          rotate_left 2; (simp only [List.getElem?_toArray, List.getElem?_cons_succ, List.getElem?_cons_zero]; rfl)
          rotate_left; (first | (refine .inl ⟨by rfl, ?_⟩; intro w9 hS9; go_simp; try with_reducible rfl) | (refine .inr ⟨by rfl, ?_⟩; with_reducible rfl))
          rotate_left; (intro _ _ _ h9; exact h9)
          try simp only [Act.put, List.setIfInBounds_toArray, List.set_cons_zero, List.set_cons_succ]
          refine wpAnyH_take (i := 4) (oi := ?_) (v := ?_) ?_ (by kernel_rfl) (by kernel_rfl) (by kernel_rfl) ?_ ?_ (by assumption) ?_
          rotate_left 2; (simp only [List.getElem?_toArray, List.getElem?_cons_succ, List.getElem?_cons_zero]; rfl)
          rotate_left; (first | (refine .inl ⟨by rfl, ?_⟩; intro w9 hS9; go_simp; try with_reducible rfl) | (refine .inr ⟨by rfl, ?_⟩; with_reducible rfl))
          rotate_left; (intro _ _ _ h9; exact h9)
          try simp only [Act.put, List.setIfInBounds_toArray, List.set_cons_zero, List.set_cons_succ]
          refine wpAnyH_take (i := 5) (oi := ?_) (v := ?_) ?_ (by kernel_rfl) (by kernel_rfl) (by kernel_rfl) ?_ ?_ (by assumption) ?_
          rotate_left 2; (simp only [List.getElem?_toArray, List.getElem?_cons_succ, List.getElem?_cons_zero]; rfl)
          rotate_left; (first | (refine .inl ⟨by rfl, ?_⟩; intro w9 hS9; go_simp; try with_reducible rfl) | (refine .inr ⟨by rfl, ?_⟩; with_reducible rfl))
          rotate_left; (intro _ _ _ h9; exact h9)
          try simp only [Act.put, List.setIfInBounds_toArray, List.set_cons_zero, List.set_cons_succ]
          refine wpAnyH_take (i := 6) (oi := ?_) (v := ?_) ?_ (by kernel_rfl) (by kernel_rfl) (by kernel_rfl) ?_ ?_ (by assumption) ?_
          rotate_left 2; (simp only [List.getElem?_toArray, List.getElem?_cons_succ, List.getElem?_cons_zero]; rfl)
          rotate_left; (first | (refine .inl ⟨by rfl, ?_⟩; intro w9 hS9; go_simp; try with_reducible rfl) | (refine .inr ⟨by rfl, ?_⟩; with_reducible rfl))
          rotate_left; (intro _ _ _ h9; exact h9)
          try simp only [Act.put, List.setIfInBounds_toArray, List.set_cons_zero, List.set_cons_succ]
          refine wpAnyH_ready (rs := [7]) (by kernel_rfl) (by simp) (AllReadyH.cons rfl (fun K9 hK9 => ?_) AllReadyH.nil)
          go_simp
          have hS1 := box_keep hSb HNE.out 1 (.int .i64 k)
          refine hK9.out _ _ hS1 (fun _ => ?_)
          refine wpAnyH_take (i := 8) (oi := ?_) (v := ?_) ?_ (by kernel_rfl) (by kernel_rfl) (by kernel_rfl) ?_ ?_ (by assumption) ?_
          rotate_left 2; (simp only [List.getElem?_toArray, List.getElem?_cons_succ, List.getElem?_cons_zero]; rfl)
          rotate_left; (first | (refine .inl ⟨by rfl, ?_⟩; intro w9 hS9; go_simp; try with_reducible rfl) | (refine .inr ⟨by rfl, ?_⟩; with_reducible rfl))
          rotate_left; (intro _ _ _ h9; exact h9)
          try simp only [Act.put, List.setIfInBounds_toArray, List.set_cons_zero, List.set_cons_succ]
          refine wpAnyH_take (i := 9) (oi := ?_) (v := ?_) ?_ (by kernel_rfl) (by kernel_rfl) (by kernel_rfl) ?_ ?_ (by assumption) ?_
          rotate_left 2; (simp only [List.getElem?_toArray, List.getElem?_cons_succ, List.getElem?_cons_zero]; rfl)
          rotate_left; (first | (refine .inl ⟨by rfl, ?_⟩; intro w9 hS9; go_simp; try with_reducible rfl) | (refine .inr ⟨by rfl, ?_⟩; with_reducible rfl))
          rotate_left; (intro _ _ _ h9; exact h9)
          try simp only [Act.put, List.setIfInBounds_toArray, List.set_cons_zero, List.set_cons_succ]
          refine wpAnyH_ready (rs := [10]) (by kernel_rfl) (by simp) (AllReadyH.cons rfl (fun K9 hK9 => ?_) AllReadyH.nil)
          go_simp
          have hS2 := box_keep (box_keep (box_keep hS1 HNE.out 2 (.int .u32 x.seq)) HNE.out 3 (.slice A2 x.dat.length c2)) HNE.out 4 (.int .i64 x.fin)
          refine hK9.out _ _ hS2 (fun _ => ?_)
          refine wpAnyH_take (i := 11) (oi := ?_) (v := ?_) ?_ (by kernel_rfl) (by kernel_rfl) (by kernel_rfl) ?_ ?_ (by assumption) ?_
          rotate_left 2; (simp only [List.getElem?_toArray, List.getElem?_cons_succ, List.getElem?_cons_zero]; rfl)
          rotate_left; (first | (refine .inl ⟨by rfl, ?_⟩; intro w9 hS9; go_simp; try with_reducible rfl) | (refine .inr ⟨by rfl, ?_⟩; with_reducible rfl))
          rotate_left; (intro _ _ _ h9; exact h9)
          try simp only [Act.put, List.setIfInBounds_toArray, List.set_cons_zero, List.set_cons_succ]
          refine wpAnyH_take (i := 12) (oi := ?_) (v := ?_) ?_ (by kernel_rfl) (by kernel_rfl) (by kernel_rfl) ?_ ?_ (by assumption) ?_
          rotate_left 2; (simp only [List.getElem?_toArray, List.getElem?_cons_succ, List.getElem?_cons_zero]; rfl)
          rotate_left; (first | (refine .inl ⟨by rfl, ?_⟩; intro w9 hS9; go_simp; try with_reducible rfl) | (refine .inr ⟨by rfl, ?_⟩; with_reducible rfl))
          rotate_left; (intro _ _ _ h9; exact h9)
          try simp only [Act.put, List.setIfInBounds_toArray, List.set_cons_zero, List.set_cons_succ]
          refine wpAnyH_ready (rs := [13]) (by kernel_rfl) (by simp) (AllReadyH.cons rfl (fun K9 hK9 => ?_) AllReadyH.nil)
          go_simp
          refine hK9.out _ _ (by refine box_keep ?_ HNE.out _ _; exact hS2) (fun hS3 => ?_)
          refine wpAnyH_done (by kernel_rfl) ?_ _
          clear hSb hS1 hS2 hS3 z0 z1 z2 m1 m2 m3 m4 m5 mf
          generalize ((((w4.setCell ⟨w.heap.size, 1, none⟩ (.int .i64 k)).setCell ⟨w.heap.size, 2, none⟩ (.int .u32 x.seq)).setCell ⟨w.heap.size, 3, none⟩ (.slice A2 x.dat.length c2)).setCell ⟨w.heap.size, 4, none⟩ (.int .i64 x.fin)).setCell ⟨w.heap.size, 5, none⟩ (.bool true) = w9 at *
          go_wp2_with fail
          exact ⟨⟨k + 1, by have := HK.out; omega, by go_num, by
            show JO w g gb (jStep (jTo xs k) k (jLast xs k)) _
            rw [HST.out, HQ.out, HTK.out]
            have hs := HSZ.out
            have hl := HJ.out.lt
            have hlt := HLT.out
            have hblk := HD4.out.blk
            have hok := bkOk_iff.1 HLA.out.1
            refine ⟨⟨A2, c2, ⟨HSET.out, (HD4.out.fr HFR.out (fun b o e e2 => by have := hblk b o e; omega)).1, fun _ b o e => ?_, hok.2⟩, fun b o e => ?_⟩, HBW4.out.trans (HFR.out.below w.heap.size HBW4.out.size (fun i e => by omega))⟩
            · have := hblk b o e; omega
            · have := hblk b o e; omega⟩, by have := HK.out; simp [intOf]; omega⟩
        | true =>
          rw [hh] at z5
          by_cases hsq : st.nt.seq < x.seq
          · have hsq' : (st.nt.seq : Int) < (x.seq : Int) := by omega
            have HTK := Lib.hid (show jStep st k (some x) = ⟨k, x, true⟩ by simp [jStep, hsq])
            have HH := Lib.hid hh
            clear hh
            have hS6 := below_drew1 w3
            refine wp_region_held (S := fun w' => Below w3.heap.size w3 w') (by kernel_rfl) ?_
            change wpAnyH _ _ _ _ _ _ _ _ w3.drew
            change wpAnyH _ _ _ _ _ 18 (Array.replicate 18 false) _ _
            refine wpAnyH_take (i := 0) (oi := ?_) (v := ?_) ?_ (by kernel_rfl) (by kernel_rfl) (by kernel_rfl) ?_ ?_ (by assumption) ?_
            rotate_left 2; (simp only [List.getElem?_toArray, List.getElem?_cons_succ, List.getElem?_cons_zero]; rfl)
            rotate_left; (first | (refine .inl ⟨by rfl, ?_⟩; intro w9 hS9; go_simp; try with_reducible rfl) | (refine .inr ⟨by rfl, ?_⟩; with_reducible rfl))
            rotate_left; (intro _ _ _ h9; exact h9)
            try simp only [Act.put, List.setIfInBounds_toArray, List.set_cons_zero, List.set_cons_succ]
            refine wpAnyH_take (i := 1) (oi := ?_) (v := ?_) ?_ (by kernel_rfl) (by kernel_rfl) (by kernel_rfl) ?_ ?_ (by assumption) ?_
            rotate_left 2; (simp only [List.getElem?_toArray, List.getElem?_cons_succ, List.getElem?_cons_zero]; rfl)
            rotate_left; (first | (refine .inl ⟨by rfl, ?_⟩; intro w9 hS9; go_simp; try with_reducible rfl) | (refine .inr ⟨by rfl, ?_⟩; with_reducible rfl))
            rotate_left; (intro _ _ _ h9; exact h9)
            try simp only [Act.put, List.setIfInBounds_toArray, List.set_cons_zero, List.set_cons_succ]
            refine wpAnyH_take (i := 2) (oi := ?_) (v := ?_) ?_ (by kernel_rfl) (by kernel_rfl) (by kernel_rfl) ?_ ?_ (by assumption) ?_
            rotate_left 2; (simp only [List.getElem?_toArray, List.getElem?_cons_succ, List.getElem?_cons_zero]; rfl)
            rotate_left; (first | (refine .inl ⟨by rfl, ?_⟩; intro w9 hS9; go_simp; try with_reducible rfl) | (refine .inr ⟨by rfl, ?_⟩; with_reducible rfl))
            rotate_left; (intro _ _ _ h9; exact h9)
            try simp only [Act.put, List.setIfInBounds_toArray, List.set_cons_zero, List.set_cons_succ]
            refine wpAnyH_take (i := 3) (oi := ?_) (v := ?_) ?_ (by kernel_rfl) (by kernel_rfl) (by kernel_rfl) ?_ ?_ (by assumption) ?_
            rotate_left 2; (simp only [List.getElem?_toArray, List.getElem?_cons_succ, List.getElem?_cons_zero]; rfl)
            rotate_left; (first | (refine .inl ⟨by rfl, ?_⟩; intro w9 hS9; go_simp; try with_reducible rfl) | (refine .inr ⟨by rfl, ?_⟩; with_reducible rfl))
            rotate_left; (intro _ _ _ h9; exact h9)
            try simp only [Act.put, List.setIfInBounds_toArray, List.set_cons_zero, List.set_cons_succ]
            refine wpAnyH_take (i := 4) (oi := ?_) (v := ?_) ?_ (by kernel_rfl) (by kernel_rfl) (by kernel_rfl) ?_ ?_ (by assumption) ?_
            rotate_left 2; (simp only [List.getElem?_toArray, List.getElem?_cons_succ, List.getElem?_cons_zero]; rfl)
            rotate_left; (first | (refine .inl ⟨by rfl, ?_⟩; intro w9 hS9; go_simp; try with_reducible rfl) | (refine .inr ⟨by rfl, ?_⟩; with_reducible rfl))
            rotate_left; (intro _ _ _ h9; exact h9)
            try simp only [Act.put, List.setIfInBounds_toArray, List.set_cons_zero, List.set_cons_succ]
            refine wpAnyH_take (i := 5) (oi := ?_) (v := ?_) ?_ (by kernel_rfl) (by kernel_rfl) (by kernel_rfl) ?_ ?_ (by assumption) ?_
            rotate_left 2; (simp only [List.getElem?_toArray, List.getElem?_cons_succ, List.getElem?_cons_zero]; rfl)
            rotate_left; (first | (refine .inl ⟨by rfl, ?_⟩; intro w9 hS9; go_simp; try with_reducible rfl) | (refine .inr ⟨by rfl, ?_⟩; with_reducible rfl))
            rotate_left; (intro _ _ _ h9; exact h9)
            try simp only [Act.put, List.setIfInBounds_toArray, List.set_cons_zero, List.set_cons_succ]
            refine wpAnyH_take (i := 6) (oi := ?_) (v := ?_) ?_ (by kernel_rfl) (by kernel_rfl) (by kernel_rfl) ?_ ?_ (by assumption) ?_
            rotate_left 2; (simp only [List.getElem?_toArray, List.getElem?_cons_succ, List.getElem?_cons_zero]; rfl)
            rotate_left; (first | (refine .inl ⟨by rfl, ?_⟩; intro w9 hS9; go_simp; try with_reducible rfl) | (refine .inr ⟨by rfl, ?_⟩; with_reducible rfl))
            rotate_left; (intro _ _ _ h9; exact h9)
            try simp only [Act.put, List.setIfInBounds_toArray, List.set_cons_zero, List.set_cons_succ]
            refine wpAnyH_take (i := 7) (oi := ?_) (v := ?_) ?_ (by kernel_rfl) (by kernel_rfl) (by kernel_rfl) ?_ ?_ (by assumption) ?_
            rotate_left 2; (simp only [List.getElem?_toArray, List.getElem?_cons_succ, List.getElem?_cons_zero]; rfl)
            rotate_left; (first | (refine .inl ⟨by rfl, ?_⟩; intro w9 hS9; go_simp; try with_reducible rfl) | (refine .inr ⟨by rfl, ?_⟩; with_reducible rfl))
            rotate_left; (intro _ _ _ h9; exact h9)
            try simp only [Act.put, List.setIfInBounds_toArray, List.set_cons_zero, List.set_cons_succ]
            refine wpAnyH_take (i := 8) (oi := ?_) (v := ?_) ?_ (by kernel_rfl) (by kernel_rfl) (by kernel_rfl) ?_ ?_ (by assumption) ?_
            rotate_left 2; (simp only [List.getElem?_toArray, List.getElem?_cons_succ, List.getElem?_cons_zero]; rfl)
            rotate_left; (first | (refine .inl ⟨by rfl, ?_⟩; intro w9 hS9; go_simp; try with_reducible rfl) | (refine .inr ⟨by rfl, ?_⟩; with_reducible rfl))
            rotate_left; (intro _ _ _ h9; exact h9)
            try simp only [Act.put, List.setIfInBounds_toArray, List.set_cons_zero, List.set_cons_succ]
            refine wpAnyH_take (i := 9) (oi := ?_) (v := ?_) ?_ (by kernel_rfl) (by kernel_rfl) (by kernel_rfl) ?_ ?_ (by assumption) ?_
            rotate_left 2; (simp only [List.getElem?_toArray, List.getElem?_cons_succ, List.getElem?_cons_zero]; rfl)
            rotate_left; (first | (refine .inl ⟨by rfl, ?_⟩; intro w9 hS9; go_simp; try with_reducible rfl) | (refine .inr ⟨by rfl, ?_⟩; with_reducible rfl))
            rotate_left; (intro _ _ _ h9; exact h9)
            try simp only [Act.put, List.setIfInBounds_toArray, List.set_cons_zero, List.set_cons_succ]
            refine wpAnyH_take (i := 10) (oi := ?_) (v := ?_) ?_ (by kernel_rfl) (by kernel_rfl) (by kernel_rfl) ?_ ?_ (by assumption) ?_
            rotate_left 2; (simp only [List.getElem?_toArray, List.getElem?_cons_succ, List.getElem?_cons_zero]; rfl)
            rotate_left; (first | (refine .inl ⟨by rfl, ?_⟩; intro w9 hS9; go_simp; try with_reducible rfl) | (refine .inr ⟨by rfl, ?_⟩; with_reducible rfl))
            rotate_left; (intro _ _ _ h9; exact h9)
            try simp only [Act.put, List.setIfInBounds_toArray, List.set_cons_zero, List.set_cons_succ]
            refine wpAnyH_take (i := 11) (oi := ?_) (v := ?_) ?_ (by kernel_rfl) (by kernel_rfl) (by kernel_rfl) ?_ ?_ (by assumption) ?_
            rotate_left 2; (simp only [List.getElem?_toArray, List.getElem?_cons_succ, List.getElem?_cons_zero]; rfl)
            rotate_left; (first | (refine .inl ⟨by rfl, ?_⟩; intro w9 hS9; go_simp; try with_reducible rfl) | (refine .inr ⟨by rfl, ?_⟩; with_reducible rfl))
            rotate_left; (intro _ _ _ h9; exact h9)
            try simp only [Act.put, List.setIfInBounds_toArray, List.set_cons_zero, List.set_cons_succ]
            refine wpAnyH_take (i := 12) (oi := ?_) (v := ?_) ?_ (by kernel_rfl) (by kernel_rfl) (by kernel_rfl) ?_ ?_ (by assumption) ?_
            rotate_left 2; (simp only [List.getElem?_toArray, List.getElem?_cons_succ, List.getElem?_cons_zero]; rfl)
            rotate_left; (first | (refine .inl ⟨by rfl, ?_⟩; intro w9 hS9; go_simp; try with_reducible rfl) | (refine .inr ⟨by rfl, ?_⟩; with_reducible rfl))
            rotate_left; (intro _ _ _ h9; exact h9)
            try simp only [Act.put, List.setIfInBounds_toArray, List.set_cons_zero, List.set_cons_succ]
            refine wpAnyH_take (i := 13) (oi := ?_) (v := ?_) ?_ (by kernel_rfl) (by kernel_rfl) (by kernel_rfl) ?_ ?_ (by assumption) ?_
            rotate_left 2; (simp only [List.getElem?_toArray, List.getElem?_cons_succ, List.getElem?_cons_zero]; rfl)
            rotate_left; (first | (refine .inl ⟨by rfl, ?_⟩; intro w9 hS9; go_simp; try with_reducible rfl) | (refine .inr ⟨by rfl, ?_⟩; with_reducible rfl))
            rotate_left; (intro _ _ _ h9; exact h9)
            try simp only [Act.put, List.setIfInBounds_toArray, List.set_cons_zero, List.set_cons_succ]
            refine wpAnyH_take (i := 14) (oi := ?_) (v := ?_) ?_ (by kernel_rfl) (by kernel_rfl) (by kernel_rfl) ?_ ?_ (by assumption) ?_
            rotate_left 2; (simp only [List.getElem?_toArray, List.getElem?_cons_succ, List.getElem?_cons_zero]; rfl)
            rotate_left; (first | (refine .inl ⟨by rfl, ?_⟩; intro w9 hS9; go_simp; try with_reducible rfl) | (refine .inr ⟨by rfl, ?_⟩; with_reducible rfl))
            rotate_left; (intro _ _ _ h9; exact h9)
            try simp only [Act.put, List.setIfInBounds_toArray, List.set_cons_zero, List.set_cons_succ]
            refine wpAnyH_take (i := 15) (oi := ?_) (v := ?_) ?_ (by kernel_rfl) (by kernel_rfl) (by kernel_rfl) ?_ ?_ (by assumption) ?_
            rotate_left 2; (simp only [List.getElem?_toArray, List.getElem?_cons_succ, List.getElem?_cons_zero]; rfl)
            rotate_left; (first | (refine .inl ⟨by rfl, ?_⟩; intro w9 hS9; go_simp; try with_reducible rfl) | (refine .inr ⟨by rfl, ?_⟩; with_reducible rfl))
            rotate_left; (intro _ _ _ h9; exact h9)
            try simp only [Act.put, List.setIfInBounds_toArray, List.set_cons_zero, List.set_cons_succ]
            refine wpAnyH_take (i := 16) (oi := ?_) (v := ?_) ?_ (by kernel_rfl) (by kernel_rfl) (by kernel_rfl) ?_ ?_ (by assumption) ?_
            rotate_left 2; (simp only [List.getElem?_toArray, List.getElem?_cons_succ, List.getElem?_cons_zero]; rfl)
            rotate_left; (first | (refine .inl ⟨by rfl, ?_⟩; intro w9 hS9; go_simp; try with_reducible rfl) | (refine .inr ⟨by rfl, ?_⟩; with_reducible rfl))
            rotate_left; (intro _ _ _ h9; exact h9)
            try simp only [Act.put, List.setIfInBounds_toArray, List.set_cons_zero, List.set_cons_succ]
            refine wpAnyH_take (i := 17) (oi := ?_) (v := ?_) ?_ (by kernel_rfl) (by kernel_rfl) (by kernel_rfl) ?_ ?_ (by assumption) ?_
            rotate_left 2; (simp only [List.getElem?_toArray, List.getElem?_cons_succ, List.getElem?_cons_zero]; rfl)
            rotate_left; (first | (refine .inl ⟨by rfl, ?_⟩; intro w9 hS9; go_simp; try with_reducible rfl) | (refine .inr ⟨by rfl, ?_⟩; with_reducible rfl))
            rotate_left; (intro _ _ _ h9; exact h9)
            try simp only [Act.put, List.setIfInBounds_toArray, List.set_cons_zero, List.set_cons_succ]
            refine wpAnyH_done (by kernel_rfl) ?_ _
            have HS6 := Lib.hid hS6
            clear hS6
            clear y0 z2 z5
            go_upto_region 7 with fail
            have HS7 := Lib.hid (below_step HS6.out (below_drew1 w3.drew))
            have HJ4 := Lib.hid (HJ3.out.below HS7.out)
            have HBX4 := Lib.hid (show w3.drew.drew.heap[w2.heap.size]? = some (.cells (nta x.seq A2 x.dat.length c2 x.fin) 54 (0, 0)) from HBX.out)
            have HD4 := Lib.hid (HD3.out.fr (Fr.ofBelow HS7.out (fun _ => False)) (fun _ _ _ h => h))
            have HBW4 := Lib.hid (below_step HBW3.out HS7.out)
            clear HS6 HS7 HJ3 HBX HD3 HBW3
            refine wp_region_held (S := fun w' => BoxAt w2.heap.size x A2 c2 w') (by kernel_rfl) ?_
            change wpAnyH _ _ _ _ _ _ _ _ w3.drew.drew
            generalize w3.drew.drew = w4 at *
            have hj4 := HJ4.out.heap
            unfold jrc at hj4
            have m1 : w4.cell? ⟨w.heap.size, 1, none⟩ = some (.int .i64 st.bank) := by simp [World.cell?, hj4]
            have m2 : w4.cell? ⟨w.heap.size, 2, none⟩ = some (.int .u32 st.nt.seq) := by simp [World.cell?, hj4]
            have m3 : w4.cell? ⟨w.heap.size, 3, none⟩ = some (.slice A st.nt.dat.length c) := by simp [World.cell?, hj4]
            have m4 : w4.cell? ⟨w.heap.size, 4, none⟩ = some (.int .i64 st.nt.fin) := by simp [World.cell?, hj4]
            have m5 : w4.cell? ⟨w.heap.size, 5, none⟩ = some (.bool st.has) := by simp [World.cell?, hj4]
            have mf : ∀ i, w4.frozen? ⟨w.heap.size, i, none⟩ = false := fun i => by simp [World.frozen?, hj4]
            have HH4 := Lib.hid hj4
            clear hj4
            have hS0 : BoxAt w2.heap.size x A2 c2 w4 := HBX4.out
            have hne : w2.heap.size ≠ w.heap.size := by have h1 := HSZ.out; have h2 := HJ.out.lt; omega
            have HNE := Lib.hid hne
            have hset := jn_set (g := g) (s := x.seq) (A := A2) (n := x.dat.length) (c := c2) (f := x.fin) (show w4.heap[w.heap.size]? = _ from HH4.out) (k : Int)
            have hfr : Fr (fun i => i = w.heap.size) w4 (((((w4.setCell ⟨w.heap.size, 1, none⟩ (.int .i64 k)).setCell ⟨w.heap.size, 2, none⟩ (.int .u32 x.seq)).setCell ⟨w.heap.size, 3, none⟩ (.slice A2 x.dat.length c2)).setCell ⟨w.heap.size, 4, none⟩ (.int .i64 x.fin)).setCell ⟨w.heap.size, 5, none⟩ (.bool true)) :=
              fr_same (fr_same (fr_same (fr_same (fr_setCell _ _ rfl) (fr_setCell _ _ rfl)) (fr_setCell _ _ rfl)) (fr_setCell _ _ rfl)) (fr_setCell _ _ rfl)
            have HSET := Lib.hid hset
            have HFR := Lib.hid hfr
            clear hset hfr hne
            have z0 : ∀ w' : World, BoxAt w2.heap.size x A2 c2 w' → w'.cell? ⟨w2.heap.size, 0, none⟩ = some (.int .u32 x.seq) := fun w' h => BoxAt.cell h _ _ rfl
            have z1 : ∀ w' : World, BoxAt w2.heap.size x A2 c2 w' → w'.cell? ⟨w2.heap.size, 1, none⟩ = some (.slice A2 x.dat.length c2) := fun w' h => BoxAt.cell h _ _ rfl
            have z2 : ∀ w' : World, BoxAt w2.heap.size x A2 c2 w' → w'.cell? ⟨w2.heap.size, 2, none⟩ = some (.int .i64 x.fin) := fun w' h => BoxAt.cell h _ _ rfl
            have hSb := hS0
            clear hS0
            change wpAnyH _ _ _ _ _ 14 (Array.replicate 14 false) _ _
            refine wpAnyH_take (i := 0) (oi := ?_) (v := ?_) ?_ (by kernel_rfl) (by kernel_rfl) (by kernel_rfl) ?_ ?_ (by assumption) ?_
            rotate_left 2; (simp only [List.getElem?_toArray, List.getElem?_cons_succ, List.getElem?_cons_zero]; rfl)
            rotate_left; (first | (refine .inl ⟨by rfl, ?_⟩; intro w9 hS9; go_simp; try with_reducible rfl) | (refine .inr ⟨by rfl, ?_⟩; with_reducible rfl))
            rotate_left; (intro _ _ _ h9; exact h9)
            try simp only [Act.put, List.setIfInBounds_toArray, List.set_cons_zero, List.set_cons_succ]
            refine wpAnyH_take (i := 1) (oi := ?_) (v := ?_) ?_ (by kernel_rfl) (by kernel_rfl) (by kernel_rfl) ?_ ?_ (by assumption) ?_
            rotate_left 2; (simp only [List.getElem?_toArray, List.getElem?_cons_succ, List.getElem?_cons_zero]; rfl)
            rotate_left; (first | (refine .inl ⟨by rfl, ?_⟩; intro w9 hS9; go_simp; try with_reducible rfl) | (refine .inr ⟨by rfl, ?_⟩; with_reducible rfl))
            rotate_left; (intro _ _ _ h9; exact h9)
            try simp only [Act.put, List.setIfInBounds_toArray, List.set_cons_zero, List.set_cons_succ]
            refine wpAnyH_take (i := 2) (oi := ?_) (v := ?_) ?_ (by kernel_rfl) (by kernel_rfl) (by kernel_rfl) ?_ ?_ (by assumption) ?_
            rotate_left 2; (simp only [List.getElem?_toArray, List.getElem?_cons_succ, List.getElem?_cons_zero]; rfl)
            rotate_left; (first | (refine .inl ⟨by rfl, ?_⟩; intro w9 hS9; go_simp; try with_reducible rfl) | (refine .inr ⟨by rfl, ?_⟩; with_reducible rfl))
            rotate_left; (intro _ _ _ h9; exact h9)
            try simp only [Act.put, List.setIfInBounds_toArray, List.set_cons_zero, List.set_cons_succ]
            refine wpAnyH_take (i := 3) (oi := ?_) (v := ?_) ?_ (by kernel_rfl) (by kernel_rfl) (by kernel_rfl) ?_ ?_ (by assumption) ?_
            rotate_left 2; (simp only [List.getElem?_toArray, List.getElem?_cons_succ, List.getElem?_cons_zero]; rfl)
            rotate_left; (first | (refine .inl ⟨by rfl, ?_⟩; intro w9 hS9; go_simp; try with_reducible rfl) | (refine .inr ⟨by rfl, ?_⟩; with_reducible rfl))
            rotate_left; (intro _ _ _ h9; exact h9)
            try simp only [Act.put, List.setIfInBounds_toArray, List.set_cons_zero, List.set_cons_succ]
            refine wpAnyH_take (i := 4) (oi := ?_) (v := ?_) ?_ (by kernel_rfl) (by kernel_rfl) (by kernel_rfl) ?_ ?_ (by assumption) ?_
            rotate_left 2; (simp only [List.getElem?_toArray, List.getElem?_cons_succ, List.getElem?_cons_zero]; rfl)
            rotate_left; (first | (refine .inl ⟨by rfl, ?_⟩; intro w9 hS9; go_simp; try with_reducible rfl) | (refine .inr ⟨by rfl, ?_⟩; with_reducible rfl))
            rotate_left; (intro _ _ _ h9; exact h9)
            try simp only [Act.put, List.setIfInBounds_toArray, List.set_cons_zero, List.set_cons_succ]
            refine wpAnyH_take (i := 5) (oi := ?_) (v := ?_) ?_ (by kernel_rfl) (by kernel_rfl) (by kernel_rfl) ?_ ?_ (by assumption) ?_
            rotate_left 2; (simp only [List.getElem?_toArray, List.getElem?_cons_succ, List.getElem?_cons_zero]; rfl)
            rotate_left; (first | (refine .inl ⟨by rfl, ?_⟩; intro w9 hS9; go_simp; try with_reducible rfl) | (refine .inr ⟨by rfl, ?_⟩; with_reducible rfl))
            rotate_left; (intro _ _ _ h9; exact h9)
            try simp only [Act.put, List.setIfInBounds_toArray, List.set_cons_zero, List.set_cons_succ]
            refine wpAnyH_take (i := 6) (oi := ?_) (v := ?_) ?_ (by kernel_rfl) (by kernel_rfl) (by kernel_rfl) ?_ ?_ (by assumption) ?_
            rotate_left 2; (simp only [List.getElem?_toArray, List.getElem?_cons_succ, List.getElem?_cons_zero]; rfl)
            rotate_left; (first | (refine .inl ⟨by rfl, ?_⟩; intro w9 hS9; go_simp; try with_reducible rfl) | (refine .inr ⟨by rfl, ?_⟩; with_reducible rfl))
            rotate_left; (intro _ _ _ h9; exact h9)
            try simp only [Act.put, List.setIfInBounds_toArray, List.set_cons_zero, List.set_cons_succ]
            refine wpAnyH_ready (rs := [7]) (by kernel_rfl) (by simp) (AllReadyH.cons rfl (fun K9 hK9 => ?_) AllReadyH.nil)
            go_simp
            have hS1 := box_keep hSb HNE.out 1 (.int .i64 k)
            refine hK9.out _ _ hS1 (fun _ => ?_)
            refine wpAnyH_take (i := 8) (oi := ?_) (v := ?_) ?_ (by kernel_rfl) (by kernel_rfl) (by kernel_rfl) ?_ ?_ (by assumption) ?_
            rotate_left 2; (simp only [List.getElem?_toArray, List.getElem?_cons_succ, List.getElem?_cons_zero]; rfl)
            rotate_left; (first | (refine .inl ⟨by rfl, ?_⟩; intro w9 hS9; go_simp; try with_reducible rfl) | (refine .inr ⟨by rfl, ?_⟩; with_reducible rfl))
            rotate_left; (intro _ _ _ h9; exact h9)
            try simp only [Act.put, List.setIfInBounds_toArray, List.set_cons_zero, List.set_cons_succ]
            refine wpAnyH_take (i := 9) (oi := ?_) (v := ?_) ?_ (by kernel_rfl) (by kernel_rfl) (by kernel_rfl) ?_ ?_ (by assumption) ?_
            rotate_left 2; (simp only [List.getElem?_toArray, List.getElem?_cons_succ, List.getElem?_cons_zero]; rfl)
            rotate_left; (first | (refine .inl ⟨by rfl, ?_⟩; intro w9 hS9; go_simp; try with_reducible rfl) | (refine .inr ⟨by rfl, ?_⟩; with_reducible rfl))
            rotate_left; (intro _ _ _ h9; exact h9)
            try simp only [Act.put, List.setIfInBounds_toArray, List.set_cons_zero, List.set_cons_succ]
            refine wpAnyH_ready (rs := [10]) (by kernel_rfl) (by simp) (AllReadyH.cons rfl (fun K9 hK9 => ?_) AllReadyH.nil)
            go_simp
            have hS2 := box_keep (box_keep (box_keep hS1 HNE.out 2 (.int .u32 x.seq)) HNE.out 3 (.slice A2 x.dat.length c2)) HNE.out 4 (.int .i64 x.fin)
            refine hK9.out _ _ hS2 (fun _ => ?_)
            refine wpAnyH_take (i := 11) (oi := ?_) (v := ?_) ?_ (by kernel_rfl) (by kernel_rfl) (by kernel_rfl) ?_ ?_ (by assumption) ?_
            rotate_left 2; (simp only [List.getElem?_toArray, List.getElem?_cons_succ, List.getElem?_cons_zero]; rfl)
            rotate_left; (first | (refine .inl ⟨by rfl, ?_⟩; intro w9 hS9; go_simp; try with_reducible rfl) | (refine .inr ⟨by rfl, ?_⟩; with_reducible rfl))
            rotate_left; (intro _ _ _ h9; exact h9)
            try simp only [Act.put, List.setIfInBounds_toArray, List.set_cons_zero, List.set_cons_succ]
            refine wpAnyH_take (i := 12) (oi := ?_) (v := ?_) ?_ (by kernel_rfl) (by kernel_rfl) (by kernel_rfl) ?_ ?_ (by assumption) ?_
            rotate_left 2; (simp only [List.getElem?_toArray, List.getElem?_cons_succ, List.getElem?_cons_zero]; rfl)
            rotate_left; (first | (refine .inl ⟨by rfl, ?_⟩; intro w9 hS9; go_simp; try with_reducible rfl) | (refine .inr ⟨by rfl, ?_⟩; with_reducible rfl))
            rotate_left; (intro _ _ _ h9; exact h9)
            try simp only [Act.put, List.setIfInBounds_toArray, List.set_cons_zero, List.set_cons_succ]
            refine wpAnyH_ready (rs := [13]) (by kernel_rfl) (by simp) (AllReadyH.cons rfl (fun K9 hK9 => ?_) AllReadyH.nil)
            go_simp
            refine hK9.out _ _ (by refine box_keep ?_ HNE.out _ _; exact hS2) (fun hS3 => ?_)
            refine wpAnyH_done (by kernel_rfl) ?_ _
            clear hSb hS1 hS2 hS3 z0 z1 z2 m1 m2 m3 m4 m5 mf
            generalize ((((w4.setCell ⟨w.heap.size, 1, none⟩ (.int .i64 k)).setCell ⟨w.heap.size, 2, none⟩ (.int .u32 x.seq)).setCell ⟨w.heap.size, 3, none⟩ (.slice A2 x.dat.length c2)).setCell ⟨w.heap.size, 4, none⟩ (.int .i64 x.fin)).setCell ⟨w.heap.size, 5, none⟩ (.bool true) = w9 at *
            go_wp2_with fail
            exact ⟨⟨k + 1, by have := HK.out; omega, by go_num, by
              show JO w g gb (jStep (jTo xs k) k (jLast xs k)) _
              rw [HST.out, HQ.out, HTK.out]
              have hs := HSZ.out
              have hl := HJ.out.lt
              have hlt := HLT.out
              have hblk := HD4.out.blk
              have hok := bkOk_iff.1 HLA.out.1
              refine ⟨⟨A2, c2, ⟨HSET.out, (HD4.out.fr HFR.out (fun b o e e2 => by have := hblk b o e; omega)).1, fun _ b o e => ?_, hok.2⟩, fun b o e => ?_⟩, HBW4.out.trans (HFR.out.below w.heap.size HBW4.out.size (fun i e => by omega))⟩
              · have := hblk b o e; omega
              · have := hblk b o e; omega⟩, by have := HK.out; simp [intOf]; omega⟩
          · have hsq' : ¬ (st.nt.seq : Int) < (x.seq : Int) := by omega
            have HTK := Lib.hid (show jStep st k (some x) = st by simp [jStep, hsq, hh])
            have HH := Lib.hid hh
            clear hh
            have hS6 := below_drew1 w3
            refine wp_region_held (S := fun w' => Below w3.heap.size w3 w') (by kernel_rfl) ?_
            change wpAnyH _ _ _ _ _ _ _ _ w3.drew
            change wpAnyH _ _ _ _ _ 18 (Array.replicate 18 false) _ _
            refine wpAnyH_take (i := 0) (oi := ?_) (v := ?_) ?_ (by kernel_rfl) (by kernel_rfl) (by kernel_rfl) ?_ ?_ (by assumption) ?_
            rotate_left 2; (simp only [List.getElem?_toArray, List.getElem?_cons_succ, List.getElem?_cons_zero]; rfl)
            rotate_left; (first | (refine .inl ⟨by rfl, ?_⟩; intro w9 hS9; go_simp; try with_reducible rfl) | (refine .inr ⟨by rfl, ?_⟩; with_reducible rfl))
            rotate_left; (intro _ _ _ h9; exact h9)
            try simp only [Act.put, List.setIfInBounds_toArray, List.set_cons_zero, List.set_cons_succ]
            refine wpAnyH_take (i := 1) (oi := ?_) (v := ?_) ?_ (by kernel_rfl) (by kernel_rfl) (by kernel_rfl) ?_ ?_ (by assumption) ?_
            rotate_left 2; (simp only [List.getElem?_toArray, List.getElem?_cons_succ, List.getElem?_cons_zero]; rfl)
            rotate_left; (first | (refine .inl ⟨by rfl, ?_⟩; intro w9 hS9; go_simp; try with_reducible rfl) | (refine .inr ⟨by rfl, ?_⟩; with_reducible rfl))
            rotate_left; (intro _ _ _ h9; exact h9)
            try simp only [Act.put, List.setIfInBounds_toArray, List.set_cons_zero, List.set_cons_succ]
            refine wpAnyH_take (i := 2) (oi := ?_) (v := ?_) ?_ (by kernel_rfl) (by kernel_rfl) (by kernel_rfl) ?_ ?_ (by assumption) ?_
            rotate_left 2; (simp only [List.getElem?_toArray, List.getElem?_cons_succ, List.getElem?_cons_zero]; rfl)
            rotate_left; (first | (refine .inl ⟨by rfl, ?_⟩; intro w9 hS9; go_simp; try with_reducible rfl) | (refine .inr ⟨by rfl, ?_⟩; with_reducible rfl))
            rotate_left; (intro _ _ _ h9; exact h9)
            try simp only [Act.put, List.setIfInBounds_toArray, List.set_cons_zero, List.set_cons_succ]
            refine wpAnyH_take (i := 3) (oi := ?_) (v := ?_) ?_ (by kernel_rfl) (by kernel_rfl) (by kernel_rfl) ?_ ?_ (by assumption) ?_
            rotate_left 2; (simp only [List.getElem?_toArray, List.getElem?_cons_succ, List.getElem?_cons_zero]; rfl)
            rotate_left; (first | (refine .inl ⟨by rfl, ?_⟩; intro w9 hS9; go_simp; try with_reducible rfl) | (refine .inr ⟨by rfl, ?_⟩; with_reducible rfl))
            rotate_left; (intro _ _ _ h9; exact h9)
            try simp only [Act.put, List.setIfInBounds_toArray, List.set_cons_zero, List.set_cons_succ]
            refine wpAnyH_take (i := 4) (oi := ?_) (v := ?_) ?_ (by kernel_rfl) (by kernel_rfl) (by kernel_rfl) ?_ ?_ (by assumption) ?_
            rotate_left 2; (simp only [List.getElem?_toArray, List.getElem?_cons_succ, List.getElem?_cons_zero]; rfl)
            rotate_left; (first | (refine .inl ⟨by rfl, ?_⟩; intro w9 hS9; go_simp; try with_reducible rfl) | (refine .inr ⟨by rfl, ?_⟩; with_reducible rfl))
            rotate_left; (intro _ _ _ h9; exact h9)
            try simp only [Act.put, List.setIfInBounds_toArray, List.set_cons_zero, List.set_cons_succ]
            refine wpAnyH_take (i := 5) (oi := ?_) (v := ?_) ?_ (by kernel_rfl) (by kernel_rfl) (by kernel_rfl) ?_ ?_ (by assumption) ?_
            rotate_left 2; (simp only [List.getElem?_toArray, List.getElem?_cons_succ, List.getElem?_cons_zero]; rfl)
            rotate_left; (first | (refine .inl ⟨by rfl, ?_⟩; intro w9 hS9; go_simp; try with_reducible rfl) | (refine .inr ⟨by rfl, ?_⟩; with_reducible rfl))
            rotate_left; (intro _ _ _ h9; exact h9)
            try simp only [Act.put, List.setIfInBounds_toArray, List.set_cons_zero, List.set_cons_succ]
            refine wpAnyH_take (i := 6) (oi := ?_) (v := ?_) ?_ (by kernel_rfl) (by kernel_rfl) (by kernel_rfl) ?_ ?_ (by assumption) ?_
            rotate_left 2; (simp only [List.getElem?_toArray, List.getElem?_cons_succ, List.getElem?_cons_zero]; rfl)
            rotate_left; (first | (refine .inl ⟨by rfl, ?_⟩; intro w9 hS9; go_simp; try with_reducible rfl) | (refine .inr ⟨by rfl, ?_⟩; with_reducible rfl))
            rotate_left; (intro _ _ _ h9; exact h9)
            try simp only [Act.put, List.setIfInBounds_toArray, List.set_cons_zero, List.set_cons_succ]
            refine wpAnyH_take (i := 7) (oi := ?_) (v := ?_) ?_ (by kernel_rfl) (by kernel_rfl) (by kernel_rfl) ?_ ?_ (by assumption) ?_
            rotate_left 2; (simp only [List.getElem?_toArray, List.getElem?_cons_succ, List.getElem?_cons_zero]; rfl)
            rotate_left; (first | (refine .inl ⟨by rfl, ?_⟩; intro w9 hS9; go_simp; try with_reducible rfl) | (refine .inr ⟨by rfl, ?_⟩; with_reducible rfl))
            rotate_left; (intro _ _ _ h9; exact h9)
            try simp only [Act.put, List.setIfInBounds_toArray, List.set_cons_zero, List.set_cons_succ]
            refine wpAnyH_take (i := 8) (oi := ?_) (v := ?_) ?_ (by kernel_rfl) (by kernel_rfl) (by kernel_rfl) ?_ ?_ (by assumption) ?_
            rotate_left 2; (simp only [List.getElem?_toArray, List.getElem?_cons_succ, List.getElem?_cons_zero]; rfl)
            rotate_left; (first | (refine .inl ⟨by rfl, ?_⟩; intro w9 hS9; go_simp; try with_reducible rfl) | (refine .inr ⟨by rfl, ?_⟩; with_reducible rfl))
            rotate_left; (intro _ _ _ h9; exact h9)
            try simp only [Act.put, List.setIfInBounds_toArray, List.set_cons_zero, List.set_cons_succ]
            refine wpAnyH_take (i := 9) (oi := ?_) (v := ?_) ?_ (by kernel_rfl) (by kernel_rfl) (by kernel_rfl) ?_ ?_ (by assumption) ?_
            rotate_left 2; (simp only [List.getElem?_toArray, List.getElem?_cons_succ, List.getElem?_cons_zero]; rfl)
            rotate_left; (first | (refine .inl ⟨by rfl, ?_⟩; intro w9 hS9; go_simp; try with_reducible rfl) | (refine .inr ⟨by rfl, ?_⟩; with_reducible rfl))
            rotate_left; (intro _ _ _ h9; exact h9)
            try simp only [Act.put, List.setIfInBounds_toArray, List.set_cons_zero, List.set_cons_succ]
            refine wpAnyH_take (i := 10) (oi := ?_) (v := ?_) ?_ (by kernel_rfl) (by kernel_rfl) (by kernel_rfl) ?_ ?_ (by assumption) ?_
            rotate_left 2; (simp only [List.getElem?_toArray, List.getElem?_cons_succ, List.getElem?_cons_zero]; rfl)
            rotate_left; (first | (refine .inl ⟨by rfl, ?_⟩; intro w9 hS9; go_simp; try with_reducible rfl) | (refine .inr ⟨by rfl, ?_⟩; with_reducible rfl))
            rotate_left; (intro _ _ _ h9; exact h9)
            try simp only [Act.put, List.setIfInBounds_toArray, List.set_cons_zero, List.set_cons_succ]
            refine wpAnyH_take (i := 11) (oi := ?_) (v := ?_) ?_ (by kernel_rfl) (by kernel_rfl) (by kernel_rfl) ?_ ?_ (by assumption) ?_
            rotate_left 2; (simp only [List.getElem?_toArray, List.getElem?_cons_succ, List.getElem?_cons_zero]; rfl)
            rotate_left; (first | (refine .inl ⟨by rfl, ?_⟩; intro w9 hS9; go_simp; try with_reducible rfl) | (refine .inr ⟨by rfl, ?_⟩; with_reducible rfl))
            rotate_left; (intro _ _ _ h9; exact h9)
            try simp only [Act.put, List.setIfInBounds_toArray, List.set_cons_zero, List.set_cons_succ]
            refine wpAnyH_take (i := 12) (oi := ?_) (v := ?_) ?_ (by kernel_rfl) (by kernel_rfl) (by kernel_rfl) ?_ ?_ (by assumption) ?_
            rotate_left 2; (simp only [List.getElem?_toArray, List.getElem?_cons_succ, List.getElem?_cons_zero]; rfl)
            rotate_left; (first | (refine .inl ⟨by rfl, ?_⟩; intro w9 hS9; go_simp; try with_reducible rfl) | (refine .inr ⟨by rfl, ?_⟩; with_reducible rfl))
            rotate_left; (intro _ _ _ h9; exact h9)
            try simp only [Act.put, List.setIfInBounds_toArray, List.set_cons_zero, List.set_cons_succ]
            refine wpAnyH_take (i := 13) (oi := ?_) (v := ?_) ?_ (by kernel_rfl) (by kernel_rfl) (by kernel_rfl) ?_ ?_ (by assumption) ?_
            rotate_left 2; (simp only [List.getElem?_toArray, List.getElem?_cons_succ, List.getElem?_cons_zero]; rfl)
            rotate_left; (first | (refine .inl ⟨by rfl, ?_⟩; intro w9 hS9; go_simp; try with_reducible rfl) | (refine .inr ⟨by rfl, ?_⟩; with_reducible rfl))
            rotate_left; (intro _ _ _ h9; exact h9)
            try simp only [Act.put, List.setIfInBounds_toArray, List.set_cons_zero, List.set_cons_succ]
            refine wpAnyH_take (i := 14) (oi := ?_) (v := ?_) ?_ (by kernel_rfl) (by kernel_rfl) (by kernel_rfl) ?_ ?_ (by assumption) ?_
            rotate_left 2; (simp only [List.getElem?_toArray, List.getElem?_cons_succ, List.getElem?_cons_zero]; rfl)
            rotate_left; (first | (refine .inl ⟨by rfl, ?_⟩; intro w9 hS9; go_simp; try with_reducible rfl) | (refine .inr ⟨by rfl, ?_⟩; with_reducible rfl))
            rotate_left; (intro _ _ _ h9; exact h9)
            try simp only [Act.put, List.setIfInBounds_toArray, List.set_cons_zero, List.set_cons_succ]
            refine wpAnyH_take (i := 15) (oi := ?_) (v := ?_) ?_ (by kernel_rfl) (by kernel_rfl) (by kernel_rfl) ?_ ?_ (by assumption) ?_
            rotate_left 2; (simp only [List.getElem?_toArray, List.getElem?_cons_succ, List.getElem?_cons_zero]; rfl)
            rotate_left; (first | (refine .inl ⟨by rfl, ?_⟩; intro w9 hS9; go_simp; try with_reducible rfl) | (refine .inr ⟨by rfl, ?_⟩; with_reducible rfl))
            rotate_left; (intro _ _ _ h9; exact h9)
            try simp only [Act.put, List.setIfInBounds_toArray, List.set_cons_zero, List.set_cons_succ]
            refine wpAnyH_take (i := 16) (oi := ?_) (v := ?_) ?_ (by kernel_rfl) (by kernel_rfl) (by kernel_rfl) ?_ ?_ (by assumption) ?_
            rotate_left 2; (simp only [List.getElem?_toArray, List.getElem?_cons_succ, List.getElem?_cons_zero]; rfl)
            rotate_left; (first | (refine .inl ⟨by rfl, ?_⟩; intro w9 hS9; go_simp; try with_reducible rfl) | (refine .inr ⟨by rfl, ?_⟩; with_reducible rfl))
            rotate_left; (intro _ _ _ h9; exact h9)
            try simp only [Act.put, List.setIfInBounds_toArray, List.set_cons_zero, List.set_cons_succ]
            refine wpAnyH_take (i := 17) (oi := ?_) (v := ?_) ?_ (by kernel_rfl) (by kernel_rfl) (by kernel_rfl) ?_ ?_ (by assumption) ?_
            rotate_left 2; (simp only [List.getElem?_toArray, List.getElem?_cons_succ, List.getElem?_cons_zero]; rfl)
            rotate_left; (first | (refine .inl ⟨by rfl, ?_⟩; intro w9 hS9; go_simp; try with_reducible rfl) | (refine .inr ⟨by rfl, ?_⟩; with_reducible rfl))
            rotate_left; (intro _ _ _ h9; exact h9)
            try simp only [Act.put, List.setIfInBounds_toArray, List.set_cons_zero, List.set_cons_succ]
            refine wpAnyH_done (by kernel_rfl) ?_ _
            have HS6 := Lib.hid hS6
            clear hS6
            clear y0 z2 z5
            go_wp2_with fail
            exact ⟨⟨k + 1, by have := HK.out; omega, by go_num, by
              show JO w g gb (jStep (jTo xs k) k (jLast xs k)) _
              rw [HST.out, HQ.out, HTK.out]
              exact ⟨⟨A, c, (HJ3.out.below HS6.out), HFAR.out⟩, below_step HBW3.out HS6.out⟩⟩, by have := HK.out; simp [intOf]; omega⟩
    · obtain rfl : k = 2 := by omega
      have HJO := Lib.hid hjo
      clear hjo
      go_wp2_with fail
      go_ret
      exact ⟨rfl, HJO.out⟩
end Go.Proofs.YtcppmihambcihaaDoor
