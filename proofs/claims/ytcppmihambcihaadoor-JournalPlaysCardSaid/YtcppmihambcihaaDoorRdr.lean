/- octet.Reader: Over, U8, many, U16, U32, Rest, Err, End. -/
import Derived.Test.YtcppmihambcihaaDoorOct
import Derived.Test.YtcppmihambcihaaDoorFault
namespace Go.Proofs.YtcppmihambcihaaDoor
open Go.RowKit
set_option linter.unusedVariables false
set_option linter.unusedSimpArgs false

def ErrB (w : World) (ev : Value) : Bool → Prop
  | true => ErrN w 1 ev 2
  | false => ev = .nilIface
theorem ErrB.fr {F : Nat → Prop} {w w' : World} {ev : Value} (hf : Fr F w w') (hF : NoStep w F) : ∀ {bad : Bool}, ErrB w ev bad → ErrB w' ev bad
  | true, h => ErrN.fr hf hF h
  | false, h => h
/-- A reader at g: what is left (its bytes lie in block bl), and whether there was an error. -/
structure RdAt (w : World) (g bl : Nat) (A : Option Addr) (n c : Nat) (ev : Value) (xs : List UInt8) (bad : Bool) : Prop where
  heap : w.heap[g]? = some (.cells #[.slice A n c, ev] 151 (0, 0))
  rs : RS w A n c xs
  blk : 0 < n → ∃ off, A = some ⟨bl, off, none⟩
  apart : 0 < n → bl ≠ g
  free : 0 < n → ∀ i, w.frozen? ⟨bl, i, none⟩ = false
  small : n ≤ 140737488355328
  err : ErrB w ev bad
def RdIs (w : World) (g bl : Nat) (xs : List UInt8) (bad : Bool) : Prop := ∃ A n c ev, RdAt w g bl A n c ev xs bad
theorem RdAt.lt {w : World} {g bl : Nat} {A : Option Addr} {n c : Nat} {ev : Value} {xs : List UInt8} {bad : Bool} (h : RdAt w g bl A n c ev xs bad) : g < w.heap.size := (Array.getElem?_eq_some_iff.1 h.heap).1
theorem RdIs.lt {w : World} {g bl : Nat} {xs : List UInt8} {bad : Bool} (h : RdIs w g bl xs bad) : g < w.heap.size := by obtain ⟨A, n, c, ev, h⟩ := h; exact h.lt
theorem RdIs.len {w : World} {g bl : Nat} {xs : List UInt8} {bad : Bool} (h : RdIs w g bl xs bad) : xs.length ≤ 140737488355328 := by obtain ⟨A, n, c, ev, h⟩ := h; rw [h.rs.len]; exact h.small
theorem RdAt.fr {w w' : World} {g bl : Nat} {A : Option Addr} {n c : Nat} {ev : Value} {xs : List UInt8} {bad : Bool} (h : RdAt w g bl A n c ev xs bad) {F : Nat → Prop} (hf : Fr F w w') (hg : ¬ F g) (hb : xs ≠ [] → ¬ F bl) (hF : NoStep w F) : RdAt w' g bl A n c ev xs bad := by
  have hne : 0 < n → xs ≠ [] := fun h0 e => by have := h.rs.len; rw [e] at this; simp at this; omega
  refine ⟨(hf.block g h.lt hg).trans h.heap, h.rs.fr hf (fun h0 b off e => ?_), h.blk, h.apart, fun h0 i => ?_, h.small, ?_⟩
  · obtain ⟨o, e2⟩ := h.blk h0
    rw [e2] at e; cases e; exact hb (hne h0)
  · obtain ⟨o, rfl⟩ := h.blk h0
    obtain ⟨b', o', e, hlt, _⟩ := h.rs.rb.cells h0
    cases e
    exact (hf.frozen (p := ⟨bl, i, none⟩) hlt (hb (hne h0))).trans (h.free h0 i)
  · exact h.err.fr hf hF
theorem RdIs.fr {w w' : World} {g bl : Nat} {xs : List UInt8} {bad : Bool} (h : RdIs w g bl xs bad) {F : Nat → Prop} (hf : Fr F w w') (hg : ¬ F g) (hb : xs ≠ [] → ¬ F bl) (hF : NoStep w F) : RdIs w' g bl xs bad := by
  obtain ⟨A, n, c, ev, h⟩ := h
  exact ⟨A, n, c, ev, h.fr hf hg hb hF⟩
theorem RdIs.below {w w' : World} {g bl : Nat} {xs : List UInt8} {bad : Bool} (h : RdIs w g bl xs bad) (hb : Below w.heap.size w w') : RdIs w' g bl xs bad := h.fr (Fr.ofBelow hb (fun _ => False)) id (fun _ => id) (NoStep.none w)
/-- A reader is no step. -/
theorem RdIs.noStep {w : World} {g bl : Nat} {xs : List UInt8} {bad : Bool} (h : RdIs w g bl xs bad) : NoStep w (fun k => k = g) := by
  obtain ⟨A, n, c, ev, h⟩ := h
  intro k cs m e h1
  rw [e, h.heap] at h1
  injection h1 with h1
  injection h1 with _ h2
  exact absurd h2 (by decide)
theorem RdAt.cell {w : World} {g bl : Nat} {A : Option Addr} {n c : Nat} {ev : Value} {xs : List UInt8} {bad : Bool} (h : RdAt w g bl A n c ev xs bad) : w.cell? ⟨g, 0, none⟩ = some (.slice A n c) ∧ w.cell? ⟨g, 1, none⟩ = some ev ∧ w.frozen? ⟨g, 0, none⟩ = false ∧ w.frozen? ⟨g, 1, none⟩ = false := by
  refine ⟨?_, ?_, ?_, ?_⟩ <;> simp [World.cell?, World.frozen?, h.heap]
/-- What is left is another row. -/
theorem RdAt.setLeft {w : World} {g bl : Nat} {A : Option Addr} {n c : Nat} {ev : Value} {xs : List UInt8} {bad : Bool} (h : RdAt w g bl A n c ev xs bad) {A' : Option Addr} {n' c' : Nat} {ys : List UInt8} (rs : RS w A' n' c' ys) (hn : n' ≤ n) (hblk : 0 < n' → ∃ off, A' = some ⟨bl, off, none⟩) :
    RdAt (w.setCell ⟨g, 0, none⟩ (.slice A' n' c')) g bl A' n' c' ev ys bad := by
  have hf := fr_setCell (F := fun k => k = g) (w := w) ⟨g, 0, none⟩ (.slice A' n' c') rfl
  have hF := noStep_block h.heap (by decide)
  refine ⟨by simp [World.setCell, Array.getElem?_modify, h.heap], rs.fr hf (fun h0 b off e e2 => ?_), hblk, fun h0 => h.apart (by omega), fun h0 i => ?_, by have := h.small; omega, ?_⟩
  · obtain ⟨o, e3⟩ := hblk h0
    rw [e3] at e; cases e
    exact h.apart (by omega) e2
  · obtain ⟨o, e3⟩ := h.blk (by omega)
    obtain ⟨b', o', e, hlt, _⟩ := h.rs.rb.cells (by omega)
    rw [e3] at e; cases e
    exact (hf.frozen (p := ⟨bl, i, none⟩) hlt (h.apart (by omega))).trans (h.free (by omega) i)
  · exact h.err.fr hf hF
/-- .. the error is another one. -/
theorem RdAt.setErr {w : World} {g bl : Nat} {A : Option Addr} {n c : Nat} {ev : Value} {xs : List UInt8} {bad : Bool} (h : RdAt w g bl A n c ev xs bad) {ev' : Value} (he : ErrN w 1 ev' 2) :
    RdAt (w.setCell ⟨g, 1, none⟩ ev') g bl A n c ev' xs true := by
  have hf := fr_setCell (F := fun k => k = g) (w := w) ⟨g, 1, none⟩ ev' rfl
  have hF := noStep_block h.heap (by decide)
  refine ⟨by simp [World.setCell, Array.getElem?_modify, h.heap], h.rs.fr hf (fun h0 b off e e2 => ?_), h.blk, h.apart, fun h0 i => ?_, h.small, he.fr hf hF⟩
  · obtain ⟨o, e3⟩ := h.blk h0
    rw [e3] at e; cases e
    exact h.apart h0 e2
  · obtain ⟨o, e3⟩ := h.blk h0
    obtain ⟨b', o', e, hlt, _⟩ := h.rs.rb.cells h0
    rw [e3] at e; cases e
    exact (hf.frozen (p := ⟨bl, i, none⟩) hlt (h.apart h0)).trans (h.free h0 i)

set_option maxHeartbeats 1000000 in
theorem rd_over (A : Option Addr) (n c : Nat) (xs : List UInt8) (w : World) (rs : RS w A n c xs) (hn : n ≤ 140737488355328) :
    Calls Tryd.prog 72 #[.slice A n c] w fun e w' => ∃ g bl, e = .returned (.pointer (some ⟨g, 0, none⟩)) ∧ RdIs w' g bl xs false ∧ w.heap.size ≤ g ∧ w.heap.size ≤ bl ∧ bl < w'.heap.size ∧ Below w.heap.size w w' := by
  have hl := Lib.hid rs.len
  go_enter Tryd.func72, Tryd.ntmps72
  go_wp2_with fail
  refine (by_clone _ _ _ _ _ rs (by omega)).mono ?_
  rintro e wa ⟨v0, rfl, hown, hb⟩
  clear rs
  have hbn := below_new wa (.cells #[v0, .nilIface] 151)
  have hnew := heap_alloc_new wa (.cells #[v0, .nilIface] 151)
  have hres : ∃ bl, RdIs (wa.alloc (.cells #[v0, .nilIface] 151)) wa.heap.size bl xs false ∧ w.heap.size ≤ bl ∧ bl < wa.heap.size + 1 := by
    rcases hown.form with ⟨rfl, rfl⟩ | ⟨b, cp, rfl, hgb, hgl, hfz, hrs⟩
    · exact ⟨wa.heap.size, ⟨none, 0, 0, .nilIface, hnew, RS.none _, fun h => absurd h (by omega), fun h => absurd h (by omega), fun h => absurd h (by omega), by omega, rfl⟩, hb.size, by omega⟩
    · exact ⟨b, ⟨_, _, _, .nilIface, hnew, hrs.below hbn, fun _ => ⟨0, rfl⟩, fun _ => by omega, fun _ i => (hbn.frozen (p := ⟨b, i, none⟩) hgl).trans (hfz i), by rw [hl.out]; exact hn, rfl⟩, hgb, by omega⟩
  have H := Lib.hid hres
  have Hb := Lib.hid (hb.trans (hbn.mono hb.size))
  have Hs := Lib.hid hb.size
  obtain ⟨Av, cv, rfl, _⟩ := hown.reads
  clear hres hb hbn hnew hown
  go_wp2_with fail
  go_ret
  obtain ⟨bl, h1, h2, h3⟩ := H.out
  exact ⟨_, bl, rfl, h1, Hs.out, h2, by simpa using h3, Hb.out⟩

set_option maxHeartbeats 1000000 in
theorem rd_u8 (g bl : Nat) (xs : List UInt8) (bad : Bool) (w : World) (h : RdIs w g bl xs bad) :
    Calls Tryd.prog 73 #[.pointer (some ⟨g, 0, none⟩)] w fun e w' => e = .returned (.int .u8 (nb (xs.headD 0))) ∧ RdIs w' g bl xs.tail (bad || xs.isEmpty) ∧ Fr (fun k => k = g) w w' := by
  obtain ⟨A, n, c, ev, h⟩ := h
  obtain ⟨c0, c1, f0, f1⟩ := h.cell
  cases xs with
  | nil =>
    obtain rfl : n = 0 := by have := h.rs.len; simpa using this.symm
    have H := Lib.hid h
    clear h c1
    go_enter Tryd.func73, Tryd.ntmps73
    go_wp2_with fail
    refine (fault_new 2 _ _ (by decide)).mono ?_
    rintro e wa ⟨v, rfl, he, hb⟩
    have h1 := H.out.fr (Fr.ofBelow hb (fun _ => False)) id (fun _ => id) (NoStep.none w)
    obtain ⟨c0', c1', f0', f1'⟩ := h1.cell
    have hres := Lib.hid (h1.setErr he)
    have hfr := Lib.hid (fr_pre hb (fr_setCell (F := fun k => k = g) (w := wa) ⟨g, 1, none⟩ v rfl))
    obtain ⟨t, u, rfl⟩ := he.iface
    clear h1 he hb c0 f0 f1 c0' f0'
    go_wp2_with fail
    go_ret
    exact ⟨rfl, ⟨_, _, _, _, by simpa using hres.out⟩, hfr.out⟩
  | cons x r =>
    have hn : 0 < n := by have := h.rs.len; simp at this; omega
    obtain ⟨off, rfl⟩ := h.blk hn
    obtain ⟨b', o', e, hlt, hc⟩ := h.rs.rb.cells hn
    cases e
    have x0 := hc 0 hn
    unfold bv at x0
    simp only [Nat.add_zero, List.getD_cons_zero] at x0
    have hcap := h.rs.cap
    have sl := fun w => by_slice_l w (some ⟨bl, off, none⟩) n c 1 (by omega) 1 rfl
    have hsub := h.rs.sub 1 (by omega)
    have hres := Lib.hid (h.setLeft hsub (by omega) (fun h0 => by
      unfold subA
      split
      · exact ⟨_, rfl⟩
      · exact ⟨off + 1, by simp [add_at]⟩))
    have hfr := Lib.hid (fr_setCell (F := fun k => k = g) (w := w) ⟨g, 0, none⟩ (.slice (subA (some ⟨bl, off, none⟩) c 1) (n - 1) (c - 1)) rfl)
    have hsm := h.small
    clear h hc hsub c1 f1
    generalize subA (some ⟨bl, off, none⟩) c 1 = A2 at sl hres hfr
    go_enter Tryd.func73, Tryd.ntmps73
    go_wp2_with fail
    go_ret
    exact ⟨rfl, ⟨_, _, _, _, by simpa using hres.out⟩, hfr.out⟩
end Go.Proofs.YtcppmihambcihaaDoor
