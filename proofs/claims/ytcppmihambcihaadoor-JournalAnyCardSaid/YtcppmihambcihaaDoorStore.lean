/- store.Store: New, Size, Read, Write, Kill, Dead, Revive. -/
import Derived.Test.YtcppmihambcihaaDoorRep
namespace Go.Proofs.YtcppmihambcihaaDoor
open Go.RowKit
set_option linter.unusedVariables false
set_option linter.unusedSimpArgs false

/-- A store at g, its bytes in block gb; how many may be written till it dies (none: ever so many); whether it is dead. -/
structure StAt (w : World) (g gb : Nat) (cur : List Value) (xs : List UInt8) (lim : Option Nat) (left : Int) (dead : Bool) : Prop where
  heap : w.heap[g]? = some (.cells #[.slice (some ⟨gb, 0, none⟩) xs.length xs.length, .bool lim.isSome, .int .i64 left, .bool dead] 64 (0, 0))
  buf : BufC w gb cur xs
  apart : gb ≠ g
  small : xs.length ≤ 65536
  lim : ∀ k, lim = some k → left = k ∧ k ≤ 9223372036854775807
def StIs (w : World) (g gb : Nat) (xs : List UInt8) (lim : Option Nat) (dead : Bool) : Prop := ∃ cur left, StAt w g gb cur xs lim left dead
theorem StAt.lt {w : World} {g gb : Nat} {cur : List Value} {xs : List UInt8} {lim : Option Nat} {left : Int} {dead : Bool} (h : StAt w g gb cur xs lim left dead) : g < w.heap.size := (Array.getElem?_eq_some_iff.1 h.heap).1
theorem StIs.lt {w : World} {g gb : Nat} {xs : List UInt8} {lim : Option Nat} {dead : Bool} (h : StIs w g gb xs lim dead) : g < w.heap.size ∧ gb < w.heap.size ∧ gb ≠ g := by obtain ⟨_, _, h⟩ := h; exact ⟨h.lt, h.buf.lt, h.apart⟩
theorem StIs.small {w : World} {g gb : Nat} {xs : List UInt8} {lim : Option Nat} {dead : Bool} (h : StIs w g gb xs lim dead) : xs.length ≤ 65536 := by obtain ⟨_, _, h⟩ := h; exact h.small
theorem StAt.fr {F : Nat → Prop} {w w' : World} {g gb : Nat} {cur : List Value} {xs : List UInt8} {lim : Option Nat} {left : Int} {dead : Bool} (h : StAt w g gb cur xs lim left dead) (hf : Fr F w w') (h1 : ¬ F g) (h2 : ¬ F gb) : StAt w' g gb cur xs lim left dead :=
  ⟨(hf.block g h.lt h1).trans h.heap, h.buf.fr hf h2, h.apart, h.small, h.lim⟩
theorem StIs.fr {F : Nat → Prop} {w w' : World} {g gb : Nat} {xs : List UInt8} {lim : Option Nat} {dead : Bool} (h : StIs w g gb xs lim dead) (hf : Fr F w w') (h1 : ¬ F g) (h2 : ¬ F gb) : StIs w' g gb xs lim dead := by
  obtain ⟨c, l, h⟩ := h
  exact ⟨c, l, h.fr hf h1 h2⟩
theorem StIs.below {w w' : World} {g gb : Nat} {xs : List UInt8} {lim : Option Nat} {dead : Bool} (h : StIs w g gb xs lim dead) (hb : Below w.heap.size w w') : StIs w' g gb xs lim dead := h.fr (Fr.ofBelow hb (fun _ => False)) id id
theorem StAt.cells {w : World} {g gb : Nat} {cur : List Value} {xs : List UInt8} {lim : Option Nat} {left : Int} {dead : Bool} (h : StAt w g gb cur xs lim left dead) :
    w.cell? ⟨g, 0, none⟩ = some (.slice (some ⟨gb, 0, none⟩) xs.length xs.length) ∧ w.cell? ⟨g, 1, none⟩ = some (.bool lim.isSome) ∧ w.cell? ⟨g, 2, none⟩ = some (.int .i64 left) ∧ w.cell? ⟨g, 3, none⟩ = some (.bool dead) := by
  refine ⟨?_, ?_, ?_, ?_⟩ <;> simp [World.cell?, h.heap]
theorem StAt.frees {w : World} {g gb : Nat} {cur : List Value} {xs : List UInt8} {lim : Option Nat} {left : Int} {dead : Bool} (h : StAt w g gb cur xs lim left dead) (i : Nat) : w.frozen? ⟨g, i, none⟩ = false := by simp [World.frozen?, h.heap]
theorem StAt.noStep {w : World} {g gb : Nat} {cur : List Value} {xs : List UInt8} {lim : Option Nat} {left : Int} {dead : Bool} (h : StAt w g gb cur xs lim left dead) : NoStep w (fun k => k = g ∨ k = gb) := by
  intro k cs m hk
  rcases hk with rfl | rfl
  · exact noStep_block h.heap (by decide) _ cs m rfl
  · exact h.buf.noStep _ cs m rfl
theorem StIs.noStep {w : World} {g gb : Nat} {xs : List UInt8} {lim : Option Nat} {dead : Bool} (h : StIs w g gb xs lim dead) : NoStep w (fun k => k = g ∨ k = gb) := by obtain ⟨_, _, h⟩ := h; exact h.noStep

/-- How many bytes a store of a size has. -/
def stSize (size : Int) : Nat := (max 0 (min size 65536)).toNat
def IsSt (n : Nat) (w : World) (e : Ending) (w' : World) : Prop := ∃ g gb, e = .returned (.pointer (some ⟨g, 0, none⟩)) ∧ StIs w' g gb (List.replicate n 255) none false ∧ w.heap.size ≤ g ∧ w.heap.size ≤ gb ∧ Below w.heap.size w w'
theorem rep_any (n : Nat) (w : World) (A : Option Addr) (hr : RB w A 1 [255]) (hn : n ≤ 65536) : Calls Tryd.prog 24 #[.slice A 1 1, .int .i64 n] w (IsRep 255 n w) := by
  rcases Nat.eq_zero_or_pos n with h0 | h0
  · subst h0; exact rep_zero 255 A w
  · exact rep_pos 255 A n w hr h0 hn

set_option maxHeartbeats 2000000 in
theorem st_new (size : Int) (w : World) : Calls Tryd.prog 9 #[.int .i64 size] w (IsSt (stSize size) w) := by
  have hb0 := below_new w (.cells #[.int .u8 255] 5)
  have hr : RB (w.alloc (.cells #[.int .u8 255] 5)) (some ⟨w.heap.size, 0, none⟩) 1 [255] := rb_one w 255 _
  have hsz : (w.alloc (.cells #[.int .u8 255] 5)).heap.size = w.heap.size + 1 := by simp
  have hres : ∀ (n : Nat), n ≤ 65536 → ∀ e w', IsRep 255 n (w.alloc (.cells #[.int .u8 255] 5)) e w' → ∃ g, e = .returned (.slice (some ⟨g, 0, none⟩) n n) ∧ w.heap.size + 1 ≤ g ∧ g < w'.heap.size ∧ w.heap.size ≤ w'.heap.size ∧
      ∀ (b : Bool), b = false → IsSt n w (.returned (.pointer (some ⟨w'.heap.size, 0, none⟩))) (w'.alloc (.cells #[.slice (some ⟨g, 0, none⟩) n n, .bool b, .int .i64 0, .bool b] 64)) := by
    rintro n hn e w' ⟨g, cur, rfl, hbuf, hg, hb⟩
    have hsw := hb.size
    refine ⟨g, rfl, by rw [hsz] at hg; exact hg, hbuf.lt, by omega, ?_⟩
    rintro b rfl
    have hbn := below_new w' (.cells #[.slice (some ⟨g, 0, none⟩) n n, .bool false, .int .i64 0, .bool false] 64)
    have hlt := hbuf.lt
    refine ⟨_, g, rfl, ⟨cur, 0, ?_, hbuf.below hbn, by omega, by rw [List.length_replicate]; exact hn, fun k h => by cases h⟩, by omega, by omega, below_step (below_step hb0 hb) hbn⟩
    rw [List.length_replicate]
    exact heap_alloc_new w' _
  have H := Lib.hid hres
  have HR := Lib.hid hr
  clear hres hr hsz hb0
  go_enter Tryd.func9, Tryd.ntmps9
  by_cases h1 : 65536 < size
  · go_wp2_with fail
    obtain ⟨n, hn⟩ : ∃ n : Nat, n = stSize size := ⟨_, rfl⟩
    have hni : (65536 : Int) = n := by rw [hn]; unfold stSize; omega
    have hn2 : n ≤ 65536 := by rw [hn]; unfold stSize; omega
    rw [hni]
    refine (rep_any n _ _ HR.out hn2).mono ?_
    intro e w' he
    obtain ⟨g, rfl, h1, h2, h3, h4⟩ := H.out n hn2 e w' he
    have H4 := Lib.hid (h4 false rfl)
    have Hn := Lib.hid hn
    clear h4 he hni hn
    go_wp2_with fail
    go_ret
    rw [← Hn.out]
    exact H4.out
  · by_cases h2 : size < 0
    · go_wp2_with fail
      obtain ⟨n, hn⟩ : ∃ n : Nat, n = stSize size := ⟨_, rfl⟩
      have hni : (0 : Int) = n := by rw [hn]; unfold stSize; omega
      have hn2 : n ≤ 65536 := by rw [hn]; unfold stSize; omega
      rw [hni]
      refine (rep_any n _ _ HR.out hn2).mono ?_
      intro e w' he
      obtain ⟨g, rfl, h1, h2, h3, h4⟩ := H.out n hn2 e w' he
      have H4 := Lib.hid (h4 false rfl)
      have Hn := Lib.hid hn
      clear h4 he hni hn
      go_wp2_with fail
      go_ret
      rw [← Hn.out]
      exact H4.out
    · by_cases h3 : size = 0
      · subst h3
        go_wp2_with fail
        obtain ⟨n, hn⟩ : ∃ n : Nat, n = stSize 0 := ⟨_, rfl⟩
        have hni : (0 : Int) = n := by rw [hn]; unfold stSize; omega
        have hn2 : n ≤ 65536 := by rw [hn]; unfold stSize; omega
        rw [hni]
        refine (rep_any n _ _ HR.out hn2).mono ?_
        intro e w' he
        obtain ⟨g, rfl, h1, h2, h3, h4⟩ := H.out n hn2 e w' he
        have H4 := Lib.hid (h4 false rfl)
        have Hn := Lib.hid hn
        clear h4 he hni hn
        go_wp2_with fail
        go_ret
        rw [← Hn.out]
        exact H4.out
      · have h4 : 0 < size := by omega
        clear h2 h3
        go_wp2_with fail
        obtain ⟨n, hn⟩ : ∃ n : Nat, n = stSize size := ⟨_, rfl⟩
        have hni : (size : Int) = n := by rw [hn]; unfold stSize; omega
        have hn2 : n ≤ 65536 := by rw [hn]; unfold stSize; omega
        rw [hni]
        refine (rep_any n _ _ HR.out hn2).mono ?_
        intro e w' he
        obtain ⟨g, rfl, h1, h2, h3, h4⟩ := H.out n hn2 e w' he
        have H4 := Lib.hid (h4 false rfl)
        have Hn := Lib.hid hn
        clear h4 he hni hn
        go_wp2_with fail
        go_ret
        rw [← Hn.out]
        exact H4.out

theorem st_size (g gb : Nat) (xs : List UInt8) (lim : Option Nat) (dead : Bool) (w : World) (h : StIs w g gb xs lim dead) : Calls Tryd.prog 48 #[.pointer (some ⟨g, 0, none⟩)] w fun e w' => e = .returned (.int .i64 xs.length) ∧ w = w' := by
  obtain ⟨cur, left, h⟩ := h
  obtain ⟨c0, c1, c2, c3⟩ := h.cells
  go_enter Tryd.func48, Tryd.ntmps48
  go_wp2_with fail
  go_ret
  exact ⟨rfl, rfl⟩
theorem StAt.set {w w' : World} {g gb : Nat} {cur : List Value} {xs : List UInt8} {lim : Option Nat} {left : Int} {dead : Bool} (h : StAt w g gb cur xs lim left dead) (hf : Fr (fun k => k = g) w w') {lim' : Option Nat} {left' : Int} {dead' : Bool}
    (hh : w'.heap[g]? = some (.cells #[.slice (some ⟨gb, 0, none⟩) xs.length xs.length, .bool lim'.isSome, .int .i64 left', .bool dead'] 64 (0, 0))) (hl : ∀ k, lim' = some k → left' = k ∧ k ≤ 9223372036854775807) : StAt w' g gb cur xs lim' left' dead' :=
  ⟨hh, h.buf.fr hf h.apart, h.apart, h.small, hl⟩
set_option maxHeartbeats 1000000 in
theorem st_revive (g gb : Nat) (xs : List UInt8) (lim : Option Nat) (dead : Bool) (w : World) (h : StIs w g gb xs lim dead) : Calls Tryd.prog 22 #[.pointer (some ⟨g, 0, none⟩)] w fun e w' => e = .returned (.tuple #[]) ∧ StIs w' g gb xs none false ∧ Fr (fun k => k = g) w w' := by
  obtain ⟨cur, left, h⟩ := h
  obtain ⟨c0, c1, c2, c3⟩ := h.cells
  have f1 := h.frees 1
  have f3 := h.frees 3
  have hfr := fr_same (fr_setCell (F := fun k => k = g) (w := w) ⟨g, 1, none⟩ (.bool false) rfl) (fr_setCell (F := fun k => k = g) ⟨g, 3, none⟩ (.bool false) rfl)
  have hres := Lib.hid (And.intro (show StIs _ g gb xs none false from ⟨cur, left, h.set hfr (by simp [World.setCell, Array.getElem?_modify, h.heap]) (fun k e => by cases e)⟩) hfr)
  clear h hfr c0 c2
  go_enter Tryd.func22, Tryd.ntmps22
  go_wp2_with fail
  go_end0
  exact ⟨rfl, hres.out⟩
set_option maxHeartbeats 1000000 in
theorem st_kill (g gb : Nat) (xs : List UInt8) (lim : Option Nat) (dead : Bool) (after : Int) (w : World) (hw : after ≤ 9223372036854775807) (h : StIs w g gb xs lim dead) : Calls Tryd.prog 20 #[.pointer (some ⟨g, 0, none⟩), .int .i64 after] w fun e w' => e = .returned (.tuple #[]) ∧ StIs w' g gb xs (some after.toNat) dead ∧ Fr (fun k => k = g) w w' := by
  obtain ⟨cur, left, h⟩ := h
  obtain ⟨c0, c1, c2, c3⟩ := h.cells
  have f1 := h.frees 1
  have f2 := h.frees 2
  by_cases h0 : after < 0
  · have hfr := fr_same (fr_setCell (F := fun k => k = g) (w := w) ⟨g, 1, none⟩ (.bool true) rfl) (fr_setCell (F := fun k => k = g) ⟨g, 2, none⟩ (.int .i64 0) rfl)
    have hres := Lib.hid (And.intro (show StIs _ g gb xs (some after.toNat) dead from ⟨cur, 0, h.set hfr (by simp [World.setCell, Array.getElem?_modify, h.heap]) (fun k e => by cases e; omega)⟩) hfr)
    clear h hfr c0 c3
    go_enter Tryd.func20, Tryd.ntmps20
    go_wp2_with fail
    go_end0
    exact ⟨rfl, hres.out⟩
  · have hfr := fr_same (fr_setCell (F := fun k => k = g) (w := w) ⟨g, 1, none⟩ (.bool true) rfl) (fr_setCell (F := fun k => k = g) ⟨g, 2, none⟩ (.int .i64 after) rfl)
    have hres := Lib.hid (And.intro (show StIs _ g gb xs (some after.toNat) dead from ⟨cur, after, h.set hfr (by simp [World.setCell, Array.getElem?_modify, h.heap]) (fun k e => by cases e; omega)⟩) hfr)
    clear h hfr c0 c3
    go_enter Tryd.func20, Tryd.ntmps20
    go_wp2_with fail
    go_end0
    exact ⟨rfl, hres.out⟩

/-- Do so many bytes from a place on stand in a store? -/
def stIn (n : Nat) (at_ k : Int) : Bool := decide (0 ≤ at_) && decide (at_ ≤ n) && decide (k ≤ n - at_)
set_option maxHeartbeats 1000000 in
theorem st_in (g gb : Nat) (xs : List UInt8) (lim : Option Nat) (dead : Bool) (at_ k : Int) (w : World) (h : StIs w g gb xs lim dead) : Calls Tryd.prog 37 #[.pointer (some ⟨g, 0, none⟩), .int .i64 at_, .int .i64 k] w fun e w' => e = .returned (.bool (stIn xs.length at_ k)) ∧ w = w' := by
  obtain ⟨cur, left, h⟩ := h
  obtain ⟨c0, c1, c2, c3⟩ := h.cells
  have hs := h.small
  clear h
  unfold stIn
  by_cases h1 : 0 ≤ at_
  · by_cases h2 : at_ ≤ xs.length
    · have h3 : IntKind.i64.wrap ((xs.length : Int) - at_) = xs.length - at_ := by rw [IntKind.wrap_i64]; omega
      go_enter Tryd.func37, Tryd.ntmps37
      go_wp2_with fail
      go_ret
      exact ⟨by first | (simp [h1, h2]; done) | (simp; omega), rfl⟩
    · have h2' : ¬ at_ ≤ (xs.length : Int) := h2
      go_enter Tryd.func37, Tryd.ntmps37
      go_wp2_with fail
      go_ret
      exact ⟨by first | (simp [h1, h2]; done) | (simp; omega), rfl⟩
  · go_enter Tryd.func37, Tryd.ntmps37
    go_wp2_with fail
    go_ret
    exact ⟨by first | (simp [h1]; done) | (simp; omega), rfl⟩
end Go.Proofs.YtcppmihambcihaaDoor
