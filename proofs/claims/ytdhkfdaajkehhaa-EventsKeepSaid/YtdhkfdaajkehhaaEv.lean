/- Events: three cells each; slices.Clone, Grow, Concat of them, Same. -/
import Derived.Test.YtdhkfdaajkehhaaProg
import Derived.Test.YtdhkfdaajkehhaaFr
namespace Go.Proofs.Ytdhkfdaajkehhaa
open Go.RowKit
set_option linter.unusedVariables false
set_option linter.unusedSimpArgs false

theorem below_drewA (w : World) (o : Obj) : Below w.heap.size w (w.drew.alloc o) := (show Below w.heap.size w w.drew from ⟨rfl, rfl, rfl, Nat.le_refl _, fun _ _ => rfl⟩).alloc (Nat.le_refl _) o
structure Ev where
  tm : Int
  code : Int
  arg : Int
  deriving DecidableEq
def evc (x : Ev) : List Value := [.int .u64 x.tm, .int .i64 x.code, .int .i64 x.arg]
theorem evc_len (x : Ev) : (evc x).length = 3 := rfl
theorem evc_one (x : Ev) : ∀ v ∈ evc x, v.oneCell' = true := by
  intro v hv
  simp only [evc, List.mem_cons, List.not_mem_nil, or_false] at hv
  rcases hv with rfl | rfl | rfl <;> rfl
def evz : Value := .agg #[.int .u64 0, .int .i64 0, .int .i64 0]
theorem evT : ElT Try.prog 22 31 3 24 evz := ⟨Try.underlying22, by kernel_rfl, rfl, by omega⟩
abbrev REv (w : World) := RE evc w
abbrev OwnEv (w : World) := OwnE evc 3 31 w

/-- slices.Clone of events. -/
theorem ev_clone (A : Option Addr) (n c : Nat) (xs : List Ev) (w : World) (rs : REv w A n c xs) (hn : n ≤ 1000000000) :
    Calls Try.prog 17 #[.slice A n c] w fun e w' => ∃ v, e = .returned v ∧ OwnEv w' v xs ∧ (∀ g, v.ownBlock = some g → w.heap.size ≤ g) ∧ Below w.heap.size w w' := by
  cases A with
  | none =>
    obtain rfl : c = 0 := rs.nil rfl
    obtain rfl : n = 0 := by have := rs.cap; omega
    obtain rfl : xs = [] := List.eq_nil_of_length_eq_zero rs.len
    have q := fun w => Lib.run_eql_slice_nil (P := Try.prog) w 22 31 none 0 0 0 0 Try.underlying22
    simp only [Option.isNone_none] at q
    clear rs hn
    go_enter Try.func17, Try.ntmps17
    go_wp2
    go_ret
    exact ⟨_, rfl, OwnE.nil _ _, (fun g e => by cases e), Below.refl _ _⟩
  | some ad =>
    have q := fun w => Lib.run_eql_slice_nil (P := Try.prog) w 22 31 (some ad) n c 0 0 Try.underlying22
    simp only [Option.isNone_some] at q
    have hown : OwnEv (w.alloc (.cells #[] 31)) (.slice (some ⟨w.heap.size, 0, none⟩) 0 0) [] := own_lit evc_len w [] (by simp)
    have hb0 : Below w.heap.size w (w.alloc (.cells #[] 31)) := (Below.refl _ _).alloc (Nat.le_refl _) _
    have hr1 := rs.below hb0
    clear rs
    go_enter Try.func17, Try.ntmps17
    go_wp2_with (at_builtin; go_must (refine wpList_append_fr evT evc_len evc_one rfl _ _ rfl _ [] rfl hown _ _ _ xs rfl hr1 (by simp; omega) (by simp; omega) ?_); intro v' w1 hown1 hg1 hf1)
    go_ret
    exact ⟨v', rfl, by simpa using hown1, (fun g e => by rcases hf1 g e with h | h; cases h; exact Nat.le_refl _; simp at h; omega), hb0.grown hg1 (by simp) (fun k hk => by cases hk; exact Nat.le_refl _)⟩

set_option maxHeartbeats 1000000 in
set_option maxRecDepth 100000 in
/-- slices.Grow of no event at all: a row of that much room. -/
theorem ev_grow (n : Nat) (w : World) (h0 : 0 < n) (hn : n ≤ 1000000000) :
    Calls Try.prog 19 #[.slice none 0 0, .int .i64 n] w fun e w' => ∃ v, e = .returned v ∧ OwnEv w' v [] ∧ (∀ g, v.ownBlock = some g → w.heap.size ≤ g) ∧ Below w.heap.size w w' := by
  obtain ⟨i0, hi, hz0, hz1, hz2⟩ := info_parts evT.info
  have hrz : ∀ ty, (Builtin.append_ #[22, 3] ty #[.slice none 0 0, .int .i64 n]).run Try.prog w = _ := fun ty =>
    Lib.run_append_nil_zeros (P := Try.prog) w 22 3 ty 31 i0 evz .i64 .i64 Try.underlying22 Try.underlying3 hi hz0 n h0 (by omega) (by omega) (by rw [hz2]; omega)
  have hge := grownCap_ge w n 0 31
  have hcm : grownCap w n 0 31 ≤ maxLen := grownCap_le_maxLen w n 0 _ (by simp only [maxLen]; omega)
  generalize hG : grownCap w n 0 31 = G at hrz hge hcm
  have hown : OwnEv (w.drew.alloc (.cells (Builtin.zeroCells evz.cells n ++ Builtin.zeroCells evz.cells (G - n)) 31)) (.slice (some ⟨w.heap.size, 0, none⟩) 0 G) [] :=
    ⟨rfl, .inr ⟨w.heap.size, G, _, rfl, Nat.zero_le _, heap_alloc_new w.drew _, Nat.zero_le _, hcm, by rw [Array.size_append, size_zeroCells, size_zeroCells]; simp only [evz, Value.cells]; simp; omega, rfl⟩⟩
  have hb : Below w.heap.size w (w.drew.alloc (.cells (Builtin.zeroCells evz.cells n ++ Builtin.zeroCells evz.cells (G - n)) 31)) := below_drewA w _
  have h1 : ¬ ((n : Int) < 0) := by omega
  have h2 : (0 : Int) < n := by omega
  have hG63 : G ≤ 9223372036854775807 := by unfold maxLen at hcm; omega
  generalize w.drew.alloc (.cells (Builtin.zeroCells evz.cells n ++ Builtin.zeroCells evz.cells (G - n)) 31) = w1 at hrz hown hb
  clear hG hi hz0 hz1 hz2 hcm hge
  go_enter Try.func19, Try.ntmps19
  go_wp2_with (at_builtin; go_must (refine Lib.wpList_append_run _ rfl _ _ _ _ rfl _ _ rfl rfl _ _ (hrz _) ?_))
  go_ret
  exact ⟨_, rfl, hown, (fun g e => by cases e; exact Nat.le_refl _), hb⟩

set_option maxHeartbeats 2000000 in
set_option maxRecDepth 100000 in
/-- slices.Concat of two rows of events. -/
theorem ev_concat (b : Nat) (A1 : Option Addr) (n1 c1 : Nat) (xs : List Ev) (A2 : Option Addr) (n2 c2 : Nat) (ys : List Ev) (w : World) (rx : REv w A1 n1 c1 xs) (ry : REv w A2 n2 c2 ys) (h0 : 0 < n1 + n2) (hn : n1 + n2 ≤ 1000000000)
    (x0 : w.cell? ⟨b, 0, none⟩ = some (.slice A1 n1 c1)) (x1 : w.cell? ⟨b, 1, none⟩ = some (.slice A2 n2 c2)) :
    Calls Try.prog 18 #[.slice (some ⟨b, 0, none⟩) 2 2] w fun e w' => ∃ v, e = .returned v ∧ OwnEv w' v (xs ++ ys) ∧ (∀ g, v.ownBlock = some g → w.heap.size ≤ g) ∧ Below w.heap.size w w' := by
  have m1 := rx.len
  have m2 := ry.len
  have hbw : b < w.heap.size := World.block_lt_of_cell? w _ x0
  have hg := ev_grow (n1 + n2) w h0 hn
  go_enter Try.func18, Try.ntmps18
  go_wp2_with fail
  go_loop [3, 5, 11] (fun s3 s5 s11 => (s11 = .int .i64 0 ∧ s3 = .int .i64 0) ∨ (s11 = .int .i64 1 ∧ s3 = .int .i64 n1) ∨ (s11 = .int .i64 2 ∧ s3 = .int .i64 ((n1 + n2 : Nat) : Int))) (fun _ _ s11 => 2 - (intOf s11).toNat)
  case atStart => exact .inl ⟨rfl, rfl⟩
  case round =>
    rcases hrel with ⟨rfl, rfl⟩ | ⟨rfl, rfl⟩ | ⟨rfl, rfl⟩
    · go_wp2_with fail
      exact ⟨.inr (.inl ⟨rfl, rfl⟩), by simp [intOf]⟩
    · go_wp2_with fail
      exact ⟨.inr (.inr ⟨rfl, by go_num⟩), by simp [intOf]⟩
    · rw [Int.natCast_add] at hg
      go_wp2_with fail
      refine hg.mono ?_
      rintro e wg ⟨v0, rfl, hown, hfg, hbg⟩
      clear hg
      go_wp2_with fail
      go_loopw [6, 8, 27] (fun s6 s8 s27 wr => Below w.heap.size w wr ∧ (∀ g, s6.ownBlock = some g → w.heap.size ≤ g) ∧ ((s27 = .int .i64 0 ∧ OwnEv wr s6 []) ∨ (s27 = .int .i64 1 ∧ OwnEv wr s6 xs) ∨ (s27 = .int .i64 2 ∧ OwnEv wr s6 (xs ++ ys)))) (fun _ _ s27 _ => 2 - (intOf s27).toNat)
      case atStart => exact ⟨hbg, hfg, .inl ⟨rfl, hown⟩⟩
      case round =>
        rcases hrel with ⟨hb2, hfs, ⟨rfl, hor⟩ | ⟨rfl, hor⟩ | ⟨rfl, hor⟩⟩
        · have y0 := (hb2.cell (p := ⟨b, 0, none⟩) hbw).trans x0
          replace rx := rx.below hb2
          clear ry x0 x1 hown hbg hfg
          go_wp2_with (at_builtin; go_must (refine wpList_append_fr evT evc_len evc_one rfl _ _ rfl _ [] rfl hor _ _ _ xs rfl rx (by simp; omega) (by simp; omega) ?_); intro v' w1 hown1 hg1 hf1)
          refine ⟨⟨hb2.grown hg1 hb2.size hfs, fun g hgv => (hf1 g hgv).elim (hfs g) (fun h => Nat.le_trans hb2.size h), .inr (.inl ⟨rfl, by simpa using hown1⟩)⟩, by simp [intOf]⟩
        · have y1 := (hb2.cell (p := ⟨b, 1, none⟩) hbw).trans x1
          replace ry := ry.below hb2
          clear rx x0 x1 hown hbg hfg
          go_wp2_with (at_builtin; go_must (refine wpList_append_fr evT evc_len evc_one rfl _ _ rfl _ xs rfl hor _ _ _ ys rfl ry (by omega) (by omega) ?_); intro v' w1 hown1 hg1 hf1)
          refine ⟨⟨hb2.grown hg1 hb2.size hfs, fun g hgv => (hf1 g hgv).elim (hfs g) (fun h => Nat.le_trans hb2.size h), .inr (.inr ⟨rfl, hown1⟩)⟩, by simp [intOf]⟩
        · clear rx ry x0 x1 hown hbg hfg
          go_wp2_with fail
          go_ret
          exact ⟨_, rfl, hor, hfs, hb2⟩
end Go.Proofs.Ytdhkfdaajkehhaa
