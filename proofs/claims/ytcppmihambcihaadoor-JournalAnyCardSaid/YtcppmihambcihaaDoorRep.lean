/- bytes.Repeat of one byte. -/
import Derived.Test.YtcppmihambcihaaDoorBuf
import Derived.LoopTactic
namespace Go.Proofs.YtcppmihambcihaaDoor
open Go.RowKit
set_option linter.unusedVariables false
set_option linter.unusedSimpArgs false

/-- A new block of n bytes x. -/
def IsRep (x : UInt8) (n : Nat) (w : World) (e : Ending) (w' : World) : Prop := ∃ g cur, e = .returned (.slice (some ⟨g, 0, none⟩) n n) ∧ BufC w' g cur (List.replicate n x) ∧ w.heap.size ≤ g ∧ Below w.heap.size w w'
def RepRel (x : UInt8) (n g : Nat) (wn : World) (s10 : Value) (wr : World) : Prop := ∃ (bp : Nat) (cur : List Value), 1 ≤ bp ∧ bp ≤ n ∧ s10 = .int .i64 bp ∧ BufC wr g cur (List.replicate bp x) ∧ n ≤ cur.length ∧ Fr (fun k => k = g) wn wr
theorem rep_snoc (x : UInt8) (a b : Nat) : List.replicate a x ++ List.replicate b x = List.replicate (a + b) x := by rw [List.replicate_append_replicate]

set_option maxHeartbeats 4000000 in
set_option maxRecDepth 100000 in
theorem rep_zero (x : UInt8) (A : Option Addr) (w : World) : Calls Tryd.prog 24 #[.slice A 1 1, .int .i64 0] w (IsRep x 0 w) := by
  go_enter Tryd.func24, Tryd.ntmps24
  go_wp2_with fail
  go_ret
  exact ⟨_, [], rfl, ⟨heap_alloc_new w _, rfl⟩, Nat.le_refl _, below_new w _⟩

set_option maxHeartbeats 4000000 in
set_option maxRecDepth 100000 in
theorem rep_pos (x : UInt8) (A : Option Addr) (n : Nat) (w : World) (hr : RB w A 1 [x]) (h0 : 0 < n) (hn : n ≤ 65536) :
    Calls Tryd.prog 24 #[.slice A 1 1, .int .i64 n] w (IsRep x n w) := by
  obtain ⟨cs, hrunM, hle, hmax⟩ := Lib.run_makeNoZero (P := Tryd.prog) w #[3] 29 5 Tryd.underlying29 n (by omega)
  have hM := @run_callFunc_extern Tryd.prog 44 _ (Extern.BytealgMakeNoZero.makeNoZero #[3] #[29]) Tryd.func44 (by kernel_rfl) (by kernel_rfl) (by kernel_rfl) (by kernel_rfl)
  have hcm := hmax (by simp only [maxLen]; omega)
  simp only [maxLen] at hcm
  have hbn : Below w.heap.size w (w.drew.drew.alloc (.cells cs 5)) := ((below_drew1 w).trans (below_drew1 w.drew)).alloc (Nat.le_refl _) _
  have hnew : (w.drew.drew.alloc (.cells cs 5)).heap[w.heap.size]? = some (.cells cs.toList.toArray 5 (0, 0)) := by
    have := heap_alloc_new w.drew.drew (.cells cs 5)
    simpa using this
  have hcl : cs.toList.length = cs.size := Array.length_toList
  have hr1 := hr.below hbn
  generalize hwn : w.drew.drew.alloc (.cells cs 5) = wn at hrunM hbn hnew hr1
  have e1 : IntKind.u64.wrap (n : Int) = n := by simp [IntKind.wrap, IntKind.bits, IntKind.signed]; omega
  have e2 : IntKind.i64.wrap (n : Int) = n := by rw [IntKind.wrap_i64]; omega
  have h1 : ((n : Int) == 0) = false := by simp; omega
  have h2 : ¬ (n : Int) < 0 := by omega
  have hn' : (n : Int) ≤ 65536 := by omega
  have sl3 := fun w' => by_slice_3 w' (some ⟨w.heap.size, 0, none⟩) n cs.size n hle (n : Int) (n : Int) rfl rfl
  have Hw := Lib.hid hwn
  have HB := Lib.hid hbn
  have hc1 : 1 ≤ cs.toList.length := by omega
  have HL := Lib.hid hcl
  clear hwn hmax hbn hcl
  go_enter Tryd.func24, Tryd.ntmps24
  go_wp2_with fail
  refine (mul_one64 n hn _).mono ?_
  rintro e w9 ⟨rfl, rfl⟩
  by_cases h8 : 8192 < n
  · have h8' : (8192 : Int) < n := by omega
    have hM1 : 1 ≤ 8192 := by omega
    go_wp2_with (with_reducible show wpList _ _ _ (Oper.mk _ (Op.call { callee := Callee.builtin Builtin.copy, args := _, argTypes := _ }) _ _ _ _ :: _) _ _; go_must (refine wpList_copy_raw rfl _ _ rfl w.heap.size 0 cs.toList hnew _ _ _ rfl _ _ _ [x] rfl hr1 1 (by omega) (fun _ => rfl) hc1 ?_); intro wb hh hfr)
    have hbuf : BufC wb w.heap.size _ (List.replicate 1 x) := ⟨hh, by simp [Go.splice]⟩
    have hlen : n ≤ (Go.splice cs.toList 0 (([x].take 1).map bv)).length := by rw [length_splice _ _ _ (by simpa using hc1), HL.out]; exact hle
    have HF := Lib.hid hfr
    clear hh hfr hr1 hnew hc1 sl3
    go_loopw [10, 11] (fun s10 s11 wr => RepRel x n w.heap.size wn s10 wr) (fun s10 _ _ => n - (intOf s10).toNat)
    case atStart => exact ⟨1, _, Nat.le_refl _, by omega, rfl, hbuf, hlen, HF.out⟩
    case round =>
      obtain ⟨bp, cur, hb1, hb2, rfl, hbuf, hlen, hfr⟩ := hrel
      by_cases hlt : bp < n
      · have hlt' : (bp : Int) < n := by omega
        rcases Nat.lt_or_ge 8192 bp with hbm | hbm
        · have hbm' : (8192 : Int) < bp := by omega
          have hC : 8192 = min bp 8192 := by omega
          obtain ⟨k, hk⟩ : ∃ k : Nat, k = min 8192 (n - bp) := ⟨_, rfl⟩
          have hk1 : 1 ≤ k := by omega
          have hkn : bp + k ≤ n := by omega
          have hwr : IntKind.i64.wrap ((bp : Int) + (k : Int)) = (bp : Int) + k := by rw [IntKind.wrap_i64]; omega
          have slo : ∀ w', (Instr.slice 29 (.slice (some ⟨w.heap.size, 0, none⟩) n n) (some (.int .i64 (bp : Int))) none none).run Tryd.prog w' = .ok (.slice (some ⟨w.heap.size, bp, none⟩) (n - bp) (n - bp)) w' := fun w' => by
            have := by_slice_l w' (some ⟨w.heap.size, 0, none⟩) n n bp hb2 (bp : Int) rfl
            unfold subA at this
            rw [if_neg (by omega)] at this
            simpa [add_at] using this
          have shi := fun w' => by_slice_h w' (some ⟨w.heap.size, 0, none⟩) n n 8192 (by omega) (8192 : Int) rfl
          have hrs := (hbuf.rs bp n (by simp) hb2 (by omega)).take 8192 (by omega)
          rw [List.take_replicate, Nat.min_eq_left (by omega)] at hrs
          have Hk := Lib.hid hk
          clear hC hk
          have hS0 : Fr (fun k => k = w.heap.size) wr wr.drew := fr_drew _ wr
          go_wp2_with fail
          refine wp_region_held (S := fun w' => Fr (fun k => k = w.heap.size) wr w') (by kernel_rfl) ?_
          change wpAnyH _ _ _ _ _ _ _ _ wr.drew
          change wpAnyH _ _ _ _ _ 10 (Array.replicate 10 false) _ _
          refine wpAnyH_take (i := 0) (oi := ?_) (v := ?_) ?_ (by kernel_rfl) (by kernel_rfl) (by kernel_rfl) ?_ ?_ (by assumption) ?_
          rotate_left 2; (simp only [List.getElem?_toArray, List.getElem?_cons_succ, List.getElem?_cons_zero]; rfl)
          rotate_left; (first | (refine .inl ⟨by rfl, ?_⟩; intro w9 hS9; go_simp; try with_reducible rfl) | (refine .inr ⟨by rfl, ?_⟩; with_reducible rfl))
          rotate_left; (intro _ _ _ h9; exact h9)
          try simp only [Act.put, List.setIfInBounds_toArray, List.set_cons_zero, List.set_cons_succ]
          refine wpAnyH_take (i := 1) (oi := ?_) (v := ?_) ?_ (by kernel_rfl) (by kernel_rfl) (by kernel_rfl) ?_ ?_ (by assumption) ?_
          rotate_left 2; (simp only [List.getElem?_toArray, List.getElem?_cons_succ, List.getElem?_cons_zero]; rfl)
          rotate_left; (first | (refine .inl ⟨by rfl, ?_⟩; intro w9 hS9; go_simp; try with_reducible rfl) | (refine .inr ⟨by rfl, ?_⟩; with_reducible rfl))
          rotate_left; (intro _ _ _ h9; exact h9)
          try simp only [Act.put, List.setIfInBounds_toArray, List.set_cons_zero, List.set_cons_succ]
          refine wpAnyH_take (i := 2) (oi := ?_) (v := ?_) ?_ (by kernel_rfl) (by kernel_rfl) (by kernel_rfl) ?_ ?_ (by assumption) ?_
          rotate_left 2; (simp only [List.getElem?_toArray, List.getElem?_cons_succ, List.getElem?_cons_zero]; rfl)
          rotate_left; (first | (refine .inl ⟨by rfl, ?_⟩; intro w9 hS9; go_simp; try with_reducible rfl) | (refine .inr ⟨by rfl, ?_⟩; with_reducible rfl))
          rotate_left; (intro _ _ _ h9; exact h9)
          try simp only [Act.put, List.setIfInBounds_toArray, List.set_cons_zero, List.set_cons_succ]
          refine wpAnyH_take (i := 3) (oi := ?_) (v := ?_) ?_ (by kernel_rfl) (by kernel_rfl) (by kernel_rfl) ?_ ?_ (by assumption) ?_
          rotate_left 2; (simp only [List.getElem?_toArray, List.getElem?_cons_succ, List.getElem?_cons_zero]; rfl)
          rotate_left; (first | (refine .inl ⟨by rfl, ?_⟩; intro w9 hS9; go_simp; try with_reducible rfl) | (refine .inr ⟨by rfl, ?_⟩; with_reducible rfl))
          rotate_left; (intro _ _ _ h9; exact h9)
          try simp only [Act.put, List.setIfInBounds_toArray, List.set_cons_zero, List.set_cons_succ]
          refine wpAnyH_take (i := 4) (oi := ?_) (v := ?_) ?_ (by kernel_rfl) (by kernel_rfl) (by kernel_rfl) ?_ ?_ (by assumption) ?_
          rotate_left 2; (simp only [List.getElem?_toArray, List.getElem?_cons_succ, List.getElem?_cons_zero]; rfl)
          rotate_left; (first | (refine .inl ⟨by rfl, ?_⟩; intro w9 hS9; go_simp; try with_reducible rfl) | (refine .inr ⟨by rfl, ?_⟩; with_reducible rfl))
          rotate_left; (intro _ _ _ h9; exact h9)
          try simp only [Act.put, List.setIfInBounds_toArray, List.set_cons_zero, List.set_cons_succ]
          refine wpAnyH_take (i := 5) (oi := ?_) (v := ?_) ?_ (by kernel_rfl) (by kernel_rfl) (by kernel_rfl) ?_ ?_ (by assumption) ?_
          rotate_left 2; (simp only [List.getElem?_toArray, List.getElem?_cons_succ, List.getElem?_cons_zero]; rfl)
          rotate_left; (first | (refine .inl ⟨by rfl, ?_⟩; intro w9 hS9; go_simp; try with_reducible rfl) | (refine .inr ⟨by rfl, ?_⟩; with_reducible rfl))
          rotate_left; (intro _ _ _ h9; exact h9)
          try simp only [Act.put, List.setIfInBounds_toArray, List.set_cons_zero, List.set_cons_succ]
          refine wpAnyH_take (i := 6) (oi := ?_) (v := ?_) ?_ (by kernel_rfl) (by kernel_rfl) (by kernel_rfl) ?_ ?_ (by assumption) ?_
          rotate_left 2; (simp only [List.getElem?_toArray, List.getElem?_cons_succ, List.getElem?_cons_zero]; rfl)
          rotate_left; (first | (refine .inl ⟨by rfl, ?_⟩; intro w9 hS9; go_simp; try with_reducible rfl) | (refine .inr ⟨by rfl, ?_⟩; with_reducible rfl))
          rotate_left; (intro _ _ _ h9; exact h9)
          try simp only [Act.put, List.setIfInBounds_toArray, List.set_cons_zero, List.set_cons_succ]
          refine wpAnyH_ready (rs := [7]) (by kernel_rfl) (by simp) (AllReadyH.cons (o := ?_) ?_ (fun K9 hK9 => ?_) AllReadyH.nil)
          rotate_left; (simp only [List.getElem?_toArray, List.getElem?_cons_succ, List.getElem?_cons_zero]; rfl)
          rw [if_pos (by rfl)]
          refine wp_copy_raw _ _ rfl w.heap.size bp cur hbuf.heap _ _ _ rfl _ _ _ (List.replicate 8192 x) rfl (hrs.rb.below (below_drew1 wr)) k Hk.out (fun _ => rfl) (by omega) ?_
          intro wc hh hf
          have hS1 := fr_same hS0 hf
          refine hK9.out _ _ hS1 (fun _ => ?_)
          simp only [Act.put, goInt, List.setIfInBounds_toArray, List.set_cons_zero, List.set_cons_succ]
          refine wpAnyH_take (i := 8) (oi := ?_) (v := ?_) ?_ (by kernel_rfl) (by kernel_rfl) (by kernel_rfl) ?_ ?_ (by assumption) ?_
          rotate_left 2; (simp only [List.getElem?_toArray, List.getElem?_cons_succ, List.getElem?_cons_zero]; rfl)
          rotate_left; (first | (refine .inl ⟨by rfl, ?_⟩; intro w9 hS9; go_simp; try with_reducible rfl) | (refine .inr ⟨by rfl, ?_⟩; with_reducible rfl))
          rotate_left; (intro _ _ _ h9; exact h9)
          try simp only [Act.put, List.setIfInBounds_toArray, List.set_cons_zero, List.set_cons_succ]
          refine wpAnyH_take (i := 9) (oi := ?_) (v := ?_) ?_ (by kernel_rfl) (by kernel_rfl) (by kernel_rfl) ?_ ?_ (by assumption) ?_
          rotate_left 2; (simp only [List.getElem?_toArray, List.getElem?_cons_succ, List.getElem?_cons_zero]; rfl)
          rotate_left; (first | (refine .inl ⟨by rfl, ?_⟩; intro w9 hS9; go_simp; try with_reducible rfl) | (refine .inr ⟨by rfl, ?_⟩; with_reducible rfl))
          rotate_left; (intro _ _ _ h9; exact h9)
          try simp only [Act.put, List.setIfInBounds_toArray, List.set_cons_zero, List.set_cons_succ]
          refine wpAnyH_done (by kernel_rfl) ?_ _
          have hb3 : BufC wc w.heap.size _ (List.replicate bp x ++ (List.replicate 8192 x).take k) := hbuf.snoc (news := (List.replicate 8192 x).take k) (by simp; omega) (by rw [List.length_replicate]; exact hh)
          rw [List.take_replicate, Nat.min_eq_left (by have := Hk.out; omega), rep_snoc] at hb3
          have H1 := Lib.hid hb3
          have H2 := Lib.hid (fr_same (fr_same hfr (fr_drew _ wr)) hf)
          have H3 := Lib.hid (show n ≤ (Go.splice cur (List.replicate bp x).length ((List.replicate k x).map bv)).length by rw [length_splice _ _ _ (by simp; omega)]; exact hlen)
          clear hb3 hh hf hbuf hfr hrs slo shi hlen hwr hK9 hS0 hS1
          go_wp2_with fail
          exact ⟨⟨bp + k, _, by omega, hkn, by go_num, H1.out, H3.out, H2.out⟩, by simp [intOf]; omega⟩
        · have hbm' : ¬ (8192 : Int) < bp := by omega
          have hC : bp = min bp 8192 := by omega
          obtain ⟨k, hk⟩ : ∃ k : Nat, k = min bp (n - bp) := ⟨_, rfl⟩
          have hk1 : 1 ≤ k := by omega
          have hkn : bp + k ≤ n := by omega
          have hwr : IntKind.i64.wrap ((bp : Int) + (k : Int)) = (bp : Int) + k := by rw [IntKind.wrap_i64]; omega
          have slo : ∀ w', (Instr.slice 29 (.slice (some ⟨w.heap.size, 0, none⟩) n n) (some (.int .i64 (bp : Int))) none none).run Tryd.prog w' = .ok (.slice (some ⟨w.heap.size, bp, none⟩) (n - bp) (n - bp)) w' := fun w' => by
            have := by_slice_l w' (some ⟨w.heap.size, 0, none⟩) n n bp hb2 (bp : Int) rfl
            unfold subA at this
            rw [if_neg (by omega)] at this
            simpa [add_at] using this
          have shi := fun w' => by_slice_h w' (some ⟨w.heap.size, 0, none⟩) n n bp (by omega) (bp : Int) rfl
          have hrs := (hbuf.rs bp n (by simp) hb2 (by omega)).take bp (by omega)
          rw [List.take_replicate, Nat.min_eq_left (by omega)] at hrs
          have Hk := Lib.hid hk
          clear hC hk
          have hS0 : Fr (fun k => k = w.heap.size) wr wr.drew := fr_drew _ wr
          go_wp2_with fail
          refine wp_region_held (S := fun w' => Fr (fun k => k = w.heap.size) wr w') (by kernel_rfl) ?_
          change wpAnyH _ _ _ _ _ _ _ _ wr.drew
          change wpAnyH _ _ _ _ _ 10 (Array.replicate 10 false) _ _
          refine wpAnyH_take (i := 0) (oi := ?_) (v := ?_) ?_ (by kernel_rfl) (by kernel_rfl) (by kernel_rfl) ?_ ?_ (by assumption) ?_
          rotate_left 2; (simp only [List.getElem?_toArray, List.getElem?_cons_succ, List.getElem?_cons_zero]; rfl)
          rotate_left; (first | (refine .inl ⟨by rfl, ?_⟩; intro w9 hS9; go_simp; try with_reducible rfl) | (refine .inr ⟨by rfl, ?_⟩; with_reducible rfl))
          rotate_left; (intro _ _ _ h9; exact h9)
          try simp only [Act.put, List.setIfInBounds_toArray, List.set_cons_zero, List.set_cons_succ]
          refine wpAnyH_take (i := 1) (oi := ?_) (v := ?_) ?_ (by kernel_rfl) (by kernel_rfl) (by kernel_rfl) ?_ ?_ (by assumption) ?_
          rotate_left 2; (simp only [List.getElem?_toArray, List.getElem?_cons_succ, List.getElem?_cons_zero]; rfl)
          rotate_left; (first | (refine .inl ⟨by rfl, ?_⟩; intro w9 hS9; go_simp; try with_reducible rfl) | (refine .inr ⟨by rfl, ?_⟩; with_reducible rfl))
          rotate_left; (intro _ _ _ h9; exact h9)
          try simp only [Act.put, List.setIfInBounds_toArray, List.set_cons_zero, List.set_cons_succ]
          refine wpAnyH_take (i := 2) (oi := ?_) (v := ?_) ?_ (by kernel_rfl) (by kernel_rfl) (by kernel_rfl) ?_ ?_ (by assumption) ?_
          rotate_left 2; (simp only [List.getElem?_toArray, List.getElem?_cons_succ, List.getElem?_cons_zero]; rfl)
          rotate_left; (first | (refine .inl ⟨by rfl, ?_⟩; intro w9 hS9; go_simp; try with_reducible rfl) | (refine .inr ⟨by rfl, ?_⟩; with_reducible rfl))
          rotate_left; (intro _ _ _ h9; exact h9)
          try simp only [Act.put, List.setIfInBounds_toArray, List.set_cons_zero, List.set_cons_succ]
          refine wpAnyH_take (i := 3) (oi := ?_) (v := ?_) ?_ (by kernel_rfl) (by kernel_rfl) (by kernel_rfl) ?_ ?_ (by assumption) ?_
          rotate_left 2; (simp only [List.getElem?_toArray, List.getElem?_cons_succ, List.getElem?_cons_zero]; rfl)
          rotate_left; (first | (refine .inl ⟨by rfl, ?_⟩; intro w9 hS9; go_simp; try with_reducible rfl) | (refine .inr ⟨by rfl, ?_⟩; with_reducible rfl))
          rotate_left; (intro _ _ _ h9; exact h9)
          try simp only [Act.put, List.setIfInBounds_toArray, List.set_cons_zero, List.set_cons_succ]
          refine wpAnyH_take (i := 4) (oi := ?_) (v := ?_) ?_ (by kernel_rfl) (by kernel_rfl) (by kernel_rfl) ?_ ?_ (by assumption) ?_
          rotate_left 2; (simp only [List.getElem?_toArray, List.getElem?_cons_succ, List.getElem?_cons_zero]; rfl)
          rotate_left; (first | (refine .inl ⟨by rfl, ?_⟩; intro w9 hS9; go_simp; try with_reducible rfl) | (refine .inr ⟨by rfl, ?_⟩; with_reducible rfl))
          rotate_left; (intro _ _ _ h9; exact h9)
          try simp only [Act.put, List.setIfInBounds_toArray, List.set_cons_zero, List.set_cons_succ]
          refine wpAnyH_take (i := 5) (oi := ?_) (v := ?_) ?_ (by kernel_rfl) (by kernel_rfl) (by kernel_rfl) ?_ ?_ (by assumption) ?_
          rotate_left 2; (simp only [List.getElem?_toArray, List.getElem?_cons_succ, List.getElem?_cons_zero]; rfl)
          rotate_left; (first | (refine .inl ⟨by rfl, ?_⟩; intro w9 hS9; go_simp; try with_reducible rfl) | (refine .inr ⟨by rfl, ?_⟩; with_reducible rfl))
          rotate_left; (intro _ _ _ h9; exact h9)
          try simp only [Act.put, List.setIfInBounds_toArray, List.set_cons_zero, List.set_cons_succ]
          refine wpAnyH_take (i := 6) (oi := ?_) (v := ?_) ?_ (by kernel_rfl) (by kernel_rfl) (by kernel_rfl) ?_ ?_ (by assumption) ?_
          rotate_left 2; (simp only [List.getElem?_toArray, List.getElem?_cons_succ, List.getElem?_cons_zero]; rfl)
          rotate_left; (first | (refine .inl ⟨by rfl, ?_⟩; intro w9 hS9; go_simp; try with_reducible rfl) | (refine .inr ⟨by rfl, ?_⟩; with_reducible rfl))
          rotate_left; (intro _ _ _ h9; exact h9)
          try simp only [Act.put, List.setIfInBounds_toArray, List.set_cons_zero, List.set_cons_succ]
          refine wpAnyH_ready (rs := [7]) (by kernel_rfl) (by simp) (AllReadyH.cons (o := ?_) ?_ (fun K9 hK9 => ?_) AllReadyH.nil)
          rotate_left; (simp only [List.getElem?_toArray, List.getElem?_cons_succ, List.getElem?_cons_zero]; rfl)
          rw [if_pos (by rfl)]
          refine wp_copy_raw _ _ rfl w.heap.size bp cur hbuf.heap _ _ _ rfl _ _ _ (List.replicate bp x) rfl (hrs.rb.below (below_drew1 wr)) k Hk.out (fun _ => rfl) (by omega) ?_
          intro wc hh hf
          have hS1 := fr_same hS0 hf
          refine hK9.out _ _ hS1 (fun _ => ?_)
          simp only [Act.put, goInt, List.setIfInBounds_toArray, List.set_cons_zero, List.set_cons_succ]
          refine wpAnyH_take (i := 8) (oi := ?_) (v := ?_) ?_ (by kernel_rfl) (by kernel_rfl) (by kernel_rfl) ?_ ?_ (by assumption) ?_
          rotate_left 2; (simp only [List.getElem?_toArray, List.getElem?_cons_succ, List.getElem?_cons_zero]; rfl)
          rotate_left; (first | (refine .inl ⟨by rfl, ?_⟩; intro w9 hS9; go_simp; try with_reducible rfl) | (refine .inr ⟨by rfl, ?_⟩; with_reducible rfl))
          rotate_left; (intro _ _ _ h9; exact h9)
          try simp only [Act.put, List.setIfInBounds_toArray, List.set_cons_zero, List.set_cons_succ]
          refine wpAnyH_take (i := 9) (oi := ?_) (v := ?_) ?_ (by kernel_rfl) (by kernel_rfl) (by kernel_rfl) ?_ ?_ (by assumption) ?_
          rotate_left 2; (simp only [List.getElem?_toArray, List.getElem?_cons_succ, List.getElem?_cons_zero]; rfl)
          rotate_left; (first | (refine .inl ⟨by rfl, ?_⟩; intro w9 hS9; go_simp; try with_reducible rfl) | (refine .inr ⟨by rfl, ?_⟩; with_reducible rfl))
          rotate_left; (intro _ _ _ h9; exact h9)
          try simp only [Act.put, List.setIfInBounds_toArray, List.set_cons_zero, List.set_cons_succ]
          refine wpAnyH_done (by kernel_rfl) ?_ _
          have hb3 : BufC wc w.heap.size _ (List.replicate bp x ++ (List.replicate bp x).take k) := hbuf.snoc (news := (List.replicate bp x).take k) (by simp; omega) (by rw [List.length_replicate]; exact hh)
          rw [List.take_replicate, Nat.min_eq_left (by have := Hk.out; omega), rep_snoc] at hb3
          have H1 := Lib.hid hb3
          have H2 := Lib.hid (fr_same (fr_same hfr (fr_drew _ wr)) hf)
          have H3 := Lib.hid (show n ≤ (Go.splice cur (List.replicate bp x).length ((List.replicate k x).map bv)).length by rw [length_splice _ _ _ (by simp; omega)]; exact hlen)
          clear hb3 hh hf hbuf hfr hrs slo shi hlen hwr hK9 hS0 hS1
          go_wp2_with fail
          exact ⟨⟨bp + k, _, by omega, hkn, by go_num, H1.out, H3.out, H2.out⟩, by simp [intOf]; omega⟩
      · have hbn : ¬ (bp : Int) < n := by omega
        obtain rfl : bp = n := by omega
        go_wp2_with fail
        go_ret
        exact ⟨_, cur, rfl, hbuf, Nat.le_refl _, HB.out.trans (hfr.below _ HB.out.size (fun i e => by rw [e]; exact Nat.le_refl _))⟩
  · have h8' : ¬ (8192 : Int) < n := by omega
    have hM1 : 1 ≤ n := by omega
    go_wp2_with (with_reducible show wpList _ _ _ (Oper.mk _ (Op.call { callee := Callee.builtin Builtin.copy, args := _, argTypes := _ }) _ _ _ _ :: _) _ _; go_must (refine wpList_copy_raw rfl _ _ rfl w.heap.size 0 cs.toList hnew _ _ _ rfl _ _ _ [x] rfl hr1 1 (by omega) (fun _ => rfl) hc1 ?_); intro wb hh hfr)
    have hbuf : BufC wb w.heap.size _ (List.replicate 1 x) := ⟨hh, by simp [Go.splice]⟩
    have hlen : n ≤ (Go.splice cs.toList 0 (([x].take 1).map bv)).length := by rw [length_splice _ _ _ (by simpa using hc1), HL.out]; exact hle
    have HF := Lib.hid hfr
    clear hh hfr hr1 hnew hc1 sl3
    go_loopw [10, 11] (fun s10 s11 wr => RepRel x n w.heap.size wn s10 wr) (fun s10 _ _ => n - (intOf s10).toNat)
    case atStart => exact ⟨1, _, Nat.le_refl _, by omega, rfl, hbuf, hlen, HF.out⟩
    case round =>
      obtain ⟨bp, cur, hb1, hb2, rfl, hbuf, hlen, hfr⟩ := hrel
      by_cases hlt : bp < n
      · have hlt' : (bp : Int) < n := by omega
        have hbm' : ¬ (n : Int) < bp := by omega
        have hC : bp = min bp n := by omega
        obtain ⟨k, hk⟩ : ∃ k : Nat, k = min bp (n - bp) := ⟨_, rfl⟩
        have hk1 : 1 ≤ k := by omega
        have hkn : bp + k ≤ n := by omega
        have hwr : IntKind.i64.wrap ((bp : Int) + (k : Int)) = (bp : Int) + k := by rw [IntKind.wrap_i64]; omega
        have slo : ∀ w', (Instr.slice 29 (.slice (some ⟨w.heap.size, 0, none⟩) n n) (some (.int .i64 (bp : Int))) none none).run Tryd.prog w' = .ok (.slice (some ⟨w.heap.size, bp, none⟩) (n - bp) (n - bp)) w' := fun w' => by
          have := by_slice_l w' (some ⟨w.heap.size, 0, none⟩) n n bp hb2 (bp : Int) rfl
          unfold subA at this
          rw [if_neg (by omega)] at this
          simpa [add_at] using this
        have shi := fun w' => by_slice_h w' (some ⟨w.heap.size, 0, none⟩) n n bp (by omega) (bp : Int) rfl
        have hrs := (hbuf.rs bp n (by simp) hb2 (by omega)).take bp (by omega)
        rw [List.take_replicate, Nat.min_eq_left (by omega)] at hrs
        have Hk := Lib.hid hk
        clear hC hk
        have hS0 : Fr (fun k => k = w.heap.size) wr wr.drew := fr_drew _ wr
        go_wp2_with fail
        refine wp_region_held (S := fun w' => Fr (fun k => k = w.heap.size) wr w') (by kernel_rfl) ?_
        change wpAnyH _ _ _ _ _ _ _ _ wr.drew
        change wpAnyH _ _ _ _ _ 10 (Array.replicate 10 false) _ _
        refine wpAnyH_take (i := 0) (oi := ?_) (v := ?_) ?_ (by kernel_rfl) (by kernel_rfl) (by kernel_rfl) ?_ ?_ (by assumption) ?_
        rotate_left 2; (simp only [List.getElem?_toArray, List.getElem?_cons_succ, List.getElem?_cons_zero]; rfl)
        rotate_left; (first | (refine .inl ⟨by rfl, ?_⟩; intro w9 hS9; go_simp; try with_reducible rfl) | (refine .inr ⟨by rfl, ?_⟩; with_reducible rfl))
        rotate_left; (intro _ _ _ h9; exact h9)
        try simp only [Act.put, List.setIfInBounds_toArray, List.set_cons_zero, List.set_cons_succ]
        refine wpAnyH_take (i := 1) (oi := ?_) (v := ?_) ?_ (by kernel_rfl) (by kernel_rfl) (by kernel_rfl) ?_ ?_ (by assumption) ?_
        rotate_left 2; (simp only [List.getElem?_toArray, List.getElem?_cons_succ, List.getElem?_cons_zero]; rfl)
        rotate_left; (first | (refine .inl ⟨by rfl, ?_⟩; intro w9 hS9; go_simp; try with_reducible rfl) | (refine .inr ⟨by rfl, ?_⟩; with_reducible rfl))
        rotate_left; (intro _ _ _ h9; exact h9)
        try simp only [Act.put, List.setIfInBounds_toArray, List.set_cons_zero, List.set_cons_succ]
        refine wpAnyH_take (i := 2) (oi := ?_) (v := ?_) ?_ (by kernel_rfl) (by kernel_rfl) (by kernel_rfl) ?_ ?_ (by assumption) ?_
        rotate_left 2; (simp only [List.getElem?_toArray, List.getElem?_cons_succ, List.getElem?_cons_zero]; rfl)
        rotate_left; (first | (refine .inl ⟨by rfl, ?_⟩; intro w9 hS9; go_simp; try with_reducible rfl) | (refine .inr ⟨by rfl, ?_⟩; with_reducible rfl))
        rotate_left; (intro _ _ _ h9; exact h9)
        try simp only [Act.put, List.setIfInBounds_toArray, List.set_cons_zero, List.set_cons_succ]
        refine wpAnyH_take (i := 3) (oi := ?_) (v := ?_) ?_ (by kernel_rfl) (by kernel_rfl) (by kernel_rfl) ?_ ?_ (by assumption) ?_
        rotate_left 2; (simp only [List.getElem?_toArray, List.getElem?_cons_succ, List.getElem?_cons_zero]; rfl)
        rotate_left; (first | (refine .inl ⟨by rfl, ?_⟩; intro w9 hS9; go_simp; try with_reducible rfl) | (refine .inr ⟨by rfl, ?_⟩; with_reducible rfl))
        rotate_left; (intro _ _ _ h9; exact h9)
        try simp only [Act.put, List.setIfInBounds_toArray, List.set_cons_zero, List.set_cons_succ]
        refine wpAnyH_take (i := 4) (oi := ?_) (v := ?_) ?_ (by kernel_rfl) (by kernel_rfl) (by kernel_rfl) ?_ ?_ (by assumption) ?_
        rotate_left 2; (simp only [List.getElem?_toArray, List.getElem?_cons_succ, List.getElem?_cons_zero]; rfl)
        rotate_left; (first | (refine .inl ⟨by rfl, ?_⟩; intro w9 hS9; go_simp; try with_reducible rfl) | (refine .inr ⟨by rfl, ?_⟩; with_reducible rfl))
        rotate_left; (intro _ _ _ h9; exact h9)
        try simp only [Act.put, List.setIfInBounds_toArray, List.set_cons_zero, List.set_cons_succ]
        refine wpAnyH_take (i := 5) (oi := ?_) (v := ?_) ?_ (by kernel_rfl) (by kernel_rfl) (by kernel_rfl) ?_ ?_ (by assumption) ?_
        rotate_left 2; (simp only [List.getElem?_toArray, List.getElem?_cons_succ, List.getElem?_cons_zero]; rfl)
        rotate_left; (first | (refine .inl ⟨by rfl, ?_⟩; intro w9 hS9; go_simp; try with_reducible rfl) | (refine .inr ⟨by rfl, ?_⟩; with_reducible rfl))
        rotate_left; (intro _ _ _ h9; exact h9)
        try simp only [Act.put, List.setIfInBounds_toArray, List.set_cons_zero, List.set_cons_succ]
        refine wpAnyH_take (i := 6) (oi := ?_) (v := ?_) ?_ (by kernel_rfl) (by kernel_rfl) (by kernel_rfl) ?_ ?_ (by assumption) ?_
        rotate_left 2; (simp only [List.getElem?_toArray, List.getElem?_cons_succ, List.getElem?_cons_zero]; rfl)
        rotate_left; (first | (refine .inl ⟨by rfl, ?_⟩; intro w9 hS9; go_simp; try with_reducible rfl) | (refine .inr ⟨by rfl, ?_⟩; with_reducible rfl))
        rotate_left; (intro _ _ _ h9; exact h9)
        try simp only [Act.put, List.setIfInBounds_toArray, List.set_cons_zero, List.set_cons_succ]
        refine wpAnyH_ready (rs := [7]) (by kernel_rfl) (by simp) (AllReadyH.cons (o := ?_) ?_ (fun K9 hK9 => ?_) AllReadyH.nil)
        rotate_left; (simp only [List.getElem?_toArray, List.getElem?_cons_succ, List.getElem?_cons_zero]; rfl)
        rw [if_pos (by rfl)]
        refine wp_copy_raw _ _ rfl w.heap.size bp cur hbuf.heap _ _ _ rfl _ _ _ (List.replicate bp x) rfl (hrs.rb.below (below_drew1 wr)) k Hk.out (fun _ => rfl) (by omega) ?_
        intro wc hh hf
        have hS1 := fr_same hS0 hf
        refine hK9.out _ _ hS1 (fun _ => ?_)
        simp only [Act.put, goInt, List.setIfInBounds_toArray, List.set_cons_zero, List.set_cons_succ]
        refine wpAnyH_take (i := 8) (oi := ?_) (v := ?_) ?_ (by kernel_rfl) (by kernel_rfl) (by kernel_rfl) ?_ ?_ (by assumption) ?_
        rotate_left 2; (simp only [List.getElem?_toArray, List.getElem?_cons_succ, List.getElem?_cons_zero]; rfl)
        rotate_left; (first | (refine .inl ⟨by rfl, ?_⟩; intro w9 hS9; go_simp; try with_reducible rfl) | (refine .inr ⟨by rfl, ?_⟩; with_reducible rfl))
        rotate_left; (intro _ _ _ h9; exact h9)
        try simp only [Act.put, List.setIfInBounds_toArray, List.set_cons_zero, List.set_cons_succ]
        refine wpAnyH_take (i := 9) (oi := ?_) (v := ?_) ?_ (by kernel_rfl) (by kernel_rfl) (by kernel_rfl) ?_ ?_ (by assumption) ?_
        rotate_left 2; (simp only [List.getElem?_toArray, List.getElem?_cons_succ, List.getElem?_cons_zero]; rfl)
        rotate_left; (first | (refine .inl ⟨by rfl, ?_⟩; intro w9 hS9; go_simp; try with_reducible rfl) | (refine .inr ⟨by rfl, ?_⟩; with_reducible rfl))
        rotate_left; (intro _ _ _ h9; exact h9)
        try simp only [Act.put, List.setIfInBounds_toArray, List.set_cons_zero, List.set_cons_succ]
        refine wpAnyH_done (by kernel_rfl) ?_ _
        have hb3 : BufC wc w.heap.size _ (List.replicate bp x ++ (List.replicate bp x).take k) := hbuf.snoc (news := (List.replicate bp x).take k) (by simp; omega) (by rw [List.length_replicate]; exact hh)
        rw [List.take_replicate, Nat.min_eq_left (by have := Hk.out; omega), rep_snoc] at hb3
        have H1 := Lib.hid hb3
        have H2 := Lib.hid (fr_same (fr_same hfr (fr_drew _ wr)) hf)
        have H3 := Lib.hid (show n ≤ (Go.splice cur (List.replicate bp x).length ((List.replicate k x).map bv)).length by rw [length_splice _ _ _ (by simp; omega)]; exact hlen)
        clear hb3 hh hf hbuf hfr hrs slo shi hlen hwr hK9 hS0 hS1
        go_wp2_with fail
        exact ⟨⟨bp + k, _, by omega, hkn, by go_num, H1.out, H3.out, H2.out⟩, by simp [intOf]; omega⟩
      · have hbn : ¬ (bp : Int) < n := by omega
        obtain rfl : bp = n := by omega
        go_wp2_with fail
        go_ret
        exact ⟨_, cur, rfl, hbuf, Nat.le_refl _, HB.out.trans (hfr.below _ HB.out.size (fun i e => by rw [e]; exact Nat.le_refl _))⟩
end Go.Proofs.YtcppmihambcihaaDoor
