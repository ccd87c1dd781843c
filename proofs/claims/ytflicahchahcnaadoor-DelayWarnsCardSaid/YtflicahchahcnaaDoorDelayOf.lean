/- How long lowering may wait: delay.Of. -/
import Derived.Test.YtflicahchahcnaaDoorDelay
import Derived.Test.YtflicahchahcnaaDoorCfg
namespace Go.Proofs.YtflicahchahcnaaDoor
open Go.RowKit
set_option linter.unusedVariables false
set_option linter.unusedSimpArgs false

/-- A delay. -/
def ofN (f s warn : Int) : Int := if f < 0 ∨ s < 1 then 0 else max 0 (f / s - max 0 warn)
/-- A line's delays. -/
def ofv (x : Ln) (warn : Int) : Value := .agg #[.int .i64 (ofN x.strike x.s0 warn), .int .i64 (ofN x.strike x.s1 warn), .int .i64 (ofN x.strike x.s2 warn)]
def inLn (x : Ln) : Prop := inI x.strike ∧ inI x.signal ∧ inI x.s0 ∧ inI x.s1 ∧ inI x.s2
def ofAt (x : Ln) (warn : Int) (k : Nat) : Array Value := #[.int .i64 (if 0 < k then ofN x.strike x.s0 warn else 0), .int .i64 (if 1 < k then ofN x.strike x.s1 warn else 0), .int .i64 (if 2 < k then ofN x.strike x.s2 warn else 0)]
theorem ofN_ok (f s warn : Int) (h : ¬ (f < 0 ∨ s < 1)) : ofN f s warn = max 0 (f / s - max 0 warn) := if_neg h
theorem of_form (f s warn : Int) (hf : inI f) (hw : inI warn) (h : ¬ (f < 0 ∨ s < 1)) : (if 0 < wrap64 (f / s - if 0 < warn then warn else 0) then wrap64 (f / s - if 0 < warn then warn else 0) else 0) = ofN f s warn := by
  have e : wrap64 (f / s - if 0 < warn then warn else 0) = f / s - if 0 < warn then warn else 0 := by
    have := Int.ediv_nonneg (a := f) (b := s) (by omega) (by omega)
    have := Int.ediv_le_self s (a := f) (by omega)
    unfold inI at hf hw
    unfold wrap64; split <;> omega
  rw [e, ofN_ok f s warn h]
  generalize f / s = q
  split <;> split <;> omega

theorem below_in {B : Nat} {w1 wr w2 : World} (h : Below B w1 wr) (k : Below wr.heap.size wr w2) (hB : B ≤ wr.heap.size) : Below B w1 w2 := h.trans (k.mono hB)
abbrev OfBlk (w : World) (g : Nat) (a b c : Int) : Prop := w.heap[g]? = some (.cells #[.int .i64 a, .int .i64 b, .int .i64 c] 32 (0, 0))
theorem ofBlk_0 {w : World} {g : Nat} {a b c : Int} (h : OfBlk w g a b c) : w.cell? ⟨g, 0, none⟩ = some (.int .i64 a) ∧ w.frozen? ⟨g, 0, none⟩ = false ∧ ∀ n, OfBlk (w.setCell ⟨g, 0, none⟩ (.int .i64 n)) g n b c := ⟨by simp [World.cell?, h], by simp [World.frozen?, h], fun n => by simp [OfBlk, World.setCell, Array.getElem?_modify, h]⟩
theorem ofBlk_1 {w : World} {g : Nat} {a b c : Int} (h : OfBlk w g a b c) : w.cell? ⟨g, 1, none⟩ = some (.int .i64 b) ∧ w.frozen? ⟨g, 1, none⟩ = false ∧ ∀ n, OfBlk (w.setCell ⟨g, 1, none⟩ (.int .i64 n)) g a n c := ⟨by simp [World.cell?, h], by simp [World.frozen?, h], fun n => by simp [OfBlk, World.setCell, Array.getElem?_modify, h]⟩
theorem ofBlk_2 {w : World} {g : Nat} {a b c : Int} (h : OfBlk w g a b c) : w.cell? ⟨g, 2, none⟩ = some (.int .i64 c) ∧ w.frozen? ⟨g, 2, none⟩ = false ∧ ∀ n, OfBlk (w.setCell ⟨g, 2, none⟩ (.int .i64 n)) g a b n := ⟨by simp [World.cell?, h], by simp [World.frozen?, h], fun n => by simp [OfBlk, World.setCell, Array.getElem?_modify, h]⟩
theorem OfBlk.cells {w : World} {g : Nat} {a b c : Int} (h : OfBlk w g a b c) : w.cell? ⟨g, 0, none⟩ = some (.int .i64 a) ∧ w.cell? ⟨g, 1, none⟩ = some (.int .i64 b) ∧ w.cell? ⟨g, 2, none⟩ = some (.int .i64 c) ∧ w.frozen? ⟨g, 0, none⟩ = false ∧ w.frozen? ⟨g, 1, none⟩ = false ∧ w.frozen? ⟨g, 2, none⟩ = false := ⟨by simp [World.cell?, h], by simp [World.cell?, h], by simp [World.cell?, h], by simp [World.frozen?, h], by simp [World.frozen?, h], by simp [World.frozen?, h]⟩
set_option maxHeartbeats 4000000 in
set_option maxRecDepth 100000 in
theorem d_of (x : Ln) (warn : Int) (w : World) (hx : inLn x) (hw : inI warn) : Calls Tryd.prog 21 #[lnv x, .int .i64 warn] w fun e w' => e = .returned (ofv x warn) ∧ Below w.heap.size w w' := by
  obtain ⟨h0, h1, h2, h3, h4⟩ := hx
  have HI0 := Lib.hid h0; have HI2 := Lib.hid h2; have HI3 := Lib.hid h3; have HI4 := Lib.hid h4; have HW := Lib.hid hw
  clear h0 h1 h2 h3 h4 hw
  obtain ⟨st, sg, a, b, c⟩ := x
  have i0 : ∀ w, (Instr.index 32 (.agg #[.int .i64 a, .int .i64 b, .int .i64 c]) (.int .i64 0)).run Tryd.prog w = .ok (.int .i64 a) w := fun _ => by kernel_rfl
  have i1 : ∀ w, (Instr.index 32 (.agg #[.int .i64 a, .int .i64 b, .int .i64 c]) (.int .i64 1)).run Tryd.prog w = .ok (.int .i64 b) w := fun _ => by kernel_rfl
  have i2 : ∀ w, (Instr.index 32 (.agg #[.int .i64 a, .int .i64 b, .int .i64 c]) (.int .i64 2)).run Tryd.prog w = .ok (.int .i64 c) w := fun _ => by kernel_rfl
  have HB := Lib.hid (below_st w (.cells #[.int .i64 st, .int .i64 sg, .int .i64 a, .int .i64 b, .int .i64 c] 34))
  go_enter Tryd.func21, Tryd.ntmps21
  go_wp2_with fail
  have HX := Lib.hid (show (w.alloc (.cells #[.int .i64 st, .int .i64 sg, .int .i64 a, .int .i64 b, .int .i64 c] 34)).cell? ⟨w.heap.size, 0, none⟩ = some (.int .i64 st) by simp)
  go_loopw [11] (fun s11 wr => ∃ k : Nat, k ≤ 3 ∧ s11 = .int .i64 k ∧ OfBlk wr (w.heap.size + 1) (if 0 < k then ofN st a warn else 0) (if 1 < k then ofN st b warn else 0) (if 2 < k then ofN st c warn else 0) ∧ Below (w.heap.size + 1) (w.alloc (.cells #[.int .i64 st, .int .i64 sg, .int .i64 a, .int .i64 b, .int .i64 c] 34)) wr) (fun s11 _ => 3 - (intOf s11).toNat)
  case atStart => exact ⟨0, by omega, rfl, heap_alloc2_new w _ _, (Below.refl _ _).alloc (by simp) _⟩
  case round =>
    obtain ⟨k, hk, rfl, hblk, hbr⟩ := hrel
    rcases (by omega : k = 0 ∨ k = 1 ∨ k = 2 ∨ k = 3) with rfl | rfl | rfl | rfl
    · have HF := Lib.hid hblk
      have HR := Lib.hid hbr
      have x0 := (HR.out.cell (p := ⟨w.heap.size, 0, none⟩) (by simp)).trans HX.out
      clear hblk hbr
      go_wp2_with fail
      refine (d_way st a wr HI0.out HI2.out).mono ?_
      rintro r w' ⟨v, rfl, hv, hb⟩
      have hsz : w.heap.size + 1 ≤ wr.heap.size := by have := HR.out.size; simpa using this
      have HS2 := Lib.hid hsz
      have HR2 := Lib.hid (below_in HR.out hb hsz)
      have hF2 := (hb.block (w.heap.size + 1) (by exact Nat.lt_of_lt_of_le (Array.getElem?_eq_some_iff.mp HF.out).1 (Nat.le_refl _))).trans HF.out
      clear hsz
      by_cases hok : st < 0 ∨ a < 1
      · rw [if_pos hok] at hv ⊢
        have h0 : ofN st a warn = 0 := if_pos hok
        rcases hv with ⟨h, _⟩ | ⟨_, d, hd⟩
        · exact absurd h (by decide)
        obtain ⟨t, u, rfl⟩ := hd.iface
        clear hd hb hok
        go_wp2_with fail
        exact ⟨⟨0 + 1, by omega, by go_num, by simpa [h0] using hF2, HR2.out⟩, by simp [intOf]⟩
      · rw [if_neg hok] at hv ⊢
        have h0 := of_form st a warn HI0.out HW.out hok
        rcases hv with ⟨_, rfl⟩ | ⟨h, _⟩
        rotate_left
        · exact absurd h (by decide)
        obtain ⟨c0, f0, hset⟩ := ofBlk_0 hF2
        have HS := Lib.hid hset
        have H0 := Lib.hid h0
        clear hb hok hF2 hset h0
        go_wp2_with fail
        refine ⟨⟨0 + 1, by omega, by go_num, ?_, HR2.out.setCell (Nat.le_refl _) _⟩, by simp [intOf]⟩
        rw [H0.out]
        simpa using HS.out (ofN st a warn)
    · have HF := Lib.hid hblk
      have HR := Lib.hid hbr
      have x0 := (HR.out.cell (p := ⟨w.heap.size, 0, none⟩) (by simp)).trans HX.out
      clear hblk hbr
      go_wp2_with fail
      refine (d_way st b wr HI0.out HI3.out).mono ?_
      rintro r w' ⟨v, rfl, hv, hb⟩
      have hsz : w.heap.size + 1 ≤ wr.heap.size := by have := HR.out.size; simpa using this
      have HS2 := Lib.hid hsz
      have HR2 := Lib.hid (below_in HR.out hb hsz)
      have hF2 := (hb.block (w.heap.size + 1) (by exact Nat.lt_of_lt_of_le (Array.getElem?_eq_some_iff.mp HF.out).1 (Nat.le_refl _))).trans HF.out
      clear hsz
      by_cases hok : st < 0 ∨ b < 1
      · rw [if_pos hok] at hv ⊢
        have h0 : ofN st b warn = 0 := if_pos hok
        rcases hv with ⟨h, _⟩ | ⟨_, d, hd⟩
        · exact absurd h (by decide)
        obtain ⟨t, u, rfl⟩ := hd.iface
        clear hd hb hok
        go_wp2_with fail
        exact ⟨⟨1 + 1, by omega, by go_num, by simpa [h0] using hF2, HR2.out⟩, by simp [intOf]⟩
      · rw [if_neg hok] at hv ⊢
        have h0 := of_form st b warn HI0.out HW.out hok
        rcases hv with ⟨_, rfl⟩ | ⟨h, _⟩
        rotate_left
        · exact absurd h (by decide)
        obtain ⟨c0, f0, hset⟩ := ofBlk_1 hF2
        have HS := Lib.hid hset
        have H0 := Lib.hid h0
        clear hb hok hF2 hset h0
        go_wp2_with fail
        refine ⟨⟨1 + 1, by omega, by go_num, ?_, HR2.out.setCell (Nat.le_refl _) _⟩, by simp [intOf]⟩
        rw [H0.out]
        simpa using HS.out (ofN st b warn)
    · have HF := Lib.hid hblk
      have HR := Lib.hid hbr
      have x0 := (HR.out.cell (p := ⟨w.heap.size, 0, none⟩) (by simp)).trans HX.out
      clear hblk hbr
      go_wp2_with fail
      refine (d_way st c wr HI0.out HI4.out).mono ?_
      rintro r w' ⟨v, rfl, hv, hb⟩
      have hsz : w.heap.size + 1 ≤ wr.heap.size := by have := HR.out.size; simpa using this
      have HS2 := Lib.hid hsz
      have HR2 := Lib.hid (below_in HR.out hb hsz)
      have hF2 := (hb.block (w.heap.size + 1) (by exact Nat.lt_of_lt_of_le (Array.getElem?_eq_some_iff.mp HF.out).1 (Nat.le_refl _))).trans HF.out
      clear hsz
      by_cases hok : st < 0 ∨ c < 1
      · rw [if_pos hok] at hv ⊢
        have h0 : ofN st c warn = 0 := if_pos hok
        rcases hv with ⟨h, _⟩ | ⟨_, d, hd⟩
        · exact absurd h (by decide)
        obtain ⟨t, u, rfl⟩ := hd.iface
        clear hd hb hok
        go_wp2_with fail
        exact ⟨⟨2 + 1, by omega, by go_num, by simpa [h0] using hF2, HR2.out⟩, by simp [intOf]⟩
      · rw [if_neg hok] at hv ⊢
        have h0 := of_form st c warn HI0.out HW.out hok
        rcases hv with ⟨_, rfl⟩ | ⟨h, _⟩
        rotate_left
        · exact absurd h (by decide)
        obtain ⟨c0, f0, hset⟩ := ofBlk_2 hF2
        have HS := Lib.hid hset
        have H0 := Lib.hid h0
        clear hb hok hF2 hset h0
        go_wp2_with fail
        refine ⟨⟨2 + 1, by omega, by go_num, ?_, HR2.out.setCell (Nat.le_refl _) _⟩, by simp [intOf]⟩
        rw [H0.out]
        simpa using HS.out (ofN st c warn)
    · have hblk : OfBlk wr (w.heap.size + 1) (ofN st a warn) (ofN st b warn) (ofN st c warn) := by simpa using hblk
      have HF := Lib.hid hblk
      have HR := Lib.hid hbr
      obtain ⟨c0, c1, c2, f0, f1, f2⟩ := OfBlk.cells hblk
      clear hblk hbr
      go_wp2_with fail
      have hend := (ofBlk_2 ((ofBlk_1 ((ofBlk_0 HF.out).2.2 (ofN st a warn))).2.2 (ofN st b warn))).2.2 (ofN st c warn)
      refine bodyPost_ret (results_cell_row rfl _ _ (w.heap.size + 1) _ _ _ _ rfl hend Tryd.underlying32 rfl (by kernel_rfl)) rfl ?_
      refine ⟨rfl, ?_⟩
      exact (HB.out.trans ((((HR.out.setCell (Nat.le_refl _) _).setCell (Nat.le_refl _) _).setCell (Nat.le_refl _) _).mono (Nat.le_succ _)))
end Go.Proofs.YtflicahchahcnaaDoor
