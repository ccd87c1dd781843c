/- Several texts in one. -/
import Derived.Test.YtcppmihambcihaaDoorJrPure
import Derived.Test.YtcppmihambcihaaDoorByFr
import Derived.Test.YtcppmihambcihaaDoorPiv
import Derived.LoopTactic
import Derived.Test.YtcppmihambcihaaDoorJrSmall
/- crossbuckref15.Store: New, Write, Kill, Revive. -/
namespace Go.Proofs.YtcppmihambcihaaDoor
open Go Go.RowKit Go.Shelf
set_option linter.unusedVariables false
set_option linter.unusedSimpArgs false
theorem wpList_append_byb {w : World} {ops : Array Oper} {rest : List Oper} {o : Oper} {a : Act} {Q : Exit → Act → World → Prop} (hgd : o.guard = none) (s x : Operand)
    (ho : o.op = .call { callee := .builtin .append, args := #[s, x], argTypes := #[29, 29] }) (base : Nat) (hbase : base ≤ w.heap.size) (v : Value) (xs : List UInt8) (hs : a.eval s = v) (hown : OwnB w base v xs)
    (A : Option Addr) (m c : Nat) (news : List UInt8) (hx : a.eval x = .slice A m c) (hr : RS w A m c news) (hlen : xs.length + m ≤ 140737488355328)
    (h : ∀ v' w', OwnB w' base v' (xs ++ news) → Below base w w' → w.grownBy w' v.ownBlock → (∀ g, v'.ownBlock = some g → v.ownBlock = some g ∨ w.heap.size ≤ g) → wpList Tryd.prog ops Q rest (a.put o.dst v') w') : wpList Tryd.prog ops Q (o :: rest) a w :=
  wpList_plain hgd fun _ hK => wp_append_by s x ho base hbase v xs hs hown A m c news hx hr hlen fun v' w' h1 h2 h3 h4 => hK _ _ (h v' w' h1 h2 h3 h4)
abbrev rsc (v : Value) (left : Int) (dead : Bool) : Array Value := #[v, .int .i64 left, .bool dead]
def lfOk (left : Int) : Option Nat → Prop
  | none => left = -1
  | some k => left = k ∧ k ≤ 9223372036854775807
/-- The document's store at x, its bytes in v. -/
structure RfAt (w : World) (x : Nat) (v : Value) (left : Int) (t : Sto) : Prop where
  heap : w.heap[x]? = some (.cells (rsc v left t.dead) 58 (0, 0))
  own : OwnB w (x + 1) v t.xs
  small : t.xs.length ≤ 65536
  lim : lfOk left t.lim
def RfIs (w : World) (x : Nat) (v : Value) (t : Sto) : Prop := ∃ left, RfAt w x v left t
theorem RfAt.lt {w : World} {x : Nat} {v : Value} {left : Int} {t : Sto} (h : RfAt w x v left t) : x < w.heap.size := (Array.getElem?_eq_some_iff.1 h.heap).1
theorem RfIs.lt {w : World} {x : Nat} {v : Value} {t : Sto} (h : RfIs w x v t) : x < w.heap.size ∧ ∀ b, v.ownBlock = some b → x < b ∧ b < w.heap.size := by
  obtain ⟨l, h⟩ := h
  exact ⟨h.lt, fun b hb => by have := h.own.own b hb; omega⟩
theorem RfAt.fr {F : Nat → Prop} {w w' : World} {x : Nat} {v : Value} {left : Int} {t : Sto} (h : RfAt w x v left t) (hf : Fr F w w') (h1 : ¬ F x) (h2 : ∀ b, v.ownBlock = some b → ¬ F b) : RfAt w' x v left t :=
  ⟨(hf.block x h.lt h1).trans h.heap, h.own.fr hf h2, h.small, h.lim⟩
theorem RfIs.fr {F : Nat → Prop} {w w' : World} {x : Nat} {v : Value} {t : Sto} (h : RfIs w x v t) (hf : Fr F w w') (h1 : ¬ F x) (h2 : ∀ b, v.ownBlock = some b → ¬ F b) : RfIs w' x v t := by
  obtain ⟨l, h⟩ := h
  exact ⟨l, h.fr hf h1 h2⟩
theorem RfIs.below {w w' : World} {x : Nat} {v : Value} {t : Sto} (h : RfIs w x v t) (hb : Below w.heap.size w w') : RfIs w' x v t := h.fr (Fr.ofBelow hb (fun _ => False)) id (fun _ _ h => h)
theorem RfAt.cells {w : World} {x : Nat} {v : Value} {left : Int} {t : Sto} (h : RfAt w x v left t) :
    w.cell? ⟨x, 0, none⟩ = some v ∧ w.cell? ⟨x, 1, none⟩ = some (.int .i64 left) ∧ w.cell? ⟨x, 2, none⟩ = some (.bool t.dead) ∧ ∀ i, w.frozen? ⟨x, i, none⟩ = false := by
  refine ⟨?_, ?_, ?_, fun i => ?_⟩ <;> simp [World.cell?, World.frozen?, h.heap]
theorem RfAt.set {w w' : World} {x : Nat} {v : Value} {left : Int} {t : Sto} (h : RfAt w x v left t) (hf : Fr (fun k => k = x) w w') {left' : Int} {lim' : Option Nat} {dead' : Bool} (hh : w'.heap[x]? = some (.cells (rsc v left' dead') 58 (0, 0))) (hl : lfOk left' lim') : RfAt w' x v left' ⟨t.xs, lim', dead'⟩ :=
  ⟨hh, h.own.fr hf (fun b hb e => by have := h.own.own b hb; omega), h.small, hl⟩
set_option maxHeartbeats 4000000 in
set_option maxRecDepth 100000 in
theorem rf_new15 (n : Nat) (hn : n ≤ 65536) (w : World) : Calls Tryd.prog 35 #[.int .i64 n] w fun e w' => e = .returned (.pointer (some ⟨w.heap.size, 0, none⟩)) ∧ (∃ v, RfIs w' w.heap.size v ⟨List.replicate n 255, none, false⟩) ∧ Below w.heap.size w w' := by
  have n0 : ¬ (n : Int) < 0 := by omega
  have n1 : ¬ (65536 : Int) < (n : Int) := by omega
  have n2 : (n : Int) ≤ 65536 := by omega
  have hst : ∃ v, RfIs (w.alloc (.cells (rsc (.slice none 0 0) (-1) false) 58)) w.heap.size v ⟨List.replicate 0 255, none, false⟩ := ⟨_, -1, heap_alloc_new w _, OwnB.nil _ _, by simp, rfl⟩
  have hb0 := below_new w (.cells (rsc (.slice none 0 0) (-1) false) 58)
  go_enter Tryd.func35, Tryd.ntmps35
  go_wp2_with fail
  go_loopw [4] (fun s4 wr => ∃ i : Nat, i ≤ n ∧ s4 = .int .i64 i ∧ (∃ v, RfIs wr w.heap.size v ⟨List.replicate i 255, none, false⟩) ∧ Below w.heap.size w wr) (fun s4 _ => n - (intOf s4).toNat)
  case atStart => exact ⟨0, Nat.zero_le _, rfl, hst, hb0⟩
  case round =>
    obtain ⟨i, hi, rfl, ⟨v, left, hrf⟩, hb⟩ := hrel
    clear hst hb0
    have HRF := Lib.hid hrf
    have HB := Lib.hid hb
    have HN := Lib.hid hn
    by_cases hlt : i < n
    · have hlt' : (i : Int) < n := by omega
      have HI := Lib.hid hlt
      have hbn := below_new wr (.cells #[.int .u8 255] 5)
      have HR := Lib.hid (show RS (wr.alloc (.cells #[.int .u8 255] 5)) (some ⟨wr.heap.size, 0, none⟩) 1 1 [255] from rs_new wr [255] 5 (by decide))
      have hf1 := hrf.fr (Fr.ofBelow hbn (fun _ => False)) id (fun _ _ h => h)
      obtain ⟨c0, c1, c2, cf⟩ := hrf.cells
      obtain ⟨A0, c9, rfl, _⟩ := hrf.own.reads
      rw [show (Sto.mk (List.replicate i 255) none false).xs.length = i from List.length_replicate] at hrf hf1 c0
      obtain ⟨d0, d1, d2, df⟩ := hf1.cells
      have HF1 := Lib.hid hf1
      replace HB := Lib.hid (below_step HB.out hbn)
      clear hb hrf hf1 hbn hi hlt hn HRF
      go_wp2_with (at_builtin; go_must (refine wpList_append_byb rfl _ _ rfl (w.heap.size + 1) (by have := HF1.out.lt; omega) _ _ rfl HF1.out.own _ _ _ [255] rfl HR.out (by rw [List.length_replicate]; have := HI.out; have := HN.out; show i + 1 ≤ _; omega) ?_; intro v6 w6 hown6 hb6 hg6 hf6; rw [← List.replicate_succ'] at hown6; obtain ⟨A6, c6, rfl, _⟩ := hown6.reads; rw [List.length_replicate] at hown6 ⊢; have hx6 : w6.heap[w.heap.size]? = _ := (hb6.block w.heap.size (by omega)).trans HF1.out.heap; have e0 : w6.cell? ⟨w.heap.size, 0, none⟩ = some (.slice A0 i c9) := (by simp [World.cell?, hx6]); have ef : w6.frozen? ⟨w.heap.size, 0, none⟩ = false := (by simp [World.frozen?, hx6]); have HX6 := Lib.hid hx6; have HO6 := Lib.hid hown6; have HB6 := Lib.hid (HB.out.trans (show Below w.heap.size _ w6 from hb6.mono (by omega))); clear hx6 hown6 hb6 hg6 hf6 c0 c1 c2 cf d0 d1 d2 df))
      have hf9 := fr_setCell (F := fun k => k = w.heap.size) (w := w6) ⟨w.heap.size, 0, none⟩ (.slice A6 (i + 1) c6) rfl
      refine ⟨⟨i + 1, by have := HI.out; omega, by go_num, ⟨.slice A6 (i + 1) c6, left, ?_, ?_, ?_, HF1.out.lim⟩, HB6.out.trans (hf9.below w.heap.size HB6.out.size (fun k e => by omega))⟩, by have := HI.out; simp [intOf]; omega⟩
      · simp [World.setCell, Array.getElem?_modify, HX6.out]
      · show OwnB _ _ (.slice A6 (i + 1) c6) (List.replicate (i + 1) 255)
        exact HO6.out.fr hf9 (fun b hb e => by have := HO6.out.own b hb; omega)
      · show (List.replicate (i + 1) (255 : UInt8)).length ≤ 65536
        rw [List.length_replicate]
        have := HI.out
        have := HN.out
        omega
    · obtain rfl : i = n := by omega
      clear hb hrf hn
      go_wp2_with fail
      go_ret
      exact ⟨rfl, ⟨v, left, HRF.out⟩, HB.out⟩
theorem splice_step15 (xs ys : List UInt8) (a j : Nat) (hj : j < ys.length) (ha : a + j < xs.length) : (splice xs a (ys.take j)).set (a + j) (ys.getD j 0) = splice xs a (ys.take (j + 1)) := by
  have h1 : (ys.take j).length = j := by rw [List.length_take]; omega
  have h2 : (ys.take (j + 1)).length = j + 1 := by rw [List.length_take]; omega
  have hl : (splice xs a (ys.take j)).length = xs.length := length_splice _ _ _ (by omega)
  apply List.ext_getElem?
  intro i
  rw [List.getElem?_set, splice_get _ _ _ _ (by omega), splice_get _ _ _ _ (by omega), h1, h2, hl]
  by_cases e : a + j = i
  · subst e
    rw [if_pos rfl, if_pos ha, if_neg (by omega), if_pos (by omega), show a + j - a = j by omega, List.getElem?_take, if_pos (by omega), List.getD_eq_getElem?_getD, List.getElem?_eq_getElem hj]
    rfl
  · rw [if_neg e]
    by_cases h3 : i < a
    · rw [if_pos h3, if_pos h3]
    · rw [if_neg h3, if_neg h3]
      by_cases h4 : i < a + j
      · rw [if_pos h4, if_pos (by omega), List.getElem?_take, List.getElem?_take, if_pos (by omega), if_pos (by omega)]
      · rw [if_neg h4, if_neg (by omega)]
set_option maxHeartbeats 1000000 in
theorem rf_kill15 (x : Nat) (v : Value) (t : Sto) (z : Int) (w : World) (hz : z ≤ 9223372036854775807) (h : RfIs w x v t) :
    Calls Tryd.prog 21 #[.pointer (some ⟨x, 0, none⟩), .int .i64 z] w fun e w' => e = .returned (.tuple #[]) ∧ RfIs w' x v ⟨t.xs, some z.toNat, t.dead⟩ ∧ Fr (fun k => k = x) w w' := by
  obtain ⟨left, h⟩ := h
  obtain ⟨c0, c1, c2, cf⟩ := h.cells
  by_cases h0 : z < 0
  · have hfr := fr_setCell (F := fun k => k = x) (w := w) ⟨x, 1, none⟩ (.int .i64 0) rfl
    have HR := Lib.hid (And.intro (show RfIs _ x v ⟨t.xs, some z.toNat, t.dead⟩ from ⟨0, h.set hfr (by simp [World.setCell, Array.getElem?_modify, h.heap]) ⟨by omega, by omega⟩⟩) hfr)
    clear h hfr
    go_enter Tryd.func21, Tryd.ntmps21
    go_wp2_with fail
    go_end0
    exact ⟨rfl, HR.out⟩
  · have hfr := fr_setCell (F := fun k => k = x) (w := w) ⟨x, 1, none⟩ (.int .i64 z) rfl
    have HR := Lib.hid (And.intro (show RfIs _ x v ⟨t.xs, some z.toNat, t.dead⟩ from ⟨z, h.set hfr (by simp [World.setCell, Array.getElem?_modify, h.heap]) ⟨by omega, by omega⟩⟩) hfr)
    clear h hfr
    go_enter Tryd.func21, Tryd.ntmps21
    go_wp2_with fail
    go_end0
    exact ⟨rfl, HR.out⟩
set_option maxHeartbeats 1000000 in
theorem rf_revive15 (x : Nat) (v : Value) (t : Sto) (w : World) (h : RfIs w x v t) :
    Calls Tryd.prog 23 #[.pointer (some ⟨x, 0, none⟩)] w fun e w' => e = .returned (.tuple #[]) ∧ RfIs w' x v ⟨t.xs, none, false⟩ ∧ Fr (fun k => k = x) w w' := by
  obtain ⟨left, h⟩ := h
  obtain ⟨c0, c1, c2, cf⟩ := h.cells
  have hfr := fr_same (fr_setCell (F := fun k => k = x) (w := w) ⟨x, 2, none⟩ (.bool false) rfl) (fr_setCell (F := fun k => k = x) ⟨x, 1, none⟩ (.int .i64 (-1)) rfl)
  have HR := Lib.hid (And.intro (show RfIs _ x v ⟨t.xs, none, false⟩ from ⟨-1, h.set hfr (by simp [World.setCell, Array.getElem?_modify, h.heap]) rfl⟩) hfr)
  clear h hfr
  go_enter Tryd.func23, Tryd.ntmps23
  go_wp2_with fail
  go_end0
  exact ⟨rfl, HR.out⟩
/-- How far a write has come. -/
structure WrAt (w : World) (x : Nat) (v : Value) (t : Sto) (a : Nat) (ys : List UInt8) (i : Nat) (wr : World) : Prop where
  at_ : RfIs wr x v ⟨splice t.xs a (ys.take i), t.lim.map (· - i), false⟩
  lim : ∀ k, t.lim = some k → i ≤ k
  fr : Fr (fun k => k = x ∨ v.ownBlock = some k) w wr
set_option maxHeartbeats 8000000 in
set_option maxRecDepth 100000 in
theorem rf_write15 (x : Nat) (v : Value) (t : Sto) (a : Nat) (A : Option Addr) (m c : Nat) (ys : List UInt8) (w : World) (h : RfIs w x v t) (ha : a ≤ 100000) (hr : RS w A m c ys) (hm : m ≤ 100000) (far : 0 < m → ∀ b o, A = some ⟨b, o, none⟩ → b ≠ x ∧ v.ownBlock ≠ some b) :
    Calls Tryd.prog 36 #[.pointer (some ⟨x, 0, none⟩), .int .i64 a, .slice A m c] w fun e w' => e = .returned (.int .i64 (t.wr a ys).1) ∧ RfIs w' x v (t.wr a ys).2 ∧ Fr (fun k => k = x ∨ v.ownBlock = some k) w w' := by
  have HI := Lib.hid h
  have hl := hr.len
  obtain ⟨left, h⟩ := h
  obtain ⟨c0, c1, c2, cf⟩ := h.cells
  have hsm := h.small
  obtain ⟨Av, cv, hv, _⟩ := h.own.reads
  have a0 : ¬ (a : Int) < 0 := by omega
  have HR := Lib.hid hr
  have HFAR := Lib.hid far
  have HM := Lib.hid (show a ≤ 100000 ∧ m ≤ 100000 ∧ ys.length = m ∧ t.xs.length ≤ 65536 by omega)
  cases hdd : t.dead with
  | true =>
    have HW := Lib.hid (show t.wr a ys = (7, t) by unfold Sto.wr; rw [if_pos hdd])
    rw [hdd] at c2
    clear h hr far hv
    go_enter Tryd.func36, Tryd.ntmps36
    go_wp2_with fail
    go_ret
    rw [HW.out]
    exact ⟨rfl, HI.out, Fr.refl _ _⟩
  | false =>
    rw [hdd] at c2
    by_cases hin : t.xs.length < a + m
    · have HW := Lib.hid (show t.wr a ys = (6, t) by unfold Sto.wr; rw [if_neg (by rw [hdd]; decide), if_pos (by rw [hl]; exact hin)])
      subst hv
      have h1 : IntKind.i64.wrap ((t.xs.length : Int) - (a : Int)) = (t.xs.length : Int) - (a : Int) := by simp [IntKind.wrap, IntKind.bits, IntKind.signed]; omega
      by_cases h2 : t.xs.length < a
      · have h2' : (t.xs.length : Int) < (a : Int) := by omega
        clear h hr far h2 hin
        generalize t.xs.length = n at *
        go_enter Tryd.func36, Tryd.ntmps36
        go_wp2_with fail
        go_ret
        rw [HW.out]
        exact ⟨rfl, HI.out, Fr.refl _ _⟩
      · have h2' : ¬ (t.xs.length : Int) < (a : Int) := by omega
        have h3 : (t.xs.length : Int) - (a : Int) < (m : Int) := by omega
        clear h hr far h2 hin
        generalize t.xs.length = n at *
        go_enter Tryd.func36, Tryd.ntmps36
        go_wp2_with fail
        go_ret
        rw [HW.out]
        exact ⟨rfl, HI.out, Fr.refl _ _⟩
    replace hin : a + m ≤ t.xs.length := by omega
    have HST := Lib.hid (show WrAt w x v t a ys 0 w from ⟨by
      rw [List.take_zero, splice_zero]
      obtain ⟨xs, lim, dead⟩ := t
      obtain rfl : dead = false := hdd
      cases lim with
      | none => exact HI.out
      | some k => exact HI.out, fun k _ => Nat.zero_le k, Fr.refl _ _⟩)
    have HIN := Lib.hid hin
    have HDD := Lib.hid hdd
    subst hv
    have h1 : IntKind.i64.wrap ((t.xs.length : Int) - (a : Int)) = (t.xs.length : Int) - (a : Int) := by simp [IntKind.wrap, IntKind.bits, IntKind.signed]; omega
    have h2' : ¬ (t.xs.length : Int) < (a : Int) := by omega
    have h3 : ¬ (t.xs.length : Int) - (a : Int) < (m : Int) := by omega
    clear h hr far hin
    generalize hn : t.xs.length = n at *
    have HNN := Lib.hid hn
    clear hn
    go_enter Tryd.func36, Tryd.ntmps36
    go_wp2_with fail
    clear c0 c1 c2 cf
    go_loopw [7] (fun s7 wr => ∃ i : Nat, i ≤ m ∧ s7 = .int .i64 i ∧ WrAt w x (.slice Av n cv) t a ys i wr) (fun s7 _ => m - (intOf s7).toNat)
    case atStart => exact ⟨0, Nat.zero_le _, rfl, HST.out⟩
    case round =>
      obtain ⟨i, hi, rfl, hwr⟩ := hrel
      have HWR := Lib.hid hwr
      clear hwr HST
      obtain ⟨lefti, hat⟩ := HWR.out.at_
      have HAT := Lib.hid hat
      obtain ⟨c0, c1, c2, cf⟩ := hat.cells
      have hlf := hat.lim
      by_cases hlt : i < m
      · have hlt' : (i : Int) < m := by omega
        have hsl : (splice t.xs a (ys.take i)).length = n := by rw [length_splice _ _ _ (by rw [List.length_take]; have := HM.out; have := HIN.out; have := HNN.out; omega)]; exact HNN.out
        obtain ⟨gv, rfl, hgx⟩ : ∃ gv, Av = some ⟨gv, 0, none⟩ ∧ x < gv := by
          rcases hat.own.form with ⟨_, h0⟩ | ⟨gv, c9, he, hg, _⟩
          · rw [show splice t.xs a (ys.take i) = [] from h0] at hsl
            have := HIN.out
            simp at hsl
            omega
          · cases he
            exact ⟨gv, rfl, by omega⟩
        obtain ⟨b, off, rfl, hbl, hc⟩ := HR.out.rb.cells (by omega)
        have hbx := HFAR.out (by omega) b off rfl
        have hbg : b ≠ gv := fun e => hbx.2 (by rw [e]; rfl)
        have HY := Lib.hid (show ∀ w', Fr (fun k => k = gv) wr w' → w'.cell? ⟨b, off + i, none⟩ = some (bv (ys.getD i 0)) from fun w' hf =>
          ((hf.cell (p := ⟨b, off + i, none⟩) (by have := HWR.out.fr.size; show b < _; omega) hbg).trans (HWR.out.fr.cell (p := ⟨b, off + i, none⟩) hbl (fun h => by rcases h with h | h; exact hbx.1 h; exact hbx.2 h))).trans (hc i hlt))
        have HG := Lib.hid (And.intro hgx hbl)
        have HI2 := Lib.hid hlt
        have HSL := Lib.hid hsl
        clear hc hbx hbg hbl hgx hsl hi hlt hlf
        cases hlim : t.lim with
        | none =>
          have hlf : lefti = -1 := by have := HAT.out.lim; rw [show (Option.map (fun x => x - i) t.lim) = none by rw [hlim]; rfl] at this; exact this
          subst hlf
          have HLM := Lib.hid hlim
          clear hlim
          have ea : IntKind.i64.wrap ((a : Int) + (i : Int)) = (a : Int) + (i : Int) := by have := HM.out; have := HI2.out; simp [IntKind.wrap, IntKind.bits, IntKind.signed]; omega
          have ean : (a : Int) + (i : Int) < (n : Int) := by have := HIN.out; have := HI2.out; omega
          have HEAN := Lib.hid ean
          have ea0 : (0 : Int) ≤ (a : Int) + (i : Int) := by omega
          have et : ((a : Int) + (i : Int)).toNat = a + i := by omega
          have y0 := HY.out
          unfold bv at y0
          go_upto_region 11 with fail
          clear c1 c2 cf
          have hS0 : Fr (fun k => k = gv) wr wr.drew := fr_drew _ wr
          have x0 : ∀ w', Fr (fun k => k = gv) wr w' → w'.cell? ⟨x, 0, none⟩ = some (.slice (some ⟨gv, 0, none⟩) n cv) := fun w' hf => (hf.cell (p := ⟨x, 0, none⟩) HAT.out.lt (fun e => by have := HG.out.1; have e : x = gv := e; omega)).trans c0
          have HAT0 := Lib.hid (HAT.out.fr (Fr.ofBelow (below_drew1 wr) (fun _ => False)) id (fun _ _ h => h))
          have hcell := HAT0.out.own.rs.rb.cells (by have := HEAN.out; omega)
          obtain ⟨b9, o9, e9, _, hc9⟩ := hcell
          cases e9
          have y1 := hc9 (a + i) (by have := HEAN.out; omega)
          rw [Nat.zero_add] at y1
          unfold bv at y1
          have yf : wr.drew.frozen? ⟨gv, a + i, none⟩ = false := (HAT0.out.own.free rfl).2.2.2 _
          have hset := HAT0.out.own.set (a + i) (by show a + i < (splice t.xs a (ys.take i)).length; rw [HSL.out]; have := HEAN.out; omega) (ys.getD i 0)
          have hset2 : OwnB (wr.drew.setCell ⟨gv, a + i, none⟩ (bv (ys.getD i 0))) (x + 1) (.slice (some ⟨gv, 0, none⟩) n cv) (splice t.xs a (ys.take (i + 1))) := by
            rw [← splice_step15 t.xs ys a i (by have := HM.out; have := HI2.out; omega) (by have := HNN.out; have := HEAN.out; omega)]
            exact hset
          have hfs := fr_setCell (F := fun k => k = gv) (w := wr.drew) ⟨gv, a + i, none⟩ (bv (ys.getD i 0)) rfl
          have HNEW := Lib.hid (show RfAt (wr.drew.setCell ⟨gv, a + i, none⟩ (bv (ys.getD i 0))) x (.slice (some ⟨gv, 0, none⟩) n cv) _ ⟨splice t.xs a (ys.take (i + 1)), t.lim.map (· - i), false⟩ from
            ⟨(hfs.block x HAT0.out.lt (fun e => by have := HG.out.1; omega)).trans HAT0.out.heap, hset2, by show (splice t.xs a (ys.take (i + 1))).length ≤ 65536; rw [length_splice _ _ _ (by rw [List.length_take]; have := HM.out; have := HIN.out; have := HNN.out; omega), HNN.out]; exact HM.out.2.2.2, HAT.out.lim⟩)
          have HFS := Lib.hid (fr_same hS0 hfs)
          clear hset hset2 hfs hc9 hat
          unfold bv at HNEW HFS
          refine wp_region_held (S := fun w' => Fr (fun k => k = gv) wr w') (by kernel_rfl) ?_
          change wpAnyH _ _ _ _ _ _ _ _ wr.drew
          generalize wr.drew = w0 at *
          generalize hyy : nb (ys.getD i 0) = yy at *
          generalize nb ((splice t.xs a (ys.take i)).getD (a + i) 0) = yo at *
          change wpAnyH _ _ _ _ _ 13 (Array.replicate 13 false) _ _
          refine wpAnyH_take (i := 0) (oi := ?_) (v := ?_) ?_ (by kernel_rfl) (by kernel_rfl) (by kernel_rfl) ?_ ?_ (by assumption) ?_
          rotate_left 2; (simp only [List.getElem?_toArray, List.getElem?_cons_succ, List.getElem?_cons_zero]; rfl)
          rotate_left; (first | (refine .inl ⟨by rfl, ?_⟩; intro w9 hS9; go_simp; try with_reducible rfl) | (refine .inr ⟨by rfl, ?_⟩; with_reducible rfl))
          rotate_left; (intro _ _ _ h9; exact h9)
          try simp only [Act.put, List.setIfInBounds_toArray, List.set_cons_zero, List.set_cons_succ]
          refine wpAnyH_take (i := 1) (oi := ?_) (v := ?_) ?_ (by kernel_rfl) (by kernel_rfl) (by kernel_rfl) ?_ ?_ (by assumption) ?_
          rotate_left 2; (simp only [List.getElem?_toArray, List.getElem?_cons_succ, List.getElem?_cons_zero]; rfl)
          rotate_left; (first | (refine .inl ⟨by rfl, ?_⟩; intro w9 hS9; go_simp; try with_reducible rfl) | (refine .inr ⟨by rfl, ?_⟩; with_reducible rfl))
          rotate_left; (intro _ _ _ h9; exact h9)
          try simp only [Act.put, List.setIfInBounds_toArray, List.set_cons_zero, List.set_cons_succ]
          refine wpAnyH_take (i := 2) (oi := ?_) (v := ?_) ?_ (by kernel_rfl) (by kernel_rfl) (by kernel_rfl) ?_ ?_ (by assumption) ?_
          rotate_left 2; (simp only [List.getElem?_toArray, List.getElem?_cons_succ, List.getElem?_cons_zero]; rfl)
          rotate_left; (first | (refine .inl ⟨by rfl, ?_⟩; intro w9 hS9; go_simp; try with_reducible rfl) | (refine .inr ⟨by rfl, ?_⟩; with_reducible rfl))
          rotate_left; (intro _ _ _ h9; exact h9)
          try simp only [Act.put, List.setIfInBounds_toArray, List.set_cons_zero, List.set_cons_succ]
          refine wpAnyH_take (i := 3) (oi := ?_) (v := ?_) ?_ (by kernel_rfl) (by kernel_rfl) (by kernel_rfl) ?_ ?_ (by assumption) ?_
          rotate_left 2; (simp only [List.getElem?_toArray, List.getElem?_cons_succ, List.getElem?_cons_zero]; rfl)
          rotate_left; (first | (refine .inl ⟨by rfl, ?_⟩; intro w9 hS9; go_simp; try with_reducible rfl) | (refine .inr ⟨by rfl, ?_⟩; with_reducible rfl))
          rotate_left; (intro _ _ _ h9; exact h9)
          try simp only [Act.put, List.setIfInBounds_toArray, List.set_cons_zero, List.set_cons_succ]
          refine wpAnyH_take (i := 4) (oi := ?_) (v := ?_) ?_ (by kernel_rfl) (by kernel_rfl) (by kernel_rfl) ?_ ?_ (by assumption) ?_
          rotate_left 2; (simp only [List.getElem?_toArray, List.getElem?_cons_succ, List.getElem?_cons_zero]; rfl)
          rotate_left; (first | (refine .inl ⟨by rfl, ?_⟩; intro w9 hS9; go_simp; try with_reducible rfl) | (refine .inr ⟨by rfl, ?_⟩; with_reducible rfl))
          rotate_left; (intro _ _ _ h9; exact h9)
          try simp only [Act.put, List.setIfInBounds_toArray, List.set_cons_zero, List.set_cons_succ]
          refine wpAnyH_take (i := 5) (oi := ?_) (v := ?_) ?_ (by kernel_rfl) (by kernel_rfl) (by kernel_rfl) ?_ ?_ (by assumption) ?_
          rotate_left 2; (simp only [List.getElem?_toArray, List.getElem?_cons_succ, List.getElem?_cons_zero]; rfl)
          rotate_left; (first | (refine .inl ⟨by rfl, ?_⟩; intro w9 hS9; go_simp; try with_reducible rfl) | (refine .inr ⟨by rfl, ?_⟩; with_reducible rfl))
          rotate_left; (intro _ _ _ h9; exact h9)
          try simp only [Act.put, List.setIfInBounds_toArray, List.set_cons_zero, List.set_cons_succ]
          refine wpAnyH_take (i := 6) (oi := ?_) (v := ?_) ?_ (by kernel_rfl) (by kernel_rfl) (by kernel_rfl) ?_ ?_ (by assumption) ?_
          rotate_left 2; (simp only [List.getElem?_toArray, List.getElem?_cons_succ, List.getElem?_cons_zero]; rfl)
          rotate_left; (first | (refine .inl ⟨by rfl, ?_⟩; intro w9 hS9; go_simp; try with_reducible rfl) | (refine .inr ⟨by rfl, ?_⟩; with_reducible rfl))
          rotate_left; (intro _ _ _ h9; exact h9)
          try simp only [Act.put, List.setIfInBounds_toArray, List.set_cons_zero, List.set_cons_succ]
          refine wpAnyH_take (i := 7) (oi := ?_) (v := ?_) ?_ (by kernel_rfl) (by kernel_rfl) (by kernel_rfl) ?_ ?_ (by assumption) ?_
          rotate_left 2; (simp only [List.getElem?_toArray, List.getElem?_cons_succ, List.getElem?_cons_zero]; rfl)
          rotate_left; (first | (refine .inl ⟨by rfl, ?_⟩; intro w9 hS9; go_simp; try with_reducible rfl) | (refine .inr ⟨by rfl, ?_⟩; with_reducible rfl))
          rotate_left; (intro _ _ _ h9; exact h9)
          try simp only [Act.put, List.setIfInBounds_toArray, List.set_cons_zero, List.set_cons_succ]
          refine wpAnyH_take (i := 8) (oi := ?_) (v := ?_) ?_ (by kernel_rfl) (by kernel_rfl) (by kernel_rfl) ?_ ?_ (by assumption) ?_
          rotate_left 2; (simp only [List.getElem?_toArray, List.getElem?_cons_succ, List.getElem?_cons_zero]; rfl)
          rotate_left; (first | (refine .inl ⟨by rfl, ?_⟩; intro w9 hS9; go_simp; try with_reducible rfl) | (refine .inr ⟨by rfl, ?_⟩; with_reducible rfl))
          rotate_left; (intro _ _ _ h9; exact h9)
          try simp only [Act.put, List.setIfInBounds_toArray, List.set_cons_zero, List.set_cons_succ]
          refine wpAnyH_take (i := 9) (oi := ?_) (v := ?_) ?_ (by kernel_rfl) (by kernel_rfl) (by kernel_rfl) ?_ ?_ (by assumption) ?_
          rotate_left 2; (simp only [List.getElem?_toArray, List.getElem?_cons_succ, List.getElem?_cons_zero]; rfl)
          rotate_left; (first | (refine .inl ⟨by rfl, ?_⟩; intro w9 hS9; go_simp; try with_reducible rfl) | (refine .inr ⟨by rfl, ?_⟩; with_reducible rfl))
          rotate_left; (intro _ _ _ h9; exact h9)
          try simp only [Act.put, List.setIfInBounds_toArray, List.set_cons_zero, List.set_cons_succ]
          refine wpAnyH_take (i := 10) (oi := ?_) (v := ?_) ?_ (by kernel_rfl) (by kernel_rfl) (by kernel_rfl) ?_ ?_ (by assumption) ?_
          rotate_left 2; (simp only [List.getElem?_toArray, List.getElem?_cons_succ, List.getElem?_cons_zero]; rfl)
          rotate_left; (first | (refine .inl ⟨by rfl, ?_⟩; intro w9 hS9; go_simp; try with_reducible rfl) | (refine .inr ⟨by rfl, ?_⟩; with_reducible rfl))
          rotate_left; (intro _ _ _ h9; exact h9)
          try simp only [Act.put, List.setIfInBounds_toArray, List.set_cons_zero, List.set_cons_succ]
          refine wpAnyH_take (i := 11) (oi := ?_) (v := ?_) ?_ (by kernel_rfl) (by kernel_rfl) (by kernel_rfl) ?_ ?_ (by assumption) ?_
          rotate_left 2; (simp only [List.getElem?_toArray, List.getElem?_cons_succ, List.getElem?_cons_zero]; rfl)
          rotate_left; (first | (refine .inl ⟨by rfl, ?_⟩; intro w9 hS9; go_simp; try with_reducible rfl) | (refine .inr ⟨by rfl, ?_⟩; with_reducible rfl))
          rotate_left; (intro _ _ _ h9; exact h9)
          try simp only [Act.put, List.setIfInBounds_toArray, List.set_cons_zero, List.set_cons_succ]
          refine wpAnyH_ready (rs := [12]) (by kernel_rfl) (by simp) (AllReadyH.cons rfl (fun K9 hK9 => ?_) AllReadyH.nil)
          go_simp
          refine hK9.out _ _ HFS.out (fun _ => ?_)
          refine wpAnyH_done (by kernel_rfl) ?_ _
          obtain ⟨d0, d1, d2, df⟩ := HNEW.out.cells
          clear hS0 x0 y0 y1 yf
          generalize w0.setCell ⟨gv, a + i, none⟩ (.int .u8 yy) = w9 at *
          go_wp2_with fail
          exact ⟨⟨i + 1, by have := HI2.out; omega, by go_num, ⟨⟨-1, by have := HNEW.out; rw [HLM.out] at this ⊢; exact this⟩, (fun k h => by rw [HLM.out] at h; cases h), HWR.out.fr.trans HFS.out (fun k e => .inl (.inr (by rw [e]; rfl)))⟩⟩, by have := HI2.out; simp [intOf]; omega⟩
        | some k =>
          have hik := HWR.out.lim k hlim
          have hlf : lefti = ((k - i : Nat) : Int) ∧ k - i ≤ 9223372036854775807 := by have := HAT.out.lim; rw [show (Option.map (fun x => x - i) t.lim) = some (k - i) by rw [hlim]; rfl] at this; exact this
          obtain ⟨rfl, hk63⟩ := hlf
          have HLM := Lib.hid hlim
          have HIK := Lib.hid hik
          clear hlim
          by_cases hki : i = k
          · have HW := Lib.hid (show t.wr a ys = (7, ⟨splice t.xs a (ys.take i), some 0, true⟩) by
              have hm := HM.out
              have := HI2.out
              unfold Sto.wr
              rw [if_neg (by rw [HDD.out]; decide), if_neg (by have := HIN.out; have := HNN.out; omega), HLM.out]
              show (if k < ys.length then _ else _) = _
              rw [if_pos (by omega), hki])
            have hz2 : k - i = 0 := by omega
            have hz : ((k - i : Nat) : Int) = 0 := by omega
            rw [hz] at *
            have hfr := fr_setCell (F := fun k => k = x) (w := wr) ⟨x, 2, none⟩ (.bool true) rfl
            have HRES := Lib.hid (And.intro (show RfIs _ x (.slice (some ⟨gv, 0, none⟩) n cv) ⟨splice t.xs a (ys.take i), some 0, true⟩ from ⟨0, HAT.out.set hfr (by simp [World.setCell, Array.getElem?_modify, HAT.out.heap, hz2]) ⟨rfl, by omega⟩⟩) (HWR.out.fr.trans hfr (fun k e => .inl (.inl e))))
            clear hfr hat hik hki hk63 hz
            go_wp2_with fail
            go_ret
            rw [HW.out]
            exact ⟨rfl, HRES.out⟩
          · have hqk : k = (k - i) + i ∧ 0 < k - i := by omega
            generalize k - i = q at *
            have HQ := Lib.hid hqk
            have hq0 : 0 < (q : Int) := by omega
            have hq1 : ((q : Int) == 0) = false := by simp; omega
            have eq1 : IntKind.i64.wrap ((q : Int) - 1) = ((q - 1 : Nat) : Int) := by simp [IntKind.wrap, IntKind.bits, IntKind.signed]; omega
            clear hik hki hqk
            have ea : IntKind.i64.wrap ((a : Int) + (i : Int)) = (a : Int) + (i : Int) := by have := HM.out; have := HI2.out; simp [IntKind.wrap, IntKind.bits, IntKind.signed]; omega
            have ean : (a : Int) + (i : Int) < (n : Int) := by have := HIN.out; have := HI2.out; omega
            have HEAN := Lib.hid ean
            have ea0 : (0 : Int) ≤ (a : Int) + (i : Int) := by omega
            have et : ((a : Int) + (i : Int)).toNat = a + i := by omega
            have y0 := HY.out
            unfold bv at y0
            go_upto_region 11 with fail
            clear c1 c2 cf
            have hS0 : Fr (fun k => k = gv) wr wr.drew := fr_drew _ wr
            have x0 : ∀ w', Fr (fun k => k = gv) wr w' → w'.cell? ⟨x, 0, none⟩ = some (.slice (some ⟨gv, 0, none⟩) n cv) := fun w' hf => (hf.cell (p := ⟨x, 0, none⟩) HAT.out.lt (fun e => by have := HG.out.1; have e : x = gv := e; omega)).trans c0
            have HAT0 := Lib.hid (HAT.out.fr (Fr.ofBelow (below_drew1 wr) (fun _ => False)) id (fun _ _ h => h))
            have hcell := HAT0.out.own.rs.rb.cells (by have := HEAN.out; omega)
            obtain ⟨b9, o9, e9, _, hc9⟩ := hcell
            cases e9
            have y1 := hc9 (a + i) (by have := HEAN.out; omega)
            rw [Nat.zero_add] at y1
            unfold bv at y1
            have yf : wr.drew.frozen? ⟨gv, a + i, none⟩ = false := (HAT0.out.own.free rfl).2.2.2 _
            have hset := HAT0.out.own.set (a + i) (by show a + i < (splice t.xs a (ys.take i)).length; rw [HSL.out]; have := HEAN.out; omega) (ys.getD i 0)
            have hset2 : OwnB (wr.drew.setCell ⟨gv, a + i, none⟩ (bv (ys.getD i 0))) (x + 1) (.slice (some ⟨gv, 0, none⟩) n cv) (splice t.xs a (ys.take (i + 1))) := by
              rw [← splice_step15 t.xs ys a i (by have := HM.out; have := HI2.out; omega) (by have := HNN.out; have := HEAN.out; omega)]
              exact hset
            have hfs := fr_setCell (F := fun k => k = gv) (w := wr.drew) ⟨gv, a + i, none⟩ (bv (ys.getD i 0)) rfl
            have HNEW := Lib.hid (show RfAt (wr.drew.setCell ⟨gv, a + i, none⟩ (bv (ys.getD i 0))) x (.slice (some ⟨gv, 0, none⟩) n cv) _ ⟨splice t.xs a (ys.take (i + 1)), t.lim.map (· - i), false⟩ from
              ⟨(hfs.block x HAT0.out.lt (fun e => by have := HG.out.1; omega)).trans HAT0.out.heap, hset2, by show (splice t.xs a (ys.take (i + 1))).length ≤ 65536; rw [length_splice _ _ _ (by rw [List.length_take]; have := HM.out; have := HIN.out; have := HNN.out; omega), HNN.out]; exact HM.out.2.2.2, HAT.out.lim⟩)
            have HFS := Lib.hid (fr_same hS0 hfs)
            clear hset hset2 hfs hc9 hat
            unfold bv at HNEW HFS
            refine wp_region_held (S := fun w' => Fr (fun k => k = gv) wr w') (by kernel_rfl) ?_
            change wpAnyH _ _ _ _ _ _ _ _ wr.drew
            generalize wr.drew = w0 at *
            generalize hyy : nb (ys.getD i 0) = yy at *
            generalize nb ((splice t.xs a (ys.take i)).getD (a + i) 0) = yo at *
            change wpAnyH _ _ _ _ _ 13 (Array.replicate 13 false) _ _
            refine wpAnyH_take (i := 0) (oi := ?_) (v := ?_) ?_ (by kernel_rfl) (by kernel_rfl) (by kernel_rfl) ?_ ?_ (by assumption) ?_
            rotate_left 2; (simp only [List.getElem?_toArray, List.getElem?_cons_succ, List.getElem?_cons_zero]; rfl)
            rotate_left; (first | (refine .inl ⟨by rfl, ?_⟩; intro w9 hS9; go_simp; try with_reducible rfl) | (refine .inr ⟨by rfl, ?_⟩; with_reducible rfl))
            rotate_left; (intro _ _ _ h9; exact h9)
            try simp only [Act.put, List.setIfInBounds_toArray, List.set_cons_zero, List.set_cons_succ]
            refine wpAnyH_take (i := 1) (oi := ?_) (v := ?_) ?_ (by kernel_rfl) (by kernel_rfl) (by kernel_rfl) ?_ ?_ (by assumption) ?_
            rotate_left 2; (simp only [List.getElem?_toArray, List.getElem?_cons_succ, List.getElem?_cons_zero]; rfl)
            rotate_left; (first | (refine .inl ⟨by rfl, ?_⟩; intro w9 hS9; go_simp; try with_reducible rfl) | (refine .inr ⟨by rfl, ?_⟩; with_reducible rfl))
            rotate_left; (intro _ _ _ h9; exact h9)
            try simp only [Act.put, List.setIfInBounds_toArray, List.set_cons_zero, List.set_cons_succ]
            refine wpAnyH_take (i := 2) (oi := ?_) (v := ?_) ?_ (by kernel_rfl) (by kernel_rfl) (by kernel_rfl) ?_ ?_ (by assumption) ?_
            rotate_left 2; (simp only [List.getElem?_toArray, List.getElem?_cons_succ, List.getElem?_cons_zero]; rfl)
            rotate_left; (first | (refine .inl ⟨by rfl, ?_⟩; intro w9 hS9; go_simp; try with_reducible rfl) | (refine .inr ⟨by rfl, ?_⟩; with_reducible rfl))
            rotate_left; (intro _ _ _ h9; exact h9)
            try simp only [Act.put, List.setIfInBounds_toArray, List.set_cons_zero, List.set_cons_succ]
            refine wpAnyH_take (i := 3) (oi := ?_) (v := ?_) ?_ (by kernel_rfl) (by kernel_rfl) (by kernel_rfl) ?_ ?_ (by assumption) ?_
            rotate_left 2; (simp only [List.getElem?_toArray, List.getElem?_cons_succ, List.getElem?_cons_zero]; rfl)
            rotate_left; (first | (refine .inl ⟨by rfl, ?_⟩; intro w9 hS9; go_simp; try with_reducible rfl) | (refine .inr ⟨by rfl, ?_⟩; with_reducible rfl))
            rotate_left; (intro _ _ _ h9; exact h9)
            try simp only [Act.put, List.setIfInBounds_toArray, List.set_cons_zero, List.set_cons_succ]
            refine wpAnyH_take (i := 4) (oi := ?_) (v := ?_) ?_ (by kernel_rfl) (by kernel_rfl) (by kernel_rfl) ?_ ?_ (by assumption) ?_
            rotate_left 2; (simp only [List.getElem?_toArray, List.getElem?_cons_succ, List.getElem?_cons_zero]; rfl)
            rotate_left; (first | (refine .inl ⟨by rfl, ?_⟩; intro w9 hS9; go_simp; try with_reducible rfl) | (refine .inr ⟨by rfl, ?_⟩; with_reducible rfl))
            rotate_left; (intro _ _ _ h9; exact h9)
            try simp only [Act.put, List.setIfInBounds_toArray, List.set_cons_zero, List.set_cons_succ]
            refine wpAnyH_take (i := 5) (oi := ?_) (v := ?_) ?_ (by kernel_rfl) (by kernel_rfl) (by kernel_rfl) ?_ ?_ (by assumption) ?_
            rotate_left 2; (simp only [List.getElem?_toArray, List.getElem?_cons_succ, List.getElem?_cons_zero]; rfl)
            rotate_left; (first | (refine .inl ⟨by rfl, ?_⟩; intro w9 hS9; go_simp; try with_reducible rfl) | (refine .inr ⟨by rfl, ?_⟩; with_reducible rfl))
            rotate_left; (intro _ _ _ h9; exact h9)
            try simp only [Act.put, List.setIfInBounds_toArray, List.set_cons_zero, List.set_cons_succ]
            refine wpAnyH_take (i := 6) (oi := ?_) (v := ?_) ?_ (by kernel_rfl) (by kernel_rfl) (by kernel_rfl) ?_ ?_ (by assumption) ?_
            rotate_left 2; (simp only [List.getElem?_toArray, List.getElem?_cons_succ, List.getElem?_cons_zero]; rfl)
            rotate_left; (first | (refine .inl ⟨by rfl, ?_⟩; intro w9 hS9; go_simp; try with_reducible rfl) | (refine .inr ⟨by rfl, ?_⟩; with_reducible rfl))
            rotate_left; (intro _ _ _ h9; exact h9)
            try simp only [Act.put, List.setIfInBounds_toArray, List.set_cons_zero, List.set_cons_succ]
            refine wpAnyH_take (i := 7) (oi := ?_) (v := ?_) ?_ (by kernel_rfl) (by kernel_rfl) (by kernel_rfl) ?_ ?_ (by assumption) ?_
            rotate_left 2; (simp only [List.getElem?_toArray, List.getElem?_cons_succ, List.getElem?_cons_zero]; rfl)
            rotate_left; (first | (refine .inl ⟨by rfl, ?_⟩; intro w9 hS9; go_simp; try with_reducible rfl) | (refine .inr ⟨by rfl, ?_⟩; with_reducible rfl))
            rotate_left; (intro _ _ _ h9; exact h9)
            try simp only [Act.put, List.setIfInBounds_toArray, List.set_cons_zero, List.set_cons_succ]
            refine wpAnyH_take (i := 8) (oi := ?_) (v := ?_) ?_ (by kernel_rfl) (by kernel_rfl) (by kernel_rfl) ?_ ?_ (by assumption) ?_
            rotate_left 2; (simp only [List.getElem?_toArray, List.getElem?_cons_succ, List.getElem?_cons_zero]; rfl)
            rotate_left; (first | (refine .inl ⟨by rfl, ?_⟩; intro w9 hS9; go_simp; try with_reducible rfl) | (refine .inr ⟨by rfl, ?_⟩; with_reducible rfl))
            rotate_left; (intro _ _ _ h9; exact h9)
            try simp only [Act.put, List.setIfInBounds_toArray, List.set_cons_zero, List.set_cons_succ]
            refine wpAnyH_take (i := 9) (oi := ?_) (v := ?_) ?_ (by kernel_rfl) (by kernel_rfl) (by kernel_rfl) ?_ ?_ (by assumption) ?_
            rotate_left 2; (simp only [List.getElem?_toArray, List.getElem?_cons_succ, List.getElem?_cons_zero]; rfl)
            rotate_left; (first | (refine .inl ⟨by rfl, ?_⟩; intro w9 hS9; go_simp; try with_reducible rfl) | (refine .inr ⟨by rfl, ?_⟩; with_reducible rfl))
            rotate_left; (intro _ _ _ h9; exact h9)
            try simp only [Act.put, List.setIfInBounds_toArray, List.set_cons_zero, List.set_cons_succ]
            refine wpAnyH_take (i := 10) (oi := ?_) (v := ?_) ?_ (by kernel_rfl) (by kernel_rfl) (by kernel_rfl) ?_ ?_ (by assumption) ?_
            rotate_left 2; (simp only [List.getElem?_toArray, List.getElem?_cons_succ, List.getElem?_cons_zero]; rfl)
            rotate_left; (first | (refine .inl ⟨by rfl, ?_⟩; intro w9 hS9; go_simp; try with_reducible rfl) | (refine .inr ⟨by rfl, ?_⟩; with_reducible rfl))
            rotate_left; (intro _ _ _ h9; exact h9)
            try simp only [Act.put, List.setIfInBounds_toArray, List.set_cons_zero, List.set_cons_succ]
            refine wpAnyH_take (i := 11) (oi := ?_) (v := ?_) ?_ (by kernel_rfl) (by kernel_rfl) (by kernel_rfl) ?_ ?_ (by assumption) ?_
            rotate_left 2; (simp only [List.getElem?_toArray, List.getElem?_cons_succ, List.getElem?_cons_zero]; rfl)
            rotate_left; (first | (refine .inl ⟨by rfl, ?_⟩; intro w9 hS9; go_simp; try with_reducible rfl) | (refine .inr ⟨by rfl, ?_⟩; with_reducible rfl))
            rotate_left; (intro _ _ _ h9; exact h9)
            try simp only [Act.put, List.setIfInBounds_toArray, List.set_cons_zero, List.set_cons_succ]
            refine wpAnyH_ready (rs := [12]) (by kernel_rfl) (by simp) (AllReadyH.cons rfl (fun K9 hK9 => ?_) AllReadyH.nil)
            go_simp
            refine hK9.out _ _ HFS.out (fun _ => ?_)
            refine wpAnyH_done (by kernel_rfl) ?_ _
            obtain ⟨d0, d1, d2, df⟩ := HNEW.out.cells
            clear hS0 x0 y0 y1 yf
            generalize w0.setCell ⟨gv, a + i, none⟩ (.int .u8 yy) = w9 at *
            have hfr := fr_setCell (F := fun k => k = x) (w := w9) ⟨x, 1, none⟩ (.int .i64 ((q - 1 : Nat) : Int)) rfl
            have HRES := Lib.hid (And.intro (show RfIs _ x (.slice (some ⟨gv, 0, none⟩) n cv) ⟨splice t.xs a (ys.take (i + 1)), t.lim.map (· - (i + 1)), false⟩ from ⟨((q - 1 : Nat) : Int), HNEW.out.set hfr (by simp [World.setCell, Array.getElem?_modify, HNEW.out.heap]) (by rw [HLM.out]; exact ⟨by show ((q - 1 : Nat) : Int) = ((k - (i + 1) : Nat) : Int); have := HQ.out; omega, by show k - (i + 1) ≤ 9223372036854775807; have := HQ.out; omega⟩)⟩) hfr)
            clear hfr
            go_wp2_with fail
            exact ⟨⟨i + 1, by have := HI2.out; omega, by go_num, ⟨HRES.out.1, (fun k' h => by rw [HLM.out] at h; cases h; have := HQ.out; omega), (HWR.out.fr.trans HFS.out (fun k e => .inl (.inr (by rw [e]; rfl)))).trans HRES.out.2 (fun k e => .inl (.inl e))⟩⟩, by have := HI2.out; simp [intOf]; omega⟩
      · obtain rfl : i = m := by omega
        have HW := Lib.hid (show t.wr a ys = (0, ⟨splice t.xs a ys, t.lim.map (· - i), false⟩) by
          have := HWR.out.lim
          have hm := HM.out
          unfold Sto.wr
          rw [if_neg (by rw [HDD.out]; decide), if_neg (by have := HIN.out; have := HNN.out; omega)]
          cases hlim : t.lim with
          | none => rfl
          | some k =>
            have := this k hlim
            simp only [hm.2.2.1, show ¬ k < i by omega, if_false]
            rfl)
        clear hat hlf c0 c1 c2 cf
        go_wp2_with fail
        go_ret
        rw [HW.out]
        have := HWR.out.at_
        rw [List.take_of_length_le (by have := HM.out; omega)] at this
        exact ⟨rfl, this, HWR.out.fr⟩
end Go.Proofs.YtcppmihambcihaaDoor
/- crossbucklaw17.over. -/
namespace Go.Proofs.YtcppmihambcihaaDoor
open Go Go.RowKit Go.Shelf
set_option linter.unusedVariables false
set_option linter.unusedSimpArgs false
theorem stSize_nat17 (n : Nat) (h : n ≤ 65536) : stSize n = n := by unfold stSize; omega
/-- Two stores with the same bytes. -/
structure IsOver (w : World) (xs : List UInt8) (e : Ending) (w' : World) : Prop where
  ex : ∃ g gb x v, e = .returned (.tuple #[.pointer (some ⟨g, 0, none⟩), .pointer (some ⟨x, 0, none⟩)]) ∧ StOf w' g gb ⟨xs, none, false⟩ ∧ RfIs w' x v ⟨xs, none, false⟩ ∧ w.heap.size ≤ g ∧ w.heap.size ≤ gb ∧ g < x ∧ gb < x
  bel : Below w.heap.size w w'
set_option maxHeartbeats 4000000 in
set_option maxRecDepth 100000 in
theorem l_over (A : Option Addr) (n c : Nat) (xs : List UInt8) (w : World) (hr : RS w A n c xs) (hn : n ≤ 600) :
    Calls Tryd.prog 14 #[.slice A n c] w (IsOver w xs) := by
  have hl := hr.len
  have hw : (Sto.mk (List.replicate n 255) none false).wr 0 xs = (0, ⟨xs, none, false⟩) := by
    rw [Sto.wr_live (by rw [List.length_replicate]; omega) rfl rfl, splice_whole _ _ (by rw [List.length_replicate]; exact hl)]
  have HW := Lib.hid hw
  have HR := Lib.hid hr
  have HN := Lib.hid hn
  have HFA := Lib.hid (show 0 < n → ∀ b o, A = some ⟨b, o, none⟩ → b < w.heap.size from fun h0 => hr.old h0)
  clear hr hw hl hn
  go_enter Tryd.func14, Tryd.ntmps14
  go_wp2_with fail
  refine (st_new n _).mono ?_
  rintro e w1 ⟨g, gb, rfl, hst, hwg, hwb, hb⟩
  rw [stSize_nat17 n (by have := HN.out; omega)] at hst
  have HB := Lib.hid hb
  have HST := Lib.hid (show StOf w1 g gb ⟨List.replicate n 255, none, false⟩ from hst)
  have HGG := Lib.hid (And.intro hwg hwb)
  clear hb hst hwg hwb
  go_wp2_with fail
  refine (rf_new15 n (by have := HN.out; omega) _).mono ?_
  rintro e w2 ⟨rfl, ⟨v, hrf⟩, hb2⟩
  have HRF := Lib.hid hrf
  have HGX := Lib.hid (show g < w1.heap.size ∧ gb < w1.heap.size from ⟨(StIs.lt HST.out).1, (StIs.lt HST.out).2.1⟩)
  have HX := Lib.hid (show w.heap.size ≤ w1.heap.size from HB.out.size)
  replace HB := Lib.hid (below_step HB.out hb2)
  replace HST := Lib.hid (StIs.below HST.out hb2)
  clear hrf hb2
  generalize w1.heap.size = x at *
  go_wp2_with fail
  refine (st_write g gb ⟨List.replicate n 255, none, false⟩ 0 A n c xs _ HST.out (HR.out.below HB.out)).mono ?_
  rintro e w3 hw3
  obtain ⟨⟨v3, rfl, he3⟩, hst3, hf3⟩ := hw3
  rw [HW.out] at he3 hst3
  obtain rfl := he3.zero
  have HST3 := Lib.hid hst3
  have HRF3 := Lib.hid (HRF.out.fr hf3 (fun h => by have := HGX.out; omega) (fun b hb h => by have := HRF.out.lt.2 b hb; have := HGX.out; omega))
  replace HB := Lib.hid (below_two HB.out hf3 HGG.out.1 HGG.out.2)
  clear he3 hst3 hf3 HST HRF
  go_wp2_with fail
  refine (rf_write15 x v ⟨List.replicate n 255, none, false⟩ 0 A n c xs _ HRF3.out (by omega) (HR.out.below HB.out) (by have := HN.out; omega) (fun h0 b o e => ⟨by have := HFA.out h0 b o e; have := HX.out; omega, fun h => by have := HFA.out h0 b o e; have := HX.out; have := HRF3.out.lt.2 b h; omega⟩)).mono ?_
  rintro e w4 ⟨rfl, hrf4, hf4⟩
  rw [HW.out] at hrf4 ⊢
  have HRES := Lib.hid (show IsOver w xs (.returned (.tuple #[.pointer (some ⟨g, 0, none⟩), .pointer (some ⟨x, 0, none⟩)])) w4 from
    ⟨⟨g, gb, x, v, rfl, StIs.fr HST3.out hf4 (fun h => by have := HGX.out; rcases h with h | h; omega; have := HRF3.out.lt.2 g h; omega) (fun h => by have := HGX.out; rcases h with h | h; omega; have := HRF3.out.lt.2 gb h; omega), hrf4, HGG.out.1, HGG.out.2, HGX.out.1, HGX.out.2⟩,
    HB.out.trans (hf4.below w.heap.size HB.out.size (fun i h => by have := HX.out; rcases h with h | h; omega; have := HRF3.out.lt.2 i h; omega))⟩)
  clear hrf4 hf4
  go_wp2_with fail
  go_ret2
  exact HRES.out
end Go.Proofs.YtcppmihambcihaaDoor
