/- journal.Append. -/
import Derived.Test.YtcppmihambcihaaDoorJrWr
import Derived.Test.YtcppmihambcihaaDoorPiv
import Derived.Test.YtcppmihambcihaaDoorBkPrint
import Derived.Deep.DeepCutAuto
namespace Go.Proofs.YtcppmihambcihaaDoor
open Go Go.RowKit Go.Shelf
set_option linter.unusedVariables false
set_option linter.unusedSimpArgs false
/-- A journal j over the store g: what both hold. -/
structure JI (w : World) (j g gb : Nat) (s : Jn) (t : Sto) : Prop where
  jr : ∃ A c, JrIs w j g gb s.bank s.nt A c s.has
  st : StOf w g gb t
  eq : s = jOpen t.xs
  ne : j ≠ g ∧ j ≠ gb
structure IsAp (w : World) (j g gb : Nat) (A0 : Option Addr) (r : Nat × Jn × Sto) (e : Ending) (w' : World) : Prop where
  err : ∃ v, e = .returned v ∧ ErrIs w' v r.1
  jr : ∃ A c, JrIs w' j g gb r.2.1.bank r.2.1.nt A c r.2.1.has ∧ (A = A0 ∨ ∀ b o, A = some ⟨b, o, none⟩ → w.heap.size ≤ b)
  st : StOf w' g gb r.2.2
  fr : Fr (fun k => k = j ∨ k = g ∨ k = gb) w w'
theorem JrIs.set15 {w : World} {j g gb bank : Nat} {x : Nt} {A : Option Addr} {c : Nat} {has : Bool} (h : JrIs w j g gb bank x A c has) (b1 : Nat) :
    JrIs ((w.setCell ⟨j, 1, none⟩ (.int .i64 b1)).setCell ⟨j, 5, none⟩ (.bool true)) j g gb b1 x A c true ∧ Fr (fun k => k = j) w ((w.setCell ⟨j, 1, none⟩ (.int .i64 b1)).setCell ⟨j, 5, none⟩ (.bool true)) := by
  have hf := fr_same (fr_setCell (F := fun k => k = j) (w := w) ⟨j, 1, none⟩ (.int .i64 b1) rfl) (fr_setCell (F := fun k => k = j) ⟨j, 5, none⟩ (.bool true) rfl)
  exact ⟨⟨by simp [World.setCell, Array.getElem?_modify, h.heap, jrc], h.dat.fr hf (fun h0 b o e hF => (h.apart h0 b o e).1 hF), h.apart, h.few⟩, hf⟩
theorem JrIs.note {w : World} {j g gb bank : Nat} {x : Nt} {A : Option Addr} {c : Nat} {has : Bool} (h : JrIs w j g gb bank x A c has) (y : Nt) (g9 c9 : Nat) (hd : RS w (some ⟨g9, 0, none⟩) y.dat.length c9 y.dat) (hn : g9 ≠ j ∧ g9 ≠ g ∧ g9 ≠ gb) (hf : y.dat.length ≤ 40) :
    JrIs (w.setCells j 2 [.int .u32 y.seq, .slice (some ⟨g9, 0, none⟩) y.dat.length c9, .int .i64 y.fin]) j g gb bank y (some ⟨g9, 0, none⟩) c9 has :=
  ⟨setCells_heap j 66 [.int .u32 y.seq, .slice (some ⟨g9, 0, none⟩) y.dat.length c9, .int .i64 y.fin] 2 w (jrc g bank x A c has).toList h.heap (by simp), hd.fr (fr_setCells (F := fun k => k = j) j rfl _ _ _) (fun _ b o e hF => by cases e; exact hn.1 hF), fun _ b o e => by cases e; exact hn, hf⟩
/-- Where Append stands behind the choice of a bank. -/
structure JMid (w : World) (j g gb : Nat) (s : Jn) (t : Sto) (d : List UInt8) (A : Option Addr) (c : Nat) (A1 : Option Addr) (n1 c1 : Nat) (A2 : Option Addr) (n2 c2 : Nat) (x : List UInt8) (tb at_ : Nat) (r : Nat × Sto) (wx : World) : Prop where
  le1 : tb ≤ 1
  leA : at_ ≤ 65536
  len : r.2.xs.length = t.xs.length
  jr : JrIs wx j g gb s.bank s.nt A c s.has
  st : StOf wx g gb r.2
  rx : RS wx A2 n2 c2 x
  rd : RS wx A1 n1 c1 d
  fr : Fr (fun k => k = g ∨ k = gb) w wx
  eq : jAppend s t d = jPut s d tb at_ (t.xs.length / 2) r
theorem JrIs.two {w w' : World} {j g gb bank : Nat} {x : Nt} {A : Option Addr} {c : Nat} {has : Bool} (h : JrIs w j g gb bank x A c has) (hf : Fr (fun k => k = g ∨ k = gb) w w') (hne : j ≠ g ∧ j ≠ gb) : JrIs w' j g gb bank x A c has :=
  h.fr hf (fun h => by rcases h with h | h; exact hne.1 h; exact hne.2 h) (fun i h => by rcases h with h | h; exact .inl h; exact .inr (.inl h))
theorem IsAp.same {w w' : World} {j g gb : Nat} {s : Jn} {t : Sto} {A : Option Addr} {c : Nat} {v : Value} {n d : Nat} (hn : (n == 0) = false) (he : ErrN w' d v n) (hj : JrIs w' j g gb s.bank s.nt A c s.has) (hs : StOf w' g gb t) (hf : Fr (fun k => k = g ∨ k = gb) w w') : IsAp w j g gb A (n, s, t) (.returned v) w' :=
  ⟨⟨v, rfl, .inr ⟨by show ((n : Int) == 0) = false; simp at hn ⊢; exact hn, d, he⟩⟩, ⟨A, c, hj, .inl rfl⟩, hs, hf.mono (fun i _ h => .inr h)⟩
set_option maxHeartbeats 16000000 in
set_option maxRecDepth 100000 in
theorem jr_append (j g gb : Nat) (s : Jn) (t : Sto) (A1 : Option Addr) (n1 c1 : Nat) (d : List UInt8) (w : World) (A : Option Addr) (c : Nat) (hj : JrIs w j g gb s.bank s.nt A c s.has) (hst : StOf w g gb t) (heq : s = jOpen t.xs) (hne : j ≠ g ∧ j ≠ gb) (hr : RS w A1 n1 c1 d) (ha : 0 < n1 → ∀ b o, A1 = some ⟨b, o, none⟩ → b ≠ j ∧ b ≠ g ∧ b ≠ gb) :
    Calls Tryd.prog 11 #[.pointer (some ⟨j, 0, none⟩), .slice A1 n1 c1] w (IsAp w j g gb A (jAppend s t d)) := by
  have hat := jOpen_at t.xs
  rw [← heq] at hat
  have hu : s.nt.seq < 4294967296 := by
    cases hh : s.has with
    | false => rw [(hat.no hh).1]; decide
    | true => exact (jLast_at (hat.own hh)).2.1
  have hsm := hst.small
  have hfin : s.nt.fin ≤ t.xs.length / 2 := by
    cases hh : s.has with
    | false => rw [(hat.no hh).1]; exact Nat.zero_le _
    | true => have := (jLast_at (hat.own hh)).2.2; rwa [half_len t.xs s.bank hat.bank] at this
  obtain ⟨s1, hs1⟩ : ∃ s1 : Nat, s1 = (s.nt.seq + 1) % 4294967296 := ⟨_, rfl⟩
  have ew : IntKind.u32.wrap ((s.nt.seq : Int) + 1) = (s1 : Int) := by simp [IntKind.wrap, IntKind.bits, IntKind.signed]; omega
  have HS1 := Lib.hid (show s1 < 4294967296 by omega)
  have c2 := hj.cells.2.2.1
  have HJ := Lib.hid hj
  have HS := Lib.hid hst
  have HD := Lib.hid hr
  have HA := Lib.hid ha
  have HNE := Lib.hid hne
  have HBK := Lib.hid hat.bank
  have hdl := hr.len
  have HDL := Lib.hid hdl
  have HLT := Lib.hid hst.lt
  have HSM := Lib.hid hsm
  have HFIN := Lib.hid hfin
  have HU := Lib.hid hu
  have HSQ := Lib.hid hs1
  clear hj hst hr ha hne hat heq
  cases hd : bkOk d with
  | false =>
    have HEQ := Lib.hid (show jAppend s t d = (1, s, t) by unfold jAppend; rw [if_pos hd])
    have ho : bkOut s1 d = [] := by simp [bkOut, hd]
    clear hsm hfin hu hs1 hdl
    go_enter Tryd.func11, Tryd.ntmps11
    go_wp2_with fail
    refine (bk_print s1 A1 n1 c1 d _ HD.out HS1.out).mono ?_
    rintro e wa ⟨v, rfl, hown, hb⟩
    rw [hd]
    rw [ho] at hown
    obtain ⟨A2, c2, rfl, _⟩ := hown.reads
    rw [List.length_nil]
    have HB := Lib.hid hb
    clear hown hb hd ho
    go_wp2_with fail
    refine (fault_new 1 _ _ (by decide)).mono ?_
    rintro e w10 ⟨v10, rfl, he10, hb10⟩
    have HE10 := Lib.hid he10
    have HB10 := Lib.hid (below_step HB.out hb10)
    obtain ⟨t9, x9, rfl⟩ := he10.iface
    clear he10 hb10
    go_wp2_with fail
    go_ret
    rw [HEQ.out]
    exact IsAp.same rfl HE10.out (HJ.out.below HB10.out) (HS.out.below HB10.out) (Fr.ofBelow HB10.out _)
  | true =>
    have hok := bkOk_iff.1 hd
    have ho : bkOut s1 d = bkPrint s1 d := by simp [bkOut, hd]
    clear hsm hfin hu hs1 hdl hok
    go_enter Tryd.func11, Tryd.ntmps11
    go_wp2_with fail
    refine (bk_print s1 A1 n1 c1 d _ HD.out HS1.out).mono ?_
    rintro e wa ⟨v, rfl, hown, hb⟩
    rw [hd]
    have hsm := HSM.out
    have hfin := HFIN.out
    have hu := HU.out
    have hs1 := HSQ.out
    have hdl := HDL.out
    have hok := bkOk_iff.1 hd
    rw [ho] at hown
    have hpl := bkPrint_len s1 d
    rcases hown.form with ⟨_, h0⟩ | ⟨g2, cp2, rfl, hg2, hg2b, _, hrx⟩
    · rw [h0] at hpl; simp at hpl; omega
    rw [hpl, hdl] at hrx ⊢
    have HX := Lib.hid hrx
    have HB := Lib.hid hb
    have HJ1 := Lib.hid (HJ.out.below hb)
    have HST := Lib.hid (HS.out.below hb)
    have HD1 := Lib.hid (HD.out.below hb)
    have HG2 := Lib.hid hg2
    have c2' := HJ1.out.cells.2.2.1
    generalize hn2 : 8 + n1 = n2 at *
    clear hown hrx hb c2 hg2
    by_cases h5 : t.xs.length / 2 < n2
    · have HEQ := Lib.hid (show jAppend s t d = (5, s, t) by unfold jAppend; rw [if_neg (by rw [hd]; decide), if_pos (.inl (by omega))])
      have h5' : ((t.xs.length / 2 : Nat) : Int) < (n2 : Int) := by omega
      clear hd ho hpl hok hdl hsm hfin h5 hg2b
      go_wp2_with fail
      refine (jr_size j g gb _ _ _ _ _ t.xs t.lim t.dead _ HJ1.out HST.out).mono ?_
      rintro e w9 ⟨rfl, rfl⟩
      generalize t.xs.length / 2 = m at *
      go_wp2_with fail
      refine (fault_new 5 _ _ (by decide)).mono ?_
      rintro e w10 ⟨v10, rfl, he10, hb10⟩
      have HE10 := Lib.hid he10
      have HB10 := Lib.hid (below_step HB.out hb10)
      obtain ⟨t9, x9, rfl⟩ := he10.iface
      clear he10 hb10
      go_wp2_with fail
      go_ret
      rw [HEQ.out]
      exact IsAp.same rfl HE10.out (HJ.out.below HB10.out) (HS.out.below HB10.out) (Fr.ofBelow HB10.out _)
    have h5' : ¬ ((t.xs.length / 2 : Nat) : Int) < (n2 : Int) := by omega
    by_cases h6 : s.nt.seq = 4294967295
    · have HEQ := Lib.hid (show jAppend s t d = (5, s, t) by unfold jAppend; rw [if_neg (by rw [hd]; decide), if_pos (.inr h6)])
      have h6' : ((s.nt.seq : Int) == 4294967295) = true := by rw [h6]; rfl
      clear hd ho hpl hok hdl hsm hfin h5 h6 hg2b
      generalize s.nt.seq = q at *
      go_wp2_with fail
      refine (jr_size j g gb _ _ _ _ _ t.xs t.lim t.dead _ HJ1.out HST.out).mono ?_
      rintro e w9 ⟨rfl, rfl⟩
      generalize t.xs.length / 2 = m at *
      go_wp2_with fail
      refine (fault_new 5 _ _ (by decide)).mono ?_
      rintro e w10 ⟨v10, rfl, he10, hb10⟩
      have HE10 := Lib.hid he10
      have HB10 := Lib.hid (below_step HB.out hb10)
      obtain ⟨t9, x9, rfl⟩ := he10.iface
      clear he10 hb10
      go_wp2_with fail
      go_ret
      rw [HEQ.out]
      exact IsAp.same rfl HE10.out (HJ.out.below HB10.out) (HS.out.below HB10.out) (Fr.ofBelow HB10.out _)
    have h6' : ((s.nt.seq : Int) == 4294967295) = false := by simp; omega
    have HS1E := Lib.hid (show s1 = s.nt.seq + 1 by have := HSQ.out; omega)
    have hm32 : t.xs.length / 2 ≤ 32768 := by omega
    have hn48 : n2 ≤ 48 := by omega
    have HM := Lib.hid (show n2 ≤ t.xs.length / 2 ∧ 8 + d.length = n2 ∧ n2 ≤ 48 by omega)
    have HOK := Lib.hid hd
    have H56 := Lib.hid (show ¬ (t.xs.length / 2 < 8 + d.length ∨ s.nt.seq = 4294967295) by omega)
    clear hd ho hpl hok hdl hsm h5 h6 hn2 hs1
    go_wp2_with fail
    refine (jr_size j g gb _ _ _ _ _ t.xs t.lim t.dead _ HJ1.out HST.out).mono ?_
    rintro e w9 ⟨rfl, rfl⟩
    go_upto_region 6 with fail
    have hS0 := below_drew1 wa
    have x1 : ∀ w', Below wa.heap.size wa w' → w'.cell? ⟨j, 1, none⟩ = some (.int .i64 s.bank) := fun w' hb => (HJ1.out.below hb).cells.2.1
    have x4 : ∀ w', Below wa.heap.size wa w' → w'.cell? ⟨j, 4, none⟩ = some (.int .i64 s.nt.fin) := fun w' hb => (HJ1.out.below hb).cells.2.2.2.2.1
    refine wp_region_held (S := fun w' => Below wa.heap.size wa w') (by kernel_rfl) ?_
    change wpAnyH _ _ _ _ _ _ _ _ wa.drew
    change wpAnyH _ _ _ _ _ 11 (Array.replicate 11 false) _ _
    refine wpAnyH_take (i := 0) (oi := ?_) (v := ?_) ?_ (by kernel_rfl) (by kernel_rfl) (by kernel_rfl) ?_ ?_ (by assumption) ?_
    rotate_left 2; (simp only [List.getElem?_toArray, List.getElem?_cons_succ, List.getElem?_cons_zero]; rfl)
    rotate_left; (first | (refine .inl ⟨by rfl, ?_⟩; intro w9 hS9; go_simp; try with_reducible rfl) | (refine .inr ⟨by rfl, ?_⟩; with_reducible rfl))
    rotate_left; (intro _ _ _ h9; exact h9)
    try simp only [Act.put, List.setIfInBounds_toArray, List.set_cons_zero, List.set_cons_succ]
    refine wpAnyH_take (i := 1) (oi := ?_) (v := ?_) ?_ (by kernel_rfl) (by kernel_rfl) (by kernel_rfl) ?_ ?_ (by assumption) ?_
    rotate_left 2; (simp only [List.getElem?_toArray, List.getElem?_cons_succ, List.getElem?_cons_zero]; rfl)
    rotate_left; (first | (refine .inl ⟨by rfl, ?_⟩; intro w9 hS9; go_simp; try with_reducible rfl) | (refine .inr ⟨by rfl, ?_⟩; with_reducible rfl))
    rotate_left; (intro _ _ _ h9; exact h9)
    try simp only [Act.put, List.setIfInBounds_toArray, List.set_cons_zero, List.set_cons_succ]
    refine wpAnyH_take (i := 2) (oi := ?_) (v := ?_) ?_ (by kernel_rfl) (by kernel_rfl) (by kernel_rfl) ?_ ?_ (by assumption) ?_
    rotate_left 2; (simp only [List.getElem?_toArray, List.getElem?_cons_succ, List.getElem?_cons_zero]; rfl)
    rotate_left; (first | (refine .inl ⟨by rfl, ?_⟩; intro w9 hS9; go_simp; try with_reducible rfl) | (refine .inr ⟨by rfl, ?_⟩; with_reducible rfl))
    rotate_left; (intro _ _ _ h9; exact h9)
    try simp only [Act.put, List.setIfInBounds_toArray, List.set_cons_zero, List.set_cons_succ]
    refine wpAnyH_take (i := 3) (oi := ?_) (v := ?_) ?_ (by kernel_rfl) (by kernel_rfl) (by kernel_rfl) ?_ ?_ (by assumption) ?_
    rotate_left 2; (simp only [List.getElem?_toArray, List.getElem?_cons_succ, List.getElem?_cons_zero]; rfl)
    rotate_left; (first | (refine .inl ⟨by rfl, ?_⟩; intro w9 hS9; go_simp; try with_reducible rfl) | (refine .inr ⟨by rfl, ?_⟩; with_reducible rfl))
    rotate_left; (intro _ _ _ h9; exact h9)
    try simp only [Act.put, List.setIfInBounds_toArray, List.set_cons_zero, List.set_cons_succ]
    refine wpAnyH_take (i := 4) (oi := ?_) (v := ?_) ?_ (by kernel_rfl) (by kernel_rfl) (by kernel_rfl) ?_ ?_ (by assumption) ?_
    rotate_left 2; (simp only [List.getElem?_toArray, List.getElem?_cons_succ, List.getElem?_cons_zero]; rfl)
    rotate_left; (first | (refine .inl ⟨by rfl, ?_⟩; intro w9 hS9; go_simp; try with_reducible rfl) | (refine .inr ⟨by rfl, ?_⟩; with_reducible rfl))
    rotate_left; (intro _ _ _ h9; exact h9)
    try simp only [Act.put, List.setIfInBounds_toArray, List.set_cons_zero, List.set_cons_succ]
    refine wpAnyH_take (i := 5) (oi := ?_) (v := ?_) ?_ (by kernel_rfl) (by kernel_rfl) (by kernel_rfl) ?_ ?_ (by assumption) ?_
    rotate_left 2; (simp only [List.getElem?_toArray, List.getElem?_cons_succ, List.getElem?_cons_zero]; rfl)
    rotate_left; (first | (refine .inl ⟨by rfl, ?_⟩; intro w9 hS9; go_simp; try with_reducible rfl) | (refine .inr ⟨by rfl, ?_⟩; with_reducible rfl))
    rotate_left; (intro _ _ _ h9; exact h9)
    try simp only [Act.put, List.setIfInBounds_toArray, List.set_cons_zero, List.set_cons_succ]
    refine wpAnyH_take (i := 6) (oi := ?_) (v := ?_) ?_ (by kernel_rfl) (by kernel_rfl) (by kernel_rfl) ?_ ?_ (by assumption) ?_
    rotate_left 2; (simp only [List.getElem?_toArray, List.getElem?_cons_succ, List.getElem?_cons_zero]; rfl)
    rotate_left; (first | (refine .inl ⟨by rfl, ?_⟩; intro w9 hS9; go_simp; try with_reducible rfl) | (refine .inr ⟨by rfl, ?_⟩; with_reducible rfl))
    rotate_left; (intro _ _ _ h9; exact h9)
    try simp only [Act.put, List.setIfInBounds_toArray, List.set_cons_zero, List.set_cons_succ]
    refine wpAnyH_take (i := 7) (oi := ?_) (v := ?_) ?_ (by kernel_rfl) (by kernel_rfl) (by kernel_rfl) ?_ ?_ (by assumption) ?_
    rotate_left 2; (simp only [List.getElem?_toArray, List.getElem?_cons_succ, List.getElem?_cons_zero]; rfl)
    rotate_left; (first | (refine .inl ⟨by rfl, ?_⟩; intro w9 hS9; go_simp; try with_reducible rfl) | (refine .inr ⟨by rfl, ?_⟩; with_reducible rfl))
    rotate_left; (intro _ _ _ h9; exact h9)
    try simp only [Act.put, List.setIfInBounds_toArray, List.set_cons_zero, List.set_cons_succ]
    refine wpAnyH_take (i := 8) (oi := ?_) (v := ?_) ?_ (by kernel_rfl) (by kernel_rfl) (by kernel_rfl) ?_ ?_ (by assumption) ?_
    rotate_left 2; (simp only [List.getElem?_toArray, List.getElem?_cons_succ, List.getElem?_cons_zero]; rfl)
    rotate_left; (first | (refine .inl ⟨by rfl, ?_⟩; intro w9 hS9; go_simp; try with_reducible rfl) | (refine .inr ⟨by rfl, ?_⟩; with_reducible rfl))
    rotate_left; (intro _ _ _ h9; exact h9)
    try simp only [Act.put, List.setIfInBounds_toArray, List.set_cons_zero, List.set_cons_succ]
    refine wpAnyH_take (i := 9) (oi := ?_) (v := ?_) ?_ (by kernel_rfl) (by kernel_rfl) (by kernel_rfl) ?_ ?_ (by assumption) ?_
    rotate_left 2; (simp only [List.getElem?_toArray, List.getElem?_cons_succ, List.getElem?_cons_zero]; rfl)
    rotate_left; (first | (refine .inl ⟨by rfl, ?_⟩; intro w9 hS9; go_simp; try with_reducible rfl) | (refine .inr ⟨by rfl, ?_⟩; with_reducible rfl))
    rotate_left; (intro _ _ _ h9; exact h9)
    try simp only [Act.put, List.setIfInBounds_toArray, List.set_cons_zero, List.set_cons_succ]
    refine wpAnyH_take (i := 10) (oi := ?_) (v := ?_) ?_ (by kernel_rfl) (by kernel_rfl) (by kernel_rfl) ?_ ?_ (by assumption) ?_
    rotate_left 2; (simp only [List.getElem?_toArray, List.getElem?_cons_succ, List.getElem?_cons_zero]; rfl)
    rotate_left; (first | (refine .inl ⟨by rfl, ?_⟩; intro w9 hS9; go_simp; try with_reducible rfl) | (refine .inr ⟨by rfl, ?_⟩; with_reducible rfl))
    rotate_left; (intro _ _ _ h9; exact h9)
    try simp only [Act.put, List.setIfInBounds_toArray, List.set_cons_zero, List.set_cons_succ]
    refine wpAnyH_done (by kernel_rfl) ?_ _
    have HB2 := Lib.hid (below_step HB.out hS0)
    have HJ2 := Lib.hid (HJ1.out.below hS0)
    have HST2 := Lib.hid (HST.out.below hS0)
    have HX2 := Lib.hid (HX.out.below hS0)
    have HD2 := Lib.hid (HD1.out.below hS0)
    clear hS0 x1 x4 HJ1 HST HX HD1 HB
    generalize wa.drew = w2 at *
    go_wp2_with fail
    refine (jr_room j g gb s.bank s.nt A c s.has t.xs t.lim t.dead n2 HBK.out (by omega) (by omega) _ HJ2.out HST2.out).mono ?_
    rintro e w3 ⟨rfl, hb3⟩
    have HB3 := Lib.hid (below_step HB2.out hb3)
    have HJ3 := Lib.hid (HJ2.out.below hb3)
    have HST3 := Lib.hid (HST2.out.below hb3)
    have HX3 := Lib.hid (HX2.out.below hb3)
    have HD3 := Lib.hid (HD2.out.below hb3)
    have HRM := Lib.hid (show ∀ b, jRoom t.xs s.bank s.nt.fin n2 = b → jRoom t.xs s.bank s.nt.fin (8 + d.length) = b from fun b h => by rw [HM.out.2.1]; exact h)
    clear hb3 HB2 HJ2 HST2 HX2 HD2
    generalize hrm : jRoom t.xs s.bank s.nt.fin n2 = rm at *
    have HRM2 := Lib.hid (HRM.out rm rfl)
    clear HRM hrm
    go_upto_if 53 with fail
    go_cut [7, 8, 9] (fun s7 s8 s9 wx => ∃ (tb at_ : Nat) (r : Nat × Sto), s7 = .int .i64 tb ∧ s8 = .int .i64 at_ ∧ ErrIs wx s9 r.1 ∧ JMid w j g gb s t d A c A1 n1 c1 (some ⟨g2, 0, none⟩) n2 cp2 (bkPrint s1 d) tb at_ r wx)
    case first =>
      cases rm with
      | true =>
        go_wp2_with fail
        go_meet
        exact ⟨s.bank, s.nt.fin, (0, t), rfl, rfl, ErrIs.none _, HBK.out, by have := HFIN.out; omega, rfl, HJ3.out, HST3.out, HX3.out, HD3.out, Fr.ofBelow HB3.out _, by
          unfold jAppend
          rw [if_neg (by rw [HOK.out]; decide), if_neg H56.out, if_pos HRM2.out]⟩
      | false =>
        obtain ⟨c9, hc9⟩ : ∃ c9 : Nat, c9 = 1 - s.bank := ⟨_, rfl⟩
        have ec : IntKind.i64.wrap (1 - (s.bank : Int)) = (c9 : Int) := by have := HBK.out; simp [IntKind.wrap, IntKind.bits, IntKind.signed]; omega
        have HC1 := Lib.hid (show c9 ≤ 1 by omega)
        have HEQ := Lib.hid (show jAppend s t d = jPut s d c9 0 (t.xs.length / 2) (jWipe t c9 (t.xs.length / 2)) by
          unfold jAppend
          rw [if_neg (by rw [HOK.out]; decide), if_neg H56.out, if_neg (by rw [HRM2.out]; decide), hc9])
        obtain ⟨q, hq⟩ : ∃ q : Nat, q = c9 * (t.xs.length / 2) := ⟨_, rfl⟩
        have HQ := Lib.hid hq
        have HQL := Lib.hid (show q + t.xs.length / 2 ≤ t.xs.length from hq ▸ bank_le c9 _ _ HC1.out rfl)
        have em : IntKind.i64.wrap ((c9 : Int) * ((t.xs.length / 2 : Nat) : Int)) = (q : Int) := by
          rw [← Int.natCast_mul, ← hq]
          have := HQL.out
          have := HSM.out
          simp [IntKind.wrap, IntKind.bits, IntKind.signed]
          omega
        have x0 : ∀ w', Fr (fun k => k = g ∨ k = gb) w3 w' → w'.cell? ⟨j, 0, none⟩ = some (.pointer (some ⟨g, 0, none⟩)) := fun w' hf => (HJ3.out.two hf HNE.out).cells.1
        clear hc9 hq
        generalize hm : t.xs.length / 2 = m at *
        have HMM := Lib.hid hm
        clear hm
        go_upto_region 10 with fail
        have hS0 : Fr (fun k => k = g ∨ k = gb) w3 w3.drew := fr_drew _ w3
        have HJ4 := Lib.hid (HJ3.out.below (below_drew1 w3))
        have HST4 := Lib.hid (HST3.out.below (below_drew1 w3))
        have HB4 := Lib.hid (below_drew1 w3)
        refine wp_region_held (S := fun w' => Fr (fun k => k = g ∨ k = gb) w3 w') (by kernel_rfl) ?_
        change wpAnyH _ _ _ _ _ _ _ _ w3.drew
        generalize w3.drew = w4 at *
        change wpAnyH _ _ _ _ _ 14 (Array.replicate 14 false) _ _
        refine wpAnyH_take (i := 0) (oi := ?_) (v := ?_) ?_ (by kernel_rfl) (by kernel_rfl) (by kernel_rfl) ?_ ?_ (by assumption) ?_
        rotate_left 2; (simp only [List.getElem?_toArray, List.getElem?_cons_succ, List.getElem?_cons_zero]; rfl)
        rotate_left; (first | (refine .inl ⟨by rfl, ?_⟩; intro w9 hS9; go_simp; try with_reducible rfl) | (refine .inr ⟨by rfl, ?_⟩; with_reducible rfl))
        rotate_left; (intro _ _ _ h9; exact h9)
        try simp only [Act.put, List.setIfInBounds_toArray, List.set_cons_zero, List.set_cons_succ]
        refine wpAnyH_take (i := 1) (oi := ?_) (v := ?_) ?_ (by kernel_rfl) (by kernel_rfl) (by kernel_rfl) ?_ ?_ (by assumption) ?_
        rotate_left 2; (simp only [List.getElem?_toArray, List.getElem?_cons_succ, List.getElem?_cons_zero]; rfl)
        rotate_left; (first | (refine .inl ⟨by rfl, ?_⟩; intro w9 hS9; go_simp; try with_reducible rfl) | (refine .inr ⟨by rfl, ?_⟩; with_reducible rfl))
        rotate_left; (intro _ _ _ h9; exact h9)
        try simp only [Act.put, List.setIfInBounds_toArray, List.set_cons_zero, List.set_cons_succ]
        refine wpAnyH_take (i := 2) (oi := ?_) (v := ?_) ?_ (by kernel_rfl) (by kernel_rfl) (by kernel_rfl) ?_ ?_ (by assumption) ?_
        rotate_left 2; (simp only [List.getElem?_toArray, List.getElem?_cons_succ, List.getElem?_cons_zero]; rfl)
        rotate_left; (first | (refine .inl ⟨by rfl, ?_⟩; intro w9 hS9; go_simp; try with_reducible rfl) | (refine .inr ⟨by rfl, ?_⟩; with_reducible rfl))
        rotate_left; (intro _ _ _ h9; exact h9)
        try simp only [Act.put, List.setIfInBounds_toArray, List.set_cons_zero, List.set_cons_succ]
        refine wpAnyH_take (i := 3) (oi := ?_) (v := ?_) ?_ (by kernel_rfl) (by kernel_rfl) (by kernel_rfl) ?_ ?_ (by assumption) ?_
        rotate_left 2; (simp only [List.getElem?_toArray, List.getElem?_cons_succ, List.getElem?_cons_zero]; rfl)
        rotate_left; (first | (refine .inl ⟨by rfl, ?_⟩; intro w9 hS9; go_simp; try with_reducible rfl) | (refine .inr ⟨by rfl, ?_⟩; with_reducible rfl))
        rotate_left; (intro _ _ _ h9; exact h9)
        try simp only [Act.put, List.setIfInBounds_toArray, List.set_cons_zero, List.set_cons_succ]
        refine wpAnyH_take (i := 4) (oi := ?_) (v := ?_) ?_ (by kernel_rfl) (by kernel_rfl) (by kernel_rfl) ?_ ?_ (by assumption) ?_
        rotate_left 2; (simp only [List.getElem?_toArray, List.getElem?_cons_succ, List.getElem?_cons_zero]; rfl)
        rotate_left; (first | (refine .inl ⟨by rfl, ?_⟩; intro w9 hS9; go_simp; try with_reducible rfl) | (refine .inr ⟨by rfl, ?_⟩; with_reducible rfl))
        rotate_left; (intro _ _ _ h9; exact h9)
        try simp only [Act.put, List.setIfInBounds_toArray, List.set_cons_zero, List.set_cons_succ]
        refine wpAnyH_take (i := 5) (oi := ?_) (v := ?_) ?_ (by kernel_rfl) (by kernel_rfl) (by kernel_rfl) ?_ ?_ (by assumption) ?_
        rotate_left 2; (simp only [List.getElem?_toArray, List.getElem?_cons_succ, List.getElem?_cons_zero]; rfl)
        rotate_left; (first | (refine .inl ⟨by rfl, ?_⟩; intro w9 hS9; go_simp; try with_reducible rfl) | (refine .inr ⟨by rfl, ?_⟩; with_reducible rfl))
        rotate_left; (intro _ _ _ h9; exact h9)
        try simp only [Act.put, List.setIfInBounds_toArray, List.set_cons_zero, List.set_cons_succ]
        refine wpAnyH_take (i := 9) (oi := ?_) (v := ?_) ?_ (by kernel_rfl) (by kernel_rfl) (by kernel_rfl) ?_ ?_ (by assumption) ?_
        rotate_left 2; (simp only [List.getElem?_toArray, List.getElem?_cons_succ, List.getElem?_cons_zero]; rfl)
        rotate_left; (first | (refine .inl ⟨by rfl, ?_⟩; intro w9 hS9; go_simp; try with_reducible rfl) | (refine .inr ⟨by rfl, ?_⟩; with_reducible rfl))
        rotate_left; (intro _ _ _ h9; exact h9)
        try simp only [Act.put, List.setIfInBounds_toArray, List.set_cons_zero, List.set_cons_succ]
        refine wpAnyH_ready (rs := [6, 8]) (by kernel_rfl) (by simp) ?_
        refine AllReadyH.cons rfl (fun K9 hK9 => ?_) ?_
        · go_simp
          refine (jr_size j g gb _ _ _ _ _ t.xs t.lim t.dead _ HJ4.out HST4.out).mono ?_
          rintro e w' ⟨rfl, rfl⟩
          rw [HMM.out]
          refine hK9.out _ _ hS0 (fun _ => ?_)
          refine wpAnyH_take (i := 7) (oi := ?_) (v := ?_) ?_ (by kernel_rfl) (by kernel_rfl) (by kernel_rfl) ?_ ?_ (by assumption) ?_
          rotate_left 2; (simp only [List.getElem?_toArray, List.getElem?_cons_succ, List.getElem?_cons_zero]; rfl)
          rotate_left; (first | (refine .inl ⟨by rfl, ?_⟩; intro w9 hS9; go_simp; try with_reducible rfl) | (refine .inr ⟨by rfl, ?_⟩; with_reducible rfl))
          rotate_left; (intro _ _ _ h9; exact h9)
          try simp only [Act.put, List.setIfInBounds_toArray, List.set_cons_zero, List.set_cons_succ]
          refine wpAnyH_ready (rs := [8, 10]) (by kernel_rfl) (by simp) ?_
          refine AllReadyH.cons rfl (fun K9 hK9 => ?_) ?_
          · go_simp
            have hb5 := below_new w4 (.cells #[.int .u8 255] 5)
            have hr5 : RB (w4.alloc (.cells #[.int .u8 255] 5)) (some ⟨w4.heap.size, 0, none⟩) 1 [255] := rb_one w4 255 _
            have hS5 := fr_new hS0 hb5
            refine hK9.out _ _ hS5 (fun _ => ?_)
            have HR5 := Lib.hid hr5
            replace HJ4 := Lib.hid (HJ4.out.below hb5)
            replace HST4 := Lib.hid (HST4.out.below hb5)
            replace HB4 := Lib.hid (below_step HB4.out hb5)
            clear hb5 hr5 hS0
            have hS0 := hS5
            clear hS5
            generalize w4.alloc (.cells #[.int .u8 255] 5) = w5 at *
            generalize w4.heap.size = L4 at *
            refine wpAnyH_ready (rs := [10]) (by kernel_rfl) (by simp) (AllReadyH.cons rfl (fun K9 hK9 => ?_) AllReadyH.nil)
            go_simp
            refine (jr_size j g gb _ _ _ _ _ t.xs t.lim t.dead _ HJ4.out HST4.out).mono ?_
            rintro e w' ⟨rfl, rfl⟩
            rw [HMM.out]
            refine hK9.out _ _ hS0 (fun _ => ?_)
            refine wpAnyH_ready (rs := [11]) (by kernel_rfl) (by simp) (AllReadyH.cons rfl (fun K9 hK9 => ?_) AllReadyH.nil)
            go_simp
            refine (rep_any m _ _ HR5.out (by omega)).mono ?_
            rintro e w6 ⟨g6, cur6, rfl, hbuf6, hg6, hb6⟩
            have hS6 := fr_new hS0 hb6
            refine hK9.out _ _ hS6 (fun _ => ?_)
            replace HJ4 := Lib.hid (HJ4.out.below hb6)
            replace HST4 := Lib.hid (HST4.out.below hb6)
            replace HB4 := Lib.hid (below_step HB4.out hb6)
            have HR6 := Lib.hid (hbuf6.rs m m (by rw [List.length_replicate]) (Nat.le_refl _) (by omega))
            clear hb6 hbuf6 hS0 hg6
            refine wpAnyH_ready (rs := [12]) (by kernel_rfl) (by simp) (AllReadyH.cons rfl (fun K9 hK9 => ?_) AllReadyH.nil)
            go_simp
            refine (st_write g gb t q _ m m _ _ HST4.out HR6.out).mono ?_
            rintro e w7 hw7
            obtain ⟨⟨v7, rfl, hv7⟩, hst7, hf7⟩ := hw7
            have hS7 := fr_same hS6 hf7
            refine hK9.out _ _ hS7 (fun _ => ?_)
            refine wpAnyH_take (i := 13) (oi := ?_) (v := ?_) ?_ (by kernel_rfl) (by kernel_rfl) (by kernel_rfl) ?_ ?_ (by assumption) ?_
            rotate_left 2; (simp only [List.getElem?_toArray, List.getElem?_cons_succ, List.getElem?_cons_zero]; rfl)
            rotate_left; (first | (refine .inl ⟨by rfl, ?_⟩; intro w9 hS9; go_simp; try with_reducible rfl) | (refine .inr ⟨by rfl, ?_⟩; with_reducible rfl))
            rotate_left; (intro _ _ _ h9; exact h9)
            try simp only [Act.put, List.setIfInBounds_toArray, List.set_cons_zero, List.set_cons_succ]
            refine wpAnyH_done (by kernel_rfl) ?_ _
            have HV7 := Lib.hid hv7
            have HST7 := Lib.hid hst7
            have HF7 := Lib.hid hS7
            clear hv7 hst7 hS6 hS7 hf7 x0
            go_wp2_with fail
            go_meet
            exact ⟨c9, 0, jWipe t c9 m, rfl, rfl, by unfold jWipe; rw [← HQ.out]; exact HV7.out, HC1.out, Nat.zero_le _, by
                unfold jWipe
                rw [← HQ.out]
                rcases Sto.wr_in (t := t) (a := q) (ys := List.replicate m 255) (by rw [List.length_replicate]; exact HQL.out) with ⟨_, h2⟩ | ⟨_, k, _, h2⟩
                · rw [h2, length_splice _ _ _ (by rw [List.length_replicate]; exact HQL.out)]
                · rw [h2, length_splice _ _ _ (by rw [List.length_take, List.length_replicate]; have := HQL.out; omega)],
              HJ3.out.two HF7.out HNE.out, by unfold jWipe; rw [← HQ.out]; exact HST7.out, HX3.out.fr HF7.out (fun _ b o e h => by cases e; have := HG2.out; have := HLT.out; omega), HD3.out.fr HF7.out (fun h0 b o e h => by have := HA.out h0 b o e; omega), (Fr.ofBelow HB3.out _).trans HF7.out (fun i h => .inl h), by rw [HMM.out]; exact HEQ.out⟩
          refine AllReadyH.cons rfl (fun K9 hK9 => ?_) ?_
          · go_simp
            refine (jr_size j g gb _ _ _ _ _ t.xs t.lim t.dead _ HJ4.out HST4.out).mono ?_
            rintro e w' ⟨rfl, rfl⟩
            rw [HMM.out]
            refine hK9.out _ _ hS0 (fun _ => ?_)
            refine wpAnyH_ready (rs := [8]) (by kernel_rfl) (by simp) (AllReadyH.cons rfl (fun K9 hK9 => ?_) AllReadyH.nil)
            go_simp
            have hb5 := below_new w4 (.cells #[.int .u8 255] 5)
            have hr5 : RB (w4.alloc (.cells #[.int .u8 255] 5)) (some ⟨w4.heap.size, 0, none⟩) 1 [255] := rb_one w4 255 _
            have hS5 := fr_new hS0 hb5
            refine hK9.out _ _ hS5 (fun _ => ?_)
            have HR5 := Lib.hid hr5
            replace HJ4 := Lib.hid (HJ4.out.below hb5)
            replace HST4 := Lib.hid (HST4.out.below hb5)
            replace HB4 := Lib.hid (below_step HB4.out hb5)
            clear hb5 hr5 hS0
            have hS0 := hS5
            clear hS5
            generalize w4.alloc (.cells #[.int .u8 255] 5) = w5 at *
            generalize w4.heap.size = L4 at *
            refine wpAnyH_ready (rs := [11]) (by kernel_rfl) (by simp) (AllReadyH.cons rfl (fun K9 hK9 => ?_) AllReadyH.nil)
            go_simp
            refine (rep_any m _ _ HR5.out (by omega)).mono ?_
            rintro e w6 ⟨g6, cur6, rfl, hbuf6, hg6, hb6⟩
            have hS6 := fr_new hS0 hb6
            refine hK9.out _ _ hS6 (fun _ => ?_)
            replace HJ4 := Lib.hid (HJ4.out.below hb6)
            replace HST4 := Lib.hid (HST4.out.below hb6)
            replace HB4 := Lib.hid (below_step HB4.out hb6)
            have HR6 := Lib.hid (hbuf6.rs m m (by rw [List.length_replicate]) (Nat.le_refl _) (by omega))
            clear hb6 hbuf6 hS0 hg6
            refine wpAnyH_ready (rs := [12]) (by kernel_rfl) (by simp) (AllReadyH.cons rfl (fun K9 hK9 => ?_) AllReadyH.nil)
            go_simp
            refine (st_write g gb t q _ m m _ _ HST4.out HR6.out).mono ?_
            rintro e w7 hw7
            obtain ⟨⟨v7, rfl, hv7⟩, hst7, hf7⟩ := hw7
            have hS7 := fr_same hS6 hf7
            refine hK9.out _ _ hS7 (fun _ => ?_)
            refine wpAnyH_take (i := 13) (oi := ?_) (v := ?_) ?_ (by kernel_rfl) (by kernel_rfl) (by kernel_rfl) ?_ ?_ (by assumption) ?_
            rotate_left 2; (simp only [List.getElem?_toArray, List.getElem?_cons_succ, List.getElem?_cons_zero]; rfl)
            rotate_left; (first | (refine .inl ⟨by rfl, ?_⟩; intro w9 hS9; go_simp; try with_reducible rfl) | (refine .inr ⟨by rfl, ?_⟩; with_reducible rfl))
            rotate_left; (intro _ _ _ h9; exact h9)
            try simp only [Act.put, List.setIfInBounds_toArray, List.set_cons_zero, List.set_cons_succ]
            refine wpAnyH_done (by kernel_rfl) ?_ _
            have HV7 := Lib.hid hv7
            have HST7 := Lib.hid hst7
            have HF7 := Lib.hid hS7
            clear hv7 hst7 hS6 hS7 hf7 x0
            go_wp2_with fail
            go_meet
            exact ⟨c9, 0, jWipe t c9 m, rfl, rfl, by unfold jWipe; rw [← HQ.out]; exact HV7.out, HC1.out, Nat.zero_le _, by
                unfold jWipe
                rw [← HQ.out]
                rcases Sto.wr_in (t := t) (a := q) (ys := List.replicate m 255) (by rw [List.length_replicate]; exact HQL.out) with ⟨_, h2⟩ | ⟨_, k, _, h2⟩
                · rw [h2, length_splice _ _ _ (by rw [List.length_replicate]; exact HQL.out)]
                · rw [h2, length_splice _ _ _ (by rw [List.length_take, List.length_replicate]; have := HQL.out; omega)],
              HJ3.out.two HF7.out HNE.out, by unfold jWipe; rw [← HQ.out]; exact HST7.out, HX3.out.fr HF7.out (fun _ b o e h => by cases e; have := HG2.out; have := HLT.out; omega), HD3.out.fr HF7.out (fun h0 b o e h => by have := HA.out h0 b o e; omega), (Fr.ofBelow HB3.out _).trans HF7.out (fun i h => .inl h), by rw [HMM.out]; exact HEQ.out⟩
          exact AllReadyH.nil
        refine AllReadyH.cons rfl (fun K9 hK9 => ?_) ?_
        · go_simp
          have hb5 := below_new w4 (.cells #[.int .u8 255] 5)
          have hr5 : RB (w4.alloc (.cells #[.int .u8 255] 5)) (some ⟨w4.heap.size, 0, none⟩) 1 [255] := rb_one w4 255 _
          have hS5 := fr_new hS0 hb5
          refine hK9.out _ _ hS5 (fun _ => ?_)
          have HR5 := Lib.hid hr5
          replace HJ4 := Lib.hid (HJ4.out.below hb5)
          replace HST4 := Lib.hid (HST4.out.below hb5)
          replace HB4 := Lib.hid (below_step HB4.out hb5)
          clear hb5 hr5 hS0
          have hS0 := hS5
          clear hS5
          generalize w4.alloc (.cells #[.int .u8 255] 5) = w5 at *
          generalize w4.heap.size = L4 at *
          refine wpAnyH_ready (rs := [6]) (by kernel_rfl) (by simp) (AllReadyH.cons rfl (fun K9 hK9 => ?_) AllReadyH.nil)
          go_simp
          refine (jr_size j g gb _ _ _ _ _ t.xs t.lim t.dead _ HJ4.out HST4.out).mono ?_
          rintro e w' ⟨rfl, rfl⟩
          rw [HMM.out]
          refine hK9.out _ _ hS0 (fun _ => ?_)
          refine wpAnyH_take (i := 7) (oi := ?_) (v := ?_) ?_ (by kernel_rfl) (by kernel_rfl) (by kernel_rfl) ?_ ?_ (by assumption) ?_
          rotate_left 2; (simp only [List.getElem?_toArray, List.getElem?_cons_succ, List.getElem?_cons_zero]; rfl)
          rotate_left; (first | (refine .inl ⟨by rfl, ?_⟩; intro w9 hS9; go_simp; try with_reducible rfl) | (refine .inr ⟨by rfl, ?_⟩; with_reducible rfl))
          rotate_left; (intro _ _ _ h9; exact h9)
          try simp only [Act.put, List.setIfInBounds_toArray, List.set_cons_zero, List.set_cons_succ]
          refine wpAnyH_ready (rs := [10]) (by kernel_rfl) (by simp) (AllReadyH.cons rfl (fun K9 hK9 => ?_) AllReadyH.nil)
          go_simp
          refine (jr_size j g gb _ _ _ _ _ t.xs t.lim t.dead _ HJ4.out HST4.out).mono ?_
          rintro e w' ⟨rfl, rfl⟩
          rw [HMM.out]
          refine hK9.out _ _ hS0 (fun _ => ?_)
          refine wpAnyH_ready (rs := [11]) (by kernel_rfl) (by simp) (AllReadyH.cons rfl (fun K9 hK9 => ?_) AllReadyH.nil)
          go_simp
          refine (rep_any m _ _ HR5.out (by omega)).mono ?_
          rintro e w6 ⟨g6, cur6, rfl, hbuf6, hg6, hb6⟩
          have hS6 := fr_new hS0 hb6
          refine hK9.out _ _ hS6 (fun _ => ?_)
          replace HJ4 := Lib.hid (HJ4.out.below hb6)
          replace HST4 := Lib.hid (HST4.out.below hb6)
          replace HB4 := Lib.hid (below_step HB4.out hb6)
          have HR6 := Lib.hid (hbuf6.rs m m (by rw [List.length_replicate]) (Nat.le_refl _) (by omega))
          clear hb6 hbuf6 hS0 hg6
          refine wpAnyH_ready (rs := [12]) (by kernel_rfl) (by simp) (AllReadyH.cons rfl (fun K9 hK9 => ?_) AllReadyH.nil)
          go_simp
          refine (st_write g gb t q _ m m _ _ HST4.out HR6.out).mono ?_
          rintro e w7 hw7
          obtain ⟨⟨v7, rfl, hv7⟩, hst7, hf7⟩ := hw7
          have hS7 := fr_same hS6 hf7
          refine hK9.out _ _ hS7 (fun _ => ?_)
          refine wpAnyH_take (i := 13) (oi := ?_) (v := ?_) ?_ (by kernel_rfl) (by kernel_rfl) (by kernel_rfl) ?_ ?_ (by assumption) ?_
          rotate_left 2; (simp only [List.getElem?_toArray, List.getElem?_cons_succ, List.getElem?_cons_zero]; rfl)
          rotate_left; (first | (refine .inl ⟨by rfl, ?_⟩; intro w9 hS9; go_simp; try with_reducible rfl) | (refine .inr ⟨by rfl, ?_⟩; with_reducible rfl))
          rotate_left; (intro _ _ _ h9; exact h9)
          try simp only [Act.put, List.setIfInBounds_toArray, List.set_cons_zero, List.set_cons_succ]
          refine wpAnyH_done (by kernel_rfl) ?_ _
          have HV7 := Lib.hid hv7
          have HST7 := Lib.hid hst7
          have HF7 := Lib.hid hS7
          clear hv7 hst7 hS6 hS7 hf7 x0
          go_wp2_with fail
          go_meet
          exact ⟨c9, 0, jWipe t c9 m, rfl, rfl, by unfold jWipe; rw [← HQ.out]; exact HV7.out, HC1.out, Nat.zero_le _, by
              unfold jWipe
              rw [← HQ.out]
              rcases Sto.wr_in (t := t) (a := q) (ys := List.replicate m 255) (by rw [List.length_replicate]; exact HQL.out) with ⟨_, h2⟩ | ⟨_, k, _, h2⟩
              · rw [h2, length_splice _ _ _ (by rw [List.length_replicate]; exact HQL.out)]
              · rw [h2, length_splice _ _ _ (by rw [List.length_take, List.length_replicate]; have := HQL.out; omega)],
            HJ3.out.two HF7.out HNE.out, by unfold jWipe; rw [← HQ.out]; exact HST7.out, HX3.out.fr HF7.out (fun _ b o e h => by cases e; have := HG2.out; have := HLT.out; omega), HD3.out.fr HF7.out (fun h0 b o e h => by have := HA.out h0 b o e; omega), (Fr.ofBelow HB3.out _).trans HF7.out (fun i h => .inl h), by rw [HMM.out]; exact HEQ.out⟩
        exact AllReadyH.nil
    case rest =>
      obtain ⟨tb, at_, r, rfl, rfl, herr, hmid⟩ := hcut
      have HMID := Lib.hid hmid
      have HJ9 := Lib.hid hmid.jr
      have HF9 := Lib.hid hmid.fr
      have HS9 := Lib.hid hmid.st
      have HEQ0 := Lib.hid hmid.eq
      have HTB := Lib.hid hmid.le1
      have HATL := Lib.hid hmid.leA
      have HLEN := Lib.hid hmid.len
      have HX9 := Lib.hid hmid.rx
      have HD9 := Lib.hid hmid.rd
      clear hmid HJ3 HST3 HX3 HD3 HB3 HMID
      rcases herr with ⟨h0, rfl⟩ | ⟨h0, dd, he⟩
      · have hr0 : r.1 = 0 := by omega
        obtain ⟨q, hq⟩ : ∃ q : Nat, q = tb * (t.xs.length / 2) := ⟨_, rfl⟩
        have HQL := Lib.hid (show q + t.xs.length / 2 ≤ t.xs.length from hq ▸ bank_le tb _ _ HTB.out rfl)
        have em : IntKind.i64.wrap ((tb : Int) * ((t.xs.length / 2 : Nat) : Int)) = (q : Int) := by
          rw [← Int.natCast_mul, ← hq]
          have := HQL.out
          have := HSM.out
          simp [IntKind.wrap, IntKind.bits, IntKind.signed]
          omega
        have ea : IntKind.i64.wrap ((q : Int) + (at_ : Int)) = ((q + at_ : Nat) : Int) := by
          have := HQL.out
          have := HSM.out
          have := HATL.out
          simp [IntKind.wrap, IntKind.bits, IntKind.signed]
          omega
        have ea2 : IntKind.i64.wrap ((at_ : Int) + (n2 : Int)) = ((at_ + n2 : Nat) : Int) := by
          have := HATL.out
          have := HM.out
          simp [IntKind.wrap, IntKind.bits, IntKind.signed]
          omega
        have HEQ1 := Lib.hid (show ∀ k r2, r.2.wr (q + at_) (bkPrint s1 d) = (k, r2) → jAppend s t d = if k = 0 then (0, ⟨tb, ⟨s.nt.seq + 1, d, at_ + (8 + d.length)⟩, true⟩, r2) else (k, s, r2) by
          intro k r2 h
          rw [HEQ0.out]
          unfold jPut
          rw [if_pos hr0, ← hq, ← HS1E.out, h])
        have x0 : ∀ w', Fr (fun k => k = g ∨ k = gb) wc w' → w'.cell? ⟨j, 0, none⟩ = some (.pointer (some ⟨g, 0, none⟩)) := fun w' hf => (HJ9.out.two hf HNE.out).cells.1
        clear hq h0 HEQ0
        generalize hm : t.xs.length / 2 = m at *
        have HMM := Lib.hid hm
        clear hm
        go_upto_region 12 with fail
        have hS0 : Fr (fun k => k = g ∨ k = gb) wc wc.drew := fr_drew _ wc
        have HJ4 := Lib.hid (HJ9.out.below (below_drew1 wc))
        have HST4 := Lib.hid (HS9.out.below (below_drew1 wc))
        have HX4 := Lib.hid (HX9.out.below (below_drew1 wc))
        refine wp_region_held (S := fun w' => Fr (fun k => k = g ∨ k = gb) wc w') (by kernel_rfl) ?_
        change wpAnyH _ _ _ _ _ _ _ _ wc.drew
        generalize wc.drew = w4 at *
        change wpAnyH _ _ _ _ _ 13 (Array.replicate 13 false) _ _
        refine wpAnyH_take (i := 0) (oi := ?_) (v := ?_) ?_ (by kernel_rfl) (by kernel_rfl) (by kernel_rfl) ?_ ?_ (by assumption) ?_
        rotate_left 2; (simp only [List.getElem?_toArray, List.getElem?_cons_succ, List.getElem?_cons_zero]; rfl)
        rotate_left; (first | (refine .inl ⟨by rfl, ?_⟩; intro w9 hS9; go_simp; try with_reducible rfl) | (refine .inr ⟨by rfl, ?_⟩; with_reducible rfl))
        rotate_left; (intro _ _ _ h9; exact h9)
        try simp only [Act.put, List.setIfInBounds_toArray, List.set_cons_zero, List.set_cons_succ]
        refine wpAnyH_take (i := 1) (oi := ?_) (v := ?_) ?_ (by kernel_rfl) (by kernel_rfl) (by kernel_rfl) ?_ ?_ (by assumption) ?_
        rotate_left 2; (simp only [List.getElem?_toArray, List.getElem?_cons_succ, List.getElem?_cons_zero]; rfl)
        rotate_left; (first | (refine .inl ⟨by rfl, ?_⟩; intro w9 hS9; go_simp; try with_reducible rfl) | (refine .inr ⟨by rfl, ?_⟩; with_reducible rfl))
        rotate_left; (intro _ _ _ h9; exact h9)
        try simp only [Act.put, List.setIfInBounds_toArray, List.set_cons_zero, List.set_cons_succ]
        refine wpAnyH_take (i := 2) (oi := ?_) (v := ?_) ?_ (by kernel_rfl) (by kernel_rfl) (by kernel_rfl) ?_ ?_ (by assumption) ?_
        rotate_left 2; (simp only [List.getElem?_toArray, List.getElem?_cons_succ, List.getElem?_cons_zero]; rfl)
        rotate_left; (first | (refine .inl ⟨by rfl, ?_⟩; intro w9 hS9; go_simp; try with_reducible rfl) | (refine .inr ⟨by rfl, ?_⟩; with_reducible rfl))
        rotate_left; (intro _ _ _ h9; exact h9)
        try simp only [Act.put, List.setIfInBounds_toArray, List.set_cons_zero, List.set_cons_succ]
        refine wpAnyH_take (i := 3) (oi := ?_) (v := ?_) ?_ (by kernel_rfl) (by kernel_rfl) (by kernel_rfl) ?_ ?_ (by assumption) ?_
        rotate_left 2; (simp only [List.getElem?_toArray, List.getElem?_cons_succ, List.getElem?_cons_zero]; rfl)
        rotate_left; (first | (refine .inl ⟨by rfl, ?_⟩; intro w9 hS9; go_simp; try with_reducible rfl) | (refine .inr ⟨by rfl, ?_⟩; with_reducible rfl))
        rotate_left; (intro _ _ _ h9; exact h9)
        try simp only [Act.put, List.setIfInBounds_toArray, List.set_cons_zero, List.set_cons_succ]
        refine wpAnyH_take (i := 4) (oi := ?_) (v := ?_) ?_ (by kernel_rfl) (by kernel_rfl) (by kernel_rfl) ?_ ?_ (by assumption) ?_
        rotate_left 2; (simp only [List.getElem?_toArray, List.getElem?_cons_succ, List.getElem?_cons_zero]; rfl)
        rotate_left; (first | (refine .inl ⟨by rfl, ?_⟩; intro w9 hS9; go_simp; try with_reducible rfl) | (refine .inr ⟨by rfl, ?_⟩; with_reducible rfl))
        rotate_left; (intro _ _ _ h9; exact h9)
        try simp only [Act.put, List.setIfInBounds_toArray, List.set_cons_zero, List.set_cons_succ]
        refine wpAnyH_take (i := 5) (oi := ?_) (v := ?_) ?_ (by kernel_rfl) (by kernel_rfl) (by kernel_rfl) ?_ ?_ (by assumption) ?_
        rotate_left 2; (simp only [List.getElem?_toArray, List.getElem?_cons_succ, List.getElem?_cons_zero]; rfl)
        rotate_left; (first | (refine .inl ⟨by rfl, ?_⟩; intro w9 hS9; go_simp; try with_reducible rfl) | (refine .inr ⟨by rfl, ?_⟩; with_reducible rfl))
        rotate_left; (intro _ _ _ h9; exact h9)
        try simp only [Act.put, List.setIfInBounds_toArray, List.set_cons_zero, List.set_cons_succ]
        refine wpAnyH_take (i := 8) (oi := ?_) (v := ?_) ?_ (by kernel_rfl) (by kernel_rfl) (by kernel_rfl) ?_ ?_ (by assumption) ?_
        rotate_left 2; (simp only [List.getElem?_toArray, List.getElem?_cons_succ, List.getElem?_cons_zero]; rfl)
        rotate_left; (first | (refine .inl ⟨by rfl, ?_⟩; intro w9 hS9; go_simp; try with_reducible rfl) | (refine .inr ⟨by rfl, ?_⟩; with_reducible rfl))
        rotate_left; (intro _ _ _ h9; exact h9)
        try simp only [Act.put, List.setIfInBounds_toArray, List.set_cons_zero, List.set_cons_succ]
        refine wpAnyH_take (i := 10) (oi := ?_) (v := ?_) ?_ (by kernel_rfl) (by kernel_rfl) (by kernel_rfl) ?_ ?_ (by assumption) ?_
        rotate_left 2; (simp only [List.getElem?_toArray, List.getElem?_cons_succ, List.getElem?_cons_zero]; rfl)
        rotate_left; (first | (refine .inl ⟨by rfl, ?_⟩; intro w9 hS9; go_simp; try with_reducible rfl) | (refine .inr ⟨by rfl, ?_⟩; with_reducible rfl))
        rotate_left; (intro _ _ _ h9; exact h9)
        try simp only [Act.put, List.setIfInBounds_toArray, List.set_cons_zero, List.set_cons_succ]
        refine wpAnyH_ready (rs := [6]) (by kernel_rfl) (by simp) (AllReadyH.cons rfl (fun K9 hK9 => ?_) AllReadyH.nil)
        go_simp
        refine (jr_size j g gb _ _ _ _ _ r.2.xs r.2.lim r.2.dead _ HJ4.out HST4.out).mono ?_
        rintro e w' ⟨rfl, rfl⟩
        rw [HLEN.out, HMM.out]
        refine hK9.out _ _ hS0 (fun _ => ?_)
        refine wpAnyH_take (i := 7) (oi := ?_) (v := ?_) ?_ (by kernel_rfl) (by kernel_rfl) (by kernel_rfl) ?_ ?_ (by assumption) ?_
        rotate_left 2; (simp only [List.getElem?_toArray, List.getElem?_cons_succ, List.getElem?_cons_zero]; rfl)
        rotate_left; (first | (refine .inl ⟨by rfl, ?_⟩; intro w9 hS9; go_simp; try with_reducible rfl) | (refine .inr ⟨by rfl, ?_⟩; with_reducible rfl))
        rotate_left; (intro _ _ _ h9; exact h9)
        try simp only [Act.put, List.setIfInBounds_toArray, List.set_cons_zero, List.set_cons_succ]
        refine wpAnyH_take (i := 9) (oi := ?_) (v := ?_) ?_ (by kernel_rfl) (by kernel_rfl) (by kernel_rfl) ?_ ?_ (by assumption) ?_
        rotate_left 2; (simp only [List.getElem?_toArray, List.getElem?_cons_succ, List.getElem?_cons_zero]; rfl)
        rotate_left; (first | (refine .inl ⟨by rfl, ?_⟩; intro w9 hS9; go_simp; try with_reducible rfl) | (refine .inr ⟨by rfl, ?_⟩; with_reducible rfl))
        rotate_left; (intro _ _ _ h9; exact h9)
        try simp only [Act.put, List.setIfInBounds_toArray, List.set_cons_zero, List.set_cons_succ]
        refine wpAnyH_ready (rs := [11]) (by kernel_rfl) (by simp) (AllReadyH.cons rfl (fun K9 hK9 => ?_) AllReadyH.nil)
        go_simp
        refine (st_write g gb r.2 (q + at_) _ n2 cp2 _ _ HST4.out HX4.out).mono ?_
        rintro e w7 hw7
        obtain ⟨⟨v7, rfl, hv7⟩, hst7, hf7⟩ := hw7
        have hS7 := fr_same hS0 hf7
        refine hK9.out _ _ hS7 (fun _ => ?_)
        refine wpAnyH_take (i := 12) (oi := ?_) (v := ?_) ?_ (by kernel_rfl) (by kernel_rfl) (by kernel_rfl) ?_ ?_ (by assumption) ?_
        rotate_left 2; (simp only [List.getElem?_toArray, List.getElem?_cons_succ, List.getElem?_cons_zero]; rfl)
        rotate_left; (first | (refine .inl ⟨by rfl, ?_⟩; intro w9 hS9; go_simp; try with_reducible rfl) | (refine .inr ⟨by rfl, ?_⟩; with_reducible rfl))
        rotate_left; (intro _ _ _ h9; exact h9)
        try simp only [Act.put, List.setIfInBounds_toArray, List.set_cons_zero, List.set_cons_succ]
        refine wpAnyH_done (by kernel_rfl) ?_ _
        generalize hwr : r.2.wr (q + at_) (bkPrint s1 d) = r2 at *
        obtain ⟨k2, t2⟩ := r2
        have HEQ2 := Lib.hid (HEQ1.out k2 t2 rfl)
        replace HJ9 := Lib.hid (HJ9.out.two hS7 HNE.out)
        replace HS9 := Lib.hid hst7
        replace HF9 := Lib.hid (fr_same HF9.out hS7)
        replace HD9 := Lib.hid (HD9.out.fr hS7 (fun h0 b o e h => by have := HA.out h0 b o e; omega))
        clear hst7 hS7 hS0 hf7 x0 hwr HEQ1 HJ4 HST4 HX4 HX9
        rcases hv7 with ⟨h0, rfl⟩ | ⟨h0, dd, he⟩
        · have hk0 : k2 = 0 := by omega
          have HEQ := Lib.hid (show jAppend s t d = (0, ⟨tb, ⟨s.nt.seq + 1, d, at_ + (8 + d.length)⟩, true⟩, t2) by rw [HEQ2.out, if_pos hk0])
          obtain ⟨_, m1, _, _, _, m5⟩ := HJ9.out.cells
          have mf : ∀ i, w7.frozen? ⟨j, i, none⟩ = false := fun i => by simp [World.frozen?, HJ9.out.heap]
          clear h0 hk0 HEQ2
          go_wp2_with fail
          refine (errors_is_nil 7 _).mono ?_
          rintro e w9 ⟨rfl, rfl⟩
          go_upto_region 16 with fail
          obtain ⟨hj8, hf8⟩ := HJ9.out.set15 tb
          have HJ8 := Lib.hid hj8
          have HS8 := Lib.hid (HS9.out.fr hf8 (fun h => HNE.out.1 h.symm) (fun h => HNE.out.2 h.symm))
          have HD8 := Lib.hid (HD9.out.fr hf8 (fun h0 b o e h => by have := HA.out h0 b o e; omega))
          have HF8 := Lib.hid ((HF9.out.mono (G := fun k => k = j ∨ k = g ∨ k = gb) (fun i _ h => .inr h)).trans hf8 (fun i h => .inl (.inl h)))
          change Code.wp _ _ _ _ ((w7.setCell ⟨j, 1, none⟩ (.int .i64 tb)).setCell ⟨j, 5, none⟩ (.bool true))
          generalize (w7.setCell ⟨j, 1, none⟩ (.int .i64 tb)).setCell ⟨j, 5, none⟩ (.bool true) = w8 at *
          clear hj8 hf8 m1 m5 mf HJ9 HS9 HF9 HD9
          have hn1 := HDL.out
          have hok := bkOk_iff.1 HOK.out
          have x2 : ∀ w', Below w8.heap.size w8 w' → w'.cell? ⟨j, 2, none⟩ = some (.int .u32 s.nt.seq) := fun w' hb => (HJ8.out.below hb).cells.2.2.1
          have hS0 := below_drew1 w8
          refine wp_region_piv 16 (fun w' => Below w8.heap.size w8 w') (by kernel_rfl) ?_
          change wpAnyP _ _ _ _ 16 _ 17 (Array.replicate 17 false) _ _
          refine wpAnyP_read (i := 0) (oi := ?_) (v := ?_) ?_ (by kernel_rfl) (by kernel_rfl) (by kernel_rfl) (by rfl) (by kernel_rfl) ?_ ?_ (by kernel_rfl) (by assumption) ?_
          rotate_left 2; (simp only [List.getElem?_toArray, List.getElem?_cons_succ, List.getElem?_cons_zero]; rfl)
          rotate_left; (first | (refine .inl ⟨by rfl, ?_⟩; intro w9 hS9; go_simp; try with_reducible rfl) | (refine .inr ⟨by rfl, ?_⟩; with_reducible rfl))
          rotate_left; (intro _ _ _ h9; exact h9)
          try simp only [Act.put, List.setIfInBounds_toArray, List.set_cons_zero, List.set_cons_succ]
          refine wpAnyP_read (i := 1) (oi := ?_) (v := ?_) ?_ (by kernel_rfl) (by kernel_rfl) (by kernel_rfl) (by rfl) (by kernel_rfl) ?_ ?_ (by kernel_rfl) (by assumption) ?_
          rotate_left 2; (simp only [List.getElem?_toArray, List.getElem?_cons_succ, List.getElem?_cons_zero]; rfl)
          rotate_left; (first | (refine .inl ⟨by rfl, ?_⟩; intro w9 hS9; go_simp; try with_reducible rfl) | (refine .inr ⟨by rfl, ?_⟩; with_reducible rfl))
          rotate_left; (intro _ _ _ h9; exact h9)
          try simp only [Act.put, List.setIfInBounds_toArray, List.set_cons_zero, List.set_cons_succ]
          refine wpAnyP_read (i := 2) (oi := ?_) (v := ?_) ?_ (by kernel_rfl) (by kernel_rfl) (by kernel_rfl) (by rfl) (by kernel_rfl) ?_ ?_ (by kernel_rfl) (by assumption) ?_
          rotate_left 2; (simp only [List.getElem?_toArray, List.getElem?_cons_succ, List.getElem?_cons_zero]; rfl)
          rotate_left; (first | (refine .inl ⟨by rfl, ?_⟩; intro w9 hS9; go_simp; try with_reducible rfl) | (refine .inr ⟨by rfl, ?_⟩; with_reducible rfl))
          rotate_left; (intro _ _ _ h9; exact h9)
          try simp only [Act.put, List.setIfInBounds_toArray, List.set_cons_zero, List.set_cons_succ]
          refine wpAnyP_read (i := 3) (oi := ?_) (v := ?_) ?_ (by kernel_rfl) (by kernel_rfl) (by kernel_rfl) (by rfl) (by kernel_rfl) ?_ ?_ (by kernel_rfl) (by assumption) ?_
          rotate_left 2; (simp only [List.getElem?_toArray, List.getElem?_cons_succ, List.getElem?_cons_zero]; rfl)
          rotate_left; (first | (refine .inl ⟨by rfl, ?_⟩; intro w9 hS9; go_simp; try with_reducible rfl) | (refine .inr ⟨by rfl, ?_⟩; with_reducible rfl))
          rotate_left; (intro _ _ _ h9; exact h9)
          try simp only [Act.put, List.setIfInBounds_toArray, List.set_cons_zero, List.set_cons_succ]
          refine wpAnyP_read (i := 4) (oi := ?_) (v := ?_) ?_ (by kernel_rfl) (by kernel_rfl) (by kernel_rfl) (by rfl) (by kernel_rfl) ?_ ?_ (by kernel_rfl) (by assumption) ?_
          rotate_left 2; (simp only [List.getElem?_toArray, List.getElem?_cons_succ, List.getElem?_cons_zero]; rfl)
          rotate_left; (first | (refine .inl ⟨by rfl, ?_⟩; intro w9 hS9; go_simp; try with_reducible rfl) | (refine .inr ⟨by rfl, ?_⟩; with_reducible rfl))
          rotate_left; (intro _ _ _ h9; exact h9)
          try simp only [Act.put, List.setIfInBounds_toArray, List.set_cons_zero, List.set_cons_succ]
          refine wpAnyP_read (i := 5) (oi := ?_) (v := ?_) ?_ (by kernel_rfl) (by kernel_rfl) (by kernel_rfl) (by rfl) (by kernel_rfl) ?_ ?_ (by kernel_rfl) (by assumption) ?_
          rotate_left 2; (simp only [List.getElem?_toArray, List.getElem?_cons_succ, List.getElem?_cons_zero]; rfl)
          rotate_left; (first | (refine .inl ⟨by rfl, ?_⟩; intro w9 hS9; go_simp; try with_reducible rfl) | (refine .inr ⟨by rfl, ?_⟩; with_reducible rfl))
          rotate_left; (intro _ _ _ h9; exact h9)
          try simp only [Act.put, List.setIfInBounds_toArray, List.set_cons_zero, List.set_cons_succ]
          refine wpAnyP_read (i := 6) (oi := ?_) (v := ?_) ?_ (by kernel_rfl) (by kernel_rfl) (by kernel_rfl) (by rfl) (by kernel_rfl) ?_ ?_ (by kernel_rfl) (by assumption) ?_
          rotate_left 2; (simp only [List.getElem?_toArray, List.getElem?_cons_succ, List.getElem?_cons_zero]; rfl)
          rotate_left; (first | (refine .inl ⟨by rfl, ?_⟩; intro w9 hS9; go_simp; try with_reducible rfl) | (refine .inr ⟨by rfl, ?_⟩; with_reducible rfl))
          rotate_left; (intro _ _ _ h9; exact h9)
          try simp only [Act.put, List.setIfInBounds_toArray, List.set_cons_zero, List.set_cons_succ]
          refine wpAnyP_read (i := 7) (oi := ?_) (v := ?_) ?_ (by kernel_rfl) (by kernel_rfl) (by kernel_rfl) (by rfl) (by kernel_rfl) ?_ ?_ (by kernel_rfl) (by assumption) ?_
          rotate_left 2; (simp only [List.getElem?_toArray, List.getElem?_cons_succ, List.getElem?_cons_zero]; rfl)
          rotate_left; (first | (refine .inl ⟨by rfl, ?_⟩; intro w9 hS9; go_simp; try with_reducible rfl) | (refine .inr ⟨by rfl, ?_⟩; with_reducible rfl))
          rotate_left; (intro _ _ _ h9; exact h9)
          try simp only [Act.put, List.setIfInBounds_toArray, List.set_cons_zero, List.set_cons_succ]
          refine wpAnyP_read (i := 9) (oi := ?_) (v := ?_) ?_ (by kernel_rfl) (by kernel_rfl) (by kernel_rfl) (by rfl) (by kernel_rfl) ?_ ?_ (by kernel_rfl) (by assumption) ?_
          rotate_left 2; (simp only [List.getElem?_toArray, List.getElem?_cons_succ, List.getElem?_cons_zero]; rfl)
          rotate_left; (first | (refine .inl ⟨by rfl, ?_⟩; intro w9 hS9; go_simp; try with_reducible rfl) | (refine .inr ⟨by rfl, ?_⟩; with_reducible rfl))
          rotate_left; (intro _ _ _ h9; exact h9)
          try simp only [Act.put, List.setIfInBounds_toArray, List.set_cons_zero, List.set_cons_succ]
          refine wpAnyP_read (i := 10) (oi := ?_) (v := ?_) ?_ (by kernel_rfl) (by kernel_rfl) (by kernel_rfl) (by rfl) (by kernel_rfl) ?_ ?_ (by kernel_rfl) (by assumption) ?_
          rotate_left 2; (simp only [List.getElem?_toArray, List.getElem?_cons_succ, List.getElem?_cons_zero]; rfl)
          rotate_left; (first | (refine .inl ⟨by rfl, ?_⟩; intro w9 hS9; go_simp; try with_reducible rfl) | (refine .inr ⟨by rfl, ?_⟩; with_reducible rfl))
          rotate_left; (intro _ _ _ h9; exact h9)
          try simp only [Act.put, List.setIfInBounds_toArray, List.set_cons_zero, List.set_cons_succ]
          refine wpAnyP_read (i := 11) (oi := ?_) (v := ?_) ?_ (by kernel_rfl) (by kernel_rfl) (by kernel_rfl) (by rfl) (by kernel_rfl) ?_ ?_ (by kernel_rfl) (by assumption) ?_
          rotate_left 2; (simp only [List.getElem?_toArray, List.getElem?_cons_succ, List.getElem?_cons_zero]; rfl)
          rotate_left; (first | (refine .inl ⟨by rfl, ?_⟩; intro w9 hS9; go_simp; try with_reducible rfl) | (refine .inr ⟨by rfl, ?_⟩; with_reducible rfl))
          rotate_left; (intro _ _ _ h9; exact h9)
          try simp only [Act.put, List.setIfInBounds_toArray, List.set_cons_zero, List.set_cons_succ]
          refine wpAnyP_read (i := 12) (oi := ?_) (v := ?_) ?_ (by kernel_rfl) (by kernel_rfl) (by kernel_rfl) (by rfl) (by kernel_rfl) ?_ ?_ (by kernel_rfl) (by assumption) ?_
          rotate_left 2; (simp only [List.getElem?_toArray, List.getElem?_cons_succ, List.getElem?_cons_zero]; rfl)
          rotate_left; (first | (refine .inl ⟨by rfl, ?_⟩; intro w9 hS9; go_simp; try with_reducible rfl) | (refine .inr ⟨by rfl, ?_⟩; with_reducible rfl))
          rotate_left; (intro _ _ _ h9; exact h9)
          try simp only [Act.put, List.setIfInBounds_toArray, List.set_cons_zero, List.set_cons_succ]
          refine wpAnyP_one (i := 8) (by kernel_rfl) rfl (fun K9 hK9 => ?_)
          go_simp
          refine (by_clone A1 n1 c1 d _ (HD8.out.below hS0) (by omega)).mono ?_
          rintro e w9 ⟨v9, rfl, hown9, hb9⟩
          have hS9 := below_step hS0 hb9
          refine hK9.out _ _ (fun _ => hS9) ?_
          rcases hown9.form with ⟨_, h0⟩ | ⟨g9, cp9, rfl, hg9, hg9b, _, hr9⟩
          · rw [h0] at hok; simp at hok
          rw [hn1] at hr9 ⊢
          have HJ0 := Lib.hid (HJ8.out.below hS9)
          have HS0 := Lib.hid (HS8.out.below hS9)
          have HF0 := Lib.hid (fr_new HF8.out hS9)
          have HR9 := Lib.hid hr9
          have HG9 := Lib.hid (show (g9 ≠ j ∧ g9 ≠ g ∧ g9 ≠ gb) ∧ w.heap.size ≤ g9 by have := HS8.out.lt; have := HJ8.out.lt; have := hS0.size; have := HF8.out.size; omega)
          obtain ⟨_, _, z2, z3, z4, _⟩ := HJ0.out.cells
          have zf : ∀ i, w9.frozen? ⟨j, i, none⟩ = false := fun i => by simp [World.frozen?, HJ0.out.heap]
          clear hown9 hr9 hb9 hg9 hok
          refine wpAnyP_read (i := 13) (oi := ?_) (v := ?_) ?_ (by kernel_rfl) (by kernel_rfl) (by kernel_rfl) (by rfl) (by kernel_rfl) ?_ ?_ (by kernel_rfl) (by assumption) ?_
          rotate_left 2; (simp only [List.getElem?_toArray, List.getElem?_cons_succ, List.getElem?_cons_zero]; rfl)
          rotate_left; (first | (refine .inl ⟨by rfl, ?_⟩; intro w9 hS9; go_simp; try with_reducible rfl) | (refine .inr ⟨by rfl, ?_⟩; with_reducible rfl))
          rotate_left; (intro _ _ _ h9; exact h9)
          try simp only [Act.put, List.setIfInBounds_toArray, List.set_cons_zero, List.set_cons_succ]
          refine wpAnyP_read (i := 14) (oi := ?_) (v := ?_) ?_ (by kernel_rfl) (by kernel_rfl) (by kernel_rfl) (by rfl) (by kernel_rfl) ?_ ?_ (by kernel_rfl) (by assumption) ?_
          rotate_left 2; (simp only [List.getElem?_toArray, List.getElem?_cons_succ, List.getElem?_cons_zero]; rfl)
          rotate_left; (first | (refine .inl ⟨by rfl, ?_⟩; intro w9 hS9; go_simp; try with_reducible rfl) | (refine .inr ⟨by rfl, ?_⟩; with_reducible rfl))
          rotate_left; (intro _ _ _ h9; exact h9)
          try simp only [Act.put, List.setIfInBounds_toArray, List.set_cons_zero, List.set_cons_succ]
          refine wpAnyP_read (i := 15) (oi := ?_) (v := ?_) ?_ (by kernel_rfl) (by kernel_rfl) (by kernel_rfl) (by rfl) (by kernel_rfl) ?_ ?_ (by kernel_rfl) (by assumption) ?_
          rotate_left 2; (simp only [List.getElem?_toArray, List.getElem?_cons_succ, List.getElem?_cons_zero]; rfl)
          rotate_left; (first | (refine .inl ⟨by rfl, ?_⟩; intro w9 hS9; go_simp; try with_reducible rfl) | (refine .inr ⟨by rfl, ?_⟩; with_reducible rfl))
          rotate_left; (intro _ _ _ h9; exact h9)
          try simp only [Act.put, List.setIfInBounds_toArray, List.set_cons_zero, List.set_cons_succ]
          refine wpAnyP_one (i := 16) (by kernel_rfl) rfl (fun K9 hK9 => ?_)
          go_simp
          change K9 _ (w9.setCells j 2 [.int .u32 s1, .slice (some ⟨g9, 0, none⟩) n1 cp9, .int .i64 ((at_ + n2 : Nat) : Int)])
          refine hK9.out _ _ (fun h9 => nomatch (show true = false from h9)) ?_
          refine wpAnyP_done (by kernel_rfl) ?_ _
          have hj9 := HJ0.out.note ⟨s1, d, at_ + n2⟩ g9 cp9 (by show RS w9 _ d.length cp9 d; rw [HDL.out]; exact HR9.out) HG9.out.1 (by show d.length ≤ 40; have := HM.out; omega)
          rw [show (Nt.mk s1 d (at_ + n2)).dat.length = n1 from HDL.out] at hj9
          have hf9 := fr_setCells (F := fun k => k = j) j rfl [.int .u32 s1, .slice (some ⟨g9, 0, none⟩) n1 cp9, .int .i64 ((at_ + n2 : Nat) : Int)] 2 w9
          have HJX := Lib.hid hj9
          have HFX := Lib.hid hf9
          clear hj9 hf9 z2 z3 z4 zf x2 hS0 hS9
          generalize w9.setCells j 2 _ = wz at *
          go_wp2_with fail
          go_ret
          rw [HEQ.out]
          exact ⟨⟨_, rfl, ErrIs.none _⟩, ⟨_, cp9, by rw [← HS1E.out, HM.out.2.1]; exact HJX.out, .inr (fun b o e => by cases e; exact HG9.out.2)⟩, HS0.out.fr HFX.out (fun h => HNE.out.1 h.symm) (fun h => HNE.out.2 h.symm), HF0.out.trans HFX.out (fun i h => .inl (.inl h))⟩
        · have HN := Lib.hid (show (k2 == 0) = false by simp at h0 ⊢; omega)
          have HEQ := Lib.hid (show jAppend s t d = (k2, s, t2) by rw [HEQ2.out, if_neg (by simp at h0; omega)])
          have HE := Lib.hid he
          obtain ⟨t9, x9, rfl⟩ := he.iface
          clear h0 he HEQ2
          go_wp2_with fail
          refine (errors_is dd _ _ 7 _ HE.out).mono ?_
          rintro e w9 ⟨⟨b9, rfl⟩, rfl⟩
          cases b9
          all_goals
            go_wp2_with fail
            refine (fault_wrap dd _ _ _ _ HE.out).mono ?_
            rintro e w10 ⟨v10, rfl, he10, hb10⟩
            have HE10 := Lib.hid he10
            have HB10 := Lib.hid hb10
            obtain ⟨t9, x9, rfl⟩ := he10.iface
            clear he10 hb10
            go_wp2_with fail
            go_ret
            rw [HEQ.out]
            exact IsAp.same HN.out HE10.out (HJ9.out.below HB10.out) (HS9.out.below HB10.out) (fr_new HF9.out HB10.out)
      · have HN := Lib.hid (show (r.1 == 0) = false by simp at h0 ⊢; omega)
        have HEQ := Lib.hid (show jAppend s t d = (r.1, s, r.2) by
          rw [HEQ0.out]
          unfold jPut
          rw [if_neg (by simp at h0; omega)])
        have HE := Lib.hid he
        obtain ⟨t9, x9, rfl⟩ := he.iface
        clear h0 he
        generalize r.1 = r1 at *
        go_wp2_with fail
        refine (errors_is dd _ _ 7 _ HE.out).mono ?_
        rintro e w9 ⟨⟨b9, rfl⟩, rfl⟩
        cases b9
        all_goals
          go_wp2_with fail
          refine (fault_wrap dd _ _ _ _ HE.out).mono ?_
          rintro e w10 ⟨v10, rfl, he10, hb10⟩
          have HE10 := Lib.hid he10
          have HB10 := Lib.hid hb10
          obtain ⟨t9, x9, rfl⟩ := he10.iface
          clear he10 hb10
          go_wp2_with fail
          go_ret
          rw [HEQ.out]
          exact IsAp.same HN.out HE10.out (HJ9.out.below HB10.out) (HS9.out.below HB10.out) (fr_new HF9.out HB10.out)
end Go.Proofs.YtcppmihambcihaaDoor
