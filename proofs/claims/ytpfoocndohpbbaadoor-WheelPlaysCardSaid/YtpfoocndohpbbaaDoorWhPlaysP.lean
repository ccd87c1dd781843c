/- wheel and the document's wheel side by side; deeds that came in. -/
import Derived.Test.YtpfoocndohpbbaaDoorWhRef3
import Derived.Test.YtpfoocndohpbbaaDoorOpenE
namespace Go.Proofs.YtpfoocndohpbbaaDoor
open Go Go.RowKit Go.ChangeShapes Go.WideShapes Go.Deep
set_option linter.unusedVariables false
set_option linter.unusedSimpArgs false
/-- A deed. -/
structure A5 where
  dO : Int
  nn : Int
  tag : Int
def a5c (x : A5) : List Value := [.int .i64 x.dO, .int .i64 x.nn, .int .i64 x.tag]
theorem a5c_len (x : A5) : (a5c x).length = 3 := rfl
set_option maxRecDepth 100000 in
theorem trod_a5 {H : Type} {enc : TypeId × Value → H} {w : World} {base : Nat} {spare : Nat → Bool} {held : Bool} (n : Nat) (cs : List Value) (y : DataW H × List MemPlace)
    (h : DataW.trod enc Tryd.prog w base spare held n 29 cs = some y) : ∃ x : A5, cs = a5c x := by
  obtain ⟨xs, m, _, _, hcl, hxl, hf⟩ := DataW.trod_struct Tryd.underlying29 h
  have hc3 : Tryd.prog.cellsOf 29 = 3 := by kernel_rfl
  have hc1 : Tryd.prog.cellsOf 3 = 1 := by kernel_rfl
  rw [hc3] at hcl
  match cs, hcl, xs, hxl with
  | [c0, c1, c2], _, [y0, y1, y2], _ =>
    have h0 : DataW.trod enc Tryd.prog w base spare held m 3 (([c0, c1, c2].drop 0).take (Tryd.prog.cellsOf 3)) = some y0 := hf 0 _ rfl
    have h1 : DataW.trod enc Tryd.prog w base spare held m 3 (([c0, c1, c2].drop 1).take (Tryd.prog.cellsOf 3)) = some y1 := hf 1 _ rfl
    have h2 : DataW.trod enc Tryd.prog w base spare held m 3 (([c0, c1, c2].drop 2).take (Tryd.prog.cellsOf 3)) = some y2 := hf 2 _ rfl
    rw [hc1] at h0 h1 h2
    obtain ⟨n0, e0, _, _⟩ := DataW.trod_int Tryd.underlying3 h0
    obtain ⟨n1, e1, _, _⟩ := DataW.trod_int Tryd.underlying3 h1
    obtain ⟨n2, e2, _, _⟩ := DataW.trod_int Tryd.underlying3 h2
    cases e0; cases e1; cases e2
    exact ⟨⟨n0, n1, n2⟩, rfl⟩
/-- What the document's wheel holds. -/
def rOf (now : Nat) (e : En) : Rt := ⟨e.num, e.tag, (e.at_ : Int) - now⟩
def abR (a : Ab) : List Rt := a.L.map (rOf a.now)
theorem abR_len (a : Ab) : (abR a).length = a.L.length := by simp [abR]
theorem abR_get (a : Ab) (i : Nat) (hi : i < (abR a).length) : (abR a)[i] = rOf a.now (a.L[i]'(by rw [← abR_len]; exact hi)) := by simp [abR]
theorem abR_no {a : Ab} {k : Int} (h : abHas a k = false) : rAtI (abR a) k = -1 := by
  refine rAt_none (fun j hj he => ?_)
  rw [abR_get] at he
  rw [(abHas_iff a k).2 ⟨_, List.getElem_mem _, he⟩] at h
  cases h
theorem abR_yes {a : Ab} {k : Int} (h : abHas a k = true) : rAtI (abR a) k ≠ -1 := by
  obtain ⟨e, he, hk⟩ := (abHas_iff a k).1 h
  obtain ⟨j, hj, rfl⟩ := List.mem_iff_getElem.1 he
  intro hq
  unfold rAtI rAt at hq
  cases hf : (abR a).findIdx? (fun e => e.num == k) with
  | none =>
    have := List.findIdx?_eq_none_iff.1 hf (rOf a.now a.L[j]) (List.mem_map_of_mem (List.getElem_mem hj))
    simp [rOf, hk] at this
  | some i => rw [hf] at hq; exact absurd hq (by show ((i : Nat) : Int) ≠ -1; omega)
theorem abR_has (a : Ab) (k : Int) : (!(rAtI (abR a) k == -1)) = abHas a k := by
  cases h : abHas a k with
  | false => rw [abR_no h]; rfl
  | true =>
    have := abR_yes h
    simpa using this
theorem abR_left {a : Ab} (ho : WOk a) (k : Int) : rLeft (abR a) k = abLeft a k := by
  rcases rAt_bd (abR a) k with h | ⟨i, hi, h, hn⟩
  · rw [rLeft_no h]
    cases hh : abHas a k with
    | true => exact absurd h (abR_yes hh)
    | false => unfold abLeft; rw [abAt_none hh]; rfl
  · rw [rLeft_at h (List.getElem?_eq_getElem hi), abR_get]
    rw [abR_get] at hn
    have hi2 : i < a.L.length := by rw [← abR_len]; exact hi
    have := abAt_some ho (List.getElem_mem hi2)
    have hn2 : ((a.L[i].num : Nat) : Int) = k := hn
    unfold abLeft
    rw [← hn2, this]
    rfl
theorem abR_drop {a : Ab} (ho : WOk a) (k : Int) : rDrop (abR a) k = abR (abDrop a k) := by
  rcases rAt_bd (abR a) k with h | ⟨i, hi, h, hn⟩
  · rw [rDrop_no h]
    cases hh : abHas a k with
    | true => exact absurd h (abR_yes hh)
    | false => rw [abDrop_no hh]
  · rw [rDrop_at h]
    rw [abR_get] at hn
    have hi2 : i < a.L.length := by rw [← abR_len]; exact hi
    have hn2 : ((a.L[i].num : Nat) : Int) = k := hn
    have hnd := ho.numNodup
    rw [List.nodup_iff_pairwise_ne, List.pairwise_map, List.pairwise_iff_getElem] at hnd
    show (a.L.map (rOf a.now)).take i ++ (a.L.map (rOf a.now)).drop (i + 1) = (a.L.filter _).map (rOf a.now)
    rw [← List.map_take, ← List.map_drop, ← List.map_append]
    congr 1
    have key : a.L.filter (fun e => (e.num : Int) ≠ k) = (a.L.take i).filter (fun e => (e.num : Int) ≠ k) ++ ((a.L.drop i).filter (fun e => (e.num : Int) ≠ k)) := by
      rw [← List.filter_append, List.take_append_drop]
    rw [key, List.drop_eq_getElem_cons hi2, List.filter_cons, if_neg (by simp [hn2])]
    congr 1
    · rw [List.filter_eq_self.2]
      intro e he
      obtain ⟨j, hj, rfl⟩ := List.mem_iff_getElem.1 he
      rw [List.length_take] at hj
      rw [List.getElem_take]
      refine decide_eq_true (fun hq => hnd j i (by omega) hi2 (by omega) (by omega))
    · rw [List.filter_eq_self.2]
      intro e he
      obtain ⟨j, hj, rfl⟩ := List.mem_iff_getElem.1 he
      rw [List.length_drop] at hj
      rw [List.getElem_drop]
      refine decide_eq_true (fun hq => hnd i (i + 1 + j) hi2 (by omega) (by omega) (by omega))
theorem abR_arm (a : Ab) (k : Nat) (tag : Int) (m : Nat) : abR (abArm a k tag m) = abR a ++ [⟨k, tag, m⟩] := by
  unfold abR abArm
  simp only [List.map_append, List.map_cons, List.map_nil]
  congr 2
  unfold rOf
  congr 1
  show ((a.now + m : Nat) : Int) - (a.now : Int) = m
  omega
theorem abR_fired {a : Ab} (ho : WOk a) : rFired (abR a) = (abDue a).map (·.tag) := by
  unfold rFired abR abDue
  rw [List.filter_map, List.map_map]
  have : (fun t : Rt => t.tag) ∘ rOf a.now = fun e : En => e.tag := rfl
  rw [this]
  congr 1
  apply List.filter_congr
  intro e he
  rw [Bool.eq_iff_iff]
  simp only [Function.comp, rOf, beq_iff_eq, decide_eq_true_eq]
  omega
theorem abR_rest {a : Ab} (ho : WOk a) : rRest (abR a) = abR (abTick a) := by
  unfold rRest abR abTick
  rw [List.filter_map, List.map_map]
  have h1 : a.L.filter ((fun t : Rt => !(t.left - 1 == 0)) ∘ rOf a.now) = a.L.filter (fun e => e.at_ ≠ a.now + 1) := by
    apply List.filter_congr
    intro e he
    rw [Bool.eq_iff_iff]
    simp only [Function.comp, rOf, Bool.not_eq_true', beq_eq_false_iff_ne, decide_eq_true_eq, ne_eq]
    omega
  rw [h1]
  apply List.map_congr_left
  intro e he
  simp only [Function.comp, rDec, rOf]
  congr 1
  omega
theorem abR_bd {a : Ab} (ho : WOk a) (hn : a.now ≤ 900000000) : ∀ x ∈ abR a, -1000000000 ≤ x.left ∧ x.left ≤ 1000000000 := by
  intro x hx
  obtain ⟨e, he, rfl⟩ := List.mem_map.1 hx
  have := ho.due e he
  show -1000000000 ≤ (e.at_ : Int) - (a.now : Int) ∧ (e.at_ : Int) - (a.now : Int) ≤ 1000000000
  omega
theorem abFst_one {a : Ab} {j k : Nat} (h1 : abFst a j) (h2 : abFst a k) : j = k := by
  rcases Nat.lt_trichotomy j k with h | h | h
  · obtain ⟨e, he, hn⟩ := h2.2.2 j h
    exact absurd hn (h1.2.1 e he)
  · exact h
  · obtain ⟨e, he, hn⟩ := h1.2.2 k h
    exact absurd hn (h2.2.1 e he)
theorem abFst_r {a : Ab} {k : Nat} (h : abFst a k) : (∀ j : Nat, j < k → rAtI (abR a) j ≠ -1) ∧ rAtI (abR a) k = -1 := by
  refine ⟨fun j hj => ?_, ?_⟩
  · obtain ⟨e, he, hn⟩ := h.2.2 j hj
    exact abR_yes ((abHas_iff a j).2 ⟨e, he, by rw [hn]⟩)
  · refine abR_no ?_
    cases hh : abHas a k with
    | false => rfl
    | true =>
      obtain ⟨e, he, hn⟩ := (abHas_iff a k).1 hh
      exact absurd (by omega) (h.2.1 e he)
/-- The blocks of the document's wheel. -/
def rfoot (g : Nat) (v : Value) (b : Nat) : Prop := b = g ∨ v.ownBlock = some b
/-- Both wheels: what is armed in the one, and in the other. -/
structure PL (w0 : World) (g gx : Nat) (a : Ab) (P : Nat) (L : List Rt) (wr : World) : Prop where
  ex : ∃ v, WL5 w0 g a (rfoot gx v) wr ∧ RfW wr gx v P L ∧ ∀ b, rfoot gx v b → w0.heap.size ≤ b
theorem PL.bel {w0 wr : World} {g gx P : Nat} {a : Ab} {L : List Rt} (h : PL w0 g gx a P L wr) : Below w0.heap.size w0 wr := h.ex.elim fun _ h => h.1.bel
theorem PL.ok {w0 wr : World} {g gx P : Nat} {a : Ab} {L : List Rt} (h : PL w0 g gx a P L wr) : WOk a := h.ex.elim fun _ h => h.1.ok
theorem PL.below {w0 wr w' : World} {g gx P : Nat} {a : Ab} {L : List Rt} (h : PL w0 g gx a P L wr) (hb : Below wr.heap.size wr w') : PL w0 g gx a P L w' := by
  obtain ⟨v, h1, h2, h3⟩ := h
  exact ⟨v, h1.below hb, h2.below hb, h3⟩
theorem RfW.keep {w w' : World} {g : Nat} {v : Value} {P : Nat} {L : List Rt} (h : RfW w g v P L) (hk : Fr (fun b => ¬ rfoot g v b) w w') : RfW w' g v P L := h.fr hk (fun hn => hn (.inl rfl)) (fun k hk hn => hn (.inr hk))
theorem PL.wheel {w0 w w' : World} {g gx P : Nat} {a' : Ab} {L : List Rt} {v : Value} (h2 : RfW w gx v P L) (h3 : ∀ b, rfoot gx v b → w0.heap.size ≤ b) (hw : WL5 w0 g a' (rfoot gx v) w') (hk : KX (rfoot gx v) w w') : PL w0 g gx a' P L w' :=
  ⟨v, hw, h2.keep hk.fr, h3⟩
theorem PL.doc {w0 w w' : World} {g gx P : Nat} {a : Ab} {L' : List Rt} {v : Value} (h1 : WL5 w0 g a (rfoot gx v) w) (h3 : ∀ b, rfoot gx v b → w0.heap.size ≤ b) (hr : RfTo w w' gx v P L') : PL w0 g gx a P L' w' := by
  obtain ⟨⟨v', h4, h5⟩, hf⟩ := hr
  have hsz := h1.bel.size
  have hgx := h4.lt
  refine ⟨v', h1.fr hf h3 (fun b hb => ?_) (fun b hb => ?_), h4, fun b hb => ?_⟩
  · rcases hb with hb | hb
    · exact .inl (.inl hb)
    · exact (h5 b hb).imp .inr id
  · rcases hb with hb | hb
    · rw [hb]; exact hgx
    · exact h4.own.lt b hb
  · rcases hb with hb | hb
    · exact h3 b (.inl hb)
    · rcases h5 b hb with h | h
      · exact h3 b (.inr h)
      · omega
theorem pl_new (P : Nat) (z : Int) (hP : (P : Int) = max 0 (min z 64)) {w0 w : World} {g : Nat} (h : WL5 w0 g (abNew P) (fun _ => False) w) :
    Calls Tryd.prog 11 #[.int .i64 z] w fun e w' => ∃ gx, e = .returned (.pointer (some ⟨gx, 0, none⟩)) ∧ PL w0 g gx (abNew P) P (abR (abNew P)) w' := by
  refine (rw_new P z hP w).mono ?_
  rintro e w' ⟨rfl, h1, hb⟩
  have hsz := h.bel.size
  refine ⟨_, rfl, ⟨.slice none 0 0, h.fr (Fr.ofBelow hb _) (fun b h => h.elim) (fun b hb => ?_) (fun b hb => ?_), h1, fun b hb => ?_⟩⟩
  · rcases hb with hb | hb
    · exact .inr (by rw [hb]; exact Nat.le_refl _)
    · cases hb
  · rcases hb with hb | hb
    · rw [hb]; exact h1.lt
    · cases hb
  · rcases hb with hb | hb
    · omega
    · cases hb
theorem RfW.noStep {w : World} {g : Nat} {v : Value} {P : Nat} {L : List Rt} (h : RfW w g v P L) : NoStep w (rfoot g v) := by
  rintro k cs' m (rfl | hk) hh
  · rw [h.heap] at hh; cases hh
  · obtain ⟨c, hc⟩ := own_ty h.own k hk
    rw [hc] at hh; cases hh
/-- What Arm answers, of both. -/
def ArmD (a : Ab) (ticks tag n c : Int) (a' : Ab) : Prop :=
  ((ticks < 1 ∨ 16777215 < ticks) ∧ n = 0 ∧ c = 6 ∧ a' = a) ∨ ((1 ≤ ticks ∧ ticks ≤ 16777215) ∧ a.P ≤ a.L.length ∧ n = 0 ∧ c = 5 ∧ a' = a) ∨
    (∃ k m : Nat, ticks = m ∧ 1 ≤ m ∧ m ≤ 16777215 ∧ a.L.length < a.P ∧ abFst a k ∧ n = k ∧ c = 0 ∧ a' = abArm a k tag m)
theorem ArmD.same {a a' : Ab} {ticks tag n c : Int} (h : ArmD a ticks tag n c a') : a'.P = a.P ∧ a'.now = a.now ∧ a'.cnt ≤ a.cnt + 1 := by
  rcases h with ⟨_, _, _, rfl⟩ | ⟨_, _, _, _, rfl⟩ | ⟨k, m, _, _, _, _, _, _, _, rfl⟩
  · exact ⟨rfl, rfl, Nat.le_succ _⟩
  · exact ⟨rfl, rfl, Nat.le_succ _⟩
  · exact ⟨rfl, rfl, Nat.le_refl _⟩
structure IsArmP (w0 : World) (g gx : Nat) (a : Ab) (ticks tag : Int) (w : World) (e : Ending) (w' : World) : Prop where
  ex : ∃ v n c a', e = .returned (.tuple #[.int .i64 n, v]) ∧ ErrIs w' v c ∧ PL w0 g gx a' a.P (abR a) w' ∧ ArmD a ticks tag n c a'
theorem pl_arm {w0 w : World} {g gx : Nat} {a : Ab} (h : PL w0 g gx a a.P (abR a) w) (hn : a.now ≤ 900000000) (hc : a.cnt ≤ 900000000) (ticks tag : Int) :
    Calls Tryd.prog 12 #[.pointer (some ⟨g, 0, none⟩), .int .i64 ticks, .int .i64 tag] w (IsArmP w0 g gx a ticks tag w) := by
  obtain ⟨v, h1, h2, h3⟩ := h
  refine (l5_arm h1 hn hc ticks tag).mono ?_
  rintro e w' ⟨⟨u, n, c, a', rfl, he, hw, hd⟩, hk⟩
  exact ⟨u, n, c, a', rfl, he, PL.wheel h2 h3 hw hk, hd⟩
theorem pl_rarm {w0 w : World} {g gx : Nat} {a a' : Ab} {ticks tag n c : Int} (h : PL w0 g gx a' a.P (abR a) w) (hd : ArmD a ticks tag n c a') :
    Calls Tryd.prog 13 #[.pointer (some ⟨gx, 0, none⟩), .int .i64 ticks, .int .i64 tag] w fun e w' => e = .returned (.tuple #[.int .i64 n, .int .i64 c]) ∧ PL w0 g gx a' a'.P (abR a') w' ∧ EK w w' := by
  obtain ⟨v, h1, h2, h3⟩ := h
  have hlen := abR_len a
  have hP := h2.pool
  obtain ⟨k, hk⟩ : ∃ k : Nat, (1 ≤ ticks ∧ ticks ≤ 16777215) → (abR a).length < a.P → (∀ j : Nat, j < k → rAtI (abR a) j ≠ -1) ∧ rAtI (abR a) k = -1 ∧ k ≤ 64 ∧ n = k := by
    rcases hd with ⟨hb, _⟩ | ⟨_, hb, _⟩ | ⟨k, m, rfl, _, _, _, hf, rfl, _, _⟩
    · exact ⟨0, fun h => by omega⟩
    · exact ⟨0, fun _ h => by omega⟩
    · exact ⟨k, fun _ _ => ⟨(abFst_r hf).1, (abFst_r hf).2, by have := hf.1; omega, rfl⟩⟩
  refine (rw_arm gx v a.P (abR a) ticks tag k w h2 (fun q1 q2 => ⟨(hk q1 q2).1, (hk q1 q2).2.1, (hk q1 q2).2.2.1⟩)).mono ?_
  rintro e w' ⟨n', c', L', rfl, hto, hcase⟩
  have hfr := hto.fr
  have hek : EK w w' := fun u c he => he.fr hfr h2.noStep
  have hpl := PL.doc h1 h3 hto
  rcases hd with ⟨hb, rfl, rfl, rfl⟩ | ⟨hi, hb, rfl, rfl, rfl⟩ | ⟨k', m, rfl, hm1, hm2, hl, hf, rfl, rfl, rfl⟩
  · rcases hcase with ⟨_, rfl, rfl, rfl⟩ | ⟨h9, _⟩ | ⟨h9, _⟩
    · exact ⟨rfl, hpl, hek⟩
    · omega
    · omega
  · rcases hcase with ⟨h9, _⟩ | ⟨_, _, rfl, rfl, rfl⟩ | ⟨_, h9, _⟩
    · omega
    · exact ⟨rfl, hpl, hek⟩
    · omega
  · rcases hcase with ⟨h9, _⟩ | ⟨_, h9, _⟩ | ⟨h9, h10, rfl, rfl, rfl⟩
    · omega
    · omega
    · have h11 := (hk h9 h10).2.2.2
      obtain rfl : k' = k := by omega
      refine ⟨rfl, ?_, hek⟩
      rw [abR_arm]
      exact hpl
theorem pl_cancel {w0 w : World} {g gx P : Nat} {a : Ab} {L : List Rt} (h : PL w0 g gx a P L w) (hn : a.now ≤ 900000000) (k : Int) :
    Calls Tryd.prog 15 #[.pointer (some ⟨g, 0, none⟩), .int .i64 k] w fun e w' => e = .returned (.bool (abHas a k)) ∧ PL w0 g gx (abDrop a k) P L w' := by
  obtain ⟨v, h1, h2, h3⟩ := h
  refine (l5_cancel h1 hn k).mono ?_
  rintro e w' ⟨rfl, hw, hk⟩
  exact ⟨rfl, PL.wheel h2 h3 hw hk⟩
theorem pl_rcancel {w0 w : World} {g gx P : Nat} {a : Ab} {L : List Rt} (h : PL w0 g gx a P L w) (k : Int) :
    Calls Tryd.prog 16 #[.pointer (some ⟨gx, 0, none⟩), .int .i64 k] w fun e w' => e = .returned (.bool (!(rAtI L k == -1))) ∧ PL w0 g gx a P (rDrop L k) w' := by
  obtain ⟨v, h1, h2, h3⟩ := h
  refine (rw_cancel gx v P L k w h2).mono ?_
  rintro e w' ⟨rfl, hto⟩
  exact ⟨rfl, PL.doc h1 h3 hto⟩
theorem pl_free {w0 w : World} {g gx P : Nat} {a : Ab} {L : List Rt} (h : PL w0 g gx a P L w) :
    Calls Tryd.prog 20 #[.pointer (some ⟨g, 0, none⟩)] w fun e w' => e = .returned (.int .i64 ((a.P - a.L.length : Nat) : Int)) ∧ Below w.heap.size w w' := by
  obtain ⟨v, h1, h2, h3⟩ := h
  exact (l5_free h1).mono (fun e w' h9 => ⟨h9.1, h9.2.2⟩)
theorem pl_rfree {w0 w : World} {g gx P : Nat} {a : Ab} {L : List Rt} (h : PL w0 g gx a P L w) :
    Calls Tryd.prog 21 #[.pointer (some ⟨gx, 0, none⟩)] w fun e w' => e = .returned (.int .i64 ((P : Int) - L.length)) ∧ Below w.heap.size w w' := by
  obtain ⟨v, h1, h2, h3⟩ := h
  exact rw_free gx v P L w h2
theorem pl_left {w0 w : World} {g gx P : Nat} {a : Ab} {L : List Rt} (h : PL w0 g gx a P L w) (hn : a.now ≤ 900000000) (k : Int) :
    Calls Tryd.prog 22 #[.pointer (some ⟨g, 0, none⟩), .int .i64 k] w fun e w' => e = .returned (.int .i64 (abLeft a k)) ∧ Below w.heap.size w w' := by
  obtain ⟨v, h1, h2, h3⟩ := h
  exact (l5_left h1 hn k).mono (fun e w' h9 => ⟨h9.1, h9.2.2⟩)
theorem pl_rleft {w0 w : World} {g gx P : Nat} {a : Ab} {L : List Rt} (h : PL w0 g gx a P L w) (k : Int) :
    Calls Tryd.prog 23 #[.pointer (some ⟨gx, 0, none⟩), .int .i64 k] w fun e w' => e = .returned (.int .i64 (rLeft L k)) ∧ w = w' := by
  obtain ⟨v, h1, h2, h3⟩ := h
  exact rw_left gx v P L k w h2
/-- Both wheels, and a row of a Tick that is the caller's own. -/
structure PT (w0 : World) (g gx : Nat) (a : Ab) (P : Nat) (L : List Rt) (u : Value) (ts : List Int) (wr : World) : Prop where
  ex : ∃ v, WL5 w0 g a (fun b => rfoot gx v b ∨ u.ownBlock = some b) wr ∧ RfW wr gx v P L ∧ (∀ b, rfoot gx v b → w0.heap.size ≤ b) ∧ ∀ b, u.ownBlock = some b → w0.heap.size ≤ b ∧ ¬ rfoot gx v b
  row : OwnE ki 1 3 wr u ts
theorem PT.below {w0 wr w' : World} {g gx P : Nat} {a : Ab} {L : List Rt} {u : Value} {ts : List Int} (h : PT w0 g gx a P L u ts wr) (hb : Below wr.heap.size wr w') : PT w0 g gx a P L u ts w' := by
  obtain ⟨⟨v, h1, h2, h3, h4⟩, h5⟩ := h
  exact ⟨⟨v, h1.below hb, h2.below hb, h3, h4⟩, h5.fr (Fr.ofBelow hb (fun _ => False)) (fun _ _ h => h)⟩
theorem PT.pl {w0 wr : World} {g gx P : Nat} {a : Ab} {L : List Rt} {u : Value} {ts : List Int} (h : PT w0 g gx a P L u ts wr) : PL w0 g gx a P L wr := by
  obtain ⟨⟨v, h1, h2, h3, h4⟩, h5⟩ := h
  exact ⟨v, h1.sub (fun b h => .inl h), h2, h3⟩
/-- An element of the row is written. -/
theorem PT.set {w0 wr : World} {g gx P : Nat} {a : Ab} {L : List Rt} {ts : List Int} {b n c : Nat} (h : PT w0 g gx a P L (.slice (some ⟨b, 0, none⟩) n c) ts wr) (i : Nat) (hi : i < ts.length) (x : Int) : PT w0 g gx a P L (.slice (some ⟨b, 0, none⟩) n c) (ts.set i x) (wr.setCell ⟨b, i, none⟩ (.int .i64 x)) := by
  obtain ⟨⟨v, h1, h2, h3, h4⟩, h5⟩ := h
  have hs := h5.set ki_len i hi x
  rw [Nat.mul_one] at hs
  have hf : Fr (fun k => k = b) wr (wr.setCell ⟨b, i, none⟩ (.int .i64 x)) := fr_setCell _ _ rfl
  have hbv := (h4 b rfl).2
  refine ⟨⟨v, ?_, h2.fr hf (fun e => hbv (.inl e.symm)) (fun k hk e => hbv (.inr (by rw [hk, e]))), h3, h4⟩, hs⟩
  exact h1.fr (hf.mono (fun k _ e => .inr (by rw [e]; rfl))) (fun k hk => hk.elim (h3 k) (fun e => (h4 k e).1)) (fun k hk => .inl hk) (fun k hk => by have := h1.lt k hk; have := hf.size; omega)
theorem pt_tick {w0 w : World} {g gx P : Nat} {a : Ab} {L : List Rt} (h : PL w0 g gx a P L w) (hn : a.now ≤ 900000000) (hc : a.cnt ≤ 900000000) :
    Calls Tryd.prog 17 #[.pointer (some ⟨g, 0, none⟩)] w fun e w' => ∃ u, e = .returned u ∧ PT w0 g gx (abTick a) P L u ((abDue a).map (·.tag)) w' := by
  obtain ⟨v, h1, h2, h3⟩ := h
  refine (l5_tick h1 hn hc).mono ?_
  rintro e w' ⟨⟨u, rfl, hown, hw, hu⟩, hk⟩
  exact ⟨u, rfl, ⟨⟨v, hw, h2.keep hk.fr, h3, hu⟩, hown⟩⟩
/-- The document's Tick beside the row. -/
theorem pt_rtick {w0 w : World} {g gx P : Nat} {a : Ab} {L : List Rt} {u : Value} {ts : List Int} (h : PT w0 g gx a P L u ts w) (hb : ∀ x ∈ L, -1000000000 ≤ x.left ∧ x.left ≤ 1000000000) :
    Calls Tryd.prog 19 #[.pointer (some ⟨gx, 0, none⟩)] w fun e w' => ∃ A n c, e = .returned (.slice A n c) ∧ RE ki w' A n c (rFired L) ∧ PT w0 g gx a P (rRest L) u ts w' := by
  obtain ⟨⟨v, h1, h2, h3, h4⟩, h5⟩ := h
  refine (rw_tick gx v P L w h2 hb).mono ?_
  rintro e w' ⟨A, n, c, rfl, hre, ⟨v', h6, h7⟩, hf⟩
  refine ⟨A, n, c, rfl, hre, ⟨⟨v', ?_, h6, fun b hb => ?_, fun b hb => ⟨(h4 b hb).1, fun hq => ?_⟩⟩, h5.fr hf (fun b hb hq => (h4 b hb).2 hq)⟩⟩
  · refine h1.fr (hf.mono (fun k _ e => .inl e)) (fun k hk => hk.elim (h3 k) (fun e => (h4 k e).1)) (fun k hk => ?_) (fun k hk => ?_)
    · rcases hk with (hk | hk) | hk
      · exact .inl (.inl (.inl hk))
      · exact (h7 k hk).imp (fun e => .inl (.inr e)) id
      · exact .inl (.inr hk)
    · rcases hk with (hk | hk) | hk
      · rw [hk]; exact h6.lt
      · exact h6.own.lt k hk
      · have := h5.lt k hk; have := hf.size; omega
  · rcases hb with hb | hb
    · exact h3 b (.inl hb)
    · have := h1.bel.size
      exact (h7 b hb).elim (fun e => h3 b (.inr e)) (fun e => by omega)
  · rcases hq with hq | hq
    · exact (h4 b hb).2 (.inl hq)
    · rcases h7 b hq with h | h
      · exact (h4 b hb).2 (.inr h)
      · have := h5.lt b hb; omega
end Go.Proofs.YtpfoocndohpbbaaDoor
