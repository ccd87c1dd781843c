/- wheel: the calls, over the abstract wheel. -/
import Derived.Test.YtpfoocndohpbbaaDoorWhAbs
import Derived.Test.YtpfoocndohpbbaaDoorErrIs
namespace Go.Proofs.YtpfoocndohpbbaaDoor
open Go Go.RowKit
set_option linter.unusedVariables false
set_option linter.unusedSimpArgs false
/-- A wheel in memory: F is what it stands in. -/
structure WS (w : World) (g : Nat) (a : Ab) (F : Nat → Prop) : Prop where
  ex : ∃ gp pool s sv cs, WhX w g gp a.P pool s a.now a.cnt sv cs ∧ WRel pool s a ∧ WOk a ∧ PB pool a ∧ F = foot g gp sv
theorem WS.lt {w : World} {g : Nat} {a : Ab} {F : Nat → Prop} (h : WS w g a F) : ∀ b, F b → b < w.heap.size := by
  obtain ⟨gp, pool, s, sv, cs, hx, hr, ho, hp, rfl⟩ := h.ex
  exact hx.lt
theorem WS.fr {w w' : World} {g : Nat} {a : Ab} {F G : Nat → Prop} (h : WS w g a F) (hf : Fr G w w') (hd : ∀ b, F b → ¬ G b) : WS w' g a F := by
  obtain ⟨gp, pool, s, sv, cs, hx, hr, ho, hp, rfl⟩ := h.ex
  exact ⟨gp, pool, s, sv, cs, hx.fr hf hd, hr, ho, hp, rfl⟩
theorem WS.below {w w' : World} {g : Nat} {a : Ab} {F : Nat → Prop} (h : WS w g a F) (hb : Below w.heap.size w w') : WS w' g a F := h.fr (Fr.ofBelow hb (fun _ => False)) (fun _ _ e => e)
theorem WS.ok {w : World} {g : Nat} {a : Ab} {F : Nat → Prop} (h : WS w g a F) : WOk a := by
  obtain ⟨gp, pool, s, sv, cs, hx, hr, ho, hp, rfl⟩ := h.ex
  exact ho
theorem WS.len {w : World} {g : Nat} {a : Ab} {F : Nat → Prop} (h : WS w g a F) : a.L.length ≤ a.P ∧ a.P ≤ 64 := by
  obtain ⟨gp, pool, s, sv, cs, hx, hr, ho, hp, rfl⟩ := h.ex
  exact ⟨(hr.freeN ho).2, hx.few⟩
/-- What a call leaves of the wheel. -/
structure WT (w w' : World) (g : Nat) (a' : Ab) (F : Nat → Prop) : Prop where
  ex : ∃ F', WS w' g a' F' ∧ ∀ b, F' b → F b ∨ w.heap.size ≤ b
  fr : Fr F w w'
theorem WT.ofBelow {w w' : World} {g : Nat} {a : Ab} {F : Nat → Prop} (h : WS w g a F) (hb : Below w.heap.size w w') : WT w w' g a F := ⟨⟨F, h.below hb, fun b hb => .inl hb⟩, Fr.ofBelow hb _⟩
def abNew (P : Nat) : Ab := ⟨P, [], 0, 0⟩
theorem ws_new (P : Nat) (z : Int) (hP : (P : Int) = max 0 (min z 64)) (w : World) :
    Calls Tryd.prog 10 #[.int .i64 z] w fun e w' => ∃ g F, e = .returned (.pointer (some ⟨g, 0, none⟩)) ∧ WS w' g (abNew P) F ∧ (∀ b, F b → w.heap.size ≤ b) ∧ Below w.heap.size w w' := by
  refine (wh_new P z hP w).mono ?_
  rintro e w' ⟨g, gp, cs, rfl, hx, h1, h2, hb⟩
  refine ⟨g, foot g gp (fun _ => .slice none 0 0), rfl, ⟨gp, _, _, _, cs, hx, ⟨by simp [abNew], (fun e he => by cases he), fun k t ht ha => ?_, fun l i => ⟨List.nodup_nil, fun k => ⟨(fun h => by cases h), (fun ⟨e, he, _⟩ => by cases he)⟩⟩⟩, ⟨(fun e he => by cases he), (fun e he => by cases he), List.Pairwise.nil, (fun e he => by cases he), (fun e he => by cases he)⟩, fun t ht => ?_, rfl⟩, fun b hb => ?_, hb⟩
  · have := List.mem_of_getElem? ht
    rw [List.eq_of_mem_replicate this] at ha
    cases ha
  · rw [List.eq_of_mem_replicate ht]
    exact ⟨Nat.zero_le _, Nat.zero_le _⟩
  · rcases hb with rfl | rfl | ⟨m, _, h3⟩
    · exact h1
    · exact h2
    · cases h3
theorem ws_free {w : World} {g : Nat} {a : Ab} {F : Nat → Prop} (h : WS w g a F) :
    Calls Tryd.prog 20 #[.pointer (some ⟨g, 0, none⟩)] w fun e w' => e = .returned (.int .i64 ((a.P - a.L.length : Nat) : Int)) ∧ Below w.heap.size w w' := by
  obtain ⟨gp, pool, s, sv, cs, hx, hr, ho, hp, rfl⟩ := h.ex
  have := wh_free g gp a.P pool s a.now a.cnt sv cs w hx
  rw [(hr.freeN ho).1] at this
  exact this
theorem ws_left {w : World} {g : Nat} {a : Ab} {F : Nat → Prop} (h : WS w g a F) (hn : a.now ≤ 900000000) (k : Int) :
    Calls Tryd.prog 22 #[.pointer (some ⟨g, 0, none⟩), .int .i64 k] w fun e w' => e = .returned (.int .i64 (abLeft a k)) ∧ Below w.heap.size w w' := by
  obtain ⟨gp, pool, s, sv, cs, hx, hr, ho, hp, rfl⟩ := h.ex
  have := wh_left g gp a.P pool s a.now a.cnt k sv cs w hx (by omega) (fun t ht => by have := (hp t ht).1; omega)
  rw [hr.left ho] at this
  exact this
theorem ws_cancel {w : World} {g : Nat} {a : Ab} {F : Nat → Prop} (h : WS w g a F) (hn : a.now ≤ 900000000) (k : Int) :
    Calls Tryd.prog 15 #[.pointer (some ⟨g, 0, none⟩), .int .i64 k] w fun e w' => e = .returned (.bool (abHas a k)) ∧ WT w w' g (abDrop a k) F := by
  have h0 := h
  obtain ⟨gp, pool, s, sv, cs, hx, hr, ho, hp, rfl⟩ := h.ex
  cases hh : abHas a k with
  | false =>
    refine (wh_cancel_no g gp a.P pool s a.now a.cnt k sv cs w hx (by rw [hr.there ho]; exact hh)).mono ?_
    rintro e w' ⟨rfl, hb⟩
    rw [abDrop_no hh]
    exact ⟨rfl, WT.ofBelow h0 hb⟩
  | true =>
    obtain ⟨e0, he0, rfl⟩ := (abHas_iff a k).1 hh
    have hon := hr.on e0 he0
    refine (wh_cancel g gp a.P pool s a.now a.cnt e0.num _ sv cs w hx hon rfl (fun l i => Nat.le_trans (hr.lens ho l i) (by have := hx.few; omega)) (by have := ho.due e0 he0; show e0.at_ ≤ _; omega)).mono ?_
    rintro e w' ⟨rfl, ⟨sv', cs', hx', hft⟩, hf⟩
    rw [abDrop_num]
    refine ⟨rfl, ⟨_, ⟨gp, _, _, sv', cs', hx', hr.cancel ho e0 he0, ho.sub _, fun t ht => ?_, rfl⟩, hft⟩, hf⟩
    rcases List.mem_or_eq_of_mem_set ht with h1 | h1
    · exact hp t h1
    · have h2 := hp _ (List.mem_of_getElem? hon)
      rw [h1]
      exact h2
/-- What Arm answers. -/
structure IsArmA (g : Nat) (a : Ab) (F : Nat → Prop) (ticks tag : Int) (w : World) (e : Ending) (w' : World) : Prop where
  ex : ∃ v n c a', e = .returned (.tuple #[.int .i64 n, v]) ∧ ErrIs w' v c ∧ WT w w' g a' F ∧
    (((ticks < 1 ∨ 16777215 < ticks) ∧ n = 0 ∧ c = 6 ∧ a' = a) ∨ ((1 ≤ ticks ∧ ticks ≤ 16777215) ∧ a.P ≤ a.L.length ∧ n = 0 ∧ c = 5 ∧ a' = a) ∨
      (∃ k m : Nat, ticks = m ∧ 1 ≤ m ∧ m ≤ 16777215 ∧ a.L.length < a.P ∧ abFst a k ∧ n = k ∧ c = 0 ∧ a' = abArm a k tag m))
theorem ws_arm {w : World} {g : Nat} {a : Ab} {F : Nat → Prop} (h : WS w g a F) (hn : a.now ≤ 900000000) (hc : a.cnt ≤ 900000000) (ticks tag : Int) :
    Calls Tryd.prog 12 #[.pointer (some ⟨g, 0, none⟩), .int .i64 ticks, .int .i64 tag] w (IsArmA g a F ticks tag w) := by
  have h0 := h
  obtain ⟨gp, pool, s, sv, cs, hx, hr, ho, hp, rfl⟩ := h.ex
  refine (wh_arm g gp a.P pool s a.now a.cnt ticks tag sv cs w hx (by omega) (by omega) (fun l i => Nat.le_trans (hr.lens ho l i) (by have := hx.few; omega))).mono ?_
  rintro e w' ⟨⟨v, rfl, he, ht, hb⟩ | ⟨v, rfl, he, ht, hall, hb⟩ | ⟨k, n, rfl, hk, ht, h1, h2, ⟨sv', cs', hx', hft⟩, hf⟩⟩
  · exact ⟨v, 0, 6, a, rfl, .inr ⟨rfl, 1, he⟩, WT.ofBelow h0 hb, .inl ⟨ht, rfl, rfl, rfl⟩⟩
  · exact ⟨v, 0, 5, a, rfl, .inr ⟨rfl, 1, he⟩, WT.ofBelow h0 hb, .inr (.inl ⟨ht, hr.full ho hall, rfl, rfl, rfl⟩)⟩
  · obtain ⟨hfst, hlen⟩ := hr.first ho hk
    refine ⟨_, k, 0, abArm a k tag n, rfl, ErrIs.none _, ⟨⟨_, ⟨gp, _, _, sv', cs', hx', hr.arm ho hfst.1 hfst.2.1 tag h1 (by omega), ho.arm hfst.1 hfst.2.1 tag h1 (by omega), fun t ht => ?_, rfl⟩, hft⟩, hf⟩, .inr (.inr ⟨k, n, ht, h1, h2, hlen, hfst, rfl, rfl, rfl⟩)⟩
    rcases List.mem_or_eq_of_mem_set ht with h3 | h3
    · have := hp t h3
      exact ⟨this.1, Nat.le_succ_of_le this.2⟩
    · rw [h3]
      exact ⟨by show a.now + n ≤ a.now + _; omega, Nat.le_refl _⟩
/-- What Tick answers. -/
structure IsTickA (g : Nat) (a : Ab) (F : Nat → Prop) (w : World) (e : Ending) (w' : World) : Prop where
  ex : ∃ v F', e = .returned v ∧ OwnE ki 1 3 w' v ((abDue a).map (·.tag)) ∧ WS w' g (abTick a) F' ∧ (∀ b, F' b → F b ∨ w.heap.size ≤ b) ∧ ∀ b, v.ownBlock = some b → w.heap.size ≤ b ∧ ¬ F' b
  fr : Fr F w w'
theorem ws_tick {w : World} {g : Nat} {a : Ab} {F : Nat → Prop} (h : WS w g a F) (hn : a.now ≤ 900000000) (hc : a.cnt ≤ 900000000) :
    Calls Tryd.prog 17 #[.pointer (some ⟨g, 0, none⟩)] w (IsTickA g a F w) := by
  obtain ⟨gp, pool, s, sv, cs, hx, hr, ho, hp, rfl⟩ := h.ex
  refine (wh_tick g gp a.P pool s a.now a.cnt (a.now + 1) rfl sv cs w hx (by omega) (fun t ht => by have := (hp t ht).1; omega) (fun l i => Nat.le_trans (hr.lens ho l i) hx.few) (hr.memb ho) (fun t ht => by have := (hp t ht).2; omega)).mono ?_
  rintro e w' ⟨⟨v, ys, sv', cs', rfl, hperm, hsort, hx', hft, hown, hnew⟩, hf⟩
  have hrep := hr.sank ho (qof pool (a.now + 1)) (fun e he => by unfold qof; rw [hr.on e he]; rfl)
  obtain ⟨e1, e2⟩ := hr.fired ho hrep ys hperm hsort
  rw [e2] at hown
  refine ⟨⟨v, _, rfl, hown, ⟨gp, _, _, sv', cs', hx', hr.fire ho hrep ys (fun k => by rw [e1, List.mem_map]), ho.tick, fun t ht => ?_, rfl⟩, hft, hnew⟩, hf⟩
  obtain ⟨k, hk, rfl⟩ := List.mem_iff_getElem.1 ht
  have h1 := outs_get ys pool k
  rw [List.getElem?_eq_getElem hk] at h1
  have hkl : k < pool.length := by rw [outs_len] at hk; exact hk
  rw [List.getElem?_eq_getElem hkl] at h1
  have h2 := hp _ (List.getElem_mem hkl)
  split at h1
  · rw [Option.some.inj h1]
    exact ⟨Nat.le_trans h2.1 (by show a.now + 16777216 ≤ a.now + 1 + 16777216; omega), h2.2⟩
  · rw [Option.some.inj h1]
    exact ⟨Nat.le_trans h2.1 (by show a.now + 16777216 ≤ a.now + 1 + 16777216; omega), h2.2⟩
end Go.Proofs.YtpfoocndohpbbaaDoor
