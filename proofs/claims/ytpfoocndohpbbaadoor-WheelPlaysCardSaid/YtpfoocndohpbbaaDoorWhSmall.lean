/- crossbucklaw05.small. -/
import Derived.Test.YtpfoocndohpbbaaDoorWhSame
namespace Go.Proofs.YtpfoocndohpbbaaDoor
open Go Go.RowKit
set_option linter.unusedVariables false
set_option linter.unusedSimpArgs false
theorem own_ty {α : Type} {f : α → List Value} {k : Nat} {e : TypeId} {w : World} {v : Value} {xs : List α} (h : OwnE f k e w v xs) (b : Nat) (hb : v.ownBlock = some b) : ∃ cs, w.heap[b]? = some (.cells cs e (0, 0)) := by
  rcases h.2 with ⟨rfl, _⟩ | ⟨g', cap, cur, rfl, _, hh, _⟩
  · cases hb
  · cases hb
    exact ⟨cur, hh⟩
theorem WS.noStep {w : World} {g : Nat} {a : Ab} {F : Nat → Prop} (h : WS w g a F) : NoStep w F := by
  obtain ⟨gp, pool, s, sv, cs, hx, hr, ho, hp, rfl⟩ := h.ex
  rintro k cs' m hk hh
  rcases hk with rfl | rfl | ⟨i, hi, hb⟩
  · rw [hx.c.heap] at hh; cases hh
  · obtain ⟨c, hc⟩ := own_ty hx.pl k rfl
    rw [hc] at hh; cases hh
  · have h1 := hx.r.own (i / 64) (i % 64) (by omega) (by omega)
    rw [show i / 64 * 64 + i % 64 = i by omega] at h1
    obtain ⟨c, hc⟩ := own_ty h1 k hb
    rw [hc] at hh; cases hh
theorem ErrIs.fr {F : Nat → Prop} {w w' : World} {v : Value} {c : Int} (h : ErrIs w v c) (hf : Fr F w w') (hF : NoStep w F) : ErrIs w' v c := h.imp id fun ⟨hc, d, hd⟩ => ⟨hc, d, ErrN.fr hf hF hd⟩
/-- Errors are as they were. -/
def EK (w w' : World) : Prop := ∀ v c, ErrIs w v c → ErrIs w' v c
theorem EK.below {w w' : World} (h : Below w.heap.size w w') : EK w w' := fun v c he => he.below h
/-- The wheel lies in what came behind w0, and not in the blocks X. -/
structure WL5 (w0 : World) (g : Nat) (a : Ab) (X : Nat → Prop) (wr : World) : Prop where
  ex : ∃ F, WS wr g a F ∧ ∀ b, F b → w0.heap.size ≤ b ∧ ¬ X b
  bel : Below w0.heap.size w0 wr
  lt : ∀ b, X b → b < wr.heap.size
/-- A call of the wheel leaves X, and errors, as they were. -/
structure KX (X : Nat → Prop) (w w' : World) : Prop where
  fr : Fr (fun b => ¬ X b) w w'
  ek : EK w w'
theorem KX.below {X : Nat → Prop} {w w' : World} (h : Below w.heap.size w w') : KX X w w' := ⟨Fr.ofBelow h _, EK.below h⟩
theorem WL5.to {w wr w' : World} {g : Nat} {a a' : Ab} {F X : Nat → Prop} (hb : Below w.heap.size w wr) (hF : ∀ b, F b → w.heap.size ≤ b ∧ ¬ X b) (hx : ∀ b, X b → b < wr.heap.size) (h0 : WS wr g a F) (h : WT wr w' g a' F) : WL5 w g a' X w' ∧ KX X wr w' := by
  obtain ⟨⟨F', h1, h2⟩, hf⟩ := h
  have hsz := hb.size
  have hs2 := hf.size
  exact ⟨⟨⟨F', h1, fun b hb => (h2 b hb).elim (hF b) (fun h => ⟨by omega, fun hq => by have := hx b hq; omega⟩)⟩, hb.trans (hf.below _ hsz (fun i hi => (hF i hi).1)), fun b hb => by have := hx b hb; omega⟩,
    ⟨hf.mono (fun i _ hi => (hF i hi).2), fun v c he => he.fr hf h0.noStep⟩⟩
theorem WL5.fr {w wr w' : World} {g : Nat} {a : Ab} {X Y : Nat → Prop} (h : WL5 w g a X wr) (hf : Fr X wr w') (hX : ∀ b, X b → w.heap.size ≤ b) (hY : ∀ b, Y b → X b ∨ wr.heap.size ≤ b) (hl : ∀ b, Y b → b < w'.heap.size) : WL5 w g a Y w' := by
  obtain ⟨⟨F, h1, h2⟩, h3, h4⟩ := h
  have hsz := hf.size
  have h5 := h1.lt
  refine ⟨⟨F, h1.fr hf (fun b hb => (h2 b hb).2), fun b hb => ⟨(h2 b hb).1, fun hy => (hY b hy).elim (h2 b hb).2 (fun h => by have := h5 b hb; omega)⟩⟩, h3.trans (hf.below _ h3.size hX), hl⟩
theorem WL5.below {w wr w' : World} {g : Nat} {a : Ab} {X : Nat → Prop} (h : WL5 w g a X wr) (hb : Below wr.heap.size wr w') : WL5 w g a X w' := by
  obtain ⟨⟨F, h1, h2⟩, h3, h4⟩ := h
  have := hb.size
  exact ⟨⟨F, h1.below hb, h2⟩, below_step h3 hb, fun b hb => by have := h4 b hb; omega⟩
/-- Fewer, or other, blocks are left out: all that is not the wheel's. -/
theorem WL5.none {w wr : World} {g : Nat} {a : Ab} {X : Nat → Prop} (h : WL5 w g a X wr) : WL5 w g a (fun _ => False) wr := by
  obtain ⟨⟨F, h1, h2⟩, h3, h4⟩ := h
  exact ⟨⟨F, h1, fun b hb => ⟨(h2 b hb).1, fun h => h⟩⟩, h3, fun b h => h.elim⟩
theorem l5_new (P : Nat) (z : Int) (hP : (P : Int) = max 0 (min z 64)) (w0 w : World) (h : Below w0.heap.size w0 w) :
    Calls Tryd.prog 10 #[.int .i64 z] w fun e w' => ∃ g, e = .returned (.pointer (some ⟨g, 0, none⟩)) ∧ WL5 w0 g (abNew P) (fun _ => False) w' := by
  refine (ws_new P z hP w).mono ?_
  rintro e w' ⟨g, F, rfl, h1, h2, h3⟩
  have := h.size
  exact ⟨g, rfl, ⟨⟨F, h1, fun b hb => ⟨by have := h2 b hb; omega, fun h => h⟩⟩, below_step h h3, fun b h => h.elim⟩⟩
theorem l5_free {w0 w : World} {g : Nat} {a : Ab} {X : Nat → Prop} (h : WL5 w0 g a X w) :
    Calls Tryd.prog 20 #[.pointer (some ⟨g, 0, none⟩)] w fun e w' => e = .returned (.int .i64 ((a.P - a.L.length : Nat) : Int)) ∧ WL5 w0 g a X w' ∧ Below w.heap.size w w' := by
  obtain ⟨F, h1, h2⟩ := h.ex
  exact (ws_free h1).mono (fun e w' h9 => ⟨h9.1, h.below h9.2, h9.2⟩)
theorem l5_left {w0 w : World} {g : Nat} {a : Ab} {X : Nat → Prop} (h : WL5 w0 g a X w) (hn : a.now ≤ 900000000) (k : Int) :
    Calls Tryd.prog 22 #[.pointer (some ⟨g, 0, none⟩), .int .i64 k] w fun e w' => e = .returned (.int .i64 (abLeft a k)) ∧ WL5 w0 g a X w' ∧ Below w.heap.size w w' := by
  obtain ⟨F, h1, h2⟩ := h.ex
  exact (ws_left h1 hn k).mono (fun e w' h9 => ⟨h9.1, h.below h9.2, h9.2⟩)
theorem l5_cancel {w0 w : World} {g : Nat} {a : Ab} {X : Nat → Prop} (h : WL5 w0 g a X w) (hn : a.now ≤ 900000000) (k : Int) :
    Calls Tryd.prog 15 #[.pointer (some ⟨g, 0, none⟩), .int .i64 k] w fun e w' => e = .returned (.bool (abHas a k)) ∧ WL5 w0 g (abDrop a k) X w' ∧ KX X w w' := by
  obtain ⟨⟨F, h1, h2⟩, h3, h4⟩ := h
  refine (ws_cancel h1 hn k).mono ?_
  rintro e w' ⟨rfl, ht⟩
  exact ⟨rfl, WL5.to h3 h2 h4 h1 ht⟩
structure IsArm5 (w0 : World) (g : Nat) (a : Ab) (X : Nat → Prop) (ticks tag : Int) (w : World) (e : Ending) (w' : World) : Prop where
  ex : ∃ v n c a', e = .returned (.tuple #[.int .i64 n, v]) ∧ ErrIs w' v c ∧ WL5 w0 g a' X w' ∧
    (((ticks < 1 ∨ 16777215 < ticks) ∧ n = 0 ∧ c = 6 ∧ a' = a) ∨ ((1 ≤ ticks ∧ ticks ≤ 16777215) ∧ a.P ≤ a.L.length ∧ n = 0 ∧ c = 5 ∧ a' = a) ∨
      (∃ k m : Nat, ticks = m ∧ 1 ≤ m ∧ m ≤ 16777215 ∧ a.L.length < a.P ∧ abFst a k ∧ n = k ∧ c = 0 ∧ a' = abArm a k tag m))
  ek : KX X w w'
theorem l5_arm {w0 w : World} {g : Nat} {a : Ab} {X : Nat → Prop} (h : WL5 w0 g a X w) (hn : a.now ≤ 900000000) (hc : a.cnt ≤ 900000000) (ticks tag : Int) :
    Calls Tryd.prog 12 #[.pointer (some ⟨g, 0, none⟩), .int .i64 ticks, .int .i64 tag] w (IsArm5 w0 g a X ticks tag w) := by
  obtain ⟨⟨F, h1, h2⟩, h3, h4⟩ := h
  refine (ws_arm h1 hn hc ticks tag).mono ?_
  rintro e w' ⟨v, n, c, a', rfl, he, ht, hd⟩
  have := WL5.to h3 h2 h4 h1 ht
  exact ⟨⟨v, n, c, a', rfl, he, this.1, hd⟩, this.2⟩
/-- An Arm that must succeed, at the place k. -/
theorem l5_armed {w0 w : World} {g : Nat} {a : Ab} {X : Nat → Prop} (h : WL5 w0 g a X w) (hn : a.now ≤ 900000000) (hc : a.cnt ≤ 900000000) (m : Nat) (tag : Int) (h1 : 1 ≤ m) (h2 : m ≤ 16777215) (hl : a.L.length < a.P) (k : Nat) (hk : ∀ j, abFst a j → j = k) :
    Calls Tryd.prog 12 #[.pointer (some ⟨g, 0, none⟩), .int .i64 (m : Int), .int .i64 tag] w fun e w' => e = .returned (.tuple #[.int .i64 (k : Nat), .nilIface]) ∧ WL5 w0 g (abArm a k tag m) X w' ∧ KX X w w' := by
  refine (l5_arm h hn hc m tag).mono ?_
  rintro e w' ⟨⟨v, n, c, a', rfl, he, hw, hd⟩, hek⟩
  rcases hd with ⟨h3, _⟩ | ⟨_, h3, _⟩ | ⟨j, m', h3, _, _, _, h4, rfl, rfl, rfl⟩
  · omega
  · omega
  · obtain rfl : m = m' := by omega
    obtain rfl := hk j h4
    rcases he with ⟨_, rfl⟩ | ⟨h5, _⟩
    · exact ⟨rfl, hw, hek⟩
    · cases h5
/-- An Arm that must fail. -/
theorem l5_no {w0 w : World} {g : Nat} {a : Ab} {X : Nat → Prop} (h : WL5 w0 g a X w) (hn : a.now ≤ 900000000) (hc : a.cnt ≤ 900000000) (ticks tag : Int) (c : Int) (hl : c = 6 ∧ (ticks < 1 ∨ 16777215 < ticks) ∨ c = 5 ∧ 1 ≤ ticks ∧ ticks ≤ 16777215 ∧ a.P ≤ a.L.length) :
    Calls Tryd.prog 12 #[.pointer (some ⟨g, 0, none⟩), .int .i64 ticks, .int .i64 tag] w fun e w' => ∃ v, e = .returned (.tuple #[.int .i64 0, v]) ∧ ErrIs w' v c ∧ WL5 w0 g a X w' ∧ KX X w w' := by
  refine (l5_arm h hn hc ticks tag).mono ?_
  rintro e w' ⟨⟨v, n, c', a', rfl, he, hw, hd⟩, hek⟩
  rcases hd with ⟨h3, rfl, rfl, rfl⟩ | ⟨h1, h3, rfl, rfl, rfl⟩ | ⟨j, m', h3, h5, h6, h7, h4, rfl, rfl, rfl⟩
  · obtain rfl : c = 6 := by omega
    exact ⟨v, rfl, he, hw, hek⟩
  · obtain rfl : c = 5 := by omega
    exact ⟨v, rfl, he, hw, hek⟩
  · omega
structure IsTick5 (w0 : World) (g : Nat) (a : Ab) (X : Nat → Prop) (w : World) (e : Ending) (w' : World) : Prop where
  ex : ∃ v, e = .returned v ∧ OwnE ki 1 3 w' v ((abDue a).map (·.tag)) ∧ WL5 w0 g (abTick a) (fun b => X b ∨ v.ownBlock = some b) w' ∧ (∀ b, v.ownBlock = some b → w0.heap.size ≤ b ∧ ¬ X b)
  ek : KX X w w'
theorem l5_tick {w0 w : World} {g : Nat} {a : Ab} {X : Nat → Prop} (h : WL5 w0 g a X w) (hn : a.now ≤ 900000000) (hc : a.cnt ≤ 900000000) :
    Calls Tryd.prog 17 #[.pointer (some ⟨g, 0, none⟩)] w (IsTick5 w0 g a X w) := by
  obtain ⟨⟨F, h1, h2⟩, h3, h4⟩ := h
  refine (ws_tick h1 hn hc).mono ?_
  rintro e w' ⟨⟨v, F', rfl, hown, hw, hF, hv⟩, hf⟩
  have hsz := h3.size
  have hs2 := hf.size
  refine ⟨⟨v, rfl, hown, ⟨⟨F', hw, fun b hb => ⟨(hF b hb).elim (fun h => (h2 b h).1) (fun h => by omega), fun hq => ?_⟩⟩, h3.trans (hf.below _ hsz (fun i hi => (h2 i hi).1)), fun b hb => ?_⟩, fun b hb => ⟨by have := (hv b hb).1; omega, fun hx => by have := (hv b hb).1; have := h4 b hx; omega⟩⟩, ⟨hf.mono (fun i _ hi => (h2 i hi).2), fun v c he => he.fr hf h1.noStep⟩⟩
  · rcases hq with hq | hq
    · exact (hF b hb).elim (fun h => (h2 b h).2 hq) (fun h => by have := h4 b hq; omega)
    · exact (hv b hq).2 hb
  · rcases hb with hb | hb
    · have := h4 b hb; omega
    · exact hown.lt b hb
end Go.Proofs.YtpfoocndohpbbaaDoor
