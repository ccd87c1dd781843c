/- Timers on a wheel of four levels, purely. -/
import Derived.Lib.Hide
namespace Go.Proofs.YtpfoocndohpbbaaDoor
set_option linter.unusedVariables false
set_option linter.unusedSimpArgs false
def lv (now at_ : Nat) : Nat := if at_ / 64 = now / 64 then 0 else if at_ / 4096 = now / 4096 then 1 else if at_ / 262144 = now / 262144 then 2 else 3
def ixw (at_ : Nat) : Nat → Nat
  | 0 => at_ % 64
  | 1 => at_ / 64 % 64
  | 2 => at_ / 4096 % 64
  | _ => at_ / 262144 % 64
def pos (now at_ : Nat) : Nat × Nat := (lv now at_, ixw at_ (lv now at_))
def low (n : Nat) : Nat := if n % 64 ≠ 0 then 0 else if n / 64 % 64 ≠ 0 then 1 else if n / 4096 % 64 ≠ 0 then 2 else 3
def sunk (n l : Nat) (p : Nat × Nat) (at_ : Nat) : Nat × Nat := if p = (l, ixw n l) then pos n at_ else p
theorem sunk_new (n l at_ : Nat) : sunk n l (pos n at_) at_ = pos n at_ := by unfold sunk; split <;> rfl
theorem sunk_hit (n l at_ : Nat) (p : Nat × Nat) (h : p = (l, ixw n l)) : sunk n l p at_ = pos n at_ := by unfold sunk; rw [if_pos h]
theorem sunk_miss (n l at_ : Nat) (p : Nat × Nat) (h : p ≠ (l, ixw n l)) : sunk n l p at_ = p := by unfold sunk; rw [if_neg h]
/-- All the sinks of a tick. -/
def sinks (n : Nat) (p : Nat × Nat) (at_ : Nat) : Nat × Nat :=
  if low n = 0 then p else if low n = 1 then sunk n 1 p at_ else if low n = 2 then sunk n 1 (sunk n 2 p at_) at_ else sunk n 1 (sunk n 2 (sunk n 3 p at_) at_) at_
/-- Who stays where it is. -/
theorem pos_stay (now at_ : Nat) (h : now < at_) (h2 : at_ < now + 16777216) (hm : ∀ l, 1 ≤ l → l ≤ low (now + 1) → pos now at_ ≠ (l, ixw (now + 1) l)) : pos (now + 1) at_ = pos now at_ := by
  have key : lv (now + 1) at_ = lv now at_ := by
    unfold lv
    by_cases a0 : at_ / 64 = now / 64
    · rw [if_pos a0, if_pos (by omega)]
    · rw [if_neg a0]
      by_cases a1 : at_ / 4096 = now / 4096
      · have hp : pos now at_ = (1, at_ / 64 % 64) := by unfold pos lv; rw [if_neg a0, if_pos a1]; rfl
        rw [if_pos a1]
        have : at_ / 64 ≠ (now + 1) / 64 := fun e => by
          have hl : 1 ≤ low (now + 1) := by unfold low; split; omega; split <;> (try split) <;> omega
          exact hm 1 (Nat.le_refl 1) hl (by rw [hp]; show (1, at_ / 64 % 64) = (1, (now + 1) / 64 % 64); rw [e])
        rw [if_neg this, if_pos (by omega)]
      · rw [if_neg a1]
        by_cases a2 : at_ / 262144 = now / 262144
        · have hp : pos now at_ = (2, at_ / 4096 % 64) := by unfold pos lv; rw [if_neg a0, if_neg a1, if_pos a2]; rfl
          rw [if_pos a2]
          have : at_ / 4096 ≠ (now + 1) / 4096 := fun e => by
            have hl : 2 ≤ low (now + 1) := by unfold low; split; omega; split; omega; split <;> omega
            exact hm 2 (by omega) hl (by rw [hp]; show (2, at_ / 4096 % 64) = (2, (now + 1) / 4096 % 64); rw [e])
          rw [if_neg (by omega), if_neg this, if_pos (by omega)]
        · rw [if_neg a2]
          have hp : pos now at_ = (3, at_ / 262144 % 64) := by unfold pos lv; rw [if_neg a0, if_neg a1, if_neg a2]; rfl
          have : at_ / 262144 ≠ (now + 1) / 262144 := fun e => by
            have hl : 3 ≤ low (now + 1) := by unfold low; split; omega; split; omega; split <;> omega
            exact hm 3 (by omega) hl (by rw [hp]; show (3, at_ / 262144 % 64) = (3, (now + 1) / 262144 % 64); rw [e])
          rw [if_neg (by omega), if_neg (by omega), if_neg this]
  unfold pos
  rw [key]
theorem sinks_pos (now at_ : Nat) (h : now < at_) (h2 : at_ < now + 16777216) : sinks (now + 1) (pos now at_) at_ = pos (now + 1) at_ := by
  have hs := pos_stay now at_ h h2
  generalize hq : pos now at_ = q at *
  unfold sinks
  have hlow : low (now + 1) = 0 ∨ low (now + 1) = 1 ∨ low (now + 1) = 2 ∨ low (now + 1) = 3 := by unfold low; split; simp; split; simp; split <;> simp
  have step : ∀ l p, (p = q ∨ p = pos (now + 1) at_) → (sunk (now + 1) l p at_ = q ∧ q ≠ (l, ixw (now + 1) l) ∨ sunk (now + 1) l p at_ = pos (now + 1) at_) := by
    intro l p hp
    rcases hp with rfl | rfl
    · by_cases e : p = (l, ixw (now + 1) l)
      · exact .inr (sunk_hit _ _ _ _ e)
      · exact .inl ⟨sunk_miss _ _ _ _ e, e⟩
    · exact .inr (sunk_new _ _ _)
  rcases hlow with e | e | e | e
  · rw [if_pos e, hs (fun l h1 h2 => by omega)]
  · rw [if_neg (by omega), if_pos e]
    rcases step 1 q (.inl rfl) with ⟨h1, m1⟩ | h1
    · have hl1 : ∀ l, 1 ≤ l → l ≤ low (now + 1) → q ≠ (l, ixw (now + 1) l) := by
        intro l g1 g2
        obtain rfl : l = 1 := by omega
        exact m1
      rw [h1, hs hl1]
    · rw [h1]
  · rw [if_neg (by omega), if_neg (by omega), if_pos e]
    rcases step 2 q (.inl rfl) with ⟨h1, m1⟩ | h1
    · rw [h1]
      rcases step 1 q (.inl rfl) with ⟨h3, m3⟩ | h3
      · rw [h3, hs (fun l g1 g2 => by
          have : l = 1 ∨ l = 2 := by omega
          rcases this with rfl | rfl
          · exact m3
          · exact m1)]
      · rw [h3]
    · rw [h1, sunk_new]
  · rw [if_neg (by omega), if_neg (by omega), if_neg (by omega)]
    rcases step 3 q (.inl rfl) with ⟨h1, m1⟩ | h1
    · rw [h1]
      rcases step 2 q (.inl rfl) with ⟨h3, m3⟩ | h3
      · rw [h3]
        rcases step 1 q (.inl rfl) with ⟨h5, m5⟩ | h5
        · rw [h5, hs (fun l g1 g2 => by
            have : l = 1 ∨ l = 2 ∨ l = 3 := by omega
            rcases this with rfl | rfl | rfl
            · exact m5
            · exact m3
            · exact m1)]
        · rw [h5]
      · rw [h3, sunk_new]
    · rw [h1, sunk_new, sunk_new]
theorem fires (n at_ : Nat) (h : n ≤ at_) : pos n at_ = (0, n % 64) ↔ at_ = n := by
  constructor
  · intro e
    have h1 : lv n at_ = 0 := congrArg Prod.fst e
    have h2 : ixw at_ (lv n at_) = n % 64 := congrArg Prod.snd e
    rw [h1] at h2
    have h2 : at_ % 64 = n % 64 := h2
    have h3 : at_ / 64 = n / 64 := by
      unfold lv at h1
      split at h1
      · assumption
      · split at h1
        · cases h1
        · split at h1 <;> cases h1
    omega
  · rintro rfl
    unfold pos lv
    rw [if_pos rfl]
    rfl
theorem pos_lt (n at_ : Nat) : (pos n at_).1 < 4 ∧ (pos n at_).2 < 64 := by
  have hl : lv n at_ < 4 := by unfold lv; split; omega; split; omega; split <;> omega
  refine ⟨hl, ?_⟩
  show ixw at_ (lv n at_) < 64
  generalize lv n at_ = l
  match l with
  | 0 => show at_ % 64 < 64; omega
  | 1 => show at_ / 64 % 64 < 64; omega
  | 2 => show at_ / 4096 % 64 < 64; omega
  | _ + 3 => show at_ / 262144 % 64 < 64; omega
/-- An armed timer: its number, its tag, when it fires, when it was armed. -/
structure En where
  num : Nat
  tag : Int
  at_ : Nat
  ord : Nat
deriving DecidableEq
abbrev Slots := Nat → Nat → List Nat
def up (s : Slots) (l i : Nat) (xs : List Nat) : Slots := fun l' i' => if l' = l ∧ i' = i then xs else s l' i'
theorem up_same (s : Slots) (l i : Nat) (xs : List Nat) : up s l i xs l i = xs := if_pos ⟨rfl, rfl⟩
theorem up_other (s : Slots) (l i l' i' : Nat) (xs : List Nat) (h : ¬ (l' = l ∧ i' = i)) : up s l i xs l' i' = s l' i' := if_neg h
/-- The slots hold each timer once, where p says (or nowhere). -/
def Rep (s : Slots) (L : List En) (p : En → Option (Nat × Nat)) : Prop := ∀ l i, (s l i).Nodup ∧ ∀ k, k ∈ s l i ↔ ∃ e ∈ L, e.num = k ∧ p e = some (l, i)
def One (L : List En) : Prop := ∀ e ∈ L, ∀ e' ∈ L, e.num = e'.num → e = e'
theorem Rep.congr {s : Slots} {L : List En} {p p' : En → Option (Nat × Nat)} (h : Rep s L p) (he : ∀ e ∈ L, p e = p' e) : Rep s L p' := fun l i =>
  ⟨(h l i).1, fun k => ((h l i).2 k).trans ⟨fun ⟨e, h1, h2, h3⟩ => ⟨e, h1, h2, (he e h1) ▸ h3⟩, fun ⟨e, h1, h2, h3⟩ => ⟨e, h1, h2, (he e h1).symm ▸ h3⟩⟩⟩
def cl (p : En → Option (Nat × Nat)) (l i : Nat) (e : En) : Option (Nat × Nat) := if p e = some (l, i) then none else p e
theorem cl_ne (p : En → Option (Nat × Nat)) (l i : Nat) (e : En) : cl p l i e ≠ some (l, i) := by
  unfold cl
  split
  · exact fun h => by cases h
  · assumption
theorem cl_other {p : En → Option (Nat × Nat)} {l i l' i' : Nat} {e : En} (hh : ¬ (l' = l ∧ i' = i)) : cl p l i e = some (l', i') ↔ p e = some (l', i') := by
  unfold cl
  split
  · rename_i h
    rw [h]
    refine ⟨fun h => (by cases h), fun h => ?_⟩
    exfalso
    exact hh ⟨(congrArg Prod.fst (Option.some.inj h)).symm, (congrArg Prod.snd (Option.some.inj h)).symm⟩
  · exact Iff.rfl
theorem Rep.clear {s : Slots} {L : List En} {p : En → Option (Nat × Nat)} (h : Rep s L p) (l i : Nat) : Rep (up s l i []) L (cl p l i) := by
  intro l' i'
  by_cases hh : l' = l ∧ i' = i
  · obtain ⟨rfl, rfl⟩ := hh
    rw [up_same]
    refine ⟨List.nodup_nil, fun k => ⟨fun hk => (by cases hk), fun hk => ?_⟩⟩
    obtain ⟨e, he, hn, hp⟩ := hk
    exact absurd hp (cl_ne _ _ _ _)
  · rw [up_other _ _ _ _ _ _ hh]
    refine ⟨(h l' i').1, fun k => ((h l' i').2 k).trans ?_⟩
    constructor
    · rintro ⟨e, he, hn, hp⟩; exact ⟨e, he, hn, (cl_other hh).2 hp⟩
    · rintro ⟨e, he, hn, hp⟩; exact ⟨e, he, hn, (cl_other hh).1 hp⟩
def at1 (p : En → Option (Nat × Nat)) (e0 : En) (x : Nat × Nat) (e : En) : Option (Nat × Nat) := if e = e0 then some x else p e
theorem at1_self (p : En → Option (Nat × Nat)) (e0 : En) (x : Nat × Nat) : at1 p e0 x e0 = some x := if_pos rfl
theorem at1_ne (p : En → Option (Nat × Nat)) (e0 : En) (x : Nat × Nat) (e : En) (h : e ≠ e0) : at1 p e0 x e = p e := if_neg h
theorem Rep.lay {s : Slots} {L : List En} {p : En → Option (Nat × Nat)} (h : Rep s L p) (h1 : One L) (e0 : En) (he0 : e0 ∈ L) (hp0 : p e0 = none) (x : Nat × Nat) : Rep (up s x.1 x.2 (s x.1 x.2 ++ [e0.num])) L (at1 p e0 x) := by
  have hno : ∀ l' i', e0.num ∉ s l' i' := fun l' i' hm => by
    obtain ⟨e, he, hn, hp⟩ := ((h l' i').2 e0.num).1 hm
    obtain rfl := h1 e he e0 he0 hn
    rw [hp0] at hp; cases hp
  intro l' i'
  by_cases hh : l' = x.1 ∧ i' = x.2
  · obtain ⟨rfl, rfl⟩ := hh
    rw [up_same]
    refine ⟨?_, fun k => ?_⟩
    · rw [List.nodup_append]
      refine ⟨(h _ _).1, by simp, fun a ha b hb => ?_⟩
      rw [List.mem_singleton] at hb
      rintro rfl
      exact hno _ _ (hb ▸ ha)
    · rw [List.mem_append, List.mem_singleton, (h _ _).2 k]
      constructor
      · rintro (⟨e, he, hn, hp⟩ | rfl)
        · refine ⟨e, he, hn, ?_⟩
          by_cases hq : e = e0
          · rw [hq, at1_self]
          · rw [at1_ne _ _ _ _ hq]; exact hp
        · exact ⟨e0, he0, rfl, at1_self _ _ _⟩
      · rintro ⟨e, he, hn, hp⟩
        by_cases hq : e = e0
        · exact .inr (by rw [← hn, hq])
        · rw [at1_ne _ _ _ _ hq] at hp
          exact .inl ⟨e, he, hn, hp⟩
  · rw [up_other _ _ _ _ _ _ hh]
    refine ⟨(h l' i').1, fun k => ((h l' i').2 k).trans ?_⟩
    constructor
    · rintro ⟨e, he, hn, hp⟩
      refine ⟨e, he, hn, ?_⟩
      rw [at1_ne _ _ _ _ (fun hq => by subst hq; rw [hp0] at hp; cases hp)]
      exact hp
    · rintro ⟨e, he, hn, hp⟩
      refine ⟨e, he, hn, ?_⟩
      by_cases hq : e = e0
      · rw [hq, at1_self] at hp
        exact absurd ⟨(congrArg Prod.fst (Option.some.inj hp)).symm, (congrArg Prod.snd (Option.some.inj hp)).symm⟩ hh
      · rwa [at1_ne _ _ _ _ hq] at hp
/-- Timers laid one by one, each where it is to be (q: by number). -/
def lays (q : Nat → Nat × Nat) : Slots → List Nat → Slots
  | s, [] => s
  | s, k :: ks => lays q (up s (q k).1 (q k).2 (s (q k).1 (q k).2 ++ [k])) ks
theorem lays_snoc (q : Nat → Nat × Nat) (s : Slots) (ks : List Nat) (k : Nat) : lays q s (ks ++ [k]) = up (lays q s ks) (q k).1 (q k).2 (lays q s ks (q k).1 (q k).2 ++ [k]) := by
  induction ks generalizing s with
  | nil => rfl
  | cons a ks ih => exact ih _
theorem Rep.laysAll {q : Nat → Nat × Nat} {L : List En} (h1 : One L) : ∀ (ks : List Nat) (s : Slots) (p p' : En → Option (Nat × Nat)), Rep s L p → ks.Nodup → (∀ k ∈ ks, ∃ e ∈ L, e.num = k ∧ p e = none) → (∀ e ∈ L, e.num ∈ ks → p' e = some (q e.num)) → (∀ e ∈ L, e.num ∉ ks → p' e = p e) → Rep (lays q s ks) L p' := by
  intro ks
  induction ks with
  | nil => intro s p p' h _ _ _ h4; exact h.congr (fun e he => (h4 e he (by simp)).symm)
  | cons k ks ih =>
    intro s p p' h hnd hall h3 h4
    obtain ⟨e0, he0, hn0, hp0⟩ := hall k (by simp)
    have hl := h.lay h1 e0 he0 hp0 (q k)
    rw [hn0] at hl
    have hkn := (List.nodup_cons.1 hnd).1
    refine ih _ _ p' hl (List.nodup_cons.1 hnd).2 (fun k' hk' => ?_) (fun e he hm => h3 e he (by simp [hm])) (fun e he hm => ?_)
    · obtain ⟨e, he, hn, hp⟩ := hall k' (by simp [hk'])
      refine ⟨e, he, hn, ?_⟩
      rw [at1_ne]
      · exact hp
      · intro e1
        exact hkn (by rw [← hn0, ← e1, hn]; exact hk')
    · by_cases he1 : e = e0
      · subst he1
        rw [at1_self, h3 e he (by rw [hn0]; simp), hn0]
      · rw [at1_ne _ _ _ _ he1]
        refine h4 e he (fun hm2 => ?_)
        rcases List.mem_cons.1 hm2 with h2 | h2
        · exact he1 (h1 e he e0 he0 (by rw [h2, hn0]))
        · exact hm h2
/-- A slot is emptied, and its timers are laid anew. -/
def sinkS (q : Nat → Nat × Nat) (s : Slots) (l i : Nat) : Slots := lays q (up s l i []) (s l i)
theorem Rep.sink {q : Nat → Nat × Nat} {s : Slots} {L : List En} {p : En → Nat × Nat} (h : Rep s L (fun e => some (p e))) (h1 : One L) (l i : Nat) : Rep (sinkS q s l i) L (fun e => some (if p e = (l, i) then q e.num else p e)) := by
  have hiff : ∀ e ∈ L, e.num ∈ s l i ↔ p e = (l, i) := fun e he => by
    rw [(h l i).2 e.num]
    constructor
    · rintro ⟨e', he', hn', hp'⟩
      obtain rfl := h1 e' he' e he hn'
      exact Option.some.inj hp'
    · exact fun hp' => ⟨e, he, rfl, congrArg some hp'⟩
  refine Rep.laysAll h1 (s l i) _ _ _ (h.clear l i) (h l i).1 (fun k hk => ?_) (fun e he hm => ?_) (fun e he hm => ?_)
  · obtain ⟨e, he, hn, hp⟩ := ((h l i).2 k).1 hk
    refine ⟨e, he, hn, ?_⟩
    unfold cl
    rw [if_pos hp]
  · rw [if_pos ((hiff e he).1 hm)]
  · have hne : p e ≠ (l, i) := fun hq => hm ((hiff e he).2 hq)
    rw [if_neg hne]
    unfold cl
    rw [if_neg (fun hq => hne (Option.some.inj hq))]
/-- A timer as it lies in the pool. -/
structure Tw where
  armed : Bool
  tag : Int
  at_ : Nat
  ord : Nat
/-- A wheel: the pool's size, the armed timers in the order in which they were armed, the time, how many were armed. -/
structure Ab where
  P : Nat
  L : List En
  now : Nat
  cnt : Nat
structure WOk (a : Ab) : Prop where
  one : One a.L
  ltP : ∀ e ∈ a.L, e.num < a.P
  ordS : a.L.Pairwise (fun e f => e.ord < f.ord)
  ordB : ∀ e ∈ a.L, e.ord ≤ a.cnt
  due : ∀ e ∈ a.L, a.now < e.at_ ∧ e.at_ < a.now + 16777216
structure WRel (pool : List Tw) (s : Slots) (a : Ab) : Prop where
  len : pool.length = a.P
  on : ∀ e ∈ a.L, pool[e.num]? = some ⟨true, e.tag, e.at_, e.ord⟩
  off : ∀ k t, pool[k]? = some t → t.armed = true → ∃ e ∈ a.L, e.num = k
  rep : Rep s a.L (fun e => some (pos a.now e.at_))
theorem Rep.more {s : Slots} {L : List En} {p : En → Option (Nat × Nat)} (h : Rep s L p) (e0 : En) (h0 : p e0 = none) : Rep s (L ++ [e0]) p := by
  intro l i
  refine ⟨(h l i).1, fun k => ((h l i).2 k).trans ?_⟩
  constructor
  · rintro ⟨e, he, hn, hp⟩; exact ⟨e, List.mem_append_left _ he, hn, hp⟩
  · rintro ⟨e, he, hn, hp⟩
    rcases List.mem_append.1 he with h1 | h1
    · exact ⟨e, h1, hn, hp⟩
    · rw [List.mem_singleton.1 h1, h0] at hp; cases hp
theorem Rep.fewer {s : Slots} {L L' : List En} {p : En → Option (Nat × Nat)} (h : Rep s L p) (hs : ∀ e ∈ L', e ∈ L) (h0 : ∀ e ∈ L, e ∉ L' → p e = none) : Rep s L' p := by
  intro l i
  refine ⟨(h l i).1, fun k => ((h l i).2 k).trans ?_⟩
  constructor
  · rintro ⟨e, he, hn, hp⟩
    by_cases hm : e ∈ L'
    · exact ⟨e, hm, hn, hp⟩
    · rw [h0 e he hm] at hp; cases hp
  · rintro ⟨e, he, hn, hp⟩; exact ⟨e, hs e he, hn, hp⟩
/-- A timer is armed. -/
def abArm (a : Ab) (k : Nat) (tag : Int) (ticks : Nat) : Ab := ⟨a.P, a.L ++ [⟨k, tag, a.now + ticks, a.cnt + 1⟩], a.now, a.cnt + 1⟩
theorem WOk.arm {a : Ab} (h : WOk a) {k : Nat} (hk : k < a.P) (hn : ∀ e ∈ a.L, e.num ≠ k) (tag : Int) {ticks : Nat} (h1 : 1 ≤ ticks) (h2 : ticks < 16777216) : WOk (abArm a k tag ticks) := by
  refine ⟨fun e he e' he' hh => ?_, fun e he => ?_, ?_, fun e he => ?_, fun e he => ?_⟩
  · rcases List.mem_append.1 he with g | g <;> rcases List.mem_append.1 he' with g' | g'
    · exact h.one e g e' g' hh
    · rw [List.mem_singleton.1 g'] at hh; exact absurd hh (hn e g)
    · rw [List.mem_singleton.1 g] at hh; exact absurd hh.symm (hn e' g')
    · rw [List.mem_singleton.1 g, List.mem_singleton.1 g']
  · rcases List.mem_append.1 he with g | g
    · exact h.ltP e g
    · rw [List.mem_singleton.1 g]; exact hk
  · refine List.pairwise_append.2 ⟨h.ordS, List.pairwise_singleton _ _, fun e he f hf => ?_⟩
    rw [List.mem_singleton.1 hf]
    exact Nat.lt_succ_of_le (h.ordB e he)
  · rcases List.mem_append.1 he with g | g
    · exact Nat.le_succ_of_le (h.ordB e g)
    · rw [List.mem_singleton.1 g]; exact Nat.le_refl _
  · rcases List.mem_append.1 he with g | g
    · exact h.due e g
    · rw [List.mem_singleton.1 g]; show a.now < a.now + ticks ∧ a.now + ticks < a.now + 16777216; omega
theorem WRel.arm {pool : List Tw} {s : Slots} {a : Ab} (h : WRel pool s a) (ho : WOk a) {k : Nat} (hk : k < a.P) (hn : ∀ e ∈ a.L, e.num ≠ k) (tag : Int) {ticks : Nat} (h1 : 1 ≤ ticks) (h2 : ticks < 16777216) :
    WRel (pool.set k ⟨true, tag, a.now + ticks, a.cnt + 1⟩) (up s (pos a.now (a.now + ticks)).1 (pos a.now (a.now + ticks)).2 (s (pos a.now (a.now + ticks)).1 (pos a.now (a.now + ticks)).2 ++ [k])) (abArm a k tag ticks) := by
  have hok := (ho.arm hk hn tag h1 h2).one
  refine ⟨?_, fun e he => ?_, fun j t ht ha => ?_, ?_⟩
  · rw [List.length_set]; exact h.len
  · rcases List.mem_append.1 he with g | g
    · rw [List.getElem?_set_ne (Ne.symm (hn e g))]; exact h.on e g
    · rw [List.mem_singleton.1 g, List.getElem?_set_self (by rw [h.len]; exact hk)]
  · by_cases hj : k = j
    · exact ⟨⟨k, tag, a.now + ticks, a.cnt + 1⟩, by simp [abArm], hj⟩
    · rw [List.getElem?_set_ne hj] at ht
      obtain ⟨e, he, hnum⟩ := h.off j t ht ha
      exact ⟨e, List.mem_append_left _ he, hnum⟩
  · have hne : (⟨k, tag, a.now + ticks, a.cnt + 1⟩ : En) ∉ a.L := fun hm => hn _ hm rfl
    have hr : Rep s a.L (fun e => if e = ⟨k, tag, a.now + ticks, a.cnt + 1⟩ then none else some (pos a.now e.at_)) := h.rep.congr (fun e he => by
      rw [if_neg]
      intro hq
      exact hne (hq ▸ he))
    have := (hr.more ⟨k, tag, a.now + ticks, a.cnt + 1⟩ (if_pos rfl)).lay hok ⟨k, tag, a.now + ticks, a.cnt + 1⟩ (by simp) (if_pos rfl) (pos a.now (a.now + ticks))
    refine this.congr (fun e he => ?_)
    by_cases hq : e = ⟨k, tag, a.now + ticks, a.cnt + 1⟩
    · rw [hq, at1_self]
      rfl
    · rw [at1_ne _ _ _ _ hq, if_neg hq]
      rfl
/-- A timer is taken away. -/
def abCancel (a : Ab) (k : Nat) : Ab := ⟨a.P, a.L.filter (fun e => e.num ≠ k), a.now, a.cnt⟩
theorem WOk.sub {a : Ab} (h : WOk a) (f : En → Bool) : WOk ⟨a.P, a.L.filter f, a.now, a.cnt⟩ :=
  ⟨fun e he e' he' hh => h.one e ((List.mem_filter.1 he).1) e' ((List.mem_filter.1 he').1) hh, fun e he => h.ltP e ((List.mem_filter.1 he).1), h.ordS.filter _, fun e he => h.ordB e ((List.mem_filter.1 he).1), fun e he => h.due e ((List.mem_filter.1 he).1)⟩
/-- The slots of a timer, on every level, without it. -/
def drop4 (s : Slots) (k at_ : Nat) : Slots := fun l i => if l < 4 ∧ i = ixw at_ l then (s l i).filter (fun x => x ≠ k) else s l i
theorem WRel.cancel {pool : List Tw} {s : Slots} {a : Ab} (h : WRel pool s a) (ho : WOk a) (e0 : En) (he0 : e0 ∈ a.L) : WRel (pool.set e0.num ⟨false, e0.tag, e0.at_, e0.ord⟩) (drop4 s e0.num e0.at_) (abCancel a e0.num) := by
  refine ⟨?_, fun e he => ?_, fun j t ht ha => ?_, fun l i => ?_⟩
  · rw [List.length_set]; exact h.len
  · have := List.mem_filter.1 he
    rw [List.getElem?_set_ne (fun hq => (of_decide_eq_true this.2) hq.symm)]
    exact h.on e this.1
  · by_cases hj : e0.num = j
    · rw [← hj, List.getElem?_set_self (by rw [h.len]; exact ho.ltP e0 he0)] at ht
      cases ht
      cases ha
    · rw [List.getElem?_set_ne hj] at ht
      obtain ⟨e, he, hnum⟩ := h.off j t ht ha
      exact ⟨e, List.mem_filter.2 ⟨he, decide_eq_true (fun hq => hj (by rw [← hq, hnum]))⟩, hnum⟩
  · have hmem : ∀ k, k ∈ drop4 s e0.num e0.at_ l i ↔ k ∈ s l i ∧ k ≠ e0.num := by
      intro k
      unfold drop4
      split
      · rw [List.mem_filter, decide_eq_true_iff]
      · rename_i hc
        refine ⟨fun hk => ⟨hk, fun hq => ?_⟩, fun hk => hk.1⟩
        obtain ⟨e, he, hn, hp⟩ := ((h.rep l i).2 k).1 hk
        obtain rfl := ho.one e he e0 he0 (by rw [hn, hq])
        have hp2 : pos a.now e.at_ = (l, i) := Option.some.inj hp
        have hl : lv a.now e.at_ = l := congrArg Prod.fst hp2
        have hi : ixw e.at_ (lv a.now e.at_) = i := congrArg Prod.snd hp2
        rw [hl] at hi
        exact hc ⟨by have := (pos_lt a.now e.at_).1; rw [hp2] at this; exact this, hi.symm⟩
    refine ⟨?_, fun k => ?_⟩
    · unfold drop4
      split
      · exact (h.rep l i).1.filter _
      · exact (h.rep l i).1
    · rw [hmem, (h.rep l i).2 k]
      constructor
      · rintro ⟨⟨e, he, hn, hp⟩, hk⟩
        exact ⟨e, List.mem_filter.2 ⟨he, decide_eq_true (by rw [hn]; exact hk)⟩, hn, hp⟩
      · rintro ⟨e, he, hn, hp⟩
        have := List.mem_filter.1 he
        exact ⟨⟨e, this.1, hn, hp⟩, by rw [← hn]; exact of_decide_eq_true this.2⟩
/-- All the sinks of a tick, over the slots. -/
def sinkAll (q : Nat → Nat × Nat) (n : Nat) (s : Slots) : Slots :=
  if low n = 0 then s else if low n = 1 then sinkS q s 1 (ixw n 1) else if low n = 2 then sinkS q (sinkS q s 2 (ixw n 2)) 1 (ixw n 1) else sinkS q (sinkS q (sinkS q s 3 (ixw n 3)) 2 (ixw n 2)) 1 (ixw n 1)
theorem Rep.sink_to {q : Nat → Nat × Nat} {s : Slots} {L : List En} {p : En → Nat × Nat} {n : Nat} (hq : ∀ e ∈ L, q e.num = pos n e.at_) (h : Rep s L (fun e => some (p e))) (h1 : One L) (l : Nat) : Rep (sinkS q s l (ixw n l)) L (fun e => some (sunk n l (p e) e.at_)) :=
  (h.sink (q := q) h1 l (ixw n l)).congr (fun e he => by rw [hq e he]; rfl)
theorem WRel.sank {pool : List Tw} {s : Slots} {a : Ab} (h : WRel pool s a) (ho : WOk a) (q : Nat → Nat × Nat) (hq : ∀ e ∈ a.L, q e.num = pos (a.now + 1) e.at_) : Rep (sinkAll q (a.now + 1) s) a.L (fun e => some (pos (a.now + 1) e.at_)) := by
  have hfin : Rep (sinkAll q (a.now + 1) s) a.L (fun e => some (sinks (a.now + 1) (pos a.now e.at_) e.at_)) := by
    unfold sinkAll sinks
    by_cases e0 : low (a.now + 1) = 0
    · simp only [e0, if_true]; exact h.rep
    · by_cases e1 : low (a.now + 1) = 1
      · simp only [e0, e1, if_true, if_false]
        exact Rep.sink_to hq h.rep ho.one 1
      · by_cases e2 : low (a.now + 1) = 2
        · simp only [e0, e1, e2, if_true, if_false]
          exact Rep.sink_to hq (Rep.sink_to hq h.rep ho.one 2) ho.one 1
        · simp only [e0, e1, e2, if_false]
          exact Rep.sink_to hq (Rep.sink_to hq (Rep.sink_to hq h.rep ho.one 3) ho.one 2) ho.one 1
  exact hfin.congr (fun e he => by rw [sinks_pos a.now e.at_ (ho.due e he).1 (ho.due e he).2])
/-- Who fires, in the order in which they were armed; who is left. -/
def abDue (a : Ab) : List En := a.L.filter (fun e => e.at_ = a.now + 1)
def abTick (a : Ab) : Ab := ⟨a.P, a.L.filter (fun e => e.at_ ≠ a.now + 1), a.now + 1, a.cnt⟩
theorem WOk.tick {a : Ab} (h : WOk a) : WOk (abTick a) :=
  have hs := h.sub (fun e => e.at_ ≠ a.now + 1)
  ⟨hs.one, hs.ltP, hs.ordS, hs.ordB, fun e he => by
    have h1 := hs.due e he
    have h2 := of_decide_eq_true (List.mem_filter.1 he).2
    show a.now + 1 < e.at_ ∧ e.at_ < a.now + 1 + 16777216
    have h3 : a.now < e.at_ ∧ e.at_ < a.now + 16777216 := h1
    omega⟩
/-- Timers put out, one by one. -/
def outs (pool : List Tw) : List Nat → List Tw
  | [] => pool
  | k :: ks => outs (pool.set k { (pool[k]?.getD ⟨false, 0, 0, 0⟩) with armed := false }) ks
theorem outs_get (ks : List Nat) : ∀ (pool : List Tw) (k : Nat), (outs pool ks)[k]? = if k ∈ ks then (pool[k]?).map (fun t => { t with armed := false }) else pool[k]? := by
  induction ks with
  | nil => intro pool k; simp [outs]
  | cons j ks ih =>
    intro pool k
    show (outs (pool.set j _) ks)[k]? = _
    rw [ih]
    by_cases hj : j = k
    · subst hj
      rw [if_pos (List.mem_cons_self)]
      rw [List.getElem?_set]
      simp only [if_true]
      by_cases hl : j < pool.length
      · rw [if_pos hl, List.getElem?_eq_getElem hl]
        split <;> rfl
      · rw [if_neg hl, List.getElem?_eq_none (by omega)]
        split <;> rfl
    · rw [List.getElem?_set_ne hj]
      by_cases hk : k ∈ ks
      · rw [if_pos hk, if_pos (List.mem_cons_of_mem _ hk)]
      · rw [if_neg hk, if_neg]
        intro hm
        rcases List.mem_cons.1 hm with h1 | h1
        · exact hj h1.symm
        · exact hk h1
theorem outs_len (ks : List Nat) : ∀ (pool : List Tw), (outs pool ks).length = pool.length := by
  induction ks with
  | nil => intro pool; rfl
  | cons j ks ih => intro pool; show (outs (pool.set j _) ks).length = _; rw [ih, List.length_set]
theorem due_mem {pool : List Tw} {s s' : Slots} {a : Ab} (h : WRel pool s a) (ho : WOk a) (hr : Rep s' a.L (fun e => some (pos (a.now + 1) e.at_))) (k : Nat) : k ∈ s' 0 ((a.now + 1) % 64) ↔ ∃ e ∈ abDue a, e.num = k := by
  rw [(hr 0 _).2 k]
  constructor
  · rintro ⟨e, he, hn, hp⟩
    exact ⟨e, List.mem_filter.2 ⟨he, decide_eq_true ((fires (a.now + 1) e.at_ (ho.due e he).1).1 (Option.some.inj hp))⟩, hn⟩
  · rintro ⟨e, he, hn⟩
    have h1 := List.mem_filter.1 he
    exact ⟨e, h1.1, hn, congrArg some ((fires (a.now + 1) e.at_ (ho.due e h1.1).1).2 (of_decide_eq_true h1.2))⟩
theorem WRel.fire {pool : List Tw} {s s' : Slots} {a : Ab} (h : WRel pool s a) (ho : WOk a) (hr : Rep s' a.L (fun e => some (pos (a.now + 1) e.at_))) (ks : List Nat) (hks : ∀ k, k ∈ ks ↔ ∃ e ∈ abDue a, e.num = k) : WRel (outs pool ks) (up s' 0 ((a.now + 1) % 64) []) (abTick a) := by
  have hin : ∀ e ∈ a.L, e.num ∈ ks ↔ e.at_ = a.now + 1 := fun e he => by
    rw [hks]
    constructor
    · rintro ⟨f, hf, hn⟩
      have h1 := List.mem_filter.1 hf
      rw [← ho.one f h1.1 e he hn]
      exact of_decide_eq_true h1.2
    · exact fun hat => ⟨e, List.mem_filter.2 ⟨he, decide_eq_true hat⟩, rfl⟩
  refine ⟨(outs_len ks pool).trans h.len, fun e he => ?_, fun k t ht hta => ?_, ?_⟩
  · have h1 := List.mem_filter.1 he
    rw [outs_get, if_neg (fun hm => (of_decide_eq_true h1.2) ((hin e h1.1).1 hm))]
    exact h.on e h1.1
  · rw [outs_get] at ht
    split at ht
    · obtain ⟨t0, _, rfl⟩ := Option.map_eq_some_iff.1 ht
      cases hta
    · rename_i hk
      obtain ⟨e, he, hn⟩ := h.off k t ht hta
      exact ⟨e, List.mem_filter.2 ⟨he, decide_eq_true (fun hat => hk (by rw [← hn]; exact (hin e he).2 hat))⟩, hn⟩
  · refine ((hr.clear 0 ((a.now + 1) % 64)).fewer (L' := (abTick a).L) (fun e he => (List.mem_filter.1 he).1) (fun e he hm => ?_)).congr (fun e he => ?_)
    · have hat : e.at_ = a.now + 1 := by
        by_cases hq : e.at_ = a.now + 1
        · exact hq
        · exact absurd (List.mem_filter.2 ⟨he, decide_eq_true hq⟩) hm
      unfold cl
      rw [if_pos (congrArg some ((fires (a.now + 1) e.at_ (ho.due e he).1).2 hat))]
    · have h1 := List.mem_filter.1 he
      unfold cl
      rw [if_neg]
      · rfl
      · intro hq
        exact (of_decide_eq_true h1.2) ((fires (a.now + 1) e.at_ (ho.due e h1.1).1).1 (Option.some.inj hq))
/-- Rows of numbers with the same members, each once, both sorted by f, are the same. -/
theorem sorted_same (f : Nat → Nat) : ∀ (xs ys : List Nat), xs.Pairwise (fun a b => f a < f b) → ys.Pairwise (fun a b => f a < f b) → (∀ k, k ∈ xs ↔ k ∈ ys) → xs = ys := by
  intro xs
  induction xs with
  | nil =>
    intro ys _ _ h
    cases ys with
    | nil => rfl
    | cons y ys => exact absurd ((h y).2 (by simp)) (by simp)
  | cons x xs ih =>
    intro ys hx hy h
    cases ys with
    | nil => exact absurd ((h x).1 (by simp)) (by simp)
    | cons y ys =>
      have hx1 := (List.pairwise_cons.1 hx).1
      have hy1 := (List.pairwise_cons.1 hy).1
      have hxy : x = y := by
        rcases List.mem_cons.1 ((h x).1 (by simp)) with h1 | h1
        · exact h1
        · rcases List.mem_cons.1 ((h y).2 (by simp)) with h2 | h2
          · exact h2.symm
          · have := hy1 x h1
            have := hx1 y h2
            omega
      subst hxy
      congr 1
      refine ih ys (List.pairwise_cons.1 hx).2 (List.pairwise_cons.1 hy).2 (fun k => ?_)
      constructor
      · intro hk
        rcases List.mem_cons.1 ((h k).1 (List.mem_cons_of_mem _ hk)) with h1 | h1
        · have := hx1 k hk; rw [h1] at this; omega
        · exact h1
      · intro hk
        rcases List.mem_cons.1 ((h k).2 (List.mem_cons_of_mem _ hk)) with h1 | h1
        · have := hy1 k hk; rw [h1] at this; omega
        · exact h1
end Go.Proofs.YtpfoocndohpbbaaDoor
