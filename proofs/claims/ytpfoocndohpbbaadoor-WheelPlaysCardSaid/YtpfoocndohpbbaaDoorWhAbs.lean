/- wheel: what the calls do to the abstract wheel. -/
import Derived.Test.YtpfoocndohpbbaaDoorWhNew
namespace Go.Proofs.YtpfoocndohpbbaaDoor
open Go Go.RowKit
set_option linter.unusedVariables false
set_option linter.unusedSimpArgs false
theorem sub_len : ∀ (xs ys : List Nat), xs.Nodup → (∀ x ∈ xs, x ∈ ys) → xs.length ≤ ys.length := by
  intro xs
  induction xs with
  | nil => intro ys _ _; exact Nat.zero_le _
  | cons x xs ih =>
    intro ys hn hs
    have hx := hs x List.mem_cons_self
    have h1 := List.nodup_cons.1 hn
    have := ih (ys.erase x) h1.2 (fun y hy => (List.mem_erase_of_ne (fun e => h1.1 (by rw [← e]; exact hy))).2 (hs y (List.mem_cons_of_mem _ hy)))
    rw [List.length_erase_of_mem hx] at this
    have := List.length_pos_of_mem hx
    simp only [List.length_cons]
    omega
theorem few_len (P : Nat) (xs : List Nat) (hn : xs.Nodup) (h : ∀ x ∈ xs, x < P) : xs.length ≤ P := by
  have := sub_len xs (List.range P) hn (fun x hx => List.mem_range.2 (h x hx))
  rwa [List.length_range] at this
theorem filter_idx {α : Type} (p : α → Bool) : ∀ (xs : List α), (xs.filter p).length = ((List.range xs.length).filter (fun i => (xs[i]?.map p).getD false)).length := by
  have key : ∀ (n : Nat) (xs : List α), xs.length = n → (xs.filter p).length = ((List.range xs.length).filter (fun i => (xs[i]?.map p).getD false)).length := by
    intro n
    induction n with
    | zero => intro xs h; rw [List.eq_nil_of_length_eq_zero h]; rfl
    | succ n ih =>
      intro xs h
      have hne : xs ≠ [] := fun e => by rw [e] at h; cases h
      obtain ⟨ys, y, rfl⟩ : ∃ ys y, xs = ys ++ [y] := ⟨xs.dropLast, xs.getLast hne, (List.dropLast_concat_getLast hne).symm⟩
      have hy : ys.length = n := by simpa using h
      rw [List.filter_append, List.length_append, ih ys hy, List.length_append, List.length_singleton, List.range_succ, List.filter_append, List.length_append]
      congr 1
      · congr 1
        apply List.filter_congr
        intro i hi
        rw [List.getElem?_append_left (List.mem_range.1 hi)]
      · simp only [List.filter_cons, List.filter_nil, List.getElem?_append_right (Nat.le_refl _), Nat.sub_self, List.getElem?_cons_zero, Option.map_some, Option.getD_some]
        cases p y <;> rfl
  exact fun xs => key _ xs rfl
theorem filter_two {α : Type} (p : α → Bool) : ∀ xs : List α, (xs.filter p).length + (xs.filter (fun x => !p x)).length = xs.length := by
  intro xs
  induction xs with
  | nil => rfl
  | cons x xs ih =>
    simp only [List.filter_cons]
    cases p x <;> simp <;> omega
theorem WOk.numNodup {a : Ab} (h : WOk a) : (a.L.map (·.num)).Nodup := by
  rw [List.Nodup, List.pairwise_map]
  have h1 : a.L.Pairwise (fun e f => e.ord < f.ord ∧ e ∈ a.L ∧ f ∈ a.L) := by
    have := h.ordS
    rw [List.pairwise_iff_getElem] at this ⊢
    exact fun i j hi hj hij => ⟨this i j hi hj hij, List.getElem_mem _, List.getElem_mem _⟩
  refine h1.imp ?_
  rintro e f ⟨h2, h3, h4⟩ he
  rw [h.one e h3 f h4 he] at h2
  exact Nat.lt_irrefl _ h2
theorem WRel.freeN {pool : List Tw} {s : Slots} {a : Ab} (h : WRel pool s a) (ho : WOk a) : freeN pool = a.P - a.L.length ∧ a.L.length ≤ a.P := by
  have h1 := filter_two (fun t : Tw => t.armed) pool
  have h2 := filter_idx (fun t : Tw => t.armed) pool
  have h3 : ((List.range pool.length).filter (fun i => (pool[i]?.map (fun t : Tw => t.armed)).getD false)).length = (a.L.map (·.num)).length := by
    refine Nat.le_antisymm (sub_len _ _ (List.nodup_range.filter _) (fun x hx => ?_)) (sub_len _ _ ho.numNodup (fun x hx => ?_))
    · obtain ⟨hx1, hx2⟩ := List.mem_filter.1 hx
      have hx3 := List.mem_range.1 hx1
      rw [List.getElem?_eq_getElem hx3] at hx2
      obtain ⟨e, he, hn⟩ := h.off x _ (List.getElem?_eq_getElem hx3) hx2
      exact List.mem_map.2 ⟨e, he, hn⟩
    · obtain ⟨e, he, rfl⟩ := List.mem_map.1 hx
      have := h.on e he
      refine List.mem_filter.2 ⟨List.mem_range.2 (by rw [h.len]; exact ho.ltP e he), by simp only [this]; rfl⟩
  rw [List.length_map] at h3
  have := h.len
  unfold Proofs.YtpfoocndohpbbaaDoor.freeN
  omega
def abHas (a : Ab) (k : Int) : Bool := a.L.any (fun e => (e.num : Int) = k)
def abAt (a : Ab) (k : Int) : Option En := a.L.find? (fun e => (e.num : Int) = k)
def abLeft (a : Ab) (k : Int) : Int := ((abAt a k).map (fun e => (e.at_ : Int) - a.now)).getD 0
def abDrop (a : Ab) (k : Int) : Ab := ⟨a.P, a.L.filter (fun e => (e.num : Int) ≠ k), a.now, a.cnt⟩
theorem abHas_iff (a : Ab) (k : Int) : abHas a k = true ↔ ∃ e ∈ a.L, (e.num : Int) = k := by
  unfold abHas
  rw [List.any_eq_true]
  exact ⟨fun ⟨e, he, h⟩ => ⟨e, he, of_decide_eq_true h⟩, fun ⟨e, he, h⟩ => ⟨e, he, decide_eq_true h⟩⟩
theorem abAt_some {a : Ab} (ho : WOk a) {e : En} (he : e ∈ a.L) : abAt a e.num = some e := by
  unfold abAt
  cases hf : a.L.find? (fun f => (f.num : Int) = (e.num : Int)) with
  | none => exact absurd (decide_eq_true rfl) (List.find?_eq_none.1 hf e he)
  | some f =>
    have h1 := List.mem_of_find?_eq_some hf
    have h2 : (f.num : Int) = e.num := of_decide_eq_true (List.find?_some (p := fun f : En => decide ((f.num : Int) = (e.num : Int))) hf)
    rw [ho.one f h1 e he (by omega)]
theorem abAt_none {a : Ab} {k : Int} (h : abHas a k = false) : abAt a k = none := by
  unfold abAt
  refine List.find?_eq_none.2 (fun e he hq => ?_)
  rw [(abHas_iff a k).2 ⟨e, he, of_decide_eq_true hq⟩] at h
  cases h
theorem WRel.there {pool : List Tw} {s : Slots} {a : Ab} (h : WRel pool s a) (ho : WOk a) (k : Int) : thereB pool k = abHas a k := by
  rw [Bool.eq_iff_iff, abHas_iff]
  unfold thereB
  simp only [Bool.and_eq_true, decide_eq_true_eq]
  constructor
  · rintro ⟨h0, h1⟩
    cases hp : pool[k.toNat]? with
    | none => rw [hp] at h1; cases h1
    | some t =>
      rw [hp] at h1
      obtain ⟨e, he, hn⟩ := h.off _ t hp h1
      exact ⟨e, he, by omega⟩
  · rintro ⟨e, he, rfl⟩
    refine ⟨by omega, ?_⟩
    rw [show ((e.num : Int)).toNat = e.num from Int.toNat_natCast _, h.on e he]
    rfl
theorem WRel.left {pool : List Tw} {s : Slots} {a : Ab} (h : WRel pool s a) (ho : WOk a) (k : Int) : leftI pool a.now k = abLeft a k := by
  unfold leftI abLeft
  rw [h.there ho]
  cases hh : abHas a k with
  | false => rw [abAt_none hh]; rfl
  | true =>
    obtain ⟨e, he, rfl⟩ := (abHas_iff a k).1 hh
    rw [abAt_some ho he, show ((e.num : Int)).toNat = e.num from Int.toNat_natCast _, h.on e he]
    rfl
theorem abDrop_no {a : Ab} {k : Int} (h : abHas a k = false) : abDrop a k = a := by
  have hf : a.L.filter (fun e => (e.num : Int) ≠ k) = a.L := List.filter_eq_self.2 (fun e he => decide_eq_true (fun hq => by rw [(abHas_iff a k).2 ⟨e, he, hq⟩] at h; cases h))
  unfold abDrop
  rw [hf]
theorem abDrop_num (a : Ab) (k : Nat) : abDrop a k = abCancel a k := by
  unfold abDrop abCancel
  congr 1
  apply List.filter_congr
  intro e _
  rw [decide_eq_decide]
  omega
theorem WRel.memb {pool : List Tw} {s : Slots} {a : Ab} (h : WRel pool s a) (ho : WOk a) : ∀ l i, ∀ k ∈ s l i, k < a.P := fun l i k hk => by
  obtain ⟨e, he, hn, _⟩ := ((h.rep l i).2 k).1 hk
  rw [← hn]
  exact ho.ltP e he
theorem WRel.lens {pool : List Tw} {s : Slots} {a : Ab} (h : WRel pool s a) (ho : WOk a) : ∀ l i, (s l i).length ≤ a.P := fun l i => few_len _ _ (h.rep l i).1 (h.memb ho l i)
/-- How far the pool's numbers go. -/
def PB (pool : List Tw) (a : Ab) : Prop := ∀ t ∈ pool, t.at_ ≤ a.now + 16777216 ∧ t.ord ≤ a.cnt
def abFst (a : Ab) (k : Nat) : Prop := k < a.P ∧ (∀ e ∈ a.L, e.num ≠ k) ∧ ∀ i, i < k → ∃ e ∈ a.L, e.num = i
theorem WRel.first {pool : List Tw} {s : Slots} {a : Ab} (h : WRel pool s a) (ho : WOk a) {k : Nat} (hk : Fst pool k) : abFst a k ∧ a.L.length < a.P := by
  obtain ⟨h1, h2, h3⟩ := hk
  have hkP : k < a.P := by rw [← h.len]; exact h1
  refine ⟨⟨hkP, fun e he hn => ?_, fun i hi => ?_⟩, ?_⟩
  · have := h.on e he
    rw [hn, List.getElem?_eq_getElem h1] at this
    rw [Option.some.inj this] at h2
    cases h2
  · obtain ⟨e, he, hn⟩ := h.off i _ (List.getElem?_eq_getElem (by omega)) (h3 i hi)
    exact ⟨e, he, hn⟩
  · obtain ⟨h4, h5⟩ := h.freeN ho
    have h6 : pool[k] ∈ pool.filter (fun t => !t.armed) := List.mem_filter.2 ⟨List.getElem_mem _, by rw [h2]; rfl⟩
    have := List.length_pos_of_mem h6
    unfold Proofs.YtpfoocndohpbbaaDoor.freeN at h4
    omega
theorem WRel.full {pool : List Tw} {s : Slots} {a : Ab} (h : WRel pool s a) (ho : WOk a) (hk : ∀ t ∈ pool, t.armed = true) : a.P ≤ a.L.length := by
  obtain ⟨h4, h5⟩ := h.freeN ho
  have : pool.filter (fun t => !t.armed) = [] := List.filter_eq_nil_iff.2 (fun t ht => by rw [hk t ht]; exact fun e => by cases e)
  unfold Proofs.YtpfoocndohpbbaaDoor.freeN at h4
  rw [this] at h4
  simp only [List.length_nil] at h4
  omega
/-- What fires, in which order. -/
theorem WRel.fired {pool : List Tw} {s s' : Slots} {a : Ab} (h : WRel pool s a) (ho : WOk a) (hr : Rep s' a.L (fun e => some (pos (a.now + 1) e.at_))) (ys : List Nat) (hp : ys.Perm (s' 0 ((a.now + 1) % 64))) (hs : ys.Pairwise (fun x y => ordOf pool x ≤ ordOf pool y)) :
    ys = (abDue a).map (·.num) ∧ ys.map (tagOf pool) = (abDue a).map (·.tag) := by
  have hmem : ∀ k, k ∈ ys ↔ ∃ e ∈ abDue a, e.num = k := fun k => (hp.mem_iff).trans (due_mem h ho hr k)
  have hin : ∀ e ∈ abDue a, e ∈ a.L := fun e he => (List.mem_filter.1 he).1
  have hor : ∀ e ∈ a.L, ordOf pool e.num = e.ord := fun e he => by unfold ordOf; rw [h.on e he]; rfl
  have htg : ∀ e ∈ a.L, tagOf pool e.num = e.tag := fun e he => by unfold tagOf; rw [h.on e he]; rfl
  have hnd : ys.Nodup := hp.nodup_iff.2 (hr 0 _).1
  have hinj : ∀ e ∈ a.L, ∀ f ∈ a.L, e.ord = f.ord → e = f := by
    have := ho.ordS
    rw [List.pairwise_iff_getElem] at this
    intro e he f hf hq
    obtain ⟨i, hi, rfl⟩ := List.mem_iff_getElem.1 he
    obtain ⟨j, hj, rfl⟩ := List.mem_iff_getElem.1 hf
    rcases Nat.lt_trichotomy i j with h1 | h1 | h1
    · have := this i j hi hj h1; omega
    · subst h1; rfl
    · have := this j i hj hi h1; omega
  have e1 : ys = (abDue a).map (·.num) := by
    refine sorted_same (ordOf pool) _ _ ?_ ?_ (fun k => ?_)
    · rw [List.pairwise_iff_getElem] at hs ⊢
      intro i j hi hj hij
      have h1 := hs i j hi hj hij
      obtain ⟨e, he, hen⟩ := (hmem _).1 (List.getElem_mem hi)
      obtain ⟨f, hf, hfn⟩ := (hmem _).1 (List.getElem_mem hj)
      refine Nat.lt_of_le_of_ne h1 (fun hq => ?_)
      rw [← hen, ← hfn, hor e (hin e he), hor f (hin f hf)] at hq
      have := hinj e (hin e he) f (hin f hf) hq
      rw [this, hfn] at hen
      have := (List.nodup_iff_pairwise_ne.1 hnd)
      rw [List.pairwise_iff_getElem] at this
      exact this i j hi hj hij hen.symm
    · rw [List.pairwise_map]
      have h2 : (abDue a).Pairwise (fun e f => e.ord < f.ord) := ho.ordS.filter _
      rw [List.pairwise_iff_getElem] at h2 ⊢
      intro i j hi hj hij
      have := h2 i j hi hj hij
      rw [hor _ (hin _ (List.getElem_mem hi)), hor _ (hin _ (List.getElem_mem hj))]
      exact this
    · rw [hmem, List.mem_map]
  refine ⟨e1, ?_⟩
  rw [e1, List.map_map]
  exact List.map_congr_left (fun e he => htg e (hin e he))
end Go.Proofs.YtpfoocndohpbbaaDoor
