/- wheel: timers that are all armed at once (WheelOnce), purely; a row of integers that came in. -/
import Derived.Test.YtpfoocndohpbbaaDoorWhPoolsW
import Derived.Test.YtpfoocndohpbbaaDoorRow
namespace Go.Proofs.YtpfoocndohpbbaaDoor
open Go Go.RowKit
set_option linter.unusedVariables false
set_option linter.unusedSimpArgs false
theorem row_ki {w : World} {a : Option Addr} {len cap : Nat} {zs : List Int} (h : IsRow .i64 w a len cap zs) (hn : len ≤ 140737488355328) : ∃ xs, RE ki w a len cap xs := by
  rcases h with ⟨rfl, rfl, rfl, rfl⟩ | ⟨x, rfl, hl, hm, hz, hc, hw⟩
  · exact ⟨[], RE.no _⟩
  · have hlen : (zs.take len).length = len := by rw [List.length_take]; omega
    refine ⟨zs.take len, hlen, (fun e => by cases e), hl, hn, fun h0 => ?_⟩
    obtain ⟨b, off, spot⟩ := x
    have h1 := hc 0 (by omega)
    have hs : spot = none := by simpa [Addr.add] using World.cell?_spot h1
    subst hs
    have hbl := World.block_lt_of_cell? w _ h1
    have hadd : ∀ i, (⟨b, off, none⟩ : Addr).add i = ⟨b, off + i, none⟩ := fun i => by unfold Addr.add; split <;> simp_all
    rw [hadd] at hbl
    refine ⟨b, off, rfl, hbl, fun j v hv => ?_⟩
    obtain ⟨hj, hv2⟩ := List.getElem?_eq_some_iff.1 hv
    have hj2 : j < (zs.take len).length := by rw [flat_len ki_len] at hj; omega
    have := flat_get (f := ki) ki_len (zs.take len) j hj2 0 (by omega)
    rw [Nat.mul_one, Nat.add_zero, hv] at this
    have h2 := hc j (by omega)
    rw [hadd] at h2
    have e2 : v = .int .i64 (zs.take len)[j] := Option.some.inj this
    rw [h2, e2]
    simp [List.getD_eq_getElem?_getD, List.getElem?_eq_getElem (show j < zs.length by have := List.length_take_le len zs; omega)]
def onA (l : List Int) (j : Nat) : Nat := (l.getD j 0).toNat
def onE (l : List Int) (j : Nat) : En := ⟨j, (j : Int), onA l j, j + 1⟩
def onS (l : List Int) (i : Nat) : Ab := ⟨64, (List.range i).map (onE l), 0, i⟩
def onT (l : List Int) (t : Nat) : Ab := ⟨64, ((List.range l.length).filter (fun j => t < onA l j)).map (onE l), t, l.length⟩
def onD (l : List Int) (t : Nat) : List Nat := (List.range l.length).filter (fun j => onA l j = t)
theorem on_mem (l : List Int) (i : Nat) (e : En) : e ∈ (onS l i).L ↔ ∃ j, j < i ∧ e = onE l j := by
  unfold onS
  simp only [List.mem_map, List.mem_range]
  exact ⟨fun ⟨j, h, e⟩ => ⟨j, h, e.symm⟩, fun ⟨j, h, e⟩ => ⟨j, h, e.symm⟩⟩
theorem on_len (l : List Int) (i : Nat) : (onS l i).L.length = i := by simp [onS]
theorem on_fst (l : List Int) (i : Nat) : ∀ j, abFst (onS l i) j → j = i := by
  rintro j ⟨_, h2, h3⟩
  rcases Nat.lt_trichotomy j i with h | h | h
  · exact absurd rfl (h2 (onE l j) ((on_mem l i _).2 ⟨j, h, rfl⟩))
  · exact h
  · obtain ⟨e, he, hn⟩ := h3 i h
    obtain ⟨j', hj', rfl⟩ := (on_mem l i e).1 he
    exact absurd hn (by show j' ≠ i; omega)
theorem on_arm (l : List Int) (i : Nat) : abArm (onS l i) i (i : Int) (onA l i) = onS l (i + 1) := by
  unfold abArm onS
  simp [List.range_succ, onE]
theorem on_begin (l : List Int) (h : ∀ j, j < l.length → 1 ≤ onA l j) : onS l l.length = onT l 0 := by
  unfold onS onT
  congr 2
  rw [List.filter_eq_self.2]
  intro j hj
  exact decide_eq_true (h j (List.mem_range.1 hj))
theorem on_tick (l : List Int) (t : Nat) : abTick (onT l t) = onT l (t + 1) := by
  unfold abTick onT
  congr 1
  rw [List.filter_map, List.filter_filter]
  congr 1
  apply List.filter_congr
  intro j _
  show (decide (onA l j ≠ t + 1) && decide (t < onA l j)) = _
  rw [Bool.eq_iff_iff, Bool.and_eq_true, decide_eq_true_iff, decide_eq_true_iff, decide_eq_true_iff]
  omega
theorem on_due (l : List Int) (t : Nat) : (abDue (onT l t)).map (·.tag) = (onD l (t + 1)).map (fun j : Nat => (j : Int)) := by
  unfold abDue onT onD
  rw [List.filter_map, List.map_map, List.filter_filter]
  have : (fun (e : En) => e.tag) ∘ onE l = fun j : Nat => (j : Int) := rfl
  rw [this]
  congr 1
  apply List.filter_congr
  intro j _
  show (decide (onA l j = t + 1) && decide (t < onA l j)) = _
  rw [Bool.eq_iff_iff, Bool.and_eq_true, decide_eq_true_iff, decide_eq_true_iff]
  omega
theorem on_end (l : List Int) (m : Nat) (h : ∀ j, j < l.length → onA l j ≤ m) : (onT l m).L = [] := by
  unfold onT
  simp only [List.map_eq_nil_iff, List.filter_eq_nil_iff]
  intro j hj
  have := h j (List.mem_range.1 hj)
  simp only [decide_eq_true_eq]
  omega
theorem onD_mem (l : List Int) (t j : Nat) : j ∈ onD l t ↔ j < l.length ∧ onA l j = t := by
  unfold onD
  rw [List.mem_filter, List.mem_range, decide_eq_true_eq]
theorem onD_pw (l : List Int) (t : Nat) : (onD l t).Pairwise (· < ·) := List.pairwise_lt_range.filter _
theorem onD_len (l : List Int) (t : Nat) : (onD l t).length ≤ l.length := by
  unfold onD
  have := List.length_filter_le (fun j => decide (onA l j = t)) (List.range l.length)
  rwa [List.length_range] at this
theorem onD_lt (l : List Int) (t i : Nat) (hi : i + 1 < (onD l t).length) : (onD l t)[i] < (onD l t)[i + 1] := by
  have := onD_pw l t
  rw [List.pairwise_iff_getElem] at this
  exact this i (i + 1) (by omega) hi (by omega)
/-- Which have fired: those whose time is over, and the first i of those of this tick. -/
def OnF (l fs : List Int) (t i : Nat) : Prop := fs.length = l.length ∧ ∀ j, j < l.length → fs[j]? = some (if onA l j < t ∨ j ∈ (onD l t).take i then 1 else 0)
theorem onF_zero (l : List Int) (h : ∀ j, j < l.length → 1 ≤ onA l j) : OnF l (List.replicate l.length 0) 1 0 := by
  refine ⟨List.length_replicate, fun j hj => ?_⟩
  rw [List.getElem?_replicate, if_pos hj, if_neg]
  have := h j hj
  rintro (h2 | h2)
  · omega
  · cases h2
theorem onF_next (l fs : List Int) (t : Nat) (h : OnF l fs t (onD l t).length) : OnF l fs (t + 1) 0 := by
  refine ⟨h.1, fun j hj => ?_⟩
  rw [h.2 j hj, List.take_length, List.take_zero]
  congr 1
  have := onD_mem l t j
  by_cases h1 : onA l j < t + 1
  · rw [if_pos, if_pos (.inl h1)]
    rcases Nat.lt_or_ge (onA l j) t with h2 | h2
    · exact .inl h2
    · exact .inr (this.2 ⟨hj, by omega⟩)
  · rw [if_neg, if_neg]
    · rintro (h2 | h2)
      · exact h1 h2
      · cases h2
    · rintro (h2 | h2)
      · omega
      · have := (this.1 h2).2; omega
theorem onF_step (l fs : List Int) (t i : Nat) (hi : i < (onD l t).length) (h : OnF l fs t i) : fs[(onD l t)[i]]? = some 0 ∧ OnF l (fs.set (onD l t)[i] 1) t (i + 1) := by
  have hm := (onD_mem l t _).1 (List.getElem_mem hi)
  have hpw := onD_pw l t
  rw [List.pairwise_iff_getElem] at hpw
  refine ⟨?_, by rw [List.length_set]; exact h.1, fun j hj => ?_⟩
  · rw [h.2 _ hm.1, if_neg]
    rintro (h2 | h2)
    · omega
    · obtain ⟨k, hk, e⟩ := List.mem_iff_getElem.1 h2
      rw [List.getElem_take] at e
      rw [List.length_take] at hk
      have := hpw k i (by omega) hi (by omega)
      omega
  · by_cases hj2 : (onD l t)[i] = j
    · subst hj2
      rw [List.getElem?_set_self (by rw [h.1]; exact hj), if_pos]
      refine .inr ?_
      rw [List.take_add_one, List.getElem?_eq_getElem hi]
      exact List.mem_append_right _ (by simp)
    · rw [List.getElem?_set_ne hj2, h.2 j hj]
      congr 1
      rw [List.take_add_one, List.getElem?_eq_getElem hi]
      simp only [List.mem_append, Option.toList_some, List.mem_singleton]
      congr 1
      rw [eq_iff_iff]
      constructor
      · rintro (h1 | h1)
        · exact .inl h1
        · exact .inr (.inl h1)
      · rintro (h1 | h1 | h1)
        · exact .inl h1
        · exact .inr h1
        · exact absurd h1.symm hj2
theorem onF_all (l fs : List Int) (m j : Nat) (h : OnF l fs (m + 1) 0) (hj : j < l.length) (ha : onA l j ≤ m) : fs[j]? = some 1 := by
  rw [h.2 j hj, if_pos (.inl (by omega))]
end Go.Proofs.YtpfoocndohpbbaaDoor
