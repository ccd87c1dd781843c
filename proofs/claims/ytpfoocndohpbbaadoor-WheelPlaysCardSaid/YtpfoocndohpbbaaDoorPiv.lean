/- A region that draws its order, with one operation (number c, the pivot) behind which nothing more is asked of the world: what reads may be taken first if the pivot waits for it. After the kit's Derived/OrdersHeld.lean, whose laws these lean on. -/
import Derived.OrdersHeld
import Derived.Deep.RegionHeld3
namespace Go.Proofs.YtpfoocndohpbbaaDoor
open Go
set_option linter.unusedVariables false
set_option linter.unusedSimpArgs false
section
variable {P : Program} {ops : Array Oper} {Q : Exit → Act → World → Prop} {md : Region.Mode} {R : World → Prop} {c : Nat}

/-- Whatever order is picked from here on; R holds till number c has come up. -/
def wpAnyP (P : Program) (md : Region.Mode) (ops : Array Oper) (Q : Exit → Act → World → Prop) (c : Nat) (R : World → Prop) : Nat → Array Bool → Act → World → Prop
  | 0, listed, a, w => Region.ready md ops listed = [] ∧ Q .normal a w
  | fuel + 1, listed, a, w =>
    (Region.ready md ops listed = [] → Q .normal a w) ∧
    ∀ i ∈ Region.ready md ops listed, wpOp P ops Q i (fun a' w' => ((listed.setIfInBounds i true).getD c false = false → R w') ∧ wpAnyP P md ops Q c R fuel (listed.setIfInBounds i true) a' w') a w
theorem wpAny_of_piv : ∀ (fuel : Nat) (listed : Array Bool) (a : Act) (w : World), wpAnyP P md ops Q c R fuel listed a w → wpAny P md ops Q fuel listed a w
  | 0, _, _, _, h => h
  | fuel + 1, _, _, _, h => ⟨h.1, fun i hi => wpOp_mono (fun a' w' h' => wpAny_of_piv fuel _ a' w' h'.2) (h.2 i hi)⟩

/-- What came up waits for nothing that did not. -/
def Closed (md : Region.Mode) (ops : Array Oper) (L : Array Bool) : Prop := ∀ (j : Nat) (o : Oper), ops[j]? = some o → L.getD j true = true → ∀ e ∈ o.after, Region.binds md e = true → L.getD e.on false = true
theorem closed_none : Closed md ops (Array.replicate ops.size false) := fun j o hj h => by
  have hlt : j < ops.size := (Array.getElem?_eq_some_iff.1 hj).1
  simp [hlt] at h
theorem closed_set {L : Array Bool} {i : Nat} (h : Closed md ops L) (hr : i ∈ Region.ready md ops L) : Closed md ops (L.setIfInBounds i true) := fun j o hj hl e he hb => by
  by_cases hji : j = i
  · subst hji
    obtain ⟨_, o', ho', hall⟩ := mem_ready.1 hr
    rw [ho'] at hj; cases hj
    exact getD_set_true (hall e he hb)
  · rw [getD_set_ne true (Ne.symm hji)] at hl
    exact getD_set_true (h j o hj hl e he hb)
/-- Number c waits for number i, at however many removes. -/
def waits (md : Region.Mode) (ops : Array Oper) : Nat → Nat → Nat → Bool
  | 0, _, _ => false
  | n + 1, c, i => match ops[c]? with
    | none => false
    | some o => o.after.any fun e => Region.binds md e && (e.on == i || waits md ops n e.on i)
theorem waits_spec {L : Array Bool} (hL : Closed md ops L) (i : Nat) : ∀ (n c : Nat), waits md ops n c i = true → L.getD c true = true → L.getD i false = true
  | 0, _, h, _ => by cases h
  | n + 1, c, h, hc => by
    unfold waits at h
    cases ho : ops[c]? with
    | none => rw [ho] at h; cases h
    | some o =>
      rw [ho] at h
      simp only [Array.any_eq_true'] at h
      obtain ⟨e, he, h2⟩ := h
      simp only [Bool.and_eq_true, Bool.or_eq_true, beq_iff_eq] at h2
      have h3 := hL c o ho hc e he h2.1
      rcases h2.2 with h4 | h4
      · rw [← h4]; exact h3
      · refine waits_spec hL i n e.on h4 ?_
        rcases Nat.lt_or_ge e.on L.size with hl | hl
        · simp [hl] at h3 ⊢; exact h3
        · simp [Array.getElem?_eq_none hl] at h3
theorem getD_false_true {L : Array Bool} {i : Nat} (h : L.getD i false = true) : L.getD i true = true := by
  rcases Nat.lt_or_ge i L.size with hl | hl
  · simp [hl] at h ⊢; exact h
  · simp [Array.getElem?_eq_none hl] at h
/-- Take number i first: R' is what it needs of the world, had as long as it did not come up. -/
theorem wpAnyP_first {R' : World → Prop} {i : Nat} {oi : Oper} {v : Value} (hi : ops[i]? = some oi) (hsel : ∀ (j : Nat) (o : Oper) cs b, ops[j]? = some o → o.op ≠ .select cs b)
    (hQ : ∀ c a w, Q (.panic c) (a.put oi.dst v) w → Q (.panic c) a w) (hic : i ≠ c)
    (hR : ∀ (L : Array Bool) (w : World), Closed md ops L → L.getD i true = false → (L.getD c false = false → R w) → R' w) :
    ∀ (fuel : Nat) (listed : Array Bool) (a : Act) (w : World),
      (∀ j oj, ops[j]? = some oj → j ≠ i → listed.getD j true = false → (∀ e ∈ oj.after, Region.binds md e = true → e.on ≠ i) → oi.apart ops oj = true) →
      i ∈ Region.ready md ops listed → YieldsIf P ops R' oi v a → Closed md ops listed → (listed.getD c false = false → R w) →
      wpAnyP P md ops Q c R fuel (listed.setIfInBounds i true) (a.put oi.dst v) w → wpAnyP P md ops Q c R (fuel + 1) listed a w := by
  have hset : ∀ (L : Array Bool), (L.setIfInBounds i true).getD c false = L.getD c false := fun L => getD_set_ne false hic
  intro fuel
  induction fuel with
  | zero =>
    intro listed a w _ hr hy hc hS H
    refine ⟨fun h => (by rw [h] at hr; cases hr), fun j hj => ?_⟩
    by_cases hji : j = i
    · subst hji
      exact hy.wpOp hi (hR listed w hc (mem_ready.1 hr).1 hS) ⟨fun h => hS (by rw [hset] at h; exact h), H⟩
    · have := ready_mono hj hji
      rw [H.1] at this
      cases this
  | succ fuel ih =>
    intro listed a w hfree hr hy hc hS H
    refine ⟨fun h => (by rw [h] at hr; cases hr), fun j hj => ?_⟩
    by_cases hji : j = i
    · subst hji
      exact hy.wpOp hi (hR listed w hc (mem_ready.1 hr).1 hS) ⟨fun h => hS (by rw [hset] at h; exact h), H⟩
    · have h1 := H.2 j (ready_mono hj hji)
      obtain ⟨hjun, oj, hoj, hall⟩ := mem_ready.1 hj
      have hnot : ∀ e ∈ oj.after, Region.binds md e = true → e.on ≠ i := fun e he hb heq => by
        have h1 := getD_false_true (hall e he hb)
        rw [heq, (mem_ready.1 hr).1] at h1
        cases h1
      have h2 := wpOp_putIf hoj (hfree j oj hoj hji hjun hnot) (fun cs b => hsel i oi cs b hi) (fun cs b => hsel j oj cs b hoj) hQ hy h1
      have hfree' : ∀ k ok, ops[k]? = some ok → k ≠ i → (listed.setIfInBounds j true).getD k true = false →
          (∀ e ∈ ok.after, Region.binds md e = true → e.on ≠ i) → oi.apart ops ok = true := fun k ok hk hki hun hno => by
        refine hfree k ok hk hki ?_ hno
        by_cases hjk : j = k
        · subst hjk; exact hjun
        · rw [getD_set_ne true hjk] at hun; exact hun
      have hcom : (listed.setIfInBounds i true).setIfInBounds j true = (listed.setIfInBounds j true).setIfInBounds i true := (Array.setIfInBounds_comm _ _ (Ne.symm hji))
      refine wpOp_mono (fun a' w' h3 => ?_) h2
      have h4 : ((listed.setIfInBounds j true).getD c false = false → R w') := fun h => h3.2.1 (by rw [hcom, hset]; exact h)
      refine ⟨h4, ih (listed.setIfInBounds j true) a' w' hfree' (ready_mono hr (Ne.symm hji)) h3.1 (closed_set hc hj) h4 ?_⟩
      rw [← hcom]
      exact h3.2.2
def closedB (md : Region.Mode) (ops : Array Oper) (L : Array Bool) : Bool := (List.range ops.size).all fun j => !(L.getD j true) || match ops[j]? with
  | some o => o.after.all fun e => !(Region.binds md e) || L.getD e.on false
  | none => true
theorem closedB_spec {L : Array Bool} (h : closedB md ops L = true) : Closed md ops L := fun j o hj hl e he hb => by
  have h1 := List.all_eq_true.1 h j (List.mem_range.2 (Array.getElem?_eq_some_iff.1 hj).1)
  rw [hl, hj] at h1
  simp only [Bool.not_true, Bool.false_or, Array.all_eq_true'] at h1
  have h2 := h1 e he
  rw [hb] at h2
  simpa using h2
/-- .. as a move: the pivot waits for i, which reads. -/
theorem wpAnyP_read {i : Nat} {oi : Oper} {v : Value} {fuel : Nat} {listed : Array Bool} {a : Act} {w : World} (hi : ops[i]? = some oi)
    (hs : Region.noSelect ops = true) (hf : Region.free md ops listed i = true) (hr : (Region.ready md ops listed).contains i = true) (hic : (i == c) = false) (hw : waits md ops ops.size c i = true)
    (hQ : ∀ c a w, Q (.panic c) (a.put oi.dst v) w → Q (.panic c) a w) (hy : YieldsIf P ops R oi v a) (hc : closedB md ops listed = true) (hS : R w)
    (h : wpAnyP P md ops Q c R fuel (listed.setIfInBounds i true) (a.put oi.dst v) w) : wpAnyP P md ops Q c R (fuel + 1) listed a w :=
  wpAnyP_first (R' := R) hi (Region.noSelect_spec hs) hQ (by simpa using hic) (fun L w hL hu hRw => hRw (by
    cases hh : L.getD c false with
    | false => rfl
    | true =>
      have := getD_false_true (waits_spec hL i _ c hw (getD_false_true hh))
      rw [hu] at this; cases this)) fuel listed a w (Region.free_spec hi hf) (by simpa using hr) hy (closedB_spec hc) (fun _ => hS) h
/-- .. i yields the same in whatever world. -/
theorem wpAnyP_pure {i : Nat} {oi : Oper} {v : Value} {fuel : Nat} {listed : Array Bool} {a : Act} {w : World} (hi : ops[i]? = some oi)
    (hs : Region.noSelect ops = true) (hf : Region.free md ops listed i = true) (hr : (Region.ready md ops listed).contains i = true) (hic : (i == c) = false)
    (hQ : ∀ c a w, Q (.panic c) (a.put oi.dst v) w → Q (.panic c) a w) (hy : YieldsIf P ops (fun _ => True) oi v a) (hc : closedB md ops listed = true) (hS : listed.getD c false = true ∨ R w)
    (h : wpAnyP P md ops Q c R fuel (listed.setIfInBounds i true) (a.put oi.dst v) w) : wpAnyP P md ops Q c R (fuel + 1) listed a w :=
  wpAnyP_first (R' := fun _ => True) hi (Region.noSelect_spec hs) hQ (by simpa using hic) (fun _ _ _ _ _ => trivial) fuel listed a w (Region.free_spec hi hf) (by simpa using hr) hy (closedB_spec hc) (fun h0 => hS.elim (fun h1 => by rw [h0] at h1; cases h1) id) h
/-- The one operation that may come up now. -/
theorem wpAnyP_one {i : Nat} {o : Oper} {fuel : Nat} {listed : Array Bool} {a : Act} {w : World} (hr : Region.ready md ops listed = [i]) (ho : ops[i]? = some o)
    (h : ∀ K' : Act → World → Prop, Shut (∀ a w, ((listed.setIfInBounds i true).getD c false = false → R w) → wpAnyP P md ops Q c R fuel (listed.setIfInBounds i true) a w → K' a w) → if Region.wanted o (yielded ops a.tmps) = true then Oper.wp P o a w K' Q else K' (a.put o.dst undef) w) :
    wpAnyP P md ops Q c R (fuel + 1) listed a w := by
  refine ⟨fun h0 => (by rw [h0] at hr; cases hr), fun j hj => ?_⟩
  have hj' := hj
  rw [hr, List.mem_singleton] at hj
  subst hj
  exact wpOp_step ho fun K' hK => h K' fun a w hS hW => hK a w ⟨hS, hW⟩
theorem wpAnyP_done {listed : Array Bool} {a : Act} {w : World} (hr : Region.ready md ops listed = []) (h : Q .normal a w) : ∀ fuel, wpAnyP P md ops Q c R fuel listed a w
  | 0 => ⟨hr, h⟩
  | _ + 1 => ⟨fun _ => h, by rw [hr]; simp⟩
/-- The beginning. -/
theorem wp_region_piv (c : Nat) (R : World → Prop) {id : Nat} {a : Act} {w : World} (hm : P.follows .mixedOrders = true)
    (h : wpAnyP P .any ops Q c R ops.size (Array.replicate ops.size false) a w.drew) : (Code.region id ops true).wp P Q a w :=
  wp_region_any hm (wpAny_of_piv _ _ _ _ h)
/-- Behind the pivot the next one. -/
theorem wpAnyP_next (c' : Nat) (R' : World → Prop) : ∀ (fuel : Nat) (listed : Array Bool) (a : Act) (w : World), listed.getD c false = true → wpAnyP P md ops Q c' R' fuel listed a w → wpAnyP P md ops Q c R fuel listed a w
  | 0, _, _, _, _, h => h
  | fuel + 1, listed, a, w, hl, h => ⟨h.1, fun i hi => wpOp_mono (fun a' w' k => ⟨fun h0 => (by rw [getD_set_true hl] at h0; cases h0), wpAnyP_next c' R' fuel _ a' w' (getD_set_true hl) k.2⟩) (h.2 i hi)⟩
end
end Go.Proofs.YtpfoocndohpbbaaDoor
