/- The ring's plain law, and the log's contracts in terms of all that came. -/
import Derived.Test.YtdhkfdaajkehhaaEvLog2
namespace Go.Proofs.Ytdhkfdaajkehhaa
open Go.RowKit
set_option linter.unusedVariables false
set_option linter.unusedSimpArgs false

def RingOK (size : Nat) (es ring : List Ev) : Prop := ring.length = min es.length size ∧ (es.length ≤ size → ring = es) ∧ (size ≤ es.length → ring.drop (es.length % size) ++ ring.take (es.length % size) = es.drop (es.length - size))
theorem succ_mod (n s : Nat) (hs : 1 ≤ s) : (n % s + 1 = s → (n + 1) % s = 0) ∧ (n % s + 1 ≠ s → (n + 1) % s = n % s + 1) := by
  have h1 := Nat.div_add_mod n s
  have h2 : (n + 1) % s = (n % s + 1) % s := by
    conv => lhs; rw [← h1, Nat.add_assoc, Nat.add_comm, Nat.add_mul_mod_self_left]
  have h3 := Nat.mod_lt n (show 0 < s by omega)
  refine ⟨fun h => ?_, fun h => ?_⟩
  · rw [h2, h, Nat.mod_self]
  · rw [h2, Nat.mod_eq_of_lt (by omega)]
theorem ring_init (size : Nat) : RingOK size [] [] := ⟨by simp, fun _ => rfl, fun h => by simp⟩
theorem ring_all {size : Nat} {es ring : List Ev} (h : RingOK size es ring) : allOf ring size es.length = es.drop (es.length - size) := by
  unfold allOf
  split
  · rename_i h1
    rw [h.2.1 h1, show es.length - size = 0 by omega, List.drop_zero]
  · exact h.2.2 (by omega)
theorem ring_add {size : Nat} {es ring : List Ev} (h : RingOK size es ring) (hs : 1 ≤ size) (x : Ev) : RingOK size (es ++ [x]) (added ring size es.length x) := by
  obtain ⟨h1, h2, h3⟩ := h
  unfold added
  split
  · rename_i hl
    have hlt : es.length < size := by omega
    have := h2 (by omega)
    subst this
    refine ⟨by simp; omega, fun _ => rfl, fun hge => ?_⟩
    have hn : (ring ++ [x]).length = size := by simp at hge ⊢; omega
    rw [hn, Nat.mod_self, Nat.sub_self]
    simp
  · rename_i hl
    have hge : size ≤ es.length := by omega
    have hrs : ring.length = size := by omega
    have hq : es.length % size < size := Nat.mod_lt _ (by omega)
    have h4 := h3 hge
    generalize hqq : es.length % size = q at *
    refine ⟨by simp; omega, fun hle => by simp at hle; omega, fun _ => ?_⟩
    have hd : (es ++ [x]).drop ((es ++ [x]).length - size) = (es.drop (es.length - size)).drop 1 ++ [x] := by
      rw [List.drop_drop, List.length_append, List.length_singleton, List.drop_append_of_le_length (by omega), show es.length + 1 - size = es.length - size + 1 by omega]
    rw [hd, ← h4]
    have hgd : ring.drop q = ring[q]'(by omega) :: ring.drop (q + 1) := List.drop_eq_getElem_cons (by omega)
    rw [hgd]
    simp only [List.cons_append, List.drop_succ_cons, List.drop_zero, List.length_append, List.length_singleton]
    have hset : ring.set q x = ring.take q ++ x :: ring.drop (q + 1) := by rw [List.set_eq_take_append_cons_drop, if_pos (by omega)]
    rw [hset]
    have htl : (ring.take q).length = q := by rw [List.length_take]; omega
    by_cases hw : q + 1 = size
    · have hz : (es.length + 1) % size = 0 := (succ_mod es.length size hs).1 (by rw [hqq]; exact hw)
      rw [hz, List.drop_zero, List.take_zero, List.append_nil, List.drop_of_length_le (show ring.length ≤ q + 1 by omega)]
      simp
    · have hz : (es.length + 1) % size = q + 1 := by rw [(succ_mod es.length size hs).2 (by rw [hqq]; exact hw), hqq]
      rw [hz, List.drop_append, List.take_append, htl, List.drop_of_length_le (show (ring.take q).length ≤ q + 1 by omega), List.take_of_length_le (show (ring.take q).length ≤ q + 1 by omega), show q + 1 - q = 1 by omega]
      simp

/-- A log of some room to which es came. -/
def LogIs (w : World) (g : Nat) (v : Value) (size : Nat) (es : List Ev) : Prop := ∃ ring, LogAt w g v size es.length ring ∧ RingOK size es ring
theorem LogIs.lt {w : World} {g : Nat} {v : Value} {size : Nat} {es : List Ev} (h : LogIs w g v size es) : g < w.heap.size := h.elim fun _ h => h.1.lt
theorem LogIs.ownlt {w : World} {g : Nat} {v : Value} {size : Nat} {es : List Ev} (h : LogIs w g v size es) (k : Nat) (hk : v.ownBlock = some k) : k < w.heap.size := h.elim fun _ h => h.1.own.lt k hk
theorem LogIs.fr {w w' : World} {g : Nat} {v : Value} {size : Nat} {es : List Ev} (h : LogIs w g v size es) {F : Nat → Prop} (hf : Fr F w w') (h1 : ¬ F g) (h2 : ∀ k, v.ownBlock = some k → ¬ F k) : LogIs w' g v size es := h.elim fun r h => ⟨r, h.1.fr hf h1 h2, h.2⟩
theorem LogIs.below {w w' : World} {g : Nat} {v : Value} {size : Nat} {es : List Ev} (h : LogIs w g v size es) (hb : Below w.heap.size w w') : LogIs w' g v size es := h.elim fun r h => ⟨r, h.1.below hb, h.2⟩
theorem logis_new (size : Int) (w : World) : Calls Try.prog 8 #[.int .i64 size] w fun e w' => e = .returned (.pointer (some ⟨w.heap.size, 0, none⟩)) ∧ LogIs w' w.heap.size (.slice none 0 0) (room size) [] ∧ Below w.heap.size w w' :=
  (log_new size w).mono fun e w' ⟨h1, h2, h3⟩ => ⟨h1, ⟨[], h2, ring_init _⟩, h3⟩
theorem logis_add (g : Nat) (v : Value) (size : Nat) (es : List Ev) (x : Ev) (w : World) (h : LogIs w g v size es) (hs0 : 1 ≤ size) (hs1 : size ≤ 1024) (hn : es.length ≤ 1000000000) :
    Calls Try.prog 10 #[.pointer (some ⟨g, 0, none⟩), .agg #[.int .u64 x.tm, .int .i64 x.code, .int .i64 x.arg]] w fun e w' => ∃ v', e = .returned (.tuple #[]) ∧ LogIs w' g v' size (es ++ [x]) ∧ (∀ k, v'.ownBlock = some k → v.ownBlock = some k ∨ w.heap.size ≤ k) ∧ Fr (fun k => k = g ∨ v.ownBlock = some k) w w' := by
  obtain ⟨ring, h1, h2⟩ := h
  refine (log_add g v size es.length ring x w h1 hs0 hs1 hn h2.1).mono ?_
  rintro e w' ⟨v', rfl, ha, hb, hc⟩
  exact ⟨v', rfl, ⟨_, by rw [List.length_append]; exact ha, ring_add h2 hs0 x⟩, hb, hc⟩
theorem logis_all (g : Nat) (v : Value) (size : Nat) (es : List Ev) (w : World) (h : LogIs w g v size es) (hs0 : 1 ≤ size) (hs1 : size ≤ 1024) (hn : es.length ≤ 1000000000) :
    Calls Try.prog 12 #[.pointer (some ⟨g, 0, none⟩)] w fun e w' => ∃ v', e = .returned v' ∧ OwnEv w' v' (es.drop (es.length - size)) ∧ (∀ k, v'.ownBlock = some k → w.heap.size ≤ k) ∧ Below w.heap.size w w' := by
  obtain ⟨ring, h1, h2⟩ := h
  refine (log_all g v size es.length ring w h1 hs0 hs1 hn h2.1).mono ?_
  rw [ring_all h2]
  exact fun _ _ h => h
theorem logis_lost (g : Nat) (v : Value) (size : Nat) (es : List Ev) (w : World) (h : LogIs w g v size es) (hn : es.length ≤ 1000000000) :
    Calls Try.prog 15 #[.pointer (some ⟨g, 0, none⟩)] w fun e w' => e = .returned (.int .i64 ((es.length - size : Nat) : Int)) ∧ Below w.heap.size w w' := by
  obtain ⟨ring, h1, h2⟩ := h
  refine (log_lost g v size es.length ring w h1 hn (by rw [h2.1]; omega)).mono ?_
  rw [h2.1, show es.length - min es.length size = es.length - size by omega]
  exact fun _ _ h => h
end Go.Proofs.Ytdhkfdaajkehhaa
