/- wheel.Wheel: what it is in memory. -/
import Derived.Test.YtpfoocndohpbbaaDoorWhPure
import Derived.Test.YtpfoocndohpbbaaDoorFr
import Derived.Test.YtpfoocndohpbbaaDoorFault
import Derived.Lib.Hide
namespace Go.Proofs.YtpfoocndohpbbaaDoor
open Go Go.RowKit
set_option linter.unusedVariables false
set_option linter.unusedSimpArgs false
def tmc (t : Tw) : List Value := [.bool t.armed, .int .i64 t.tag, .int .i64 t.at_, .int .i64 t.ord]
theorem tmc_len (t : Tw) : (tmc t).length = 4 := rfl
theorem tmc_one (t : Tw) : ∀ v ∈ tmc t, v.oneCell' = true := by
  intro v hv
  simp only [tmc, List.mem_cons, List.not_mem_nil, or_false] at hv
  rcases hv with rfl | rfl | rfl | rfl <;> rfl
def kc (n : Nat) : List Value := [.int .i64 n]
theorem kc_len (n : Nat) : (kc n).length = 1 := rfl
theorem kc_one (n : Nat) : ∀ v ∈ kc n, v.oneCell' = true := by
  intro v hv
  simp only [kc, List.mem_cons, List.not_mem_nil, or_false] at hv
  subst hv; rfl
theorem kcT : ElT Tryd.prog 39 3 1 8 (.int .i64 0) := ⟨Tryd.underlying39, by kernel_rfl, rfl, by omega⟩
/-- The wheel's own block. -/
structure WhC (w : World) (g : Nat) (pv : Value) (sv : Nat → Value) (now cnt : Nat) (cs : Array Value) : Prop where
  heap : w.heap[g]? = some (.cells cs 52 (0, 0))
  size : cs.size = 259
  pool : cs[0]? = some pv
  slot : ∀ m, m < 256 → cs[1 + m]? = some (sv m)
  now_ : cs[257]? = some (.int .i64 now)
  cnt_ : cs[258]? = some (.int .i64 cnt)
theorem WhC.lt {w : World} {g : Nat} {pv : Value} {sv : Nat → Value} {now cnt : Nat} {cs : Array Value} (h : WhC w g pv sv now cnt cs) : g < w.heap.size := (Array.getElem?_eq_some_iff.mp h.heap).1
theorem WhC.fr {F : Nat → Prop} {w w' : World} {g : Nat} {pv : Value} {sv : Nat → Value} {now cnt : Nat} {cs : Array Value} (h : WhC w g pv sv now cnt cs) (hf : Fr F w w') (h1 : ¬ F g) : WhC w' g pv sv now cnt cs :=
  ⟨(hf.block g h.lt h1).trans h.heap, h.size, h.pool, h.slot, h.now_, h.cnt_⟩
theorem WhC.cPool {w : World} {g : Nat} {pv : Value} {sv : Nat → Value} {now cnt : Nat} {cs : Array Value} (h : WhC w g pv sv now cnt cs) : w.cell? ⟨g, 0, none⟩ = some pv := by
  rw [cell_of_row w g 0 _ _ _ h.heap]; exact h.pool
theorem WhC.cSlot {w : World} {g : Nat} {pv : Value} {sv : Nat → Value} {now cnt : Nat} {cs : Array Value} (h : WhC w g pv sv now cnt cs) (m : Nat) (hm : m < 256) : w.cell? ⟨g, 1 + m, none⟩ = some (sv m) := by
  rw [cell_of_row w g (1 + m) _ _ _ h.heap]; exact h.slot m hm
theorem WhC.cNow {w : World} {g : Nat} {pv : Value} {sv : Nat → Value} {now cnt : Nat} {cs : Array Value} (h : WhC w g pv sv now cnt cs) : w.cell? ⟨g, 257, none⟩ = some (.int .i64 now) := by
  rw [cell_of_row w g 257 _ _ _ h.heap]; exact h.now_
theorem WhC.cCnt {w : World} {g : Nat} {pv : Value} {sv : Nat → Value} {now cnt : Nat} {cs : Array Value} (h : WhC w g pv sv now cnt cs) : w.cell? ⟨g, 258, none⟩ = some (.int .i64 cnt) := by
  rw [cell_of_row w g 258 _ _ _ h.heap]; exact h.cnt_
theorem WhC.free {w : World} {g : Nat} {pv : Value} {sv : Nat → Value} {now cnt : Nat} {cs : Array Value} (h : WhC w g pv sv now cnt cs) (i : Nat) : w.frozen? ⟨g, i, none⟩ = false := by simp [World.frozen?, h.heap]
theorem set_heap {w : World} {g : Nat} {cs : Array Value} {t : TypeId} (h : w.heap[g]? = some (.cells cs t (0, 0))) (k : Nat) (v : Value) : (w.setCell ⟨g, k, none⟩ v).heap[g]? = some (.cells (cs.setIfInBounds k v) t (0, 0)) := by
  simp [World.setCell, Array.getElem?_modify, h]
theorem WhC.setSlot {w : World} {g : Nat} {pv : Value} {sv : Nat → Value} {now cnt : Nat} {cs : Array Value} (h : WhC w g pv sv now cnt cs) (m : Nat) (hm : m < 256) (v : Value) :
    WhC (w.setCell ⟨g, 1 + m, none⟩ v) g pv (fun k => if k = m then v else sv k) now cnt (cs.setIfInBounds (1 + m) v) := by
  have hs := h.size
  refine ⟨set_heap h.heap _ _, by rw [Array.size_setIfInBounds]; exact hs, ?_, fun k hk => ?_, ?_, ?_⟩
  · rw [Array.getElem?_setIfInBounds_ne (by omega)]; exact h.pool
  · by_cases e : k = m
    · subst e
      rw [if_pos rfl, Array.getElem?_setIfInBounds_self_of_lt (by omega)]
    · rw [if_neg e, Array.getElem?_setIfInBounds_ne (by omega)]; exact h.slot k hk
  · rw [Array.getElem?_setIfInBounds_ne (by omega)]; exact h.now_
  · rw [Array.getElem?_setIfInBounds_ne (by omega)]; exact h.cnt_
theorem WhC.setNow {w : World} {g : Nat} {pv : Value} {sv : Nat → Value} {now cnt : Nat} {cs : Array Value} (h : WhC w g pv sv now cnt cs) (n : Nat) :
    WhC (w.setCell ⟨g, 257, none⟩ (.int .i64 n)) g pv sv n cnt (cs.setIfInBounds 257 (.int .i64 n)) := by
  have hs := h.size
  refine ⟨set_heap h.heap _ _, by rw [Array.size_setIfInBounds]; exact hs, ?_, fun k hk => ?_, ?_, ?_⟩
  · rw [Array.getElem?_setIfInBounds_ne (by omega)]; exact h.pool
  · rw [Array.getElem?_setIfInBounds_ne (by omega)]; exact h.slot k hk
  · rw [Array.getElem?_setIfInBounds_self_of_lt (by omega)]
  · rw [Array.getElem?_setIfInBounds_ne (by omega)]; exact h.cnt_
theorem WhC.setCnt {w : World} {g : Nat} {pv : Value} {sv : Nat → Value} {now cnt : Nat} {cs : Array Value} (h : WhC w g pv sv now cnt cs) (n : Nat) :
    WhC (w.setCell ⟨g, 258, none⟩ (.int .i64 n)) g pv sv now n (cs.setIfInBounds 258 (.int .i64 n)) := by
  have hs := h.size
  refine ⟨set_heap h.heap _ _, by rw [Array.size_setIfInBounds]; exact hs, ?_, fun k hk => ?_, ?_, ?_⟩
  · rw [Array.getElem?_setIfInBounds_ne (by omega)]; exact h.pool
  · rw [Array.getElem?_setIfInBounds_ne (by omega)]; exact h.slot k hk
  · rw [Array.getElem?_setIfInBounds_ne (by omega)]; exact h.now_
  · rw [Array.getElem?_setIfInBounds_self_of_lt (by omega)]
/-- The rows of the slots: each owned, each in a block of its own. -/
structure WhR (w : World) (g gp : Nat) (sv : Nat → Value) (s : Slots) : Prop where
  own : ∀ l i, l < 4 → i < 64 → OwnE kc 1 3 w (sv (l * 64 + i)) (s l i)
  off : ∀ m, m < 256 → ∀ b, (sv m).ownBlock = some b → b ≠ g ∧ b ≠ gp
  apart : ∀ m m', m < 256 → m' < 256 → m ≠ m' → ∀ b, (sv m).ownBlock = some b → (sv m').ownBlock ≠ some b
theorem idx_inj {l i l' i' : Nat} (hi : i < 64) (hi' : i' < 64) (h : l * 64 + i = l' * 64 + i') : l = l' ∧ i = i' := by omega
theorem WhR.fr {F : Nat → Prop} {w w' : World} {g gp : Nat} {sv : Nat → Value} {s : Slots} (h : WhR w g gp sv s) (hf : Fr F w w') (h1 : ∀ m, m < 256 → ∀ b, (sv m).ownBlock = some b → ¬ F b) : WhR w' g gp sv s :=
  ⟨fun l i hl hi => (h.own l i hl hi).fr hf (h1 _ (by omega)), h.off, h.apart⟩
/-- One slot's row is another one: the same block, a new one, or none. -/
theorem WhR.up {w w' : World} {g gp : Nat} {sv : Nat → Value} {s : Slots} (h : WhR w g gp sv s) (l i : Nat) (hl : l < 4) (hi : i < 64) {v : Value} {xs : List Nat} (hown : OwnE kc 1 3 w' v xs)
    (hf : Fr (fun b => (sv (l * 64 + i)).ownBlock = some b) w w') (hv : ∀ b, v.ownBlock = some b → (sv (l * 64 + i)).ownBlock = some b ∨ w.heap.size ≤ b) (hg : g < w.heap.size) (hgp : gp < w.heap.size) :
    WhR w' g gp (fun k => if k = l * 64 + i then v else sv k) (up s l i xs) := by
  have hlt : ∀ m, m < 256 → ∀ b, (sv m).ownBlock = some b → b < w.heap.size := fun m hm b hb => by
    have := h.own (m / 64) (m % 64) (by omega) (by omega)
    rw [show m / 64 * 64 + m % 64 = m by omega] at this
    exact this.lt b hb
  refine ⟨fun l' i' hl' hi' => ?_, fun m hm b hb => ?_, fun m m' hm hm' hne b hb hb' => ?_⟩
  · by_cases e : l' = l ∧ i' = i
    · obtain ⟨rfl, rfl⟩ := e
      rw [if_pos rfl, up_same]
      exact hown
    · rw [if_neg (fun q => e (idx_inj hi' hi q)), up_other _ _ _ _ _ _ e]
      exact (h.own l' i' hl' hi').fr hf (fun b hb hb2 => h.apart (l' * 64 + i') (l * 64 + i) (by omega) (by omega) (fun q => e (idx_inj hi' hi q)) b hb hb2)
  · by_cases e : m = l * 64 + i
    · rw [if_pos e] at hb
      rcases hv b hb with h2 | h2
      · exact h.off _ (by omega) b h2
      · omega
    · rw [if_neg e] at hb
      exact h.off m hm b hb
  · by_cases e : m = l * 64 + i
    · rw [if_pos e] at hb
      by_cases e' : m' = l * 64 + i
      · exact hne (e.trans e'.symm)
      · rw [if_neg e'] at hb'
        rcases hv b hb with h2 | h2
        · exact h.apart _ _ (by omega) hm' (fun q => e' q.symm) b h2 hb'
        · have := hlt m' hm' b hb'; omega
    · rw [if_neg e] at hb
      by_cases e' : m' = l * 64 + i
      · rw [if_pos e'] at hb'
        rcases hv b hb' with h2 | h2
        · exact h.apart _ _ hm (by omega) e b hb h2
        · have := hlt m hm b hb; omega
      · rw [if_neg e'] at hb'
        exact h.apart m m' hm hm' hne b hb hb'
/-- A wheel at g: its pool in gp, its slots' rows. -/
structure WhX (w : World) (g gp P : Nat) (pool : List Tw) (s : Slots) (now cnt : Nat) (sv : Nat → Value) (cs : Array Value) : Prop where
  c : WhC w g (.slice (some ⟨gp, 0, none⟩) P P) sv now cnt cs
  r : WhR w g gp sv s
  pl : OwnE tmc 4 59 w (.slice (some ⟨gp, 0, none⟩) P P) pool
  len : pool.length = P
  few : P ≤ 64
  ne : g ≠ gp
/-- The blocks that are a wheel's. -/
def foot (g gp : Nat) (sv : Nat → Value) (b : Nat) : Prop := b = g ∨ b = gp ∨ ∃ m, m < 256 ∧ (sv m).ownBlock = some b
theorem WhX.fr {F : Nat → Prop} {w w' : World} {g gp P : Nat} {pool : List Tw} {s : Slots} {now cnt : Nat} {sv : Nat → Value} {cs : Array Value} (h : WhX w g gp P pool s now cnt sv cs) (hf : Fr F w w') (h1 : ∀ b, foot g gp sv b → ¬ F b) : WhX w' g gp P pool s now cnt sv cs :=
  ⟨h.c.fr hf (h1 g (.inl rfl)), h.r.fr hf (fun m hm b hb => h1 b (.inr (.inr ⟨m, hm, hb⟩))), h.pl.fr hf (fun b hb => by cases hb; exact h1 gp (.inr (.inl rfl))), h.len, h.few, h.ne⟩
theorem WhX.below {w w' : World} {g gp P : Nat} {pool : List Tw} {s : Slots} {now cnt : Nat} {sv : Nat → Value} {cs : Array Value} (h : WhX w g gp P pool s now cnt sv cs) (hb : Below w.heap.size w w') : WhX w' g gp P pool s now cnt sv cs := h.fr (Fr.ofBelow hb (fun _ => False)) (fun _ _ h => h)
theorem WhX.lt {w : World} {g gp P : Nat} {pool : List Tw} {s : Slots} {now cnt : Nat} {sv : Nat → Value} {cs : Array Value} (h : WhX w g gp P pool s now cnt sv cs) : ∀ b, foot g gp sv b → b < w.heap.size := by
  rintro b (rfl | rfl | ⟨m, hm, hb⟩)
  · exact h.c.lt
  · exact h.pl.lt _ rfl
  · have := h.r.own (m / 64) (m % 64) (by omega) (by omega)
    rw [show m / 64 * 64 + m % 64 = m by omega] at this
    exact this.lt b hb
/-- What a call leaves of a wheel: only its own blocks are turned, or new ones. -/
structure WhTo (w w' : World) (g gp P : Nat) (sv : Nat → Value) (pool : List Tw) (s : Slots) (now cnt : Nat) : Prop where
  ex : ∃ sv' cs', WhX w' g gp P pool s now cnt sv' cs' ∧ ∀ b, foot g gp sv' b → foot g gp sv b ∨ w.heap.size ≤ b
  fr : Fr (foot g gp sv) w w'
end Go.Proofs.YtpfoocndohpbbaaDoor
