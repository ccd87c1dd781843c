/- journal: its calls, over what a journal and its store hold. -/
import Derived.Test.YtcppmihambcihaaDoorJrApp
namespace Go.Proofs.YtcppmihambcihaaDoor
open Go Go.RowKit Go.Shelf
set_option linter.unusedVariables false
set_option linter.unusedSimpArgs false
/-- A store that lives on. -/
def Lv (t : Sto) (n : Nat) : Prop := t.lim = none ∧ t.dead = false ∧ t.xs.length = n
theorem jOpen_blank (n : Nat) : jOpen (List.replicate n 255) = jNone := by
  have h : ∀ k, jLast (List.replicate n 255) k = none := by
    intro k
    unfold jLast half
    rw [List.drop_replicate, List.take_replicate, bkNotes, bkAll_blank]
    rfl
  rw [jOpen_pick, h 0, h 1]
  rfl
theorem JI.noStep {w : World} {j g gb : Nat} {s : Jn} {t : Sto} (h : JI w j g gb s t) : NoStep w (fun k => k = j ∨ k = g ∨ k = gb) := by
  obtain ⟨⟨A, c, hj⟩, hst, _, _⟩ := h
  intro k cs m hk
  rcases hk with rfl | hk
  · exact noStep_block hj.heap (by decide) _ cs m rfl
  · exact hst.noStep k cs m hk
theorem JI.below {w w' : World} {j g gb : Nat} {s : Jn} {t : Sto} (h : JI w j g gb s t) (hb : Below w.heap.size w w') : JI w' j g gb s t := by
  obtain ⟨⟨A, c, hj⟩, hst, he, hn⟩ := h
  exact ⟨⟨A, c, hj.below hb⟩, StIs.below hst hb, he, hn⟩
theorem JI.lt {w : World} {j g gb : Nat} {s : Jn} {t : Sto} (h : JI w j g gb s t) : j < w.heap.size ∧ g < w.heap.size ∧ gb < w.heap.size := by
  obtain ⟨⟨A, c, hj⟩, hst, he, hn⟩ := h
  exact ⟨hj.lt, hst.lt.1, hst.lt.2.1⟩
theorem below_three {w w1 w2 : World} {j g gb : Nat} (hb : Below w.heap.size w w1) (hf : Fr (fun i => i = j ∨ i = g ∨ i = gb) w1 w2) (hj : w.heap.size ≤ j) (hg : w.heap.size ≤ g) (hgb : w.heap.size ≤ gb) : Below w.heap.size w w2 := hb.trans (hf.below w.heap.size hb.size (fun i e => by rcases e with rfl | rfl | rfl <;> assumption))
theorem RS.three {w w' : World} {j g gb : Nat} {A : Option Addr} {n c : Nat} {xs : List UInt8} (h : RS w A n c xs) (hf : Fr (fun i => i = j ∨ i = g ∨ i = gb) w w') (ha : 0 < n → ∀ b o, A = some ⟨b, o, Option.none⟩ → b ≠ j ∧ b ≠ g ∧ b ≠ gb) : RS w' A n c xs :=
  h.fr hf (fun h0 b o e hF => by have := ha h0 b o e; rcases hF with h | h | h <;> omega)
theorem op_open (g gb : Nat) (t : Sto) (w : World) (h : StOf w g gb t) :
    Calls Tryd.prog 10 #[.pointer (some ⟨g, 0, none⟩)] w fun e w' => ∃ j, e = .returned (.pointer (some ⟨j, 0, none⟩)) ∧ JI w' j g gb (jOpen t.xs) t ∧ Below w.heap.size w w' ∧ w.heap.size ≤ j := by
  refine (jr_open g gb t.xs t.lim t.dead w h).mono ?_
  rintro e w' ⟨rfl, ⟨⟨A, c, hj, _⟩, hb⟩⟩
  have := StIs.lt h
  exact ⟨_, rfl, ⟨⟨A, c, hj⟩, StIs.below h hb, rfl, by omega, by omega⟩, hb, Nat.le_refl _⟩
theorem ji_last (j g gb : Nat) (s : Jn) (t : Sto) (w : World) (h : JI w j g gb s t) :
    Calls Tryd.prog 12 #[.pointer (some ⟨j, 0, none⟩)] w fun e w' => ∃ A c, e = .returned (.tuple #[.slice A s.nt.dat.length c, .bool s.has]) ∧ RS w' A s.nt.dat.length c s.nt.dat ∧ OwnB w' w.heap.size (.slice A s.nt.dat.length c) s.nt.dat ∧ Below w.heap.size w w' := by
  obtain ⟨⟨A, c, hj⟩, _⟩ := h
  refine (jr_last j g gb s.bank s.nt A c s.has w hj).mono ?_
  rintro e w' ⟨v, rfl, hown, hb⟩
  obtain ⟨A1, c1, rfl, hr⟩ := hown.reads
  exact ⟨A1, c1, rfl, hr, hown, hb⟩
theorem own_far {w' : World} {B n c : Nat} {A : Option Addr} {xs : List UInt8} (h : OwnB w' B (.slice A n c) xs) : ∀ b o, A = some ⟨b, o, none⟩ → B ≤ b := by
  rintro b o rfl
  exact (h.free rfl).2.1
theorem ji_seq (j g gb : Nat) (s : Jn) (t : Sto) (w : World) (h : JI w j g gb s t) :
    Calls Tryd.prog 13 #[.pointer (some ⟨j, 0, none⟩)] w fun e w' => e = .returned (.int .u32 s.nt.seq) ∧ w = w' := by
  obtain ⟨⟨A, c, hj⟩, _⟩ := h
  exact jr_seq j g gb s.bank s.nt A c s.has w hj
theorem ji_append (j g gb : Nat) (s : Jn) (t : Sto) (A1 : Option Addr) (n1 c1 : Nat) (d : List UInt8) (w : World) (h : JI w j g gb s t) (hr : RS w A1 n1 c1 d) (ha : 0 < n1 → ∀ b o, A1 = some ⟨b, o, none⟩ → b ≠ j ∧ b ≠ g ∧ b ≠ gb) :
    Calls Tryd.prog 11 #[.pointer (some ⟨j, 0, none⟩), .slice A1 n1 c1] w fun e w' => ∃ v, e = .returned v ∧ ErrIs w' v (jAppend s t d).1 ∧ JI w' j g gb (jAppend s t d).2.1 (jAppend s t d).2.2 ∧ Fr (fun k => k = j ∨ k = g ∨ k = gb) w w' := by
  have hl := jAppend_law s t d h.eq
  have hn := h.ne
  obtain ⟨⟨A, c, hj0⟩, hst, heq, hne⟩ := h
  refine (jr_append j g gb s t A1 n1 c1 d w A c hj0 hst heq hne hr ha).mono ?_
  rintro e w' ⟨⟨v, rfl, he⟩, ⟨A', c', hj, _⟩, hs, hf⟩
  exact ⟨v, rfl, he, ⟨⟨A', c', hj⟩, hs, hl.opens, hn⟩, hf⟩
/-- An Append over a store that lives on. -/
structure IsLv (w : World) (j g gb : Nat) (s : Jn) (t : Sto) (d : List UInt8) (n c : Nat) (e : Ending) (w' : World) : Prop where
  ex : ∃ v, e = .returned v ∧ ErrIs w' v c
  st : ∃ s' t', JI w' j g gb s' t' ∧ Lv t' n ∧ (c = 0 → s'.nt.seq = s.nt.seq + 1 ∧ s'.nt.dat = d ∧ s'.has = true) ∧ (c ≠ 0 → s' = s ∧ t' = t)
  fr : Fr (fun k => k = j ∨ k = g ∨ k = gb) w w'
theorem ap_live (j g gb n : Nat) (s : Jn) (t : Sto) (A1 : Option Addr) (n1 c1 : Nat) (d : List UInt8) (c : Nat) (w : World) (h : JI w j g gb s t) (hl : Lv t n) (hr : RS w A1 n1 c1 d) (ha : 0 < n1 → ∀ b o, A1 = some ⟨b, o, none⟩ → b ≠ j ∧ b ≠ g ∧ b ≠ gb) (hc : c = jCode (n / 2) s.nt.seq d) :
    Calls Tryd.prog 11 #[.pointer (some ⟨j, 0, none⟩), .slice A1 n1 c1] w (IsLv w j g gb s t d n c) := by
  have hlaw := jAppend_law s t d h.eq
  have hlv := jAppend_live s t d h.eq hl.1 hl.2.1
  rw [hl.2.2, ← hc] at hlv
  refine (ji_append j g gb s t A1 n1 c1 d w h hr ha).mono ?_
  rintro e w' ⟨v, rfl, he, hj, hf⟩
  rw [hlv.1] at he
  refine ⟨⟨v, rfl, he⟩, ⟨_, _, hj, ⟨hlv.2.1, hlv.2.2.1, hlaw.len.trans hl.2.2⟩, fun h0 => ?_, fun h0 => ⟨hlaw.no (by rw [hlv.1]; exact h0), hlv.2.2.2 h0⟩⟩, hf⟩
  obtain ⟨b, f, hq⟩ := hlaw.yes (by rw [hlv.1]; exact h0)
  rw [hq]
  exact ⟨rfl, rfl, rfl⟩
theorem ErrIs.zero {w : World} {v : Value} (h : ErrIs w v ((0 : Nat) : Int)) : v = .nilIface := by
  rcases h with ⟨_, h⟩ | ⟨h, _⟩
  · exact h
  · exact absurd h (by decide)
theorem ErrIs.some {w : World} {v : Value} {c : Nat} (h : ErrIs w v (c : Int)) (hc : c ≠ 0) : ∃ t u, v = .iface t u := by
  rcases h with ⟨h, _⟩ | ⟨_, d, h⟩
  · omega
  · exact h.iface
theorem ErrIs.fr {F : Nat → Prop} {w w' : World} {v : Value} {c : Int} (h : ErrIs w v c) (hf : Fr F w w') (hF : NoStep w F) : ErrIs w' v c := h.imp id (fun ⟨a, d, b⟩ => ⟨a, d, b.fr hf hF⟩)
end Go.Proofs.YtcppmihambcihaaDoor
