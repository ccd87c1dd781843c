/- journal.Journal: what it is in memory; its size, its number. -/
import Derived.Test.YtcppmihambcihaaDoorStore2
import Derived.Test.YtcppmihambcihaaDoorBkLastW
import Derived.Test.YtcppmihambcihaaDoorBkBlank
import Derived.Test.YtcppmihambcihaaDoorErrsIs
import Derived.Test.YtcppmihambcihaaDoorErrIs
import Derived.Test.YtcppmihambcihaaDoorHasTy
namespace Go.Proofs.YtcppmihambcihaaDoor
open Go Go.RowKit Go.Shelf
set_option linter.unusedVariables false
set_option linter.unusedSimpArgs false
abbrev jrc (g bank : Nat) (x : Nt) (A : Option Addr) (c : Nat) (has : Bool) : Array Value := #[.pointer (some ⟨g, 0, none⟩), .int .i64 bank, .int .u32 x.seq, .slice A x.dat.length c, .int .i64 x.fin, .bool has]
/-- A journal at j over the store at g, whose bytes lie in gb. -/
structure JrIs (w : World) (j g gb bank : Nat) (x : Nt) (A : Option Addr) (c : Nat) (has : Bool) : Prop where
  heap : w.heap[j]? = some (.cells (jrc g bank x A c has) 66 (0, 0))
  dat : RS w A x.dat.length c x.dat
  apart : 0 < x.dat.length → ∀ b o, A = some ⟨b, o, none⟩ → b ≠ j ∧ b ≠ g ∧ b ≠ gb
  few : x.dat.length ≤ 40
theorem JrIs.lt {w : World} {j g gb bank : Nat} {x : Nt} {A : Option Addr} {c : Nat} {has : Bool} (h : JrIs w j g gb bank x A c has) : j < w.heap.size := (Array.getElem?_eq_some_iff.mp h.heap).1
theorem JrIs.fr {F : Nat → Prop} {w w' : World} {j g gb bank : Nat} {x : Nt} {A : Option Addr} {c : Nat} {has : Bool} (h : JrIs w j g gb bank x A c has) (hf : Fr F w w') (h1 : ¬ F j) (h2 : ∀ i, F i → i = g ∨ i = gb ∨ w.heap.size ≤ i) : JrIs w' j g gb bank x A c has :=
  ⟨(hf.block j h.lt h1).trans h.heap, h.dat.fr hf (fun h0 b o e hF => by
    have h3 := h.apart h0 b o e
    have h4 := h.dat.old h0 b o e
    rcases h2 b hF with h5 | h5 | h5
    · exact h3.2.1 h5
    · exact h3.2.2 h5
    · omega), h.apart, h.few⟩
theorem JrIs.below {w w' : World} {j g gb bank : Nat} {x : Nt} {A : Option Addr} {c : Nat} {has : Bool} (h : JrIs w j g gb bank x A c has) (hb : Below w.heap.size w w') : JrIs w' j g gb bank x A c has := h.fr (Fr.ofBelow hb (fun _ => False)) id (fun _ h => h.elim)
theorem JrIs.cells {w : World} {j g gb bank : Nat} {x : Nt} {A : Option Addr} {c : Nat} {has : Bool} (h : JrIs w j g gb bank x A c has) :
    w.cell? ⟨j, 0, none⟩ = some (.pointer (some ⟨g, 0, none⟩)) ∧ w.cell? ⟨j, 1, none⟩ = some (.int .i64 bank) ∧ w.cell? ⟨j, 2, none⟩ = some (.int .u32 x.seq) ∧ w.cell? ⟨j, 3, none⟩ = some (.slice A x.dat.length c) ∧ w.cell? ⟨j, 4, none⟩ = some (.int .i64 x.fin) ∧ w.cell? ⟨j, 5, none⟩ = some (.bool has) := by
  refine ⟨?_, ?_, ?_, ?_, ?_, ?_⟩ <;> simp [World.cell?, h.heap]
theorem jr_size (j g gb bank : Nat) (x : Nt) (A : Option Addr) (c : Nat) (has : Bool) (xs : List UInt8) (lim : Option Nat) (dead : Bool) (w : World) (h : JrIs w j g gb bank x A c has) (hs : StIs w g gb xs lim dead) :
    Calls Tryd.prog 29 #[.pointer (some ⟨j, 0, none⟩)] w fun e w' => e = .returned (.int .i64 (xs.length / 2 : Nat)) ∧ w = w' := by
  obtain ⟨c0, _⟩ := h.cells
  have hsm := hs.small
  have hq : ((xs.length : Int)).tdiv 2 = ((xs.length / 2 : Nat) : Int) := by rw [Int.tdiv_eq_ediv_of_nonneg (by omega)]; omega
  have HS := Lib.hid hs
  clear h hs
  go_enter Tryd.func29, Tryd.ntmps29
  go_wp2_with fail
  refine (st_size g gb xs lim dead _ HS.out).mono ?_
  rintro e w1 ⟨rfl, rfl⟩
  go_wp2_with fail
  go_ret
  exact ⟨by rw [← hq]; first | rfl | simp, rfl⟩
theorem jr_seq (j g gb bank : Nat) (x : Nt) (A : Option Addr) (c : Nat) (has : Bool) (w : World) (h : JrIs w j g gb bank x A c has) :
    Calls Tryd.prog 13 #[.pointer (some ⟨j, 0, none⟩)] w fun e w' => e = .returned (.int .u32 x.seq) ∧ w = w' := by
  obtain ⟨_, _, c2, _⟩ := h.cells
  clear h
  go_enter Tryd.func13, Tryd.ntmps13
  go_wp2_with fail
  go_ret
  exact ⟨rfl, rfl⟩
end Go.Proofs.YtcppmihambcihaaDoor
