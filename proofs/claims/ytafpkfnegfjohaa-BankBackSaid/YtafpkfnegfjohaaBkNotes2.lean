/- slices.Collect, bank.Notes. -/
import Derived.Test.YtafpkfnegfjohaaBkNotes
namespace Go.Proofs.Ytafpkfnegfjohaa
open Go Go.RowKit Go.Shelf
set_option linter.unusedVariables false
set_option linter.unusedSimpArgs false
theorem bk_collect (Bx : Nat) (A : Option Addr) (n c : Nat) (xs : List UInt8) (w : World) (hcell : w.cell? ⟨Bx, 0, none⟩ = some (.slice A n c)) (hrs : RS w A n c xs) (hab : 0 < n → ∀ k off, A = some ⟨k, off, none⟩ → k < w.heap.size) (hn : n ≤ 1000000) :
    Calls Try.prog 25 #[.func (.func 33) #[] #[.pointer (some ⟨Bx, 0, none⟩)]] w (IsNts xs w) := by
  have hq := Lib.hid (as_law Bx A n c xs w hcell hrs hab hn)
  clear hcell hrs hab hn
  go_enter Try.func25, Try.ntmps25
  go_wp2_with fail
  refine hq.out.mono ?_
  rintro e w1 ⟨v, ys, rfl, h1, h2, h3⟩
  have H2 := Lib.hid h2
  have H3 := Lib.hid h3
  clear h2 h3
  go_wp2_with fail
  go_ret
  exact ⟨v, ys, rfl, h1, H2.out, H3.out⟩
theorem NtsAt.base {lo lo' : Nat} {w : World} {v : Value} {ys : List NV} (h : NtsAt lo w v ys) (hl : lo' ≤ lo) : NtsAt lo' w v ys :=
  ⟨h.own, fun k hk => Nat.le_trans hl (h.far k hk), fun x hx => ⟨(h.dat x hx).1.base hl, (h.dat x hx).2⟩, h.apart⟩
theorem RS.old {w : World} {A : Option Addr} {n c : Nat} {xs : List UInt8} (h : RS w A n c xs) (h0 : 0 < n) (k off : Nat) (e : A = some ⟨k, off, Option.none⟩) : k < w.heap.size := by
  obtain ⟨b', o', e', hl, _⟩ := h.rb.cells h0
  rw [e'] at e
  cases e
  exact hl
theorem bk_notes (A : Option Addr) (n c : Nat) (xs : List UInt8) (w : World) (hrs : RS w A n c xs) (hn : n ≤ 1000000) :
    Calls Try.prog 14 #[.slice A n c] w (IsNts xs w) := by
  have hb := below_new w (.cells #[.slice A n c] 23)
  have hc : (w.alloc (.cells #[.slice A n c] 23)).cell? ⟨w.heap.size, 0, none⟩ = some (.slice A n c) := by
    simp
  have hq := Lib.hid (bk_collect w.heap.size A n c xs _ hc (hrs.below hb) (fun h0 k off e => by have := hrs.old h0 k off e; simp; omega) hn)
  have HB := Lib.hid hb
  clear hrs hn hb hc
  go_enter Try.func14, Try.ntmps14
  go_wp2_with fail
  refine (bk_records A n c w).mono ?_
  rintro e w0 ⟨rfl, rfl⟩
  go_wp2_with fail
  refine hq.out.mono ?_
  rintro e w1 ⟨v, ys, rfl, h1, h2, h3⟩
  have H2 := Lib.hid h2
  have H3 := Lib.hid h3
  clear h2 h3
  go_wp2_with fail
  go_ret
  exact ⟨v, ys, rfl, h1, H2.out.base (by simp), below_step HB.out H3.out⟩
end Go.Proofs.Ytafpkfnegfjohaa
