/- The document's Last. -/
import Derived.Test.YtafpkfnegfjohaaBkRefW
namespace Go.Proofs.Ytafpkfnegfjohaa
open Go Go.RowKit Go.Shelf
set_option linter.unusedVariables false
set_option linter.unusedSimpArgs false
theorem NtsAt.push_last {lo : Nat} {w : World} {v : Value} {ys : List NV} {x : NV} (h : NtsAt lo w v (ys ++ [x])) : DatIs lo w x.A x.c x.nt.dat := (h.dat x (by simp)).1
set_option maxHeartbeats 4000000 in
set_option maxRecDepth 100000 in
theorem rf_last (A : Option Addr) (n c : Nat) (xs : List UInt8) (w : World) (hrs : RS w A n c xs) (hn : n ≤ 1000000) :
    Calls Try.prog 18 #[.slice A n c] w (IsLst (bkNotes xs).getLast? w) := by
  have hB0 := below_new w (.cells (nta 0 none 0 0 0) 33)
  have HN0 := Lib.hid (show _ = some (Obj.cells (nta 0 none 0 0 0) _ (0, 0)) from heap_alloc_new w (.cells (nta 0 none 0 0 0) 33))
  have HC := Lib.hid (rf_notes A n c xs _ (hrs.below hB0) hn)
  have HB0 := Lib.hid hB0
  have HF := Lib.hid (Nat.le_trans (bkAll_few xs.length none 0 xs (Nat.le_refl _)) (by rw [hrs.len]; exact hn) : (bkNotes xs).length ≤ 1000000)
  clear hrs hn hB0
  go_enter Try.func18, Try.ntmps18
  go_wp2_with fail
  refine HC.out.mono ?_
  rintro e w1 ⟨v, ys, rfl, hys, hnt, hb1⟩
  have HYS := Lib.hid hys
  have HNT := Lib.hid hnt
  have HB1 := Lib.hid hb1
  have hfew : ys.length ≤ 1000000 := by have := HF.out; rw [← hys, List.length_map] at this; exact this
  have hn1 := (hb1.block _ (Array.getElem?_eq_some_iff.mp HN0.out).1).trans HN0.out
  have m0 : w1.cell? ⟨w.heap.size, 0, none⟩ = some (.int .u32 0) := by simp [World.cell?, hn1]
  have m1 : w1.cell? ⟨w.heap.size, 1, none⟩ = some (.slice none 0 0) := by simp [World.cell?, hn1]
  have m2 : w1.cell? ⟨w.heap.size, 2, none⟩ = some (.int .i64 0) := by simp [World.cell?, hn1]
  have mf : ∀ i, w1.frozen? ⟨w.heap.size, i, none⟩ = false := fun i => by simp [World.frozen?, hn1]
  have HN1 := Lib.hid hn1
  have hws : w.heap.size < w1.heap.size := (Array.getElem?_eq_some_iff.mp hn1).1
  rcases List.eq_nil_or_concat ys with rfl | ⟨zs, z, rfl⟩
  · obtain ⟨A3, c3, rfl, _⟩ := hnt.own.re (by omega)
    have HNX := Lib.hid (nt_set hn1 0 none 0 0 0)
    clear hys hnt hb1 hn1
    go_wp2_with fail
    change bodyPost _ _ _ _ _ (w1.setCells w.heap.size 0 (nta 0 none 0 0 0).toList)
    refine bodyPost_ret (results_cell_tmp_row rfl _ _ w.heap.size _ _ _ _ _ rfl rfl HNX.out rfl Try.underlying33 (by kernel_rfl)) rfl ?_
    rw [← HYS.out]
    exact ⟨rfl, (below_step HB0.out HB1.out).trans ((fr_setCells (F := fun i => i = w.heap.size) w.heap.size rfl (nta 0 none 0 0 0).toList 0 w1).below w.heap.size (by omega) (fun i e => by omega))⟩
  · rw [List.concat_eq_append] at *
    rw [List.length_append, List.length_singleton] at hfew
    obtain ⟨g, c9, rfl, hg9, hr9⟩ := nts_last hnt (by omega)
    have hgw : w.heap.size + 1 ≤ g := by have := hnt.far g rfl; simpa using this
    have z0 : w1.cell? ⟨g, zs.length * 3, none⟩ = some (.int .u32 z.nt.seq) := hr9 0 _ rfl
    have z1 : w1.cell? ⟨g, zs.length * 3 + 1, none⟩ = some (.slice z.A z.nt.dat.length z.c) := hr9 1 _ rfl
    have z2 : w1.cell? ⟨g, zs.length * 3 + 2, none⟩ = some (.int .i64 z.nt.fin) := hr9 2 _ rfl
    have HNX := Lib.hid (nt_set hn1 z.nt.seq z.A z.nt.dat.length z.c z.nt.fin)
    have HD := Lib.hid (hnt.push_last)
    have HYS2 := Lib.hid (show (bkNotes xs).getLast? = some z.nt by rw [← HYS.out]; simp)
    clear hys hnt hb1 hn1 hr9 HYS HNT
    generalize zs.length = mz at *
    have hp0 : ((mz : Int) + 1 == 0) = false := by simp; omega
    have hp1 : (mz : Int) < (mz : Int) + 1 := by omega
    have ew3 : IntKind.i64.wrap (mz : Int) = mz := by simp [IntKind.wrap, IntKind.bits, IntKind.signed]; omega
    go_wp2_with fail
    change bodyPost _ _ _ _ _ (w1.setCells w.heap.size 0 (nta z.nt.seq z.A z.nt.dat.length z.c z.nt.fin).toList)
    have hfr := fr_setCells (F := fun i => i = w.heap.size) w.heap.size rfl (nta z.nt.seq z.A z.nt.dat.length z.c z.nt.fin).toList 0 w1
    refine bodyPost_ret (results_cell_tmp_row rfl _ _ w.heap.size _ _ _ _ _ rfl rfl HNX.out rfl Try.underlying33 (by kernel_rfl)) rfl ?_
    rw [HYS2.out]
    refine ⟨z.A, z.c, rfl, (HD.out.fr hfr (fun k o e e2 => ?_)).base (by simp), (below_step HB0.out HB1.out).trans (hfr.below w.heap.size (by omega) (fun i e => by omega))⟩
    have := HD.out.blk k o e
    simp at this
    omega
end Go.Proofs.Ytafpkfnegfjohaa
