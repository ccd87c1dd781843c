/- Lines and crossings that came in. -/
import Derived.Test.YteeocmkaecoeiaaDoorCfgCheck
import Derived.Test.YteeocmkaecoeiaaDoorOpenE
import Derived.Laws.IdiomArrays
namespace Go.Proofs.YteeocmkaecoeiaaDoor
open Go.RowKit Go.ChangeShapes Go.WideShapes Go.Deep
set_option linter.unusedVariables false
set_option linter.unusedSimpArgs false
abbrev IsLns (w : World) (A : Option Addr) (n c : Nat) : Prop := IsE lnc w A n c
def wfI (n : Int) : Prop := (Lit.int .i64 n).wf = true
section
variable {H : Type} {enc : TypeId × Value → H} {w : World} {base : Nat} {spare : Nat → Bool} {held : Bool}
set_option maxRecDepth 100000 in
theorem trod_ln (n : Nat) (cs : List Value) (y : DataW H × List MemPlace)
    (h : DataW.trod enc Tryd.prog w base spare held n 48 cs = some y) : ∃ x : Ln, cs = lnc x ∧ wfI x.strike ∧ wfI x.signal ∧ wfI x.s0 ∧ wfI x.s1 ∧ wfI x.s2 := by
  obtain ⟨xs, m, _, _, hcl, hxl, hf⟩ := DataW.trod_struct Tryd.underlying48 h
  have hc5 : Tryd.prog.cellsOf 48 = 5 := by kernel_rfl
  have hc3 : Tryd.prog.cellsOf 46 = 3 := by kernel_rfl
  have hc1 : Tryd.prog.cellsOf 3 = 1 := by kernel_rfl
  rw [hc5] at hcl
  match cs, hcl, xs, hxl with
  | [c0, c1, c2, c3, c4], _, [y0, y1, y2], _ =>
    have h0 : DataW.trod enc Tryd.prog w base spare held m 3 (([c0, c1, c2, c3, c4].drop 0).take (Tryd.prog.cellsOf 3)) = some y0 := hf 0 _ rfl
    have h1 : DataW.trod enc Tryd.prog w base spare held m 3 (([c0, c1, c2, c3, c4].drop 1).take (Tryd.prog.cellsOf 3)) = some y1 := hf 1 _ rfl
    have h2 : DataW.trod enc Tryd.prog w base spare held m 46 (([c0, c1, c2, c3, c4].drop 2).take (Tryd.prog.cellsOf 46)) = some y2 := hf 2 _ rfl
    rw [hc1] at h0 h1
    rw [hc3] at h2
    obtain ⟨n0, e0, _, w0⟩ := DataW.trod_int Tryd.underlying3 h0
    obtain ⟨n1, e1, _, w1⟩ := DataW.trod_int Tryd.underlying3 h1
    obtain ⟨z0, z1, z2, m2, _, g0, g1, g2⟩ := trod_array3 Tryd.underlying46 hc1 h2
    obtain ⟨n2, e2, _, w2⟩ := DataW.trod_int Tryd.underlying3 g0
    obtain ⟨n3, e3, _, w3⟩ := DataW.trod_int Tryd.underlying3 g1
    obtain ⟨n4, e4, _, w4⟩ := DataW.trod_int Tryd.underlying3 g2
    cases e0; cases e1; cases e2; cases e3; cases e4
    exact ⟨⟨n0, n1, n2, n3, n4⟩, rfl, w0, w1, w2, w3, w4⟩
theorem trod_ln0 (n : Nat) (cs : List Value) (y : DataW H × List MemPlace)
    (h : DataW.trod enc Tryd.prog w base spare held n 48 cs = some y) : ∃ x : Ln, cs = lnc x := (trod_ln n cs y h).elim fun x h => ⟨x, h.1⟩
def tmc (t : Tm) : List Value := (cfa none 0 0 t).toList.drop 1
set_option maxRecDepth 100000 in
theorem trod_tm (n : Nat) (cs : List Value) (y : DataW H × List MemPlace)
    (h : DataW.trod enc Tryd.prog w base spare held n 24 cs = some y) : ∃ t : Tm, cs = tmc t := by
  obtain ⟨xs, m, _, _, hcl, hxl, hf⟩ := DataW.trod_struct Tryd.underlying24 h
  have hc10 : Tryd.prog.cellsOf 24 = 10 := by kernel_rfl
  have hc1 : Tryd.prog.cellsOf 3 = 1 := by kernel_rfl
  rw [hc10] at hcl
  match cs, hcl, xs, hxl with
  | [c0, c1, c2, c3, c4, c5, c6, c7, c8, c9], _, [y0, y1, y2, y3, y4, y5, y6, y7, y8, y9], _ =>
    have hone : ∀ (k : Nat) (c : Value) (yk : DataW H × List MemPlace), DataW.trod enc Tryd.prog w base spare held m 3 [c] = some yk → ∃ i : Int, c = .int .i64 i := fun k c yk h => by
      obtain ⟨i, e, _, _⟩ := DataW.trod_int Tryd.underlying3 h
      cases e
      exact ⟨i, rfl⟩
    have h0 : DataW.trod enc Tryd.prog w base spare held m 3 (([c0, c1, c2, c3, c4, c5, c6, c7, c8, c9].drop 0).take (Tryd.prog.cellsOf 3)) = some y0 := hf 0 _ rfl
    rw [hc1] at h0
    obtain ⟨n0, e0⟩ := hone 0 _ _ h0
    have h1 : DataW.trod enc Tryd.prog w base spare held m 3 (([c0, c1, c2, c3, c4, c5, c6, c7, c8, c9].drop 1).take (Tryd.prog.cellsOf 3)) = some y1 := hf 1 _ rfl
    rw [hc1] at h1
    obtain ⟨n1, e1⟩ := hone 1 _ _ h1
    have h2 : DataW.trod enc Tryd.prog w base spare held m 3 (([c0, c1, c2, c3, c4, c5, c6, c7, c8, c9].drop 2).take (Tryd.prog.cellsOf 3)) = some y2 := hf 2 _ rfl
    rw [hc1] at h2
    obtain ⟨n2, e2⟩ := hone 2 _ _ h2
    have h3 : DataW.trod enc Tryd.prog w base spare held m 3 (([c0, c1, c2, c3, c4, c5, c6, c7, c8, c9].drop 3).take (Tryd.prog.cellsOf 3)) = some y3 := hf 3 _ rfl
    rw [hc1] at h3
    obtain ⟨n3, e3⟩ := hone 3 _ _ h3
    have h4 : DataW.trod enc Tryd.prog w base spare held m 3 (([c0, c1, c2, c3, c4, c5, c6, c7, c8, c9].drop 4).take (Tryd.prog.cellsOf 3)) = some y4 := hf 4 _ rfl
    rw [hc1] at h4
    obtain ⟨n4, e4⟩ := hone 4 _ _ h4
    have h5 : DataW.trod enc Tryd.prog w base spare held m 3 (([c0, c1, c2, c3, c4, c5, c6, c7, c8, c9].drop 5).take (Tryd.prog.cellsOf 3)) = some y5 := hf 5 _ rfl
    rw [hc1] at h5
    obtain ⟨n5, e5⟩ := hone 5 _ _ h5
    have h6 : DataW.trod enc Tryd.prog w base spare held m 3 (([c0, c1, c2, c3, c4, c5, c6, c7, c8, c9].drop 6).take (Tryd.prog.cellsOf 3)) = some y6 := hf 6 _ rfl
    rw [hc1] at h6
    obtain ⟨n6, e6⟩ := hone 6 _ _ h6
    have h7 : DataW.trod enc Tryd.prog w base spare held m 3 (([c0, c1, c2, c3, c4, c5, c6, c7, c8, c9].drop 7).take (Tryd.prog.cellsOf 3)) = some y7 := hf 7 _ rfl
    rw [hc1] at h7
    obtain ⟨n7, e7⟩ := hone 7 _ _ h7
    have h8 : DataW.trod enc Tryd.prog w base spare held m 3 (([c0, c1, c2, c3, c4, c5, c6, c7, c8, c9].drop 8).take (Tryd.prog.cellsOf 3)) = some y8 := hf 8 _ rfl
    rw [hc1] at h8
    obtain ⟨n8, e8⟩ := hone 8 _ _ h8
    have h9 : DataW.trod enc Tryd.prog w base spare held m 3 (([c0, c1, c2, c3, c4, c5, c6, c7, c8, c9].drop 9).take (Tryd.prog.cellsOf 3)) = some y9 := hf 9 _ rfl
    rw [hc1] at h9
    obtain ⟨n9, e9⟩ := hone 9 _ _ h9
    subst e0 e1 e2 e3 e4 e5 e6 e7 e8 e9
    exact ⟨⟨n0, n1, n2, n3, n4, n5, n6, n7, n8, n9⟩, rfl⟩
set_option maxRecDepth 100000 in
theorem trod_cf (n : Nat) (cs : List Value) (y : DataW H × List MemPlace)
    (h : DataW.trod enc Tryd.prog w base spare held n 26 cs = some y) : ∃ A k c t, cs = (cfa A k c t).toList ∧ IsLns w A k c := by
  obtain ⟨xs, m, _, _, hcl, hxl, hf⟩ := DataW.trod_struct Tryd.underlying26 h
  have hc11 : Tryd.prog.cellsOf 26 = 11 := by kernel_rfl
  have hc10 : Tryd.prog.cellsOf 24 = 10 := by kernel_rfl
  have hc1 : Tryd.prog.cellsOf 22 = 1 := by kernel_rfl
  rw [hc11] at hcl
  match cs, hcl, xs, hxl with
  | [s0, c0, c1, c2, c3, c4, c5, c6, c7, c8, c9], _, [y0, y1], _ =>
    have h0 : DataW.trod enc Tryd.prog w base spare held m 22 (([s0, c0, c1, c2, c3, c4, c5, c6, c7, c8, c9].drop 0).take (Tryd.prog.cellsOf 22)) = some y0 := hf 0 _ rfl
    have h1 : DataW.trod enc Tryd.prog w base spare held m 24 (([s0, c0, c1, c2, c3, c4, c5, c6, c7, c8, c9].drop 1).take (Tryd.prog.cellsOf 24)) = some y1 := hf 1 _ rfl
    rw [hc1] at h0
    rw [hc10] at h1
    obtain ⟨t, e1⟩ := trod_tm _ _ _ h1
    obtain ⟨A, k, c, e0⟩ : ∃ A k c, s0 = .slice A k c := by
      rcases open_slice Tryd.underlying22 h0 with ⟨h0, _⟩ | ⟨a, l, c, m, n, D, Pl, hcs, _⟩
      · exact ⟨_, _, _, (List.cons.inj h0).1⟩
      · exact ⟨_, _, _, (List.cons.inj hcs).1⟩
    subst e0
    refine ⟨A, k, c, t, ?_, open_es lnc_len (by omega) Tryd.underlying22 (by kernel_rfl) trod_ln0 h0⟩
    show .slice A k c :: [c0, c1, c2, c3, c4, c5, c6, c7, c8, c9] = .slice A k c :: tmc t
    rw [← e1]; rfl
/-- A crossing that came in. -/
theorem open_cf {cs : Array Value} {d : DataW H} {p : List MemPlace} (h : DataW.Trod enc Tryd.prog w base spare held 26 (.agg cs) d p) : ∃ A k c t, cs = cfa A k c t ∧ IsLns w A k c := by
  obtain ⟨fuel, hf⟩ := h
  obtain ⟨A, k, c, t, e, hi⟩ := trod_cf _ _ _ (by simpa [Value.cells] using hf)
  exact ⟨A, k, c, t, by cases cs; simp at e; rw [e], hi⟩
/-- A line that came in. -/
theorem open_ln {cs : Array Value} {d : DataW H} {p : List MemPlace} (h : DataW.Trod enc Tryd.prog w base spare held 48 (.agg cs) d p) : ∃ x : Ln, cs = (lnc x).toArray ∧ wfI x.strike ∧ wfI x.signal ∧ wfI x.s0 ∧ wfI x.s1 ∧ wfI x.s2 := by
  obtain ⟨fuel, hf⟩ := h
  obtain ⟨x, e, hi⟩ := trod_ln _ _ _ (by simpa [Value.cells] using hf)
  exact ⟨x, by cases cs; simp at e; rw [e], hi⟩
end
end Go.Proofs.YteeocmkaecoeiaaDoor
