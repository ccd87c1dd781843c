/- wheel: Tick. -/
import Derived.Test.YtpfoocndohpbbaaDoorWhSort
import Derived.Test.YtpfoocndohpbbaaDoorWhSink
import Derived.Deep.CutBlock
namespace Go.Proofs.YtpfoocndohpbbaaDoor
open Go Go.RowKit
set_option linter.unusedVariables false
set_option linter.unusedSimpArgs false
theorem lays_mem (q : Nat → Nat × Nat) (P : Nat) : ∀ (ks : List Nat) (s : Slots), (∀ l i, ∀ k ∈ s l i, k < P) → (∀ k ∈ ks, k < P) → ∀ l i, ∀ k ∈ lays q s ks l i, k < P := by
  intro ks
  induction ks with
  | nil => intro s h _; exact h
  | cons x ks ih =>
    intro s h hk
    refine ih _ (fun l i k hm => ?_) (fun k hm => hk k (by simp [hm]))
    unfold up at hm
    split at hm
    · rcases List.mem_append.1 hm with h1 | h1
      · exact h _ _ k h1
      · rw [List.mem_singleton.1 h1]; exact hk x (by simp)
    · exact h l i k hm
theorem sink_mem (q : Nat → Nat × Nat) (P : Nat) (s : Slots) (l0 i0 : Nat) (h : ∀ l i, ∀ k ∈ s l i, k < P) : ∀ l i, ∀ k ∈ sinkS q s l0 i0 l i, k < P := by
  refine lays_mem q P _ _ (fun l i k hm => ?_) (fun k hm => h _ _ k hm)
  unfold up at hm
  split at hm
  · cases hm
  · exact h l i k hm
theorem sink_len (q : Nat → Nat × Nat) (s : Slots) (l0 i0 : Nat) (N M : Nat) (h : ∀ l i, (s l i).length ≤ N) (hM : 2 * N ≤ M) : ∀ l i, (sinkS q s l0 i0 l i).length ≤ M := fun l i => by
  refine Nat.le_trans (lays_len q _ _ l i) ?_
  have h1 := h l0 i0
  have h2 : (up s l0 i0 [] l i).length ≤ N := by
    unfold up
    split
    · exact Nat.zero_le _
    · exact h l i
  omega
theorem low_dig (n : Nat) : (low n = 0 ∧ n % 64 ≠ 0) ∨ (low n = 1 ∧ n % 64 = 0 ∧ n / 64 % 64 ≠ 0) ∨ (low n = 2 ∧ n % 64 = 0 ∧ n / 64 % 64 = 0 ∧ n / 4096 % 64 ≠ 0) ∨ (low n = 3 ∧ n % 64 = 0 ∧ n / 64 % 64 = 0 ∧ n / 4096 % 64 = 0) := by
  unfold low
  by_cases h0 : n % 64 ≠ 0
  · exact .inl ⟨if_pos h0, h0⟩
  · by_cases h1 : n / 64 % 64 ≠ 0
    · exact .inr (.inl ⟨by rw [if_neg h0, if_pos h1], by omega, h1⟩)
    · by_cases h2 : n / 4096 % 64 ≠ 0
      · exact .inr (.inr (.inl ⟨by rw [if_neg h0, if_neg h1, if_pos h2], by omega, by omega, h2⟩))
      · exact .inr (.inr (.inr ⟨by rw [if_neg h0, if_neg h1, if_neg h2], by omega, by omega, by omega⟩))
theorem sinkAll_mem (q : Nat → Nat × Nat) (P n : Nat) (s : Slots) (h : ∀ l i, ∀ k ∈ s l i, k < P) : ∀ l i, ∀ k ∈ sinkAll q n s l i, k < P := by
  unfold sinkAll
  split
  · exact h
  · split
    · exact sink_mem q P _ _ _ h
    · split
      · exact sink_mem q P _ _ _ (sink_mem q P _ _ _ h)
      · exact sink_mem q P _ _ _ (sink_mem q P _ _ _ (sink_mem q P _ _ _ h))
theorem sinkAll_len (q : Nat → Nat × Nat) (n : Nat) (s : Slots) (h : ∀ l i, (s l i).length ≤ 64) : ∀ l i, (sinkAll q n s l i).length ≤ 512 := by
  unfold sinkAll
  split
  · exact fun l i => Nat.le_trans (h l i) (by decide)
  · split
    · exact sink_len q _ _ _ 64 512 h (by omega)
    · split
      · exact sink_len q _ _ _ 128 512 (sink_len q _ _ _ 64 128 h (by omega)) (by omega)
      · exact sink_len q _ _ _ 256 512 (sink_len q _ _ _ 128 256 (sink_len q _ _ _ 64 128 h (by omega)) (by omega)) (by omega)
theorem outs_snoc (ks : List Nat) (k : Nat) : ∀ pool : List Tw, outs pool (ks ++ [k]) = (outs pool ks).set k { ((outs pool ks)[k]?.getD ⟨false, 0, 0, 0⟩) with armed := false } := by
  induction ks with
  | nil => intro pool; rfl
  | cons j ks ih => intro pool; exact ih _
def tagOf (pool : List Tw) (k : Nat) : Int := (pool[k]?.map (·.tag)).getD 0
def ordOf (pool : List Tw) (k : Nat) : Nat := (pool[k]?.map (·.ord)).getD 0
theorem outs_tag (pool : List Tw) (ks : List Nat) (k : Nat) : tagOf (outs pool ks) k = tagOf pool k := by
  unfold tagOf
  rw [outs_get]
  split
  · cases pool[k]? <;> rfl
  · rfl
def ki (n : Int) : List Value := [.int .i64 n]
theorem ki_len (n : Int) : (ki n).length = 1 := rfl
theorem ki_one (n : Int) : ∀ v ∈ ki n, v.oneCell' = true := by
  intro v hv
  simp only [ki, List.mem_singleton] at hv
  subst hv
  rfl
theorem kiT : ElT Tryd.prog 39 3 1 8 (.int .i64 0) := ⟨Tryd.underlying39, by kernel_rfl, rfl, by omega⟩
/-- How far the loop over what is due has come. -/
structure TL (w : World) (g gp P : Nat) (sv sv2 : Nat → Value) (cs2 : Array Value) (pool : List Tw) (s2 : Slots) (n cnt B : Nat) (v5 : Value) (ys : List Nat) (v6 : Value) (j : Nat) (wr : World) : Prop where
  x : WhX wr g gp P (outs pool (ys.take j)) s2 n cnt sv2 cs2
  fr : Fr (foot g gp sv) w wr
  box : wr.cell? ⟨B, 0, none⟩ = some (.pointer (some ⟨g, 0, none⟩))
  row : OwnE kc 1 3 wr v5 ys
  tags : OwnE ki 1 3 wr v6 ((ys.take j).map (tagOf pool))
  new : ∀ b, v6.ownBlock = some b → w.heap.size ≤ b ∧ b ≠ B ∧ v5.ownBlock ≠ some b ∧ ¬ foot g gp sv2 b
theorem TL.next {w wr w9 w2 : World} {g gp P : Nat} {sv sv2 : Nat → Value} {cs2 : Array Value} {pool : List Tw} {s2 : Slots} {n cnt B : Nat} {v5 v6 v2 : Value} {ys : List Nat} {j k : Nat} (h : TL w g gp P sv sv2 cs2 pool s2 n cnt B v5 ys v6 j wr)
    (hB2 : ¬ foot g gp sv2 B) (h52 : ∀ b, v5.ownBlock = some b → ¬ foot g gp sv2 b ∧ b ≠ B) (hl : pool.length = P) (hj : j < ys.length) (hk : ys[j] = k) (hkP : k < P) (o : Obj)
    (hw : w9 = (wr.setCell ⟨gp, k * 4, none⟩ (.bool false)).alloc o)
    (hown : OwnE ki 1 3 w2 v2 ((ys.take j).map (tagOf pool) ++ [tagOf pool k])) (hg : w9.grownBy w2 v6.ownBlock) (hf : ∀ b, v2.ownBlock = some b → v6.ownBlock = some b ∨ w9.heap.size ≤ b) :
    TL w g gp P sv sv2 cs2 pool s2 n cnt B v5 ys v2 (j + 1) w2 := by
  have hlo : (outs pool (ys.take j)).length = P := by rw [outs_len]; exact hl
  obtain ⟨t, ht⟩ : ∃ t, (outs pool (ys.take j))[k]? = some t := ⟨_, List.getElem?_eq_getElem (by rw [hlo]; exact hkP)⟩
  obtain ⟨hx8, hf8⟩ := h.x.off k hkP t ht
  have htk : ys.take (j + 1) = ys.take j ++ [k] := by rw [← hk]; exact List.take_succ_eq_append_getElem hj
  have ho : outs pool (ys.take (j + 1)) = (outs pool (ys.take j)).set k { t with armed := false } := by rw [htk, outs_snoc, ht]; rfl
  have hgp : foot g gp sv2 gp := .inr (.inl rfl)
  have hs8 : (wr.setCell ⟨gp, k * 4, none⟩ (.bool false)).heap.size = wr.heap.size := by simp
  have hb9 := below_new (wr.setCell ⟨gp, k * 4, none⟩ (.bool false)) o
  rw [← hw] at hb9
  have hx9 := hx8.below hb9
  have hfg := Fr.ofGrown hg
  have hv6 : ∀ b, foot g gp sv2 b → ¬ (some b = v6.ownBlock) := fun b hb e => (h.new b e.symm).2.2.2 hb
  have hsz8 := hs8
  have hsz9 := hb9.size
  have hsw := h.fr.size
  have hBl : B < wr.heap.size := World.block_lt_of_cell? wr _ h.box
  have hBgp : B ≠ gp := fun e => hB2 (by rw [e]; exact hgp)
  refine ⟨?_, ?_, ?_, ?_, ?_, ?_⟩
  · rw [ho]
    exact hx9.fr hfg hv6
  · refine ((h.fr.trans hf8 (fun b e => .inl (by rw [e]; exact .inr (.inl rfl)))).trans (Fr.ofBelow hb9 (fun _ => False)) (fun _ e => e.elim)).trans hfg (fun b e => .inr (h.new b e.symm).1)
  · rw [hfg.cell (p := ⟨B, 0, none⟩) (by show B < _; omega) (fun e => (h.new B e.symm).2.1 rfl), hb9.cell (p := ⟨B, 0, none⟩) (by show B < _; omega), World.cell?_setCell_far _ _ _ _ (fun e => hBgp e.symm)]
    exact h.box
  · refine ((h.row.fr hf8 (fun b hb e => (h52 b hb).1 (by rw [e]; exact hgp))).fr (Fr.ofBelow hb9 (fun _ => False)) (fun _ _ e => e)).fr hfg (fun b hb e => (h.new b e.symm).2.2.1 hb)
  · rw [htk, List.map_append]
    exact hown
  · intro b hb
    rcases hf b hb with h1 | h1
    · exact h.new b h1
    · have hfl := hx9.lt
      refine ⟨by omega, by omega, fun e => ?_, fun e => ?_⟩
      · have := h.row.lt b e; omega
      · have := hfl b e; omega
/-- What a Tick leaves. -/
structure IsTick (w : World) (g gp P : Nat) (sv : Nat → Value) (pool : List Tw) (s : Slots) (n cnt : Nat) (e : Ending) (w' : World) : Prop where
  ex : ∃ v ys sv' cs', e = .returned v ∧ ys.Perm (sinkAll (qof pool n) n s 0 (n % 64)) ∧ ys.Pairwise (fun a b => ordOf pool a ≤ ordOf pool b) ∧ WhX w' g gp P (outs pool ys) (up (sinkAll (qof pool n) n s) 0 (n % 64) []) n cnt sv' cs' ∧ (∀ b, foot g gp sv' b → foot g gp sv b ∨ w.heap.size ≤ b) ∧
    OwnE ki 1 3 w' v (ys.map (tagOf pool)) ∧ (∀ b, v.ownBlock = some b → w.heap.size ≤ b ∧ ¬ foot g gp sv' b)
  fr : Fr (foot g gp sv) w w'
/-- How far a Tick has come. -/
structure TK (w : World) (g gp P : Nat) (sv : Nat → Value) (pool : List Tw) (s : Slots) (n cnt B : Nat) (wx : World) : Prop where
  ex : ∃ sv' cs', WhX wx g gp P pool s n cnt sv' cs' ∧ (∀ b, foot g gp sv' b → foot g gp sv b ∨ w.heap.size ≤ b) ∧ ¬ foot g gp sv' B
  fr : Fr (foot g gp sv) w wx
  box : wx.cell? ⟨B, 0, none⟩ = some (.pointer (some ⟨g, 0, none⟩))
theorem TK.sink {w wx wy : World} {g gp P : Nat} {sv sv' : Nat → Value} {pool : List Tw} {s' : Slots} {n cnt B : Nat} (hf : Fr (foot g gp sv) w wx) (hft : ∀ b, foot g gp sv' b → foot g gp sv b ∨ w.heap.size ≤ b) (hno : ¬ foot g gp sv' B) (hbx : wx.cell? ⟨B, 0, none⟩ = some (.pointer (some ⟨g, 0, none⟩))) (h : WhTo wx wy g gp P sv' pool s' n cnt) : TK w g gp P sv pool s' n cnt B wy := by
  obtain ⟨⟨sv2, cs2, hx2, hft2⟩, hfr2⟩ := h
  have hlt := World.block_lt_of_cell? wx _ hbx
  have hsz := hf.size
  refine ⟨⟨sv2, cs2, hx2, fun b hb => (hft2 b hb).elim (hft b) (fun h1 => .inr (by omega)), fun hb => (hft2 B hb).elim hno (fun h1 => by have h2 : B < wx.heap.size := hlt; omega)⟩, hf.trans hfr2 (fun b hb => hft b hb), (hfr2.cell (p := ⟨B, 0, none⟩) hlt hno).trans hbx⟩
set_option maxHeartbeats 16000000 in
set_option maxRecDepth 100000 in
theorem wh_tick (g gp P : Nat) (pool : List Tw) (s : Slots) (now cnt n : Nat) (hnn : n = now + 1) (sv : Nat → Value) (cs : Array Value) (w : World) (h : WhX w g gp P pool s now cnt sv cs) (hn : n ≤ 1000000000) (hat : ∀ t ∈ pool, t.at_ ≤ 2000000000) (hlen : ∀ l i, (s l i).length ≤ 64) (hmem : ∀ l i, ∀ k ∈ s l i, k < P) (hord : ∀ t ∈ pool, t.ord ≤ 2000000000) :
    Calls Tryd.prog 17 #[.pointer (some ⟨g, 0, none⟩)] w (IsTick w g gp P sv pool s n cnt) := by
  have ew : IntKind.i64.wrap ((now : Int) + 1) = (n : Int) := by simp [IntKind.wrap, IntKind.bits, IntKind.signed]; omega
  have hbn := below_new w (.cells #[.pointer (some ⟨g, 0, none⟩)] 24)
  have hbox : (w.alloc (.cells #[.pointer (some ⟨g, 0, none⟩)] 24)).cell? ⟨w.heap.size, 0, none⟩ = some (.pointer (some ⟨g, 0, none⟩)) := by simp
  have hx1 := h.below hbn
  have hnb : ¬ foot g gp sv w.heap.size := fun hb => by have := h.lt _ hb; omega
  have c1 := hx1.c.cNow
  have cf := hx1.c.free 257
  obtain ⟨hx2, hf2⟩ := hx1.setNow n
  have hgB : g ≠ w.heap.size := by have := h.c.lt; omega
  have htk : TK w g gp P sv pool s n cnt w.heap.size ((w.alloc (.cells #[.pointer (some ⟨g, 0, none⟩)] 24)).setCell ⟨g, 257, none⟩ (.int .i64 n)) :=
    ⟨⟨sv, _, hx2, fun b hb => .inl hb, hnb⟩, (Fr.ofBelow hbn _).trans hf2 (fun b e => .inl (.inl e)), by rw [World.cell?_setCell_far _ _ _ _ (fun e => hgB e)]; exact hbox⟩
  have HTK := Lib.hid htk
  have HAT := Lib.hid hat
  have HLEN := Lib.hid hlen
  have HMEM := Lib.hid hmem
  have HORD := Lib.hid hord
  have HLP := Lib.hid h.len
  have HP := Lib.hid h.few
  have HW := Lib.hid (show ∀ b, foot g gp sv b → b < w.heap.size from h.lt)
  clear hord
  have hdig := low_dig n
  have v0 : IntKind.i64.wrap 0 = 0 := by decide
  have HNN := Lib.hid hnn
  clear hnn
  clear hbn hx1 hx2 hf2 htk hnb hat hlen hmem h hgB
  obtain ⟨i0, hi0⟩ : ∃ i0 : Nat, i0 = n % 64 := ⟨_, rfl⟩
  have t0 : (n : Int).tmod 64 = (i0 : Int) := by rw [hi0, Int.tmod_eq_emod_of_nonneg (by omega)]; simp
  have HI0 := Lib.hid hi0
  have hi64 : (i0 : Int) < 64 := by omega
  go_enter Tryd.func17, Tryd.ntmps17
  go_upto_block 0 with fail
  change Code.wp _ _ _ _ ((w.alloc (.cells #[.pointer (some ⟨g, 0, none⟩)] 24)).setCell ⟨g, 257, none⟩ (.int .i64 n))
  generalize (w.alloc (.cells #[.pointer (some ⟨g, 0, none⟩)] 24)).setCell ⟨g, 257, none⟩ (.int .i64 n) = w2 at *
  obtain ⟨B, hB⟩ : ∃ B, B = w.heap.size := ⟨_, rfl⟩
  rw [← hB] at HTK ⊢
  have HB := Lib.hid hB
  have hbx := HTK.out.box
  have cn : w2.cell? ⟨g, 257, none⟩ = some (.int .i64 n) := by obtain ⟨_, _, hx, _⟩ := HTK.out.ex; exact hx.c.cNow
  clear hB c1 cf hbox hi0
  obtain ⟨i1, hi1⟩ : ∃ i1 : Nat, i1 = n / 64 % 64 := ⟨_, rfl⟩
  have t1 : ((n : Int) / 64).tmod 64 = (i1 : Int) := by rw [hi1, Int.tmod_eq_emod_of_nonneg (by omega)]; simp
  obtain ⟨i2, hi2⟩ : ∃ i2 : Nat, i2 = n / 4096 % 64 := ⟨_, rfl⟩
  have t2 : ((n : Int) / 4096).tmod 64 = (i2 : Int) := by rw [hi2, Int.tmod_eq_emod_of_nonneg (by omega)]; simp
  rw [← HI0.out, ← hi1, ← hi2] at hdig
  have HDIG := Lib.hid hdig
  clear hdig hi1 hi2
  go_cut [3] (fun s3 wx => w2 = wx ∧ s3 = .int .i64 ((low n : Nat) : Int))
  case first =>
    rcases HDIG.out with ⟨e0, d0⟩ | ⟨e0, d0, d1⟩ | ⟨e0, d0, d1, d2⟩ | ⟨e0, d0, d1, d2⟩
    · have E0 := Lib.hid e0
      clear e0
      have z0 : ((i0 : Int) == 0) = false := by simp; omega
      go_wp2_with fail
      refine wp_loop_rounds 1 ?_
      rw [rounds_succ]
      go_wp2_with fail
      go_meet
      exact ⟨rfl, by rw [E0.out]; rfl⟩
    · have E0 := Lib.hid e0
      clear e0
      have z1 : ((i1 : Int) == 0) = false := by simp; omega
      subst d0
      go_wp2_with fail
      refine wp_loop_rounds 2 ?_
      rw [rounds_succ]
      go_wp2_with fail
      rw [rounds_succ]
      go_wp2_with fail
      go_meet
      exact ⟨rfl, by rw [E0.out]; rfl⟩
    · have E0 := Lib.hid e0
      clear e0
      have z1 : ((i2 : Int) == 0) = false := by simp; omega
      subst d0
      subst d1
      go_wp2_with fail
      refine wp_loop_rounds 3 ?_
      rw [rounds_succ]
      go_wp2_with fail
      rw [rounds_succ]
      go_wp2_with fail
      rw [rounds_succ]
      go_wp2_with fail
      go_meet
      exact ⟨rfl, by rw [E0.out]; rfl⟩
    · have E0 := Lib.hid e0
      clear e0
      subst d0
      subst d1
      subst d2
      go_wp2_with fail
      refine wp_loop_rounds 4 ?_
      rw [rounds_succ]
      go_wp2_with fail
      rw [rounds_succ]
      go_wp2_with fail
      rw [rounds_succ]
      go_wp2_with fail
      rw [rounds_succ]
      go_wp2_with fail
      go_meet
      exact ⟨rfl, by rw [E0.out]; rfl⟩
  case rest =>
  obtain ⟨rfl, rfl⟩ := hcut
  clear t1 t2 cn
  have hn9 := hn
  obtain ⟨lw, hlw⟩ : ∃ lw, lw = low n := ⟨_, rfl⟩
  rw [← hlw] at HDIG ⊢
  have HLW := Lib.hid hlw
  clear hlw
  go_upto_block 2 with fail
  go_cut [] (fun wx => TK w g gp P sv pool (sinkAll (qof pool n) n s) n cnt B wx)
  case first =>
    have H64 := HLEN.out
    rcases HDIG.out with ⟨e0, d0⟩ | ⟨e0, d0, d1⟩ | ⟨e0, d0, d1, d2⟩ | ⟨e0, d0, d1, d2⟩
    · have HSA := Lib.hid (have e9 : low n = 0 := HLW.out.symm.trans e0; show sinkAll (qof pool n) n s = s from by unfold sinkAll; rw [if_pos e9])
      subst e0
      clear d0
      clear H64
      go_wp2_with fail
      go_meet
      rw [HSA.out]
      exact HTK.out
    · have HSA := Lib.hid (have e9 : low n = 1 := HLW.out.symm.trans e0; show sinkAll (qof pool n) n s = sinkS (qof pool n) s 1 (ixw n 1) from by unfold sinkAll; rw [if_neg (by omega), if_pos e9])
      subst e0
      clear d0 d1
      clear H64
      go_wp2_with fail
      have hb9 := HTK.out.box
      obtain ⟨sv9, cs9, hx9, hft9, hno9⟩ := HTK.out.ex
      refine (wh_sink g gp P pool _ n cnt 1 (by omega) sv9 cs9 _ hx9 (by omega) HAT.out (fun l i => Nat.le_trans (HLEN.out l i) (by decide)) (HMEM.out 1 _)).mono ?_
      rintro e w9 ⟨rfl, hto9⟩
      have hsk := TK.sink HTK.out.fr hft9 hno9 hb9 hto9
      replace HTK := Lib.hid hsk
      have hbx := HTK.out.box
      clear hb9 hx9 hft9 hno9 hto9 hsk
      go_wp2_with fail
      go_meet
      rw [HSA.out]
      exact HTK.out
    · have HSA := Lib.hid (have e9 : low n = 2 := HLW.out.symm.trans e0; show sinkAll (qof pool n) n s = sinkS (qof pool n) (sinkS (qof pool n) s 2 (ixw n 2)) 1 (ixw n 1) from by unfold sinkAll; rw [if_neg (by omega), if_neg (by omega), if_pos e9])
      subst e0
      clear d0 d1 d2
      clear H64
      go_wp2_with fail
      have hb9 := HTK.out.box
      obtain ⟨sv9, cs9, hx9, hft9, hno9⟩ := HTK.out.ex
      refine (wh_sink g gp P pool _ n cnt 2 (by omega) sv9 cs9 _ hx9 (by omega) HAT.out (fun l i => Nat.le_trans (HLEN.out l i) (by decide)) (HMEM.out 2 _)).mono ?_
      rintro e w9 ⟨rfl, hto9⟩
      have hsk := TK.sink HTK.out.fr hft9 hno9 hb9 hto9
      replace HTK := Lib.hid hsk
      have hbx := HTK.out.box
      clear hb9 hx9 hft9 hno9 hto9 hsk
      go_wp2_with fail
      have hb9 := HTK.out.box
      obtain ⟨sv9, cs9, hx9, hft9, hno9⟩ := HTK.out.ex
      refine (wh_sink g gp P pool _ n cnt 1 (by omega) sv9 cs9 _ hx9 (by omega) HAT.out (fun l i => Nat.le_trans (sink_len _ _ _ _ 64 128 HLEN.out (by omega) l i) (by omega)) (sink_mem _ P _ _ _ HMEM.out 1 _)).mono ?_
      rintro e w9 ⟨rfl, hto9⟩
      have hsk := TK.sink HTK.out.fr hft9 hno9 hb9 hto9
      replace HTK := Lib.hid hsk
      have hbx := HTK.out.box
      clear hb9 hx9 hft9 hno9 hto9 hsk
      go_wp2_with fail
      go_meet
      rw [HSA.out]
      exact HTK.out
    · have HSA := Lib.hid (have e9 : low n = 3 := HLW.out.symm.trans e0; show sinkAll (qof pool n) n s = sinkS (qof pool n) (sinkS (qof pool n) (sinkS (qof pool n) s 3 (ixw n 3)) 2 (ixw n 2)) 1 (ixw n 1) from by unfold sinkAll; rw [if_neg (by omega), if_neg (by omega), if_neg (by omega)])
      subst e0
      clear d0 d1 d2
      clear H64
      go_wp2_with fail
      have hb9 := HTK.out.box
      obtain ⟨sv9, cs9, hx9, hft9, hno9⟩ := HTK.out.ex
      refine (wh_sink g gp P pool _ n cnt 3 (by omega) sv9 cs9 _ hx9 (by omega) HAT.out (fun l i => Nat.le_trans (HLEN.out l i) (by decide)) (HMEM.out 3 _)).mono ?_
      rintro e w9 ⟨rfl, hto9⟩
      have hsk := TK.sink HTK.out.fr hft9 hno9 hb9 hto9
      replace HTK := Lib.hid hsk
      have hbx := HTK.out.box
      clear hb9 hx9 hft9 hno9 hto9 hsk
      go_wp2_with fail
      have hb9 := HTK.out.box
      obtain ⟨sv9, cs9, hx9, hft9, hno9⟩ := HTK.out.ex
      refine (wh_sink g gp P pool _ n cnt 2 (by omega) sv9 cs9 _ hx9 (by omega) HAT.out (fun l i => Nat.le_trans (sink_len _ _ _ _ 64 128 HLEN.out (by omega) l i) (by omega)) (sink_mem _ P _ _ _ HMEM.out 2 _)).mono ?_
      rintro e w9 ⟨rfl, hto9⟩
      have hsk := TK.sink HTK.out.fr hft9 hno9 hb9 hto9
      replace HTK := Lib.hid hsk
      have hbx := HTK.out.box
      clear hb9 hx9 hft9 hno9 hto9 hsk
      go_wp2_with fail
      have hb9 := HTK.out.box
      obtain ⟨sv9, cs9, hx9, hft9, hno9⟩ := HTK.out.ex
      refine (wh_sink g gp P pool _ n cnt 1 (by omega) sv9 cs9 _ hx9 (by omega) HAT.out (fun l i => Nat.le_trans (sink_len _ _ _ _ 128 256 (sink_len _ _ _ _ 64 128 HLEN.out (by omega)) (by omega) l i) (by omega)) (sink_mem _ P _ _ _ (sink_mem _ P _ _ _ HMEM.out) 1 _)).mono ?_
      rintro e w9 ⟨rfl, hto9⟩
      have hsk := TK.sink HTK.out.fr hft9 hno9 hb9 hto9
      replace HTK := Lib.hid hsk
      have hbx := HTK.out.box
      clear hb9 hx9 hft9 hno9 hto9 hsk
      go_wp2_with fail
      go_meet
      rw [HSA.out]
      exact HTK.out
  case rest =>
  obtain ⟨⟨sv1, cs1, hx1, hft1, hno1⟩, hfr1, hbx1⟩ := hcut
  have hi0l : i0 < 64 := by omega
  have hmem1 := sinkAll_mem (qof pool n) P n s HMEM.out 0 i0
  have hlen1 := sinkAll_len (qof pool n) n s HLEN.out 0 i0
  obtain ⟨s1, hs1⟩ : ∃ s1, s1 = sinkAll (qof pool n) n s := ⟨_, rfl⟩
  rw [← hs1] at hx1 hmem1 hlen1
  have HS1 := Lib.hid hs1
  clear hs1 HTK hbx
  have hown0 := hx1.r.own 0 i0 (by omega) hi0l
  obtain ⟨As, cap, hsv, _⟩ := hown0.re (by omega)
  have c1 : ∀ w', Below wc.heap.size wc w' → w'.cell? ⟨g, 257, none⟩ = some (.int .i64 n) := fun w' hb => (hx1.below hb).c.cNow
  have c2 : ∀ w', Below wc.heap.size wc w' → w'.cell? ⟨B, 0, none⟩ = some (.pointer (some ⟨g, 0, none⟩)) := fun w' hb => (hb.cell (p := ⟨B, 0, none⟩) (World.block_lt_of_cell? wc _ hbx1)).trans hbx1
  have hd := hx1.below (below_drew1 wc)
  have cS := hd.c.cSlot i0 (by omega)
  rw [show i0 = 0 * 64 + i0 by omega, hsv, show 0 * 64 + i0 = i0 by omega] at cS
  have cF := hd.c.free (1 + i0)
  obtain ⟨sv2, cs2, hx2, hf2, hft2, hno2⟩ := hd.clear 0 i0 (by omega) hi0l (1 + i0) (by omega)
  have hBlt : B < wc.heap.size := World.block_lt_of_cell? wc _ hbx1
  have hBd := c2 _ (below_drew1 wc)
  have hgB : g ≠ B := fun e => hno1 (.inl e.symm)
  have hB6 : (wc.drew.setCell ⟨g, 1 + i0, none⟩ (.slice none 0 0)).cell? ⟨B, 0, none⟩ = some (.pointer (some ⟨g, 0, none⟩)) := by rw [World.cell?_setCell_far _ _ _ _ (fun e => hgB e)]; exact hBd
  have hown6 : OwnE kc 1 3 (wc.drew.setCell ⟨g, 1 + i0, none⟩ (.slice none 0 0)) (.slice As (s1 0 i0).length cap) (s1 0 i0) := by
    rw [← hsv]
    exact (hown0.fr (Fr.ofBelow (below_drew1 wc) (fun _ => False)) (fun _ _ h => h)).fr hf2 (fun b hb e => (hd.r.off _ (by omega) b hb).1 e)
  have hr2 : ∀ b, (Value.slice As (s1 0 i0).length cap).ownBlock = some b → foot g gp sv1 b ∧ ¬ foot g gp sv2 b ∧ b ≠ B ∧ b ≠ g ∧ b ≠ gp := fun b hb => by
    rw [← hsv] at hb
    have hfb : foot g gp sv1 b := .inr (.inr ⟨_, by omega, hb⟩)
    exact ⟨hfb, hno2 b hb, fun e => hno1 (e ▸ hfb), hd.r.off _ (by omega) b hb⟩
  have hfr2 := (hfr1.trans (Fr.ofBelow (below_drew1 wc) (fun _ => False)) (fun _ e => e.elim)).trans hf2 (fun b e => .inl (.inl e))
  have HX2 := Lib.hid hx2
  have HFR2 := Lib.hid hfr2
  have HB6 := Lib.hid hB6
  have HOWN6 := Lib.hid hown6
  have HR2 := Lib.hid hr2
  have HFT := Lib.hid (show ∀ b, foot g gp sv2 b → foot g gp sv b ∨ w.heap.size ≤ b from fun b hb => hft1 b (hft2 b hb))
  have HFT1 := Lib.hid hft1
  have HB2 := Lib.hid (show ¬ foot g gp sv2 B from fun hb => hno1 (hft2 B hb))
  have HM1 := Lib.hid hmem1
  have HL1 := Lib.hid hlen1
  have HWS := Lib.hid hfr1.size
  generalize hxl : (s1 0 i0).length = m at *
  have HXL := Lib.hid hxl
  clear hxl hx1 hft1 hno1 hfr1 hmem1 hlen1 hown0 hsv hd hx2 hf2 hft2 hno2 hBd hgB hB6 hown6 hr2 hfr2
  go_upto_region 12 with fail
  have hS0 := below_drew1 wc
  refine wp_region_held (S := fun w' => Below wc.heap.size wc w') (by kernel_rfl) ?_
  change wpAnyH _ _ _ _ _ _ _ _ wc.drew
  generalize wc.drew = w5 at *
  change wpAnyH _ _ _ _ _ 11 (Array.replicate 11 false) _ _
  refine wpAnyH_take (i := 0) (oi := ?_) (v := ?_) ?_ (by kernel_rfl) (by kernel_rfl) (by kernel_rfl) ?_ ?_ (by assumption) ?_
  rotate_left 2; (simp only [List.getElem?_toArray, List.getElem?_cons_succ, List.getElem?_cons_zero]; rfl)
  rotate_left; (first | (refine .inl ⟨by rfl, ?_⟩; intro w9 hS9; go_simp; try with_reducible rfl) | (refine .inr ⟨by rfl, ?_⟩; with_reducible rfl))
  rotate_left; (intro _ _ _ h9; exact h9)
  try simp only [Act.put, List.setIfInBounds_toArray, List.set_cons_zero, List.set_cons_succ]
  refine wpAnyH_take (i := 1) (oi := ?_) (v := ?_) ?_ (by kernel_rfl) (by kernel_rfl) (by kernel_rfl) ?_ ?_ (by assumption) ?_
  rotate_left 2; (simp only [List.getElem?_toArray, List.getElem?_cons_succ, List.getElem?_cons_zero]; rfl)
  rotate_left; (first | (refine .inl ⟨by rfl, ?_⟩; intro w9 hS9; go_simp; try with_reducible rfl) | (refine .inr ⟨by rfl, ?_⟩; with_reducible rfl))
  rotate_left; (intro _ _ _ h9; exact h9)
  try simp only [Act.put, List.setIfInBounds_toArray, List.set_cons_zero, List.set_cons_succ]
  refine wpAnyH_take (i := 2) (oi := ?_) (v := ?_) ?_ (by kernel_rfl) (by kernel_rfl) (by kernel_rfl) ?_ ?_ (by assumption) ?_
  rotate_left 2; (simp only [List.getElem?_toArray, List.getElem?_cons_succ, List.getElem?_cons_zero]; rfl)
  rotate_left; (first | (refine .inl ⟨by rfl, ?_⟩; intro w9 hS9; go_simp; try with_reducible rfl) | (refine .inr ⟨by rfl, ?_⟩; with_reducible rfl))
  rotate_left; (intro _ _ _ h9; exact h9)
  try simp only [Act.put, List.setIfInBounds_toArray, List.set_cons_zero, List.set_cons_succ]
  refine wpAnyH_take (i := 3) (oi := ?_) (v := ?_) ?_ (by kernel_rfl) (by kernel_rfl) (by kernel_rfl) ?_ ?_ (by assumption) ?_
  rotate_left 2; (simp only [List.getElem?_toArray, List.getElem?_cons_succ, List.getElem?_cons_zero]; rfl)
  rotate_left; (first | (refine .inl ⟨by rfl, ?_⟩; intro w9 hS9; go_simp; try with_reducible rfl) | (refine .inr ⟨by rfl, ?_⟩; with_reducible rfl))
  rotate_left; (intro _ _ _ h9; exact h9)
  try simp only [Act.put, List.setIfInBounds_toArray, List.set_cons_zero, List.set_cons_succ]
  refine wpAnyH_take (i := 4) (oi := ?_) (v := ?_) ?_ (by kernel_rfl) (by kernel_rfl) (by kernel_rfl) ?_ ?_ (by assumption) ?_
  rotate_left 2; (simp only [List.getElem?_toArray, List.getElem?_cons_succ, List.getElem?_cons_zero]; rfl)
  rotate_left; (first | (refine .inl ⟨by rfl, ?_⟩; intro w9 hS9; go_simp; try with_reducible rfl) | (refine .inr ⟨by rfl, ?_⟩; with_reducible rfl))
  rotate_left; (intro _ _ _ h9; exact h9)
  try simp only [Act.put, List.setIfInBounds_toArray, List.set_cons_zero, List.set_cons_succ]
  refine wpAnyH_take (i := 5) (oi := ?_) (v := ?_) ?_ (by kernel_rfl) (by kernel_rfl) (by kernel_rfl) ?_ ?_ (by assumption) ?_
  rotate_left 2; (simp only [List.getElem?_toArray, List.getElem?_cons_succ, List.getElem?_cons_zero]; rfl)
  rotate_left; (first | (refine .inl ⟨by rfl, ?_⟩; intro w9 hS9; go_simp; try with_reducible rfl) | (refine .inr ⟨by rfl, ?_⟩; with_reducible rfl))
  rotate_left; (intro _ _ _ h9; exact h9)
  try simp only [Act.put, List.setIfInBounds_toArray, List.set_cons_zero, List.set_cons_succ]
  refine wpAnyH_take (i := 6) (oi := ?_) (v := ?_) ?_ (by kernel_rfl) (by kernel_rfl) (by kernel_rfl) ?_ ?_ (by assumption) ?_
  rotate_left 2; (simp only [List.getElem?_toArray, List.getElem?_cons_succ, List.getElem?_cons_zero]; rfl)
  rotate_left; (first | (refine .inl ⟨by rfl, ?_⟩; intro w9 hS9; go_simp; try with_reducible rfl) | (refine .inr ⟨by rfl, ?_⟩; with_reducible rfl))
  rotate_left; (intro _ _ _ h9; exact h9)
  try simp only [Act.put, List.setIfInBounds_toArray, List.set_cons_zero, List.set_cons_succ]
  refine wpAnyH_take (i := 7) (oi := ?_) (v := ?_) ?_ (by kernel_rfl) (by kernel_rfl) (by kernel_rfl) ?_ ?_ (by assumption) ?_
  rotate_left 2; (simp only [List.getElem?_toArray, List.getElem?_cons_succ, List.getElem?_cons_zero]; rfl)
  rotate_left; (first | (refine .inl ⟨by rfl, ?_⟩; intro w9 hS9; go_simp; try with_reducible rfl) | (refine .inr ⟨by rfl, ?_⟩; with_reducible rfl))
  rotate_left; (intro _ _ _ h9; exact h9)
  try simp only [Act.put, List.setIfInBounds_toArray, List.set_cons_zero, List.set_cons_succ]
  refine wpAnyH_take (i := 8) (oi := ?_) (v := ?_) ?_ (by kernel_rfl) (by kernel_rfl) (by kernel_rfl) ?_ ?_ (by assumption) ?_
  rotate_left 2; (simp only [List.getElem?_toArray, List.getElem?_cons_succ, List.getElem?_cons_zero]; rfl)
  rotate_left; (first | (refine .inl ⟨by rfl, ?_⟩; intro w9 hS9; go_simp; try with_reducible rfl) | (refine .inr ⟨by rfl, ?_⟩; with_reducible rfl))
  rotate_left; (intro _ _ _ h9; exact h9)
  try simp only [Act.put, List.setIfInBounds_toArray, List.set_cons_zero, List.set_cons_succ]
  refine wpAnyH_take (i := 9) (oi := ?_) (v := ?_) ?_ (by kernel_rfl) (by kernel_rfl) (by kernel_rfl) ?_ ?_ (by assumption) ?_
  rotate_left 2; (simp only [List.getElem?_toArray, List.getElem?_cons_succ, List.getElem?_cons_zero]; rfl)
  rotate_left; (first | (refine .inl ⟨by rfl, ?_⟩; intro w9 hS9; go_simp; try with_reducible rfl) | (refine .inr ⟨by rfl, ?_⟩; with_reducible rfl))
  rotate_left; (intro _ _ _ h9; exact h9)
  try simp only [Act.put, List.setIfInBounds_toArray, List.set_cons_zero, List.set_cons_succ]
  refine wpAnyH_take (i := 10) (oi := ?_) (v := ?_) ?_ (by kernel_rfl) (by kernel_rfl) (by kernel_rfl) ?_ ?_ (by assumption) ?_
  rotate_left 2; (simp only [List.getElem?_toArray, List.getElem?_cons_succ, List.getElem?_cons_zero]; rfl)
  rotate_left; (first | (refine .inl ⟨by rfl, ?_⟩; intro w9 hS9; go_simp; try with_reducible rfl) | (refine .inr ⟨by rfl, ?_⟩; with_reducible rfl))
  rotate_left; (intro _ _ _ h9; exact h9)
  try simp only [Act.put, List.setIfInBounds_toArray, List.set_cons_zero, List.set_cons_succ]
  refine wpAnyH_done (by kernel_rfl) ?_ _
  clear hS0 c1 c2 hbx1
  go_wp2_with fail
  generalize w5.setCell ⟨g, 1 + i0, none⟩ (.slice none 0 0) = w6 at *
  clear cS cF
  refine (wh_sort _ (s1 0 i0) gp P g B (ordOf pool) w6 HOWN6.out HM1.out (by have := HL1.out; have := HXL.out; omega) (fun k hk => by
      unfold ordOf
      rw [List.getElem?_eq_getElem (by rw [HLP.out]; exact hk)]
      exact HORD.out _ (List.getElem_mem _)) (fun e => (HR2.out B e).2.2.1 rfl) (fun e => (HR2.out g e).2.2.2.1 rfl) (fun e => (HR2.out gp e).2.2.2.2 rfl) HB6.out HX2.out.c.cPool (fun k hk => by
      have := (pool_cells HX2.out.pl HX2.out.len HX2.out.few k hk).2.2.2
      rw [this]
      unfold ordOf
      rw [List.getElem?_eq_getElem (by rw [HLP.out]; exact hk)]
      rfl)).mono ?_
  rintro e w7 ⟨rfl, ⟨ys, hys, hperm, hsort⟩, hgr⟩
  have hf7 := Fr.ofGrown hgr
  have hlen7 := hperm.length_eq
  rw [HXL.out] at hlen7
  have htl : TL w g gp P sv sv2 cs2 pool (up s1 0 i0 []) n cnt B (.slice As m cap) ys (.slice none 0 0) 0 w7 := by
    refine ⟨HX2.out.fr hf7 (fun b hb e => (HR2.out b e.symm).2.1 hb), HFR2.out.trans hf7 (fun b e => HFT1.out b (HR2.out b e.symm).1), ?_, hys, OwnE.nil _ _, fun b hb => by cases hb⟩
    rw [hf7.cell (p := ⟨B, 0, none⟩) (World.block_lt_of_cell? _ _ HB6.out) (fun e => (HR2.out B e.symm).2.2.1 rfl)]
    exact HB6.out
  have HTL := Lib.hid htl
  have HPM := Lib.hid hperm
  have HSO := Lib.hid hsort
  have HYL := Lib.hid hlen7
  have HML := Lib.hid (show m ≤ 512 by have := HL1.out; omega)
  have HMP := Lib.hid (show ∀ k ∈ ys, k < P from fun k hk => HM1.out k (HPM.out.mem_iff.1 hk))
  clear hys hperm hsort hgr hf7 hlen7 htl HX2 HOWN6 HB6
  go_wp2_with fail
  go_loopw [6, 64] (fun s6 s64 wr => ∃ j : Nat, j ≤ m ∧ s64 = .int .i64 j ∧ TL w g gp P sv sv2 cs2 pool (up s1 0 i0 []) n cnt B (.slice As m cap) ys s6 j wr) (fun _ s64 _ => m - (intOf s64).toNat)
  case atStart => exact ⟨0, Nat.zero_le _, rfl, HTL.out⟩
  case round =>
    obtain ⟨j, hj, rfl, htl⟩ := hrel
    have HT := Lib.hid htl
    by_cases hlt : j < m
    · have hlt' : (j : Int) < m := by omega
      have HJ := Lib.hid hlt
      have hjl : j < ys.length := by rw [HYL.out]; exact hlt
      obtain ⟨A3, c3, e3, hre, _⟩ := htl.row.re (by have := HML.out; rw [HYL.out]; omega)
      rw [HYL.out] at e3 hre
      cases e3
      obtain ⟨b, off, e4, hbl, _⟩ := hre.cells (by omega)
      subst e4
      have q0 := hre.elem kc_len j hjl 0 _ rfl
      obtain ⟨k, hk⟩ : ∃ k, k = ys[j] := ⟨_, rfl⟩
      have hkP := HMP.out ys[j] (List.getElem_mem hjl)
      rw [← hk] at q0 hkP
      rw [show off + j * 1 + 0 = off + j by omega] at q0
      have hkP' : (k : Int) < P := by omega
      have HK := Lib.hid hk
      have HKP := Lib.hid hkP
      have bx := htl.box
      have cP := htl.x.c.cPool
      obtain ⟨y0, y1, y2, y3⟩ := pool_cells htl.x.pl htl.x.len htl.x.few k hkP
      clear y2 y3
      have yf : wr.frozen? ⟨gp, k * 4, none⟩ = false := by
        rcases htl.x.pl.2 with ⟨e', _⟩ | ⟨g', cap, cur, e', hb9, hh, _⟩
        · cases e'
        · cases e'
          simp [World.frozen?, hh]
      have hkl : k < (outs pool (ys.take j)).length := by rw [outs_len, HLP.out]; exact hkP
      have htg : ((outs pool (ys.take j))[k]'hkl).tag = tagOf pool k := by
        rw [← outs_tag pool (ys.take j) k]
        unfold tagOf
        rw [List.getElem?_eq_getElem hkl]
        rfl
      rw [htg] at y1
      generalize ((outs pool (ys.take j))[k]'hkl).armed = b0 at *
      have hgpB : B ≠ gp := fun e => HB2.out (.inr (.inl e))
      have hggp : g ≠ gp := htl.x.ne
      have bx8 : (wr.setCell ⟨gp, k * 4, none⟩ (.bool false)).cell? ⟨B, 0, none⟩ = some (.pointer (some ⟨g, 0, none⟩)) := by rw [World.cell?_setCell_far _ _ _ _ (fun e => hgpB e.symm)]; exact bx
      have cP8 : (wr.setCell ⟨gp, k * 4, none⟩ (.bool false)).cell? ⟨g, 0, none⟩ = some (.slice (some ⟨gp, 0, none⟩) P P) := by rw [World.cell?_setCell_far _ _ _ _ (fun e => hggp e.symm)]; exact cP
      have y8 : (wr.setCell ⟨gp, k * 4, none⟩ (.bool false)).cell? ⟨gp, k * 4 + 1, none⟩ = some (.int .i64 (tagOf pool k)) := by
        rw [World.cell?_setCell_other _ _ _ _ (show (⟨gp, k * 4, none⟩ : Addr) ≠ ⟨gp, k * 4 + 1, none⟩ from fun e => by (have e2 := congrArg Addr.off e; simp only at e2; omega))]; exact y1
      have hsz8 : (wr.setCell ⟨gp, k * 4, none⟩ (.bool false)).heap.size = wr.heap.size := by simp
      have hv6l := fun b hb => htl.tags.lt b hb
      have hft8 : OwnE ki 1 3 (wr.setCell ⟨gp, k * 4, none⟩ (.bool false)) u6 ((ys.take j).map (tagOf pool)) := htl.tags.fr (fr_setCell (F := fun b => b = gp) ⟨gp, k * 4, none⟩ (.bool false) rfl) (fun b hb e => (htl.new b hb).2.2.2 (.inr (.inl e)))
      have hnext : ∀ w9 w2 v2, w9 = (wr.setCell ⟨gp, k * 4, none⟩ (.bool false)).alloc (.cells #[.int .i64 (tagOf pool k)] 3) → OwnE ki 1 3 w2 v2 ((ys.take j).map (tagOf pool) ++ [tagOf pool k]) → w9.grownBy w2 u6.ownBlock → (∀ b, v2.ownBlock = some b → u6.ownBlock = some b ∨ w9.heap.size ≤ b) → TL w g gp P sv sv2 cs2 pool (up s1 0 i0 []) n cnt B (.slice (some ⟨b, off, none⟩) m cap) ys v2 (j + 1) w2 :=
        fun w9 w2 v2 e1 e2 e3 e4 => htl.next HB2.out (fun b hb => ⟨(HR2.out b hb).2.1, (HR2.out b hb).2.2.1⟩) HLP.out hjl HK.out.symm HKP.out _ e1 e2 e3 e4
      have HNX := Lib.hid hnext
      have HOW := Lib.hid hft8
      have hml := HML.out
      have htl2 : ((ys.take j).map (tagOf pool)).length ≤ 512 := by rw [List.length_map, List.length_take]; omega
      clear htl hlt hj hre hbl hk hkP hnext hft8 hgpB hggp hsz8 hv6l HT htg
      generalize tagOf pool k = tg at *
      go_upto_region 21 with fail
      generalize wr.setCell ⟨gp, k * 4, none⟩ (.bool false) = w8 at *
      clear bx cP y0 y1 yf q0
      have HNW := Lib.hid (show RE ki (w8.alloc (.cells #[.int .i64 tg] 3)) (some ⟨w8.heap.size, 0, none⟩) 1 1 [tg] from re_lit (f := ki) (e := 3) ki_len w8 [tg] (by simp))
      have HO9 := Lib.hid (HOW.out.fr (Fr.ofBelow (below_new w8 (.cells #[.int .i64 tg] 3)) (fun _ => False)) (fun _ _ h => h))
      go_wp2_with (at_builtin; go_must (refine wpList_append_fr kiT ki_len ki_one rfl _ _ rfl _ ((ys.take j).map (tagOf pool)) rfl HO9.out _ _ _ [tg] rfl HNW.out (by omega) (by omega) ?_; intro v2 w2 hown2 hg2 hf2; have HN := Lib.hid (HNX.out _ _ _ rfl hown2 hg2 hf2); clear hown2 hg2 hf2 bx8 cP8 y8))
      exact ⟨⟨j + 1, by have := HJ.out; omega, by go_num, HN.out⟩, by have := HJ.out; simp [intOf]; omega⟩
    · obtain rfl : j = m := by omega
      have HRES := Lib.hid htl
      clear htl hlt hj
      go_wp2_with fail
      go_ret
      have h9 := HRES.out
      have htk : ys.take j = ys := List.take_of_length_le (by rw [HYL.out]; exact Nat.le_refl _)
      have hx9 := h9.x
      have ht9 := h9.tags
      rw [htk] at hx9 ht9
      rw [HI0.out, HS1.out] at hx9
      refine ⟨⟨_, ys, sv2, cs2, rfl, ?_, HSO.out, hx9, HFT.out, ht9, fun b hb => ⟨(h9.new b hb).1, (h9.new b hb).2.2.2⟩⟩, h9.fr⟩
      have := HPM.out
      rw [HI0.out, HS1.out] at this
      exact this
end Go.Proofs.YtpfoocndohpbbaaDoor
