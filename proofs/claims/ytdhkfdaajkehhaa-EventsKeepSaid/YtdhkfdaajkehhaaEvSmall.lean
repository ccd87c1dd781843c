/- The small case. -/
import Derived.Test.YtdhkfdaajkehhaaEvRef2
namespace Go.Proofs.Ytdhkfdaajkehhaa
open Go.RowKit
set_option linter.unusedVariables false
set_option linter.unusedSimpArgs false

/-- What an Add leaves of a world that stood. -/
theorem fr_over {w0 w w' : World} {F : Nat → Prop} (h : Below w0.heap.size w0 w) (k : Fr F w w') (hF : ∀ i, F i → w0.heap.size ≤ i) : Below w0.heap.size w0 w' := h.trans (k.below _ h.size hF)
theorem re_two (w : World) (x y : Ev) : REv (w.alloc (.cells #[.int .u64 x.tm, .int .i64 x.code, .int .i64 x.arg, .int .u64 y.tm, .int .i64 y.code, .int .i64 y.arg] 31)) (some ⟨w.heap.size, 0, none⟩) 2 2 [x, y] := re_lit (e := 31) evc_len w [x, y] (by simp)

set_option maxHeartbeats 4000000 in
set_option maxRecDepth 100000 in
theorem ev_small (w : World) : Calls Try.prog 7 #[] w fun e w' => e = .returned (.bool true) ∧ Below w.heap.size w w' := by
  go_enter Try.func7, Try.ntmps7
  go_wp2_with fail
  refine (logis_new 2 _).mono ?_
  rintro e wa ⟨rfl, hl, hb⟩
  rw [show room 2 = 2 from rfl] at hl
  go_wp2_with fail
  refine (logis_add _ _ _ [] ⟨1, 1, 5⟩ _ hl (by omega) (by omega) (by simp)).mono ?_
  rintro e wb ⟨v1, rfl, hl1, hf1, hr1⟩
  have hb1 := fr_over hb hr1 (fun i h => by rcases h with rfl | h; exact Nat.le_refl _; cases h)
  replace hf1 : ∀ k, v1.ownBlock = some k → w.heap.size ≤ k := fun k hk => (hf1 k hk).elim (fun h => by cases h) (fun h => Nat.le_trans hb.size h)
  clear hl hr1 hb
  go_wp2_with fail
  refine (logis_add _ _ _ _ ⟨2, 0, 0⟩ _ hl1 (by omega) (by omega) (by simp)).mono ?_
  rintro e wc ⟨v2, rfl, hl2, hf2, hr2⟩
  have hb2 := fr_over hb1 hr2 (fun i h => by rcases h with rfl | h; exact Nat.le_refl _; exact hf1 _ h)
  replace hf2 : ∀ k, v2.ownBlock = some k → w.heap.size ≤ k := fun k hk => (hf2 k hk).elim (hf1 k) (fun h => Nat.le_trans hb1.size h)
  clear hl1 hr2 hb1 hf1
  go_wp2_with fail
  refine (logis_add _ _ _ _ ⟨3, 0, 0⟩ _ hl2 (by omega) (by omega) (by simp)).mono ?_
  rintro e wd ⟨v3, rfl, hl3, hf3, hr3⟩
  have hb3 := fr_over hb2 hr3 (fun i h => by rcases h with rfl | h; exact Nat.le_refl _; exact hf2 _ h)
  clear hl2 hr3 hb2 hf2 hf3
  go_wp2_with fail
  refine (logis_all _ _ _ _ _ hl3 (by omega) (by omega) (by simp)).mono ?_
  rintro e we ⟨v4, rfl, ho4, hf4, hb4⟩
  replace hl3 := hl3.below hb4
  replace hb3 := hb3.trans (hb4.mono hb3.size)
  obtain ⟨A4, c4, rfl, hr4, _, _⟩ := ho4.re (by simp)
  have hr5 := re_two we ⟨2, 0, 0⟩ ⟨3, 0, 0⟩
  have hb5 := fr_below_alloc we (.cells #[.int .u64 2, .int .i64 0, .int .i64 0, .int .u64 3, .int .i64 0, .int .i64 0] 31)
  replace hr4 := hr4.below hb5
  replace hl3 := hl3.below hb5
  replace hb3 := hb3.trans (hb5.mono hb3.size)
  clear hb4 hf4 ho4
  go_wp2_with (first
    | (go_at_call 13; go_must (refine (ref_same _ _ _ _ _ _ _ _ _ hr4 hr5).mono ?_); rintro e wf ⟨rfl, hbf⟩; replace hl3 := hl3.below hbf; replace hb3 := hb3.trans (hbf.mono hb3.size))
    | (go_at_call 15; go_must (refine (logis_lost _ _ _ _ _ hl3 (by simp)).mono ?_); rintro e wg ⟨rfl, hbg⟩; replace hb3 := hb3.trans (hbg.mono hb3.size)))
  go_ret
  exact ⟨rfl, hb3⟩
end Go.Proofs.Ytdhkfdaajkehhaa
