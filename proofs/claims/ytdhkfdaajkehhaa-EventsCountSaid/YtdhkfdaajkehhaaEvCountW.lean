/- The walk of EventsCount. -/
import Derived.Test.YtdhkfdaajkehhaaEvSmall
import Derived.Test.YtdhkfdaajkehhaaEvArgs
namespace Go.Proofs.Ytdhkfdaajkehhaa
open Go.RowKit
set_option linter.unusedVariables false
set_option linter.unusedSimpArgs false

def cnt (n : Nat) : List Ev := (List.range n).map fun (i : Nat) => ⟨0, 0, (i : Int)⟩
theorem cnt_len (n : Nat) : (cnt n).length = n := by simp [cnt]
theorem cnt_succ (n : Nat) : cnt (n + 1) = cnt n ++ [⟨0, 0, (n : Int)⟩] := by simp [cnt, List.range_succ]

set_option maxRecDepth 100000 in
set_option maxHeartbeats 4000000 in
theorem eventsCount_walk (a0 : Int) (a1 : Int) (w : World) (w0 : (Lit.int .i64 a0).wf = true) (w1 : (Lit.int .i64 a1).wf = true) :
    Calls Try.prog 6 #[.int .i64 a0, .int .i64 a1] w fun e w' => e = .returned (.bool true) ∧ Below w.heap.size w w' := by
  clear w0 w1
  go_enter Try.func6, Try.ntmps6
  go_wp2_with fail
  refine (ev_small _).mono ?_
  rintro e wa ⟨rfl, hb⟩
  go_wp2_with fail
  refine (logis_new a0 _).mono ?_
  rintro e wb ⟨rfl, hl, hb2⟩
  have hsz := hb.size
  replace hb := hb.trans (hb2.mono hb.size)
  generalize wa.heap.size = g at hl hsz ⊢
  clear hb2
  have hrm := room_bd a0
  by_cases h1 : a1 < 0
  · clear hl
    go_wp2_with fail
    go_ret
    exact ⟨rfl, hb⟩
  by_cases h2 : 3000 < a1
  · clear hl
    go_wp2_with fail
    go_ret
    exact ⟨rfl, hb⟩
  obtain ⟨n, rfl⟩ := Int.eq_ofNat_of_zero_le (show 0 ≤ a1 by omega)
  have hn : n ≤ 3000 := by omega
  go_wp2_with fail
  go_loopw [7] (fun i wr => ∃ (k : Nat) (v : Value), k ≤ n ∧ i = .int .i64 k ∧ LogIs wr g v (room a0) (cnt k) ∧ Below w.heap.size w wr ∧ (∀ b, v.ownBlock = some b → w.heap.size ≤ b)) (fun i _ => n - (intOf i).toNat)
  case atStart => exact ⟨0, .slice none 0 0, Nat.zero_le _, rfl, hl, hb, (fun b h => by cases h)⟩
  case round =>
    obtain ⟨k, v, hk, rfl, hlr, hbr, hvr⟩ := hrel
    clear hl hb
    by_cases hlt : k < n
    · have hlt' : (k : Int) < n := by omega
      go_wp2_with fail
      refine (logis_add _ _ _ _ ⟨0, 0, k⟩ _ hlr hrm.1 hrm.2 (by rw [cnt_len]; omega)).mono ?_
      rintro e wd ⟨v3, rfl, hl3, hf3, hr3⟩
      have hb3 := fr_over hbr hr3 (fun i h => by rcases h with rfl | h; exact hsz; exact hvr _ h)
      rw [← cnt_succ] at hl3
      clear hlr hr3
      go_wp2_with fail
      exact ⟨⟨k + 1, v3, by omega, by go_num, hl3, hb3, fun b h => (hf3 b h).elim (hvr b) (fun h => Nat.le_trans hbr.size h)⟩, by simp [intOf]; omega⟩
    · obtain rfl : k = n := by omega
      obtain ⟨wo, rfl⟩ : ∃ wo : World, wo = wr := ⟨_, rfl⟩
      go_wp2_with fail
      refine (logis_all _ _ _ _ _ hlr hrm.1 hrm.2 (by rw [cnt_len]; omega)).mono ?_
      rintro e we ⟨v4, rfl, ho4, hf4, hb4⟩
      replace hlr := hlr.below hb4
      replace hbr := hbr.trans (hb4.mono hbr.size)
      obtain ⟨A4, c4, rfl, hr4, _, _⟩ := ho4.re (by rw [List.length_drop, cnt_len]; omega)
      rw [cnt_len] at hr4 ⊢
      rw [List.length_drop, cnt_len] at hr4 ⊢
      have hm : k - (k - room a0) = min k (room a0) := by omega
      rw [hm] at hr4 ⊢
      have hrm2 : room a0 ≤ max a0 1 := by unfold room; omega
      generalize hM : min k (room a0) = m at hr4 ⊢
      clear ho4 hf4 hb4
      have hcell : ∀ j, j < m → ∃ b o, A4 = some ⟨b, o, none⟩ ∧ we.cell? ⟨b, o + j * 3 + 2, none⟩ = some (.int .i64 ((k : Int) - (m : Int) + (j : Int))) := by
        intro j hj
        obtain ⟨b, o, rfl, _, _⟩ := hr4.cells (by omega)
        have hjl : j < ((cnt k).drop (k - room a0)).length := by rw [hr4.len]; exact hj
        have he := hr4.elem evc_len j hjl 2 (.int .i64 ((k : Int) - (m : Int) + (j : Int))) (by
          simp only [evc, List.getElem_drop, cnt, List.getElem_map, List.getElem_range]
          show some _ = some _
          congr 2
          omega)
        exact ⟨b, o, rfl, he⟩
      have hL : (m : Int) + ((k - room a0 : Nat) : Int) = k := by omega
      have hlost := fun w' (hb : Below we.heap.size we w') => logis_lost _ _ _ _ _ (hlr.below hb) (by rw [cnt_len]; omega)
      rw [cnt_len] at hlost
      generalize k - room a0 = L at hL hlost
      have hm1 : (m : Int) ≤ 1024 := by omega
      have hm2 : (m : Int) ≤ max a0 1 := by omega
      have e1 : IntKind.i64.wrap ((k : Int) - (m : Int)) = (k : Int) - (m : Int) := by rw [IntKind.wrap_i64]; omega
      have hmk : m ≤ k := by omega
      clear hlr hr4 hM hm hrm hrm2 hvr hsz h1 h2
      go_wp2_with fail
      go_loop [9] (fun i => ∃ j : Nat, j ≤ m ∧ i = .int .i64 j) (fun i => m - (intOf i).toNat)
      case atStart => exact ⟨0, Nat.zero_le _, rfl⟩
      case round =>
        obtain ⟨j, hj, rfl⟩ := hrel
        by_cases hjm : j < m
        · have hjm' : (j : Int) < m := by omega
          obtain ⟨b, o, rfl, hc⟩ := hcell j hjm
          have e2 : IntKind.i64.wrap ((k : Int) - (m : Int) + (j : Int)) = (k : Int) - (m : Int) + (j : Int) := by rw [IntKind.wrap_i64]; omega
          clear hcell hlost hL hm1 hm2
          go_wp2_with fail
          exact ⟨⟨j + 1, by omega, by go_num⟩, by simp [intOf]; omega⟩
        · obtain rfl : j = m := by omega
          clear hcell e1
          by_cases h9 : a0 ≤ 1
          · have h9' : ¬ 1 < a0 := by omega
            have hm3 : (j : Int) ≤ 1 := by omega
            have hm4 : j ≤ 1 := by omega
            clear hm2
            go_wp2_with (go_at_call 15; go_must (refine (hlost _ (Below.refl _ _)).mono ?_); rintro e wg ⟨rfl, hbg⟩; have hb9 := hbr.trans (hbg.mono hbr.size))
            all_goals
              go_ret
              exact ⟨by simp <;> omega, hb9⟩
          · have h9' : 1 < a0 := by omega
            have hm3 : (j : Int) ≤ a0 := by omega
            clear hm2
            go_wp2_with (go_at_call 15; go_must (refine (hlost _ (Below.refl _ _)).mono ?_); rintro e wg ⟨rfl, hbg⟩; have hb9 := hbr.trans (hbg.mono hbr.size))
            all_goals
              go_ret
              exact ⟨by simp <;> omega, hb9⟩
end Go.Proofs.Ytdhkfdaajkehhaa
