/- The walk of OctetBack. -/
import Derived.Test.YtfhcjpodlclioaaDoorOctSmall
import Derived.Test.YtfhcjpodlclioaaDoorArgs
namespace Go.Proofs.YtfhcjpodlclioaaDoor
open Go.RowKit
set_option linter.unusedVariables false
set_option linter.unusedSimpArgs false

theorem beVal_beN4 (n : Nat) (h : n < 4294967296) : beVal (beN 4 n) = n := by
  have e : beN 4 n = [UInt8.ofNat (n / 16777216), UInt8.ofNat (n / 65536), UInt8.ofNat (n / 256), UInt8.ofNat n] := by simp [beN, List.range_succ]
  rw [e]
  simp only [beVal, List.foldl_cons, List.foldl_nil, UInt8.toNat_ofNat']
  omega
theorem beVal_beN2 (n : Nat) (h : n < 65536) : beVal (beN 2 n) = n := by
  have e : beN 2 n = [UInt8.ofNat (n / 256), UInt8.ofNat n] := by simp [beN, List.range_succ]
  rw [e]
  simp only [beVal, List.foldl_cons, List.foldl_nil, UInt8.toNat_ofNat']
  omega
theorem rd_be4 (n : Nat) (r : List UInt8) (bad : Bool) (h : n < 4294967296) : rdVal 4 (beN 4 n ++ r) = n ∧ rdLeft 4 (beN 4 n ++ r) = r ∧ rdBad 4 (beN 4 n ++ r) bad = bad := by
  have hl : ¬ (beN 4 n ++ r).length < 4 := by rw [List.length_append, beN_len]; omega
  unfold rdVal rdLeft rdBad
  rw [if_neg hl, if_neg hl, if_neg hl, List.take_left' (beN_len 4 n), List.drop_left' (beN_len 4 n)]
  exact ⟨beVal_beN4 n h, rfl, rfl⟩
theorem rd_be2 (n : Nat) (r : List UInt8) (bad : Bool) (h : n < 65536) : rdVal 2 (beN 2 n ++ r) = n ∧ rdLeft 2 (beN 2 n ++ r) = r ∧ rdBad 2 (beN 2 n ++ r) bad = bad := by
  have hl : ¬ (beN 2 n ++ r).length < 2 := by rw [List.length_append, beN_len]; omega
  unfold rdVal rdLeft rdBad
  rw [if_neg hl, if_neg hl, if_neg hl, List.take_left' (beN_len 2 n), List.drop_left' (beN_len 2 n)]
  exact ⟨beVal_beN2 n h, rfl, rfl⟩
/-- Numbers as bytes, one behind the other. -/
def catN (size : Nat) (xs : List Int) : List UInt8 := xs.flatMap fun x => beN size x.toNat
theorem catN_len (size : Nat) (xs : List Int) : (catN size xs).length = size * xs.length := by
  induction xs with
  | nil => simp [catN]
  | cons x xs ih =>
    have e : catN size (x :: xs) = beN size x.toNat ++ catN size xs := rfl
    rw [e, List.length_append, beN_len, ih, List.length_cons, Nat.mul_add]; omega
theorem catN_take (size : Nat) (xs : List Int) (k : Nat) (hk : k < xs.length) : catN size (xs.take (k + 1)) = catN size (xs.take k) ++ beN size (xs.getD k 0).toNat := by
  unfold catN
  rw [List.take_succ_eq_append_getElem hk, List.flatMap_append]
  congr 1
  simp [List.getD_eq_getElem?_getD, List.getElem?_eq_getElem hk]
theorem catN_drop (size : Nat) (xs : List Int) (k : Nat) (hk : k < xs.length) : catN size (xs.drop k) = beN size (xs.getD k 0).toNat ++ catN size (xs.drop (k + 1)) := by
  unfold catN
  rw [List.drop_eq_getElem_cons hk, List.flatMap_cons]
  congr 1
  simp [List.getD_eq_getElem?_getD, List.getElem?_eq_getElem hk]

set_option maxRecDepth 100000 in
set_option maxHeartbeats 8000000 in
theorem octetBack_walk (a0 : Option Addr) (len0 cap0 : Nat) (z0 : List Int) (a1 : Option Addr) (len1 cap1 : Nat) (z1 : List Int) (w : World) (w0 : IsRow .u32 w a0 len0 cap0 z0) (w1 : IsRow .u16 w a1 len1 cap1 z1) (hg : HasTy w) :
    Calls Tryd.prog 5 #[.slice a0 len0 cap0, .slice a1 len1 cap1] w fun e w' => e = .returned (.bool true) ∧ Below w.heap.size w w' := by
  obtain ⟨xs, hri, hlc, hcm, _⟩ := w0.ints
  obtain ⟨ys, hrj, hlc1, hcm1, _⟩ := w1.ints
  have HA := Lib.hid hri
  have HB := Lib.hid hrj
  have H0 := Lib.hid hg
  clear w0 w1 hg hri hrj
  go_enter Tryd.func5, Tryd.ntmps5
  go_wp2_with fail
  refine (oct_small _ H0.out).mono ?_
  rintro e wa ⟨rfl, hb⟩
  by_cases h1 : 40 < len0
  · have h1' : (40 : Int) < len0 := by omega
    go_wp2_with fail
    go_ret
    exact ⟨rfl, hb⟩
  have h1' : ¬ (40 : Int) < len0 := by omega
  by_cases h2 : 40 < len1
  · have h2' : (40 : Int) < len1 := by omega
    go_wp2_with fail
    go_ret
    exact ⟨rfl, hb⟩
  have h2' : ¬ (40 : Int) < len1 := by omega
  have H := Lib.hid hb
  clear hb
  go_wp2_with fail
  clear h1' h2'
  go_loopw [6, 7] (fun v i wr => ∃ k : Nat, k ≤ len0 ∧ i = .int .i64 k ∧ OwnB wr w.heap.size v (catN 4 (xs.take k)) ∧ Below w.heap.size w wr) (fun _ i _ => len0 - (intOf i).toNat)
  case atStart => exact ⟨0, Nat.zero_le _, rfl, OwnB.nil _ _, H.out⟩
  case round =>
    obtain ⟨k, hk, rfl, hown, hbr⟩ := hrel
    clear H
    by_cases hlt : k < len0
    · have hlt' : (k : Int) < len0 := by omega
      obtain ⟨b, off, rfl, hbl2, hc⟩ := HA.out.2.2.2 (by omega)
      have x0 := (hbr.cell (p := ⟨b, off + k, none⟩) hbl2).trans (hc k hlt)
      have hct := Lib.hid (catN_take 4 xs k (by rw [HA.out.1]; exact hlt))
      have hlen : (catN 4 (xs.take k)).length ≤ 160 := by rw [catN_len, List.length_take]; omega
      have hwf := u32_bd (HA.out.wf k hlt)
      clear hc
      generalize xs.getD k 0 = z at x0 hct hwf
      obtain ⟨n, rfl⟩ := Int.eq_ofNat_of_zero_le hwf.1
      obtain ⟨A, c, rfl, hrs⟩ := hown.reads
      have hn : n < 4294967296 := by omega
      clear hwf
      go_wp2_with fail
      refine (oct_put32 _ _ _ _ n _ hrs (by omega) hn).mono ?_
      rintro e wc ⟨v, rfl, hown2, hb2⟩
      rw [show catN 4 (xs.take k) ++ beN 4 n = catN 4 (xs.take (k + 1)) from hct.out.symm] at hown2
      have H1 := Lib.hid (hown2.base hbr.size)
      have H2 := Lib.hid (below_step hbr hb2)
      clear hown2 hb2 hrs hown hbr hct x0
      go_wp2_with fail
      exact ⟨⟨k + 1, by omega, by go_num, H1.out, H2.out⟩, by simp [intOf]; omega⟩
    · have hkl : ¬ (k : Int) < len0 := by omega
      rw [List.take_of_length_le (by rw [HA.out.1]; omega)] at hown
      obtain ⟨wo, rfl⟩ : ∃ wo : World, wo = wr := ⟨_, rfl⟩
      go_wp2_with fail
      clear hlt hk hkl
      rename_i k0
      go_loopw [6, 8] (fun v i wr => ∃ k : Nat, k ≤ len1 ∧ i = .int .i64 k ∧ OwnB wr w.heap.size v (catN 4 xs ++ catN 2 (ys.take k)) ∧ Below w.heap.size w wr) (fun _ i _ => len1 - (intOf i).toNat)
      case atStart => exact ⟨0, Nat.zero_le _, rfl, by simpa [catN] using hown, hbr⟩
      case round =>
        obtain ⟨k, hk, rfl, hown, hbr2⟩ := hrel
        clear hbr
        have hbr := hbr2
        clear hbr2
        by_cases hlt : k < len1
        · have hlt' : (k : Int) < len1 := by omega
          obtain ⟨b, off, rfl, hbl2, hc⟩ := HB.out.2.2.2 (by omega)
          have x0 := (hbr.cell (p := ⟨b, off + k, none⟩) hbl2).trans (hc k hlt)
          have hct := Lib.hid (catN_take 2 ys k (by rw [HB.out.1]; exact hlt))
          have hlen : (catN 4 xs ++ catN 2 (ys.take k)).length ≤ 240 := by rw [List.length_append, catN_len, catN_len, List.length_take, HA.out.1]; omega
          have hwf := u16_bd (HB.out.wf k hlt)
          clear hc
          generalize ys.getD k 0 = z at x0 hct hwf
          obtain ⟨n, rfl⟩ := Int.eq_ofNat_of_zero_le hwf.1
          obtain ⟨A, c, rfl, hrs⟩ := hown.reads
          clear hown
          generalize (catN 4 xs ++ catN 2 (ys.take k)).length = L at hrs hlen ⊢
          have hn : n < 65536 := by omega
          clear hwf
          go_wp2_with fail
          refine (oct_put16 _ _ _ _ n _ hrs (by omega) hn).mono ?_
          rintro e wc ⟨v, rfl, hown2, hb2⟩
          rw [List.append_assoc, show catN 2 (ys.take k) ++ beN 2 n = catN 2 (ys.take (k + 1)) from hct.out.symm] at hown2
          have H1 := Lib.hid (hown2.base hbr.size)
          have H2 := Lib.hid (below_step hbr hb2)
          clear hown2 hb2 hrs hbr hct x0
          go_wp2_with fail
          exact ⟨⟨k + 1, by omega, by go_num, H1.out, H2.out⟩, by simp [intOf]; omega⟩
        · have hkl : ¬ (k : Int) < len1 := by omega
          rw [List.take_of_length_le (by rw [HB.out.1]; omega)] at hown
          have hlen := Lib.hid (show (catN 4 xs ++ catN 2 ys).length = 4 * len0 + 2 * len1 by rw [List.length_append, catN_len, catN_len, HA.out.1, HB.out.1])
          obtain ⟨A, c, rfl, hrs⟩ := hown.reads
          rw [hlen.out] at hrs ⊢
          clear hown
          go_wp2_with fail
          refine (rd_over _ _ _ _ _ hrs (by omega)).mono ?_
          rintro e wb ⟨g, bl, rfl, hr, hgg, hbl, hbls, hb2⟩
          have hwg : w.heap.size ≤ g := by have := hbr.size; omega
          replace hbr := Lib.hid (below_step hbr hb2)
          have e1 : (((4 * len0 + 2 * len1 : Nat) : Int) != 4 * (len0 : Int) + 2 * (len1 : Int)) = false := by simp
          have e2 : ((4 * (len0 : Int) + 2 * (len1 : Int)) != 4 * (len0 : Int) + 2 * (len1 : Int)) = false := by simp
          clear hb2 hgg hbl hbls hrs hlen
          by_cases hnil : False
          · exact hnil.elim
          clear hnil
          go_wp2_with fail
          clear e1 e2
          go_loopw [10] (fun i wr => ∃ k : Nat, k ≤ len0 ∧ i = .int .i64 k ∧ RdIs wr g bl (catN 4 (xs.drop k) ++ catN 2 ys) false ∧ Below w.heap.size w wr) (fun i _ => len0 - (intOf i).toNat)
          case atStart => exact ⟨0, Nat.zero_le _, rfl, hr, hbr.out⟩
          case round =>
            obtain ⟨k, hk, rfl, hr, hbr2⟩ := hrel
            clear hbr
            have hbr := Lib.hid hbr2
            clear hbr2
            by_cases hlt : k < len0
            · have hlt' : (k : Int) < len0 := by omega
              obtain ⟨b, off, rfl, hbl2, hc⟩ := HA.out.2.2.2 (by omega)
              have x0 : ∀ w', Below w.heap.size w w' → w'.cell? ⟨b, off + k, none⟩ = some (.int .u32 (xs.getD k 0)) := fun w' hb => (hb.cell (p := ⟨b, off + k, none⟩) hbl2).trans (hc k hlt)
              have hcd := catN_drop 4 xs k (by rw [HA.out.1]; exact hlt)
              have hwf := u32_bd (HA.out.wf k hlt)
              rw [hcd, List.append_assoc] at hr
              clear hc hcd
              generalize xs.getD k 0 = z at x0 hr hwf
              obtain ⟨n, rfl⟩ := Int.eq_ofNat_of_zero_le hwf.1
              have hn : n < 4294967296 := by omega
              obtain ⟨q1, q2, q3⟩ := rd_be4 n (catN 4 (xs.drop (k + 1)) ++ catN 2 ys) false hn
              have HQ := Lib.hid (And.intro q2 q3)
              have Hq := Lib.hid q1
              clear q1 q2 q3 hwf
              rw [show ((n : Int)).toNat = n from rfl] at hr
              have hS0 : Below w.heap.size w wr.drew := below_step hbr.out (below_drew1 wr)
              have hrd := hr.below (below_drew1 wr)
              clear hr
              go_wp2_with fail
              refine wp_region_held (S := fun w' => Below w.heap.size w w') (by kernel_rfl) ?_
              change wpAnyH _ _ _ _ _ _ _ _ wr.drew
              change wpAnyH _ _ _ _ _ 7 (Array.replicate 7 false) _ _
              refine wpAnyH_take (i := 0) (oi := ?_) (v := ?_) ?_ (by kernel_rfl) (by kernel_rfl) (by kernel_rfl) ?_ ?_ (by assumption) ?_
              rotate_left 2; (simp only [List.getElem?_toArray, List.getElem?_cons_succ, List.getElem?_cons_zero]; rfl)
              rotate_left; (first | (refine .inl ⟨by rfl, ?_⟩; intro w9 hS9; go_simp; try with_reducible rfl) | (refine .inr ⟨by rfl, ?_⟩; with_reducible rfl))
              rotate_left; (intro _ _ _ h9; exact h9)
              try simp only [Act.put, List.setIfInBounds_toArray, List.set_cons_zero, List.set_cons_succ]
              refine wpAnyH_take (i := 2) (oi := ?_) (v := ?_) ?_ (by kernel_rfl) (by kernel_rfl) (by kernel_rfl) ?_ ?_ (by assumption) ?_
              rotate_left 2; (simp only [List.getElem?_toArray, List.getElem?_cons_succ, List.getElem?_cons_zero]; rfl)
              rotate_left; (first | (refine .inl ⟨by rfl, ?_⟩; intro w9 hS9; go_simp; try with_reducible rfl) | (refine .inr ⟨by rfl, ?_⟩; with_reducible rfl))
              rotate_left; (intro _ _ _ h9; exact h9)
              try simp only [Act.put, List.setIfInBounds_toArray, List.set_cons_zero, List.set_cons_succ]
              refine wpAnyH_take (i := 3) (oi := ?_) (v := ?_) ?_ (by kernel_rfl) (by kernel_rfl) (by kernel_rfl) ?_ ?_ (by assumption) ?_
              rotate_left 2; (simp only [List.getElem?_toArray, List.getElem?_cons_succ, List.getElem?_cons_zero]; rfl)
              rotate_left; (first | (refine .inl ⟨by rfl, ?_⟩; intro w9 hS9; go_simp; try with_reducible rfl) | (refine .inr ⟨by rfl, ?_⟩; with_reducible rfl))
              rotate_left; (intro _ _ _ h9; exact h9)
              try simp only [Act.put, List.setIfInBounds_toArray, List.set_cons_zero, List.set_cons_succ]
              refine wpAnyH_take (i := 4) (oi := ?_) (v := ?_) ?_ (by kernel_rfl) (by kernel_rfl) (by kernel_rfl) ?_ ?_ (by assumption) ?_
              rotate_left 2; (simp only [List.getElem?_toArray, List.getElem?_cons_succ, List.getElem?_cons_zero]; rfl)
              rotate_left; (first | (refine .inl ⟨by rfl, ?_⟩; intro w9 hS9; go_simp; try with_reducible rfl) | (refine .inr ⟨by rfl, ?_⟩; with_reducible rfl))
              rotate_left; (intro _ _ _ h9; exact h9)
              try simp only [Act.put, List.setIfInBounds_toArray, List.set_cons_zero, List.set_cons_succ]
              refine wpAnyH_take (i := 5) (oi := ?_) (v := ?_) ?_ (by kernel_rfl) (by kernel_rfl) (by kernel_rfl) ?_ ?_ (by assumption) ?_
              rotate_left 2; (simp only [List.getElem?_toArray, List.getElem?_cons_succ, List.getElem?_cons_zero]; rfl)
              rotate_left; (first | (refine .inl ⟨by rfl, ?_⟩; intro w9 hS9; go_simp; try with_reducible rfl) | (refine .inr ⟨by rfl, ?_⟩; with_reducible rfl))
              rotate_left; (intro _ _ _ h9; exact h9)
              try simp only [Act.put, List.setIfInBounds_toArray, List.set_cons_zero, List.set_cons_succ]
              refine wpAnyH_ready (rs := [1]) (by kernel_rfl) (by simp) (AllReadyH.cons rfl (fun K9 hK9 => ?_) AllReadyH.nil)
              go_simp
              go_must (refine (rd_u32 g bl _ _ _ hrd).mono ?_)
              rintro e we ⟨rfl, hr2, hf⟩
              rw [HQ.out.1, HQ.out.2] at hr2
              rw [Hq.out]
              have hS1 : Below w.heap.size w we := below_one hS0 hf hwg
              refine hK9.out _ _ hS1 (fun _ => ?_)
              refine wpAnyH_take (i := 6) (oi := ?_) (v := ?_) ?_ (by kernel_rfl) (by kernel_rfl) (by kernel_rfl) ?_ ?_ (by assumption) ?_
              rotate_left 2; (simp only [List.getElem?_toArray, List.getElem?_cons_succ, List.getElem?_cons_zero]; rfl)
              rotate_left; (first | (refine .inl ⟨by rfl, ?_⟩; intro w9 hS9; go_simp; try with_reducible rfl) | (refine .inr ⟨by rfl, ?_⟩; with_reducible rfl))
              rotate_left; (intro _ _ _ h9; exact h9)
              try simp only [Act.put, List.setIfInBounds_toArray, List.set_cons_zero, List.set_cons_succ]
              refine wpAnyH_done (by kernel_rfl) ?_ _
              have HR := Lib.hid hr2
              have HS := Lib.hid hS1
              clear hr2 hS1 hS0 hf x0 hrd
              go_wp2_with fail
              exact ⟨⟨k + 1, by omega, by go_num, HR.out, HS.out⟩, by simp [intOf]; omega⟩
            · have hkl : ¬ (k : Int) < len0 := by omega
              rw [List.drop_of_length_le (by rw [HA.out.1]; omega), show catN 4 [] = [] from rfl, List.nil_append] at hr
              obtain ⟨wo, rfl⟩ : ∃ wo : World, wo = wr := ⟨_, rfl⟩
              go_wp2_with fail
              clear hlt hk hkl
              rename_i k2
              go_loopw [11] (fun i wr => ∃ k : Nat, k ≤ len1 ∧ i = .int .i64 k ∧ RdIs wr g bl (catN 2 (ys.drop k)) false ∧ Below w.heap.size w wr) (fun i _ => len1 - (intOf i).toNat)
              case atStart => exact ⟨0, Nat.zero_le _, rfl, hr, hbr.out⟩
              case round =>
                obtain ⟨k, hk, rfl, hr, hbr2⟩ := hrel
                clear hbr
                have hbr := Lib.hid hbr2
                clear hbr2
                by_cases hlt : k < len1
                · have hlt' : (k : Int) < len1 := by omega
                  obtain ⟨b, off, rfl, hbl2, hc⟩ := HB.out.2.2.2 (by omega)
                  have x0 : ∀ w', Below w.heap.size w w' → w'.cell? ⟨b, off + k, none⟩ = some (.int .u16 (ys.getD k 0)) := fun w' hb => (hb.cell (p := ⟨b, off + k, none⟩) hbl2).trans (hc k hlt)
                  have hcd := catN_drop 2 ys k (by rw [HB.out.1]; exact hlt)
                  have hwf := u16_bd (HB.out.wf k hlt)
                  rw [hcd] at hr
                  clear hc hcd
                  generalize ys.getD k 0 = z at x0 hr hwf
                  obtain ⟨n, rfl⟩ := Int.eq_ofNat_of_zero_le hwf.1
                  have hn : n < 65536 := by omega
                  obtain ⟨q1, q2, q3⟩ := rd_be2 n (catN 2 (ys.drop (k + 1))) false hn
                  have HQ := Lib.hid (And.intro q2 q3)
                  have Hq := Lib.hid q1
                  clear q1 q2 q3 hwf
                  rw [show ((n : Int)).toNat = n from rfl] at hr
                  have hS0 : Below w.heap.size w wr.drew := below_step hbr.out (below_drew1 wr)
                  have hrd := hr.below (below_drew1 wr)
                  have hne : (beN 2 n ++ catN 2 (ys.drop (k + 1))).isEmpty = false := by
                    cases hh : beN 2 n ++ catN 2 (ys.drop (k + 1)) with
                    | nil => have := congrArg List.length hh; rw [List.length_append, beN_len] at this; simp at this
                    | cons _ _ => rfl
                  clear hr
                  go_wp2_with fail
                  refine wp_region_held (S := fun w' => Below w.heap.size w w') (by kernel_rfl) ?_
                  change wpAnyH _ _ _ _ _ _ _ _ wr.drew
                  change wpAnyH _ _ _ _ _ 12 (Array.replicate 12 false) _ _
                  refine wpAnyH_take (i := 0) (oi := ?_) (v := ?_) ?_ (by kernel_rfl) (by kernel_rfl) (by kernel_rfl) ?_ ?_ (by assumption) ?_
                  rotate_left 2; (simp only [List.getElem?_toArray, List.getElem?_cons_succ, List.getElem?_cons_zero]; rfl)
                  rotate_left; (first | (refine .inl ⟨by rfl, ?_⟩; intro w9 hS9; go_simp; try with_reducible rfl) | (refine .inr ⟨by rfl, ?_⟩; with_reducible rfl))
                  rotate_left; (intro _ _ _ h9; exact h9)
                  try simp only [Act.put, List.setIfInBounds_toArray, List.set_cons_zero, List.set_cons_succ]
                  refine wpAnyH_ready (rs := [1]) (by kernel_rfl) (by simp) (AllReadyH.cons rfl (fun K9 hK9 => ?_) AllReadyH.nil)
                  go_simp
                  go_must (refine (rd_end g bl _ _ _ hrd).mono ?_)
                  rintro e we0 ⟨v, rfl, hv, hb3⟩
                  rw [hne] at hv
                  obtain ⟨t, u, rfl⟩ := ErrN.iface hv
                  have hS9 : Below w.heap.size w we0 := below_step hS0 hb3
                  refine hK9.out _ _ hS9 (fun _ => ?_)
                  replace hrd := hrd.below hb3
                  clear hv hb3 hK9 hne
                  refine wpAnyH_take (i := 2) (oi := ?_) (v := ?_) ?_ (by kernel_rfl) (by kernel_rfl) (by kernel_rfl) ?_ ?_ (by assumption) ?_
                  rotate_left 2; (simp only [List.getElem?_toArray, List.getElem?_cons_succ, List.getElem?_cons_zero]; rfl)
                  rotate_left; (first | (refine .inl ⟨by rfl, ?_⟩; intro w9 hS9; go_simp; try with_reducible rfl) | (refine .inr ⟨by rfl, ?_⟩; with_reducible rfl))
                  rotate_left; (intro _ _ _ h9; exact h9)
                  try simp only [Act.put, List.setIfInBounds_toArray, List.set_cons_zero, List.set_cons_succ]
                  refine wpAnyH_take (i := 3) (oi := ?_) (v := ?_) ?_ (by kernel_rfl) (by kernel_rfl) (by kernel_rfl) ?_ ?_ (by assumption) ?_
                  rotate_left 2; (simp only [List.getElem?_toArray, List.getElem?_cons_succ, List.getElem?_cons_zero]; rfl)
                  rotate_left; (first | (refine .inl ⟨by rfl, ?_⟩; intro w9 hS9; go_simp; try with_reducible rfl) | (refine .inr ⟨by rfl, ?_⟩; with_reducible rfl))
                  rotate_left; (intro _ _ _ h9; exact h9)
                  try simp only [Act.put, List.setIfInBounds_toArray, List.set_cons_zero, List.set_cons_succ]
                  refine wpAnyH_take (i := 4) (oi := ?_) (v := ?_) ?_ (by kernel_rfl) (by kernel_rfl) (by kernel_rfl) ?_ ?_ (by assumption) ?_
                  rotate_left 2; (simp only [List.getElem?_toArray, List.getElem?_cons_succ, List.getElem?_cons_zero]; rfl)
                  rotate_left; (first | (refine .inl ⟨by rfl, ?_⟩; intro w9 hS9; go_simp; try with_reducible rfl) | (refine .inr ⟨by rfl, ?_⟩; with_reducible rfl))
                  rotate_left; (intro _ _ _ h9; exact h9)
                  try simp only [Act.put, List.setIfInBounds_toArray, List.set_cons_zero, List.set_cons_succ]
                  refine wpAnyH_take (i := 6) (oi := ?_) (v := ?_) ?_ (by kernel_rfl) (by kernel_rfl) (by kernel_rfl) ?_ ?_ (by assumption) ?_
                  rotate_left 2; (simp only [List.getElem?_toArray, List.getElem?_cons_succ, List.getElem?_cons_zero]; rfl)
                  rotate_left; (first | (refine .inl ⟨by rfl, ?_⟩; intro w9 hS9; go_simp; try with_reducible rfl) | (refine .inr ⟨by rfl, ?_⟩; with_reducible rfl))
                  rotate_left; (intro _ _ _ h9; exact h9)
                  try simp only [Act.put, List.setIfInBounds_toArray, List.set_cons_zero, List.set_cons_succ]
                  refine wpAnyH_take (i := 7) (oi := ?_) (v := ?_) ?_ (by kernel_rfl) (by kernel_rfl) (by kernel_rfl) ?_ ?_ (by assumption) ?_
                  rotate_left 2; (simp only [List.getElem?_toArray, List.getElem?_cons_succ, List.getElem?_cons_zero]; rfl)
                  rotate_left; (first | (refine .inl ⟨by rfl, ?_⟩; intro w9 hS9; go_simp; try with_reducible rfl) | (refine .inr ⟨by rfl, ?_⟩; with_reducible rfl))
                  rotate_left; (intro _ _ _ h9; exact h9)
                  try simp only [Act.put, List.setIfInBounds_toArray, List.set_cons_zero, List.set_cons_succ]
                  refine wpAnyH_take (i := 8) (oi := ?_) (v := ?_) ?_ (by kernel_rfl) (by kernel_rfl) (by kernel_rfl) ?_ ?_ (by assumption) ?_
                  rotate_left 2; (simp only [List.getElem?_toArray, List.getElem?_cons_succ, List.getElem?_cons_zero]; rfl)
                  rotate_left; (first | (refine .inl ⟨by rfl, ?_⟩; intro w9 hS9; go_simp; try with_reducible rfl) | (refine .inr ⟨by rfl, ?_⟩; with_reducible rfl))
                  rotate_left; (intro _ _ _ h9; exact h9)
                  try simp only [Act.put, List.setIfInBounds_toArray, List.set_cons_zero, List.set_cons_succ]
                  refine wpAnyH_take (i := 9) (oi := ?_) (v := ?_) ?_ (by kernel_rfl) (by kernel_rfl) (by kernel_rfl) ?_ ?_ (by assumption) ?_
                  rotate_left 2; (simp only [List.getElem?_toArray, List.getElem?_cons_succ, List.getElem?_cons_zero]; rfl)
                  rotate_left; (first | (refine .inl ⟨by rfl, ?_⟩; intro w9 hS9; go_simp; try with_reducible rfl) | (refine .inr ⟨by rfl, ?_⟩; with_reducible rfl))
                  rotate_left; (intro _ _ _ h9; exact h9)
                  try simp only [Act.put, List.setIfInBounds_toArray, List.set_cons_zero, List.set_cons_succ]
                  refine wpAnyH_ready (rs := [5]) (by kernel_rfl) (by simp) (AllReadyH.cons rfl (fun K9 hK9 => ?_) AllReadyH.nil)
                  go_simp
                  go_must (refine (rd_u16 g bl _ _ _ hrd).mono ?_)
                  rintro e we ⟨rfl, hr2, hf⟩
                  rw [HQ.out.1, HQ.out.2] at hr2
                  rw [Hq.out]
                  have hS1 : Below w.heap.size w we := below_one hS9 hf hwg
                  refine hK9.out _ _ hS1 (fun _ => ?_)
                  refine wpAnyH_take (i := 10) (oi := ?_) (v := ?_) ?_ (by kernel_rfl) (by kernel_rfl) (by kernel_rfl) ?_ ?_ (by assumption) ?_
                  rotate_left 2; (simp only [List.getElem?_toArray, List.getElem?_cons_succ, List.getElem?_cons_zero]; rfl)
                  rotate_left; (first | (refine .inl ⟨by rfl, ?_⟩; intro w9 hS9; go_simp; try with_reducible rfl) | (refine .inr ⟨by rfl, ?_⟩; with_reducible rfl))
                  rotate_left; (intro _ _ _ h9; exact h9)
                  try simp only [Act.put, List.setIfInBounds_toArray, List.set_cons_zero, List.set_cons_succ]
                  refine wpAnyH_take (i := 11) (oi := ?_) (v := ?_) ?_ (by kernel_rfl) (by kernel_rfl) (by kernel_rfl) ?_ ?_ (by assumption) ?_
                  rotate_left 2; (simp only [List.getElem?_toArray, List.getElem?_cons_succ, List.getElem?_cons_zero]; rfl)
                  rotate_left; (first | (refine .inl ⟨by rfl, ?_⟩; intro w9 hS9; go_simp; try with_reducible rfl) | (refine .inr ⟨by rfl, ?_⟩; with_reducible rfl))
                  rotate_left; (intro _ _ _ h9; exact h9)
                  try simp only [Act.put, List.setIfInBounds_toArray, List.set_cons_zero, List.set_cons_succ]
                  refine wpAnyH_done (by kernel_rfl) ?_ _
                  have HR := Lib.hid hr2
                  have HS := Lib.hid hS1
                  clear hr2 hS1 hS0 hS9 hf x0 hrd
                  go_wp2_with fail
                  exact ⟨⟨k + 1, by omega, by go_num, HR.out, HS.out⟩, by simp [intOf]; omega⟩
                · have hkl : ¬ (k : Int) < len1 := by omega
                  rw [List.drop_of_length_le (by rw [HB.out.1]; omega), show catN 2 [] = [] from rfl] at hr
                  go_wp2_with fail
                  refine (rd_end g bl _ _ _ hr).mono ?_
                  rintro e we ⟨v, rfl, hv, hb2⟩
                  obtain rfl : v = .nilIface := hv
                  replace hr := hr.below hb2
                  replace hbr := Lib.hid (below_step hbr.out hb2)
                  clear hb2
                  go_wp2_with fail
                  refine (rd_err g bl _ _ _ hr).mono ?_
                  rintro e wf ⟨v, rfl, hv, rfl⟩
                  obtain rfl : v = .nilIface := hv
                  go_wp2_with fail
                  go_ret
                  exact ⟨rfl, hbr.out⟩
end Go.Proofs.YtfhcjpodlclioaaDoor
