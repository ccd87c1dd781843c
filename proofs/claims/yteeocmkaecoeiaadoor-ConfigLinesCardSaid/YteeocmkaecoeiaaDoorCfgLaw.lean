/- Crossings as bytes, and bytes as crossings: the plain laws. -/
import Derived.Test.YteeocmkaecoeiaaDoorCfgDPure
import Derived.Test.YteeocmkaecoeiaaDoorCrcOpn
namespace Go.Proofs.YteeocmkaecoeiaaDoor
open Go.RowKit
set_option linter.unusedVariables false
set_option linter.unusedSimpArgs false

theorem be2_val (n : Nat) (h : n < 65536) : beVal (beN 2 n) = n := by
  simp [beVal, beN, List.range_succ]
  omega
theorem be4_val (n : Nat) (h : n < 4294967296) : beVal (beN 4 n) = n := by
  simp [beVal, beN, List.range_succ]
  omega
theorem num_skip (k o : Nat) (a r : List UInt8) (n : Nat) (ha : a.length = n) : numAt k (a ++ r) (o + n) = numAt k r o := by
  unfold numAt
  rw [show o + n = n + o by omega, ← List.drop_drop, List.drop_append_of_le_length (by omega), List.drop_of_length_le (l := a) (by omega), List.nil_append]
theorem num_here (k m : Nat) (r : List UInt8) (h : beVal (beN k m) = m) : numAt k (beN k m ++ r) 0 = m := by
  unfold numAt
  rw [List.drop_zero, List.take_append_of_le_length (by rw [beN_len]; exact Nat.le_refl _), List.take_of_length_le (by rw [beN_len]; exact Nat.le_refl _), h]
theorem num_in (k o : Nat) (a r : List UInt8) (h : o + k ≤ a.length) : numAt k (a ++ r) o = numAt k a o := by
  unfold numAt
  rw [List.drop_append_of_le_length (by omega), List.take_append_of_le_length (by rw [List.length_drop]; omega)]
/-! ### What was encoded is decoded -/
theorem encTm_eq (t : Tm) : encTm t 10 = beN 2 t.t0.toNat ++ (beN 2 t.t1.toNat ++ (beN 2 t.t2.toNat ++ (beN 2 t.t3.toNat ++ (beN 2 t.t4.toNat ++ (beN 2 t.t5.toNat ++ (beN 2 t.t6.toNat ++ (beN 2 t.t7.toNat ++ (beN 2 t.t8.toNat ++ beN 2 t.t9.toNat)))))))) := by
  simp [encTm, List.range_succ, Tm.get]
theorem encLn_eq (x : Ln) : encLn x = beN 4 x.strike.toNat ++ (beN 4 x.signal.toNat ++ (beN 2 x.s0.toNat ++ (beN 2 x.s1.toNat ++ beN 2 x.s2.toNat))) := by
  simp [encLn, encLnTo, encSp, List.range_succ, lnSp]
theorem num2 (a : Int) (r : List UInt8) (h : 0 ≤ a ∧ a ≤ 65535) : numAt 2 (beN 2 a.toNat ++ r) 0 = a := by
  rw [num_here 2 _ _ (be2_val _ (by omega))]; omega
theorem num4 (a : Int) (r : List UInt8) (h : 0 ≤ a ∧ a ≤ 4294967295) : numAt 4 (beN 4 a.toNat ++ r) 0 = a := by
  rw [num_here 4 _ _ (be4_val _ (by omega))]; omega
theorem sk2 (k o : Nat) (m : Nat) (r : List UInt8) : numAt k (beN 2 m ++ r) (o + 2) = numAt k r o := num_skip k o _ r 2 (beN_len 2 m)
theorem sk4 (k o : Nat) (m : Nat) (r : List UInt8) : numAt k (beN 4 m ++ r) (o + 4) = numAt k r o := num_skip k o _ r 4 (beN_len 4 m)
theorem decTm_enc (t : Tm) (r : List UInt8) (h : ∀ k, k < 10 → 0 ≤ t.get k ∧ t.get k ≤ 65535) : decTm (encTm t 10 ++ r) = t := by
  have h0 := h 0 (by omega); have h1 := h 1 (by omega); have h2 := h 2 (by omega); have h3 := h 3 (by omega); have h4 := h 4 (by omega)
  have h5 := h 5 (by omega); have h6 := h 6 (by omega); have h7 := h 7 (by omega); have h8 := h 8 (by omega); have h9 := h 9 (by omega)
  simp only [Tm.get] at h0 h1 h2 h3 h4 h5 h6 h7 h8 h9
  obtain ⟨t0, t1, t2, t3, t4, t5, t6, t7, t8, t9⟩ := t
  simp only at h0 h1 h2 h3 h4 h5 h6 h7 h8 h9
  rw [encTm_eq]
  simp only [List.append_assoc, decTm, Tm.mk.injEq]
  refine ⟨num2 _ _ h0, ?_, ?_, ?_, ?_, ?_, ?_, ?_, ?_, ?_⟩
  · rw [sk2 2 0]; exact num2 _ _ h1
  · rw [sk2 2 2, sk2 2 0]; exact num2 _ _ h2
  · rw [sk2 2 4, sk2 2 2, sk2 2 0]; exact num2 _ _ h3
  · rw [sk2 2 6, sk2 2 4, sk2 2 2, sk2 2 0]; exact num2 _ _ h4
  · rw [sk2 2 8, sk2 2 6, sk2 2 4, sk2 2 2, sk2 2 0]; exact num2 _ _ h5
  · rw [sk2 2 10, sk2 2 8, sk2 2 6, sk2 2 4, sk2 2 2, sk2 2 0]; exact num2 _ _ h6
  · rw [sk2 2 12, sk2 2 10, sk2 2 8, sk2 2 6, sk2 2 4, sk2 2 2, sk2 2 0]; exact num2 _ _ h7
  · rw [sk2 2 14, sk2 2 12, sk2 2 10, sk2 2 8, sk2 2 6, sk2 2 4, sk2 2 2, sk2 2 0]; exact num2 _ _ h8
  · rw [sk2 2 16, sk2 2 14, sk2 2 12, sk2 2 10, sk2 2 8, sk2 2 6, sk2 2 4, sk2 2 2, sk2 2 0]; exact num2 _ _ h9
theorem decLn_enc (x : Ln) (r : List UInt8) (h : lnOk x = true) : decLn (encLn x ++ r) 0 = x := by
  obtain ⟨h1, h2, h3⟩ := lnOk_bd x h
  have g0 := h3 0 (by omega); have g1 := h3 1 (by omega); have g2 := h3 2 (by omega)
  simp only [lnSp] at g0 g1 g2
  obtain ⟨st, sg, s0, s1, s2⟩ := x
  simp only at h1 h2 g0 g1 g2
  rw [encLn_eq]
  simp only [List.append_assoc, decLn, Ln.mk.injEq]
  refine ⟨num4 _ _ (by omega), ?_, ?_, ?_, ?_⟩
  · rw [sk4 4 0]; exact num4 _ _ (by omega)
  · rw [show 0 + 8 = 4 + 4 from rfl, sk4 2 4, sk4 2 0]; exact num2 _ _ (by omega)
  · rw [show 0 + 10 = 6 + 4 from rfl, sk4 2 6, sk4 2 2, sk2 2 0]; exact num2 _ _ (by omega)
  · rw [show 0 + 12 = 8 + 4 from rfl, sk4 2 8, sk4 2 4, sk2 2 2, sk2 2 0]
    have := num2 s2 r (by omega)
    exact this
theorem decLn_skip (a r : List UInt8) (o n : Nat) (ha : a.length = n) : decLn (a ++ r) (o + n) = decLn r o := by
  unfold decLn
  rw [num_skip 4 o a r n ha, show o + n + 4 = (o + 4) + n by omega, num_skip 4 (o + 4) a r n ha, show o + n + 8 = (o + 8) + n by omega, num_skip 2 (o + 8) a r n ha, show o + n + 10 = (o + 10) + n by omega, num_skip 2 (o + 10) a r n ha, show o + n + 12 = (o + 12) + n by omega, num_skip 2 (o + 12) a r n ha]
theorem decLns_go (ls : List Ln) (h : ls.all lnOk = true) (r : List UInt8) : (List.range ls.length).map (fun i => decLn (ls.flatMap encLn ++ r) (14 * i)) = ls := by
  induction ls with
  | nil => rfl
  | cons x ls ih =>
    simp only [List.all_cons, Bool.and_eq_true] at h
    rw [List.length_cons, List.range_succ_eq_map, List.map_cons, List.map_map, List.flatMap_cons, List.append_assoc, Nat.mul_zero, decLn_enc x _ h.1]
    congr 1
    refine Eq.trans (List.map_congr_left (g := fun i => decLn (ls.flatMap encLn ++ r) (14 * i)) fun i _ => ?_) (ih h.2)
    show decLn _ (14 * (i + 1)) = _
    rw [show 14 * (i + 1) = 14 * i + 14 by omega, decLn_skip _ _ _ 14 (encLn_len x)]
theorem decLns_enc (ls : List Ln) (t : Tm) (h : ls.all lnOk = true) : decLns (encTm t 10 ++ ls.flatMap encLn) ls.length = ls := by
  unfold decLns
  have hg := decLns_go ls h []
  rw [List.append_nil] at hg
  conv => rhs; rw [← hg]
  apply List.map_congr_left
  intro i _
  rw [show 20 + 14 * i = 14 * i + 20 by omega, decLn_skip _ _ _ 20 (encTm_len t 10)]
theorem encBody_drop (ls : List Ln) (t : Tm) : (encBody ls t).drop 4 = encTm t 10 ++ ls.flatMap encLn := by
  unfold encBody encHd
  simp
theorem decN_enc (ls : List Ln) (t : Tm) (h : ls.length ≤ 8) : decN (encBody ls t) = ls.length := by
  unfold decN encBody encHd
  simp
  omega
theorem dec_enc (ls : List Ln) (t : Tm) (h : cfOk ls t = true) : decErr (cfEnc ls t) = 0 ∧ decLs (cfEnc ls t) = ls ∧ decT (cfEnc ls t) = t := by
  have hl := cfOk_len ls t h
  have ha : ls.all lnOk = true := by unfold cfOk at h; simp only [Bool.and_eq_true] at h; exact h.2
  have ht : ∀ k, k < 10 → 0 ≤ t.get k ∧ t.get k ≤ 65535 := fun k hk => by have := cfOk_tm ls t h k hk; omega
  have hf : decForm (encBody ls t) = true := by
    unfold decForm
    rw [decN_enc ls t hl.2, encBody_len]
    simp [pfxB, encBody, encHd]
    omega
  have e1 : decLns ((encBody ls t).drop 4) (decN (encBody ls t)) = ls := by rw [encBody_drop, decN_enc ls t hl.2, decLns_enc ls t ha]
  have e2 : decTm ((encBody ls t).drop 4) = t := by rw [encBody_drop, decTm_enc t _ ht]
  have := dec_ok (bs := cfEnc ls t) (xs := encBody ls t) (by rw [cfEnc_ok h, opn_seal]) hf (by rw [e1, e2]; exact h)
  rwa [e1, e2] at this

/-! ### What was decoded is encoded -/
theorem be2_back (l : List UInt8) (h : l.length = 2) : beN 2 (beVal l) = l := by
  match l, h with
  | [a, b], _ =>
    have ha := a.toNat_lt
    have hb := b.toNat_lt
    have e : beN 2 (beVal [a, b]) = [UInt8.ofNat ((256 * a.toNat + b.toNat) / 256), UInt8.ofNat (256 * a.toNat + b.toNat)] := by simp [beN, beVal, List.range_succ]
    rw [e]
    congr 1
    · apply UInt8.toNat_inj.1; rw [UInt8.toNat_ofNat']; omega
    · congr 1
      apply UInt8.toNat_inj.1; rw [UInt8.toNat_ofNat']; omega
theorem be4_back (l : List UInt8) (h : l.length = 4) : beN 4 (beVal l) = l := by
  match l, h with
  | [a, b, c, d], _ =>
    have ha := a.toNat_lt
    have hb := b.toNat_lt
    have hc := c.toNat_lt
    have hd := d.toNat_lt
    have e : beN 4 (beVal [a, b, c, d]) = [UInt8.ofNat ((256 * (256 * (256 * a.toNat + b.toNat) + c.toNat) + d.toNat) / 16777216), UInt8.ofNat ((256 * (256 * (256 * a.toNat + b.toNat) + c.toNat) + d.toNat) / 65536), UInt8.ofNat ((256 * (256 * (256 * a.toNat + b.toNat) + c.toNat) + d.toNat) / 256), UInt8.ofNat (256 * (256 * (256 * a.toNat + b.toNat) + c.toNat) + d.toNat)] := by simp [beN, beVal, List.range_succ]
    rw [e]
    have q1 : UInt8.ofNat ((256 * (256 * (256 * a.toNat + b.toNat) + c.toNat) + d.toNat) / 16777216) = a := by apply UInt8.toNat_inj.1; rw [UInt8.toNat_ofNat']; omega
    have q2 : UInt8.ofNat ((256 * (256 * (256 * a.toNat + b.toNat) + c.toNat) + d.toNat) / 65536) = b := by apply UInt8.toNat_inj.1; rw [UInt8.toNat_ofNat']; omega
    have q3 : UInt8.ofNat ((256 * (256 * (256 * a.toNat + b.toNat) + c.toNat) + d.toNat) / 256) = c := by apply UInt8.toNat_inj.1; rw [UInt8.toNat_ofNat']; omega
    have q4 : UInt8.ofNat (256 * (256 * (256 * a.toNat + b.toNat) + c.toNat) + d.toNat) = d := by apply UInt8.toNat_inj.1; rw [UInt8.toNat_ofNat']; omega
    rw [q1, q2, q3, q4]
theorem chunk2 (ys : List UInt8) (o : Nat) (h : o + 2 ≤ ys.length) : beN 2 (numAt 2 ys o).toNat = (ys.drop o).take 2 := by
  unfold numAt
  rw [Int.toNat_natCast, be2_back _ (by rw [List.length_take, List.length_drop]; omega)]
theorem chunk4 (ys : List UInt8) (o : Nat) (h : o + 4 ≤ ys.length) : beN 4 (numAt 4 ys o).toNat = (ys.drop o).take 4 := by
  unfold numAt
  rw [Int.toNat_natCast, be4_back _ (by rw [List.length_take, List.length_drop]; omega)]
theorem encTm_dec (ys : List UInt8) (h : 20 ≤ ys.length) : ∀ k, k ≤ 10 → encTm (decTm ys) k = ys.take (2 * k)
  | 0, _ => rfl
  | k + 1, hk => by
    rw [encTm_succ, encTm_dec ys h k (by omega), decTm_get ys k (by omega), chunk2 ys (2 * k) (by omega), show 2 * (k + 1) = 2 * k + 2 by omega, List.take_add]
theorem encLn_dec (ys : List UInt8) (o : Nat) (h : o + 14 ≤ ys.length) : encLn (decLn ys o) = (ys.drop o).take 14 := by
  rw [encLn_eq]
  simp only [decLn]
  rw [chunk4 ys o (by omega), chunk4 ys (o + 4) (by omega), chunk2 ys (o + 8) (by omega), chunk2 ys (o + 10) (by omega), chunk2 ys (o + 12) (by omega)]
  rw [show (14 : Nat) = 4 + (4 + (2 + (2 + 2))) from rfl, List.take_add, List.take_add, List.take_add, List.take_add]
  simp only [List.drop_drop]
theorem encLns_dec (ys : List UInt8) : ∀ n, 20 + 14 * n ≤ ys.length → (decLns ys n).flatMap encLn = (ys.drop 20).take (14 * n)
  | 0, _ => rfl
  | n + 1, h => by
    rw [decLns_succ, List.flatMap_append, encLns_dec ys n (by omega)]
    simp only [List.flatMap_cons, List.flatMap_nil, List.append_nil]
    rw [encLn_dec ys _ (by omega), show 14 * (n + 1) = 14 * n + 14 by omega, List.take_add, List.drop_drop]
theorem encBody_dec (xs : List UInt8) (h : decForm xs = true) : encBody (decLns (xs.drop 4) (decN xs)) (decTm (xs.drop 4)) = xs := by
  unfold decForm pfxB at h
  simp only [Bool.and_eq_true, decide_eq_true_eq] at h
  obtain ⟨⟨h1, h2⟩, h3⟩ := h
  have hl : (xs.drop 4).length = 20 + 14 * decN xs := by rw [List.length_drop]; omega
  unfold encBody
  rw [decLns_len, encTm_dec _ (by omega) 10 (by omega), encLns_dec _ _ (by omega), List.append_assoc]
  have hb : (xs.drop 4).take (2 * 10) ++ ((xs.drop 4).drop 20).take (14 * decN xs) = xs.drop 4 := by
    rw [← List.take_add, List.take_of_length_le (by omega)]
  rw [hb]
  have h4 : xs = xs.take 3 ++ xs.drop 3 := (List.take_append_drop 3 xs).symm
  have h5 : xs.drop 3 = xs.getD 3 0 :: xs.drop 4 := by
    rw [List.drop_eq_getElem_cons (by omega), List.getD_eq_getElem?_getD, List.getElem?_eq_getElem (by omega)]
    rfl
  have h6 : xs.take 3 = [88, 66, 49] := h1
  conv => rhs; rw [h4, h5, h6]
  unfold encHd decN
  simp
theorem enc_dec (bs : List UInt8) (h : decErr bs = 0) : cfOk (decLs bs) (decT bs) = true ∧ cfEnc (decLs bs) (decT bs) = bs := by
  cases ho : crcOpen bs with
  | none => rw [(dec_none ho).1] at h; cases h
  | some xs =>
    cases hf : decForm xs with
    | false => rw [(dec_form ho hf).1] at h; cases h
    | true =>
      by_cases hc : cfOk (decLns (xs.drop 4) (decN xs)) (decTm (xs.drop 4)) = true
      · obtain ⟨_, h2, h3⟩ := dec_ok ho hf hc
        rw [h2, h3]
        exact ⟨hc, by rw [cfEnc_ok hc, encBody_dec xs hf, opn_back ho]⟩
      · rw [(dec_range ho hf hc).1] at h; cases h
theorem dec_bad (bs : List UInt8) (h : decErr bs ≠ 0) : decLs bs = [] ∧ decT bs = tm0 := by
  cases ho : crcOpen bs with
  | none => exact (dec_none ho).2
  | some xs =>
    cases hf : decForm xs with
    | false => exact (dec_form ho hf).2
    | true =>
      by_cases hc : cfOk (decLns (xs.drop 4) (decN xs)) (decTm (xs.drop 4)) = true
      · exact absurd (dec_ok ho hf hc).1 h
      · exact (dec_range ho hf hc).2
theorem decErr_01 (bs : List UInt8) : decErr bs = 0 ∨ (decErr bs == 0) = false := by
  by_cases h : decErr bs = 0
  · exact .inl h
  · exact .inr (by rw [beq_eq_false_iff_ne]; exact h)
/-- Two crossings of one row of bytes are one. -/
theorem enc_inj {xs ys : List Ln} {t u : Tm} (h : cfOk xs t = true) (k : cfOk ys u = true) : cfEnc xs t = cfEnc ys u ↔ (t = u ∧ xs = ys) := by
  refine ⟨fun e => ?_, fun ⟨e, e2⟩ => by rw [e, e2]⟩
  obtain ⟨_, a, b⟩ := dec_enc xs t h
  obtain ⟨_, c, d⟩ := dec_enc ys u k
  rw [e] at a b
  exact ⟨b.symm.trans d, a.symm.trans c⟩
end Go.Proofs.YteeocmkaecoeiaaDoor
