/- The walk of OctetParts. -/
import Derived.Test.YtfhcjpodlclioaaDoorOctSmall
namespace Go.Proofs.YtfhcjpodlclioaaDoor
open Go.RowKit
set_option linter.unusedVariables false
set_option linter.unusedSimpArgs false

theorem orU32 (a b k : Nat) (hb : b < 2 ^ k) (h : a * 2 ^ k + b < 4294967296) (x y : Int) (hx : x = ((a * 2 ^ k : Nat) : Int)) (hy : y = (b : Int)) : bits .or .u32 x y = ((a * 2 ^ k + b : Nat) : Int) := by
  subst hx hy
  show IntKind.u32.wrap ((BitVec.ofInt 32 ((a * 2 ^ k : Nat) : Int) ||| BitVec.ofInt 32 ((b : Nat) : Int)).toNat : Int) = _
  rw [BitVec.ofInt_natCast, BitVec.ofInt_natCast, BitVec.toNat_or, BitVec.toNat_ofNat, BitVec.toNat_ofNat, Nat.mod_eq_of_lt (by omega), Nat.mod_eq_of_lt (by omega), ← Nat.shiftLeft_eq, ← Nat.shiftLeft_add_eq_or_of_lt hb]
  rw [Nat.shiftLeft_eq]
  generalize a * 2 ^ k + b = s at *
  simp only [IntKind.wrap, IntKind.bits, IntKind.signed]
  simp
  omega
theorem rdVal4 (a b c d : UInt8) : rdVal 4 [a, b, c, d] = ((a.toNat * 256 + b.toNat) * 256 + c.toNat) * 256 + d.toNat := by
  unfold rdVal beVal
  rw [if_neg (by simp)]
  simp only [List.take_succ_cons, List.take_zero, List.foldl_cons, List.foldl_nil]
  omega
theorem rdVal2 (a b : UInt8) (r : List UInt8) : rdVal 2 (a :: b :: r) = a.toNat * 256 + b.toNat := by
  unfold rdVal beVal
  rw [if_neg (by simp)]
  simp only [List.take_succ_cons, List.take_zero, List.foldl_cons, List.foldl_nil]
  omega
theorem parts_or (z0 z1 z2 z3 s4 p q : Nat) (h0 : z0 < 256) (h1 : z1 < 256) (h2 : z2 < 256) (h3 : z3 < 256) (hs : s4 = ((z0 * 256 + z1) * 256 + z2) * 256 + z3) (hp : p = z0 * 256 + z1) (hq : q = z2 * 256 + z3) :
    ∃ s2 s3 : Int, bits .or .u32 ((p : Int) * 65536) (q : Int) = (s4 : Int) ∧ bits .or .u32 ((z0 : Int) * 16777216) ((z1 : Int) * 65536) = s2 ∧ bits .or .u32 s2 ((z2 : Int) * 256) = s3 ∧ bits .or .u32 s3 (z3 : Int) = (s4 : Int) := by
  refine ⟨((z0 * 2 ^ 24 + z1 * 65536 : Nat) : Int), (((z0 * 256 + z1) * 2 ^ 16 + z2 * 256 : Nat) : Int), ?_, ?_, ?_, ?_⟩
  · have t := orU32 p q 16 (by omega) (by omega) ((p : Int) * 65536) (q : Int) (by simp) rfl
    rw [t]; congr 1; omega
  · exact orU32 z0 (z1 * 65536) 24 (by omega) (by omega) _ _ (by simp) (by simp)
  · exact orU32 (z0 * 256 + z1) (z2 * 256) 16 (by omega) (by omega) _ _ (by simp; omega) (by simp)
  · have t := orU32 ((z0 * 256 + z1) * 256 + z2) z3 8 (by omega) (by omega) (((z0 * 256 + z1) * 2 ^ 16 + z2 * 256 : Nat) : Int) (z3 : Int) (by simp; omega) rfl
    rw [t]; congr 1; omega

set_option maxRecDepth 100000 in
set_option maxHeartbeats 4000000 in
theorem octetParts_walk (b0 b1 b2 b3 : UInt8) (w : World) (hg : HasTy w) :
    Calls Tryd.prog 7 #[.agg #[.int .u8 (nb b0), .int .u8 (nb b1), .int .u8 (nb b2), .int .u8 (nb b3)]] w fun e w' => e = .returned (.bool true) ∧ Below w.heap.size w w' := by
  have hbx := below_new w (.cells #[.int .u8 (nb b0), .int .u8 (nb b1), .int .u8 (nb b2), .int .u8 (nb b3)] 50)
  have hrs := rs_new w [b0, b1, b2, b3] 50 (by simp)
  have H0 := Lib.hid (hg.below hbx)
  have hsz : (w.alloc (.cells #[.int .u8 (nb b0), .int .u8 (nb b1), .int .u8 (nb b2), .int .u8 (nb b3)] 50)).heap.size = w.heap.size + 1 := by simp
  change RS (w.alloc (.cells #[.int .u8 (nb b0), .int .u8 (nb b1), .int .u8 (nb b2), .int .u8 (nb b3)] 50)) _ 4 4 _ at hrs
  clear hg
  go_enter Tryd.func7, Tryd.ntmps7
  go_wp2_with fail
  generalize w.alloc (.cells #[.int .u8 (nb b0), .int .u8 (nb b1), .int .u8 (nb b2), .int .u8 (nb b3)] 50) = wx at *
  refine (oct_small _ H0.out).mono ?_
  rintro e wa ⟨rfl, hb⟩
  have hsx := hb.size
  replace hrs := hrs.below hb
  replace hb := below_step hbx hb
  clear hbx
  go_wp2_with fail
  refine (rd_over _ 4 4 _ _ hrs (by omega)).mono ?_
  rintro e wb ⟨g, bl, rfl, hr, hgg, hbl, hbls, hb2⟩
  have hsa := hb.size
  have hsb := hb2.size
  replace hrs := hrs.below hb2
  replace hb := below_step hb hb2
  have hgl := hr.lt
  clear hb2
  go_wp2_with fail
  refine (rd_over _ 4 4 _ _ hrs (by omega)).mono ?_
  rintro e wc ⟨g2, bl2, rfl, hr2, hgg2, hbl2, hbls2, hb2⟩
  replace hrs := hrs.below hb2
  replace hr := hr.below hb2
  replace hb := Lib.hid (below_step hb hb2)
  clear hb2
  go_wp2_with fail
  refine (rd_u32 g bl _ _ _ hr).mono ?_
  rintro e wd ⟨rfl, hr1, hf⟩
  replace hr2 := hr.other hr2 hf (by omega) (fun _ => by omega)
  replace hrs := hrs.one hf (by omega)
  replace hb := Lib.hid (below_one hb.out hf (by omega))
  clear hr hr1 hf
  have hv4 := Lib.hid (rdVal4 b0 b1 b2 b3)
  go_wp2_with fail
  refine (rd_u16 g2 bl2 _ _ _ hr2).mono ?_
  rintro e we ⟨rfl, hr3, hf⟩
  replace hr3 : RdIs we g2 bl2 [b2, b3] false := hr3
  replace hrs := hrs.one hf (by omega)
  replace hb := Lib.hid (below_one hb.out hf (by omega))
  clear hr2 hf
  have hv2 := Lib.hid (rdVal2 b0 b1 [b2, b3])
  have hp : rdVal 2 [b0, b1, b2, b3] < 65536 := rdVal_lt 2 _
  generalize rdVal 2 [b0, b1, b2, b3] = p at hv2 hp ⊢
  generalize rdVal 4 [b0, b1, b2, b3] = s4 at hv4 ⊢
  go_wp2_with fail
  refine (rd_u16 g2 bl2 _ _ _ hr3).mono ?_
  rintro e wf ⟨rfl, hr4, hf⟩
  replace hrs := hrs.one hf (by omega)
  replace hb := Lib.hid (below_one hb.out hf (by omega))
  clear hr3 hr4 hf
  have hw2 := Lib.hid (rdVal2 b2 b3 [])
  have hq : rdVal 2 [b2, b3] < 65536 := rdVal_lt 2 _
  generalize rdVal 2 [b2, b3] = q at hw2 hq ⊢
  obtain ⟨_, _, e9, _, hc⟩ := hrs.rb.cells (by omega)
  cases e9
  have x0 := hc 0 (by omega)
  have x1 := hc 1 (by omega)
  have x2 := hc 2 (by omega)
  have x3 := hc 3 (by omega)
  unfold bv at x0 x1 x2 x3
  simp only [List.getD_cons_zero, List.getD_cons_succ, Nat.zero_add] at x0 x1 x2 x3
  have n0 := nb_bd b0
  have n1 := nb_bd b1
  have n2 := nb_bd b2
  have n3 := nb_bd b3
  obtain ⟨s2, s3, t1, t2, t3, t4⟩ := parts_or b0.toNat b1.toNat b2.toNat b3.toNat s4 p q b0.toNat_lt b1.toNat_lt b2.toNat_lt b3.toNat_lt hv4.out hv2.out hw2.out
  change bits .or .u32 (nb b0 * 16777216) (nb b1 * 65536) = s2 at t2
  change bits .or .u32 s2 (nb b2 * 256) = s3 at t3
  change bits .or .u32 s3 (nb b3) = (s4 : Int) at t4
  generalize nb b0 = y0 at *
  generalize nb b1 = y1 at *
  generalize nb b2 = y2 at *
  generalize nb b3 = y3 at *
  clear hrs hc hv4 hv2 hw2 hsx hsa hsb hgg hbl hbls hgg2 hbl2 hbls2 hgl hsz
  have hp' : (p : Int) < 65536 := by omega
  have hq' : (q : Int) < 65536 := by omega
  go_wp2_with fail
  go_ret
  exact ⟨rfl, hb.out⟩
end Go.Proofs.YtfhcjpodlclioaaDoor
