/- Bytes as crossings: the plain functions. -/
import Derived.Test.YteeocmkaecoeiaaDoorCfgPure
import Derived.Test.YteeocmkaecoeiaaDoorByPfx
import Derived.Test.YteeocmkaecoeiaaDoorRdr2
namespace Go.Proofs.YteeocmkaecoeiaaDoor
open Go.RowKit
set_option linter.unusedVariables false
set_option linter.unusedSimpArgs false

/-- The number of k bytes from a place on. -/
def numAt (k : Nat) (ys : List UInt8) (o : Nat) : Int := (beVal ((ys.drop o).take k) : Int)
def decTm (ys : List UInt8) : Tm := ⟨numAt 2 ys 0, numAt 2 ys 2, numAt 2 ys 4, numAt 2 ys 6, numAt 2 ys 8, numAt 2 ys 10, numAt 2 ys 12, numAt 2 ys 14, numAt 2 ys 16, numAt 2 ys 18⟩
theorem decTm_get (ys : List UInt8) (k : Nat) (hk : k < 10) : (decTm ys).get k = numAt 2 ys (2 * k) := by
  rcases (by omega : k = 0 ∨ k = 1 ∨ k = 2 ∨ k = 3 ∨ k = 4 ∨ k = 5 ∨ k = 6 ∨ k = 7 ∨ k = 8 ∨ k = 9) with rfl | rfl | rfl | rfl | rfl | rfl | rfl | rfl | rfl | rfl <;> rfl
def decLn (ys : List UInt8) (o : Nat) : Ln := ⟨numAt 4 ys o, numAt 4 ys (o + 4), numAt 2 ys (o + 8), numAt 2 ys (o + 10), numAt 2 ys (o + 12)⟩
def decLns (ys : List UInt8) (n : Nat) : List Ln := (List.range n).map fun i => decLn ys (20 + 14 * i)
theorem decLns_succ (ys : List UInt8) (n : Nat) : decLns ys (n + 1) = decLns ys n ++ [decLn ys (20 + 14 * n)] := by simp [decLns, List.range_succ]
theorem decLns_len (ys : List UInt8) (n : Nat) : (decLns ys n).length = n := by simp [decLns]
/-- How many lines are told. -/
def decN (xs : List UInt8) : Nat := (xs.getD 3 0).toNat
def decForm (xs : List UInt8) : Bool := pfxB xs [88, 66, 49] && decide (4 ≤ xs.length) && decide (xs.length = 24 + 14 * decN xs)
/-- What Decode tells: an error, lines, times. -/
def decErr (bs : List UInt8) : Int := match crcOpen bs with
  | none => 3
  | some xs => if decForm xs = true then cfErr (decLns (xs.drop 4) (decN xs)) (decTm (xs.drop 4)) else 2
def tm0 : Tm := ⟨0, 0, 0, 0, 0, 0, 0, 0, 0, 0⟩
def decLs (bs : List UInt8) : List Ln := match crcOpen bs with
  | none => []
  | some xs => if decForm xs = true ∧ cfOk (decLns (xs.drop 4) (decN xs)) (decTm (xs.drop 4)) = true then decLns (xs.drop 4) (decN xs) else []
def decT (bs : List UInt8) : Tm := match crcOpen bs with
  | none => tm0
  | some xs => if decForm xs = true ∧ cfOk (decLns (xs.drop 4) (decN xs)) (decTm (xs.drop 4)) = true then decTm (xs.drop 4) else tm0
theorem dec_none {bs : List UInt8} (h : crcOpen bs = none) : decErr bs = 3 ∧ decLs bs = [] ∧ decT bs = tm0 := by simp [decErr, decLs, decT, h]
theorem dec_form {bs xs : List UInt8} (h : crcOpen bs = some xs) (hf : decForm xs = false) : decErr bs = 2 ∧ decLs bs = [] ∧ decT bs = tm0 := by simp [decErr, decLs, decT, h, hf]
theorem dec_range {bs xs : List UInt8} (h : crcOpen bs = some xs) (hf : decForm xs = true) (hc : ¬ cfOk (decLns (xs.drop 4) (decN xs)) (decTm (xs.drop 4)) = true) : decErr bs = 6 ∧ decLs bs = [] ∧ decT bs = tm0 := by
  refine ⟨?_, ?_, ?_⟩
  · simp only [decErr, h, hf, if_true]; exact cfErr_no hc
  · simp [decLs, h, hf, hc]
  · simp [decT, h, hf, hc]
theorem dec_ok {bs xs : List UInt8} (h : crcOpen bs = some xs) (hf : decForm xs = true) (hc : cfOk (decLns (xs.drop 4) (decN xs)) (decTm (xs.drop 4)) = true) : decErr bs = 0 ∧ decLs bs = decLns (xs.drop 4) (decN xs) ∧ decT bs = decTm (xs.drop 4) := by
  refine ⟨?_, ?_, ?_⟩
  · simp only [decErr, h, hf, if_true]; exact cfErr_ok hc
  · simp [decLs, h, hf, hc]
  · simp [decT, h, hf, hc]
/-- Reading on. -/
theorem rd_step (k o : Nat) (ys : List UInt8) (h : o + k ≤ ys.length) : ((rdVal k (ys.drop o) : Nat) : Int) = numAt k ys o ∧ rdLeft k (ys.drop o) = ys.drop (o + k) ∧ rdBad k (ys.drop o) false = false := by
  have hl : ¬ (ys.drop o).length < k := by rw [List.length_drop]; omega
  unfold rdVal rdLeft rdBad numAt
  rw [if_neg hl, if_neg hl, if_neg hl, List.drop_drop]
  exact ⟨rfl, rfl, rfl⟩
theorem numAt_bd (k : Nat) (ys : List UInt8) (o : Nat) : 0 ≤ numAt k ys o ∧ numAt k ys o < (256 ^ k : Nat) := by
  unfold numAt
  have h := beVal_lt ((ys.drop o).take k)
  have h2 : ((ys.drop o).take k).length ≤ k := List.length_take_le _ _
  have h3 : 256 ^ ((ys.drop o).take k).length ≤ 256 ^ k := Nat.pow_le_pow_right (by omega) h2
  exact ⟨by omega, by exact_mod_cast Nat.lt_of_lt_of_le h h3⟩
/-- A crossing in memory, and an error. -/
def IsDec (ls : List Ln) (t : Tm) (c : Int) (w : World) (e : Ending) (w' : World) : Prop := ∃ A k u, e = .returned (.tuple #[cfv A ls.length k t, u]) ∧ RLn w' A ls.length k ls ∧ ErrIs w' u c ∧ Below w.heap.size w w'
def IsRDec (ls : List Ln) (t : Tm) (c : Int) (w : World) (e : Ending) (w' : World) : Prop := ∃ A k, e = .returned (.tuple #[cfv A ls.length k t, .int .i64 c]) ∧ RLn w' A ls.length k ls ∧ Below w.heap.size w w'
end Go.Proofs.YteeocmkaecoeiaaDoor
