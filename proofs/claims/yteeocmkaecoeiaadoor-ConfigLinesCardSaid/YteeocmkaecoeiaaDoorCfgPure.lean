/- Crossings as bytes: the plain functions. -/
import Derived.Test.YteeocmkaecoeiaaDoorCrossing
import Derived.Test.YteeocmkaecoeiaaDoorOct2
import Derived.Test.YteeocmkaecoeiaaDoorCrcRef
namespace Go.Proofs.YteeocmkaecoeiaaDoor
open Go.RowKit
set_option linter.unusedVariables false
set_option linter.unusedSimpArgs false

def encTm (t : Tm) (k : Nat) : List UInt8 := (List.range k).flatMap fun i => beN 2 (t.get i).toNat
def encSp (x : Ln) (k : Nat) : List UInt8 := (List.range k).flatMap fun i => beN 2 (lnSp x i).toNat
def encLnTo (x : Ln) (k : Nat) : List UInt8 := beN 4 x.strike.toNat ++ beN 4 x.signal.toNat ++ encSp x k
def encLn (x : Ln) : List UInt8 := encLnTo x 3
def encHd (n : Nat) : List UInt8 := [88, 66, 49, UInt8.ofNat n]
def encBody (ls : List Ln) (t : Tm) : List UInt8 := encHd ls.length ++ encTm t 10 ++ ls.flatMap encLn
def cfEnc (ls : List Ln) (t : Tm) : List UInt8 := if cfOk ls t = true then crcSeal (encBody ls t) else []
theorem encTm_succ (t : Tm) (k : Nat) : encTm t (k + 1) = encTm t k ++ beN 2 (t.get k).toNat := by simp [encTm, List.range_succ]
theorem encSp_succ (x : Ln) (k : Nat) : encSp x (k + 1) = encSp x k ++ beN 2 (lnSp x k).toNat := by simp [encSp, List.range_succ]
theorem encLnTo_succ (x : Ln) (k : Nat) : encLnTo x (k + 1) = encLnTo x k ++ beN 2 (lnSp x k).toNat := by simp [encLnTo, encSp_succ]
theorem encTm_len (t : Tm) (k : Nat) : (encTm t k).length = 2 * k := by
  induction k with
  | zero => rfl
  | succ k ih => rw [encTm_succ, List.length_append, ih, beN_len]; omega
theorem encSp_len (x : Ln) (k : Nat) : (encSp x k).length = 2 * k := by
  induction k with
  | zero => rfl
  | succ k ih => rw [encSp_succ, List.length_append, ih, beN_len]; omega
theorem encLnTo_len (x : Ln) (k : Nat) : (encLnTo x k).length = 8 + 2 * k := by simp [encLnTo, encSp_len, beN_len]; omega
theorem encLn_len (x : Ln) : (encLn x).length = 14 := encLnTo_len x 3
theorem encLns_len (ls : List Ln) : (ls.flatMap encLn).length = 14 * ls.length := by
  induction ls with
  | nil => rfl
  | cons x ls ih => rw [List.flatMap_cons, List.length_append, ih, encLn_len, List.length_cons]; omega
theorem encHd_len (n : Nat) : (encHd n).length = 4 := rfl
theorem encBody_len (ls : List Ln) (t : Tm) : (encBody ls t).length = 24 + 14 * ls.length := by
  unfold encBody; rw [List.length_append, List.length_append, encHd_len, encTm_len, encLns_len]
theorem cfEnc_ok {ls : List Ln} {t : Tm} (h : cfOk ls t = true) : cfEnc ls t = crcSeal (encBody ls t) := if_pos h
theorem cfEnc_no {ls : List Ln} {t : Tm} (h : ¬ cfOk ls t = true) : cfEnc ls t = [] := if_neg h
theorem lnOk_bd (x : Ln) (h : lnOk x = true) : (2 ≤ x.strike ∧ x.strike ≤ 1000000) ∧ (1 ≤ x.signal ∧ x.signal < x.strike) ∧ (∀ j, j < 3 → 1 ≤ lnSp x j ∧ lnSp x j ≤ 5000) := by
  unfold lnOk btw at h
  simp at h
  refine ⟨by omega, by omega, fun j hj => ?_⟩
  rcases (by omega : j = 0 ∨ j = 1 ∨ j = 2) with rfl | rfl | rfl <;> simp only [lnSp] <;> omega
theorem w16 {a : Int} (h : 0 ≤ a ∧ a ≤ 65535) : IntKind.u16.wrap a = (a.toNat : Int) := by simp [IntKind.wrap, IntKind.bits, IntKind.signed]; omega
theorem w32 {a : Int} (h : 0 ≤ a ∧ a ≤ 4294967295) : IntKind.u32.wrap a = (a.toNat : Int) := by simp [IntKind.wrap, IntKind.bits, IntKind.signed]; omega
theorem w8 {n : Nat} (h : n < 256) : IntKind.u8.wrap (n : Int) = nb (UInt8.ofNat n) := by rw [IntKind.wrap_u8, nb_of]
theorem sp_index (x : Ln) (j : Nat) (hj : j < 3) (w : World) : (Instr.index 46 (.agg #[.int .i64 x.s0, .int .i64 x.s1, .int .i64 x.s2]) (.int .i64 (j : Int))).run Tryd.prog w = .ok (.int .i64 (lnSp x j)) w := by
  rcases (by omega : j = 0 ∨ j = 1 ∨ j = 2) with rfl | rfl | rfl <;> kernel_rfl
/-- Bytes and an error. -/
def IsEnc (bs : List UInt8) (c : Int) (w : World) (e : Ending) (w' : World) : Prop := ∃ v u, e = .returned (.tuple #[v, u]) ∧ OwnB w' w.heap.size v bs ∧ ErrIs w' u c ∧ Below w.heap.size w w'
/-- Bytes and a number. -/
def IsREnc (bs : List UInt8) (c : Int) (w : World) (e : Ending) (w' : World) : Prop := ∃ v, e = .returned (.tuple #[v, .int .i64 c]) ∧ OwnB w' w.heap.size v bs ∧ Below w.heap.size w w'
end Go.Proofs.YteeocmkaecoeiaaDoor
