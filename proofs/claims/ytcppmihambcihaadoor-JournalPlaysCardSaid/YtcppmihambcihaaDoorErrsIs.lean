/- errors.Is at an error of a number, and at none. -/
import Derived.Test.YtcppmihambcihaaDoorFault
import Derived.Lib.IfaceEq
namespace Go.Proofs.YtcppmihambcihaaDoor
open Go.RowKit Go.Extern.Stop Go.Stop Go.Extern
set_option linter.unusedVariables false
set_option linter.unusedSimpArgs false
theorem fi_comparable (w : World) : (ReflectliteType.method (fun t => do Rtype.noPackHeld "Comparable" t; (fun a => Value.bool a.comparable) <$> typeInfo t) #[.agg #[.pointer (some ⟨2, 41, none⟩)]]).run Tryd.prog w = .ok (.bool true) w := by kernel_rfl
theorem fi_methodComparable (v : Value) (w : World) : (Go.method 282 122 v "Comparable").run Tryd.prog w = .ok (111, v) w := by kernel_rfl
theorem fi_comp : (Tryd.prog.info? 41).map (·.comparable) = some true := by kernel_rfl
theorem fi_noIsE (v : Value) (xT : TypeId) (w : World) : (Instr.typeAssert (.iface 41 v) xT 124 true).run Tryd.prog w = .ok (.tuple #[.nilIface, .bool false]) w := run_typeAssert_lacksB Tryd.underlying124 (by kernel_rfl) (by kernel_rfl) v xT w
theorem fi_noUnwrapE (v : Value) (xT : TypeId) (w : World) : (Instr.typeAssert (.iface 41 v) xT 127 true).run Tryd.prog w = .ok (.tuple #[.nilIface, .bool false]) w := run_typeAssert_lacksB Tryd.underlying127 (by kernel_rfl) (by kernel_rfl) v xT w
theorem fi_noUnwrapsE (v : Value) (xT : TypeId) (w : World) : (Instr.typeAssert (.iface 41 v) xT 129 true).run Tryd.prog w = .ok (.tuple #[.nilIface, .bool false]) w := run_typeAssert_lacksB Tryd.underlying129 (by kernel_rfl) (by kernel_rfl) v xT w
theorem fi_noIsS (v : Value) (xT : TypeId) (w : World) : (Instr.typeAssert (.iface 91 v) xT 124 true).run Tryd.prog w = .ok (.tuple #[.nilIface, .bool false]) w := run_typeAssert_lacksB Tryd.underlying124 (by kernel_rfl) (by kernel_rfl) v xT w
theorem fi_hasUnwrapS (v : Value) (xT : TypeId) (w : World) : (Instr.typeAssert (.iface 91 v) xT 127 true).run Tryd.prog w = .ok (.tuple #[.iface 91 v, .bool true]) w := run_typeAssert_hasB Tryd.underlying127 (by kernel_rfl) v xT w
set_option maxHeartbeats 4000000 in
set_option maxRecDepth 100000 in
theorem errors_is_in (d : Nat) (v : Value) (e n : Int) (w : World) (he : ErrN w d v e) :
    Calls Tryd.prog 51 #[v, .iface 41 (.int .i64 n), .bool true] w fun r w' => (∃ b, r = .returned (.bool b)) ∧ w = w' := by
  have y1 := fi_noIsE
  have y2 := fi_noUnwrapE
  have y3 := fi_noUnwrapsE
  have y4 := fi_noIsS
  have y5 := fi_hasUnwrapS
  have y6 := fa_methodUnwrap
  have y7 := fi_comp
  go_enter Tryd.func51, Tryd.ntmps51
  go_wp2_with fail
  go_loopg [0] d (fun k s0 wr => ErrN w k s0 e ∧ wr = w)
  case atStart => exact ⟨he, rfl⟩
  case round =>
    obtain ⟨hk, rfl⟩ := hrel
    clear he
    cases gk with
    | zero =>
      obtain rfl := hk
      have heq := fun w => Go.Lib.run_eql_iface_int (P := Tryd.prog) (k := .i64) w e n Tryd.underlying31 fi_comp Tryd.underlying41
      cases hn : (e == n) with
      | true =>
        go_wp2_with fail
        go_ret
        exact ⟨⟨_, rfl⟩, rfl⟩
      | false =>
        go_wp2_with fail
        go_ret
        exact ⟨⟨_, rfl⟩, rfl⟩
    | succ k =>
      obtain ⟨g, s, u, rfl, hh, hu⟩ := hk
      obtain ⟨ut, ux, rfl⟩ := hu.iface
      have q1 : wr.cell? ⟨g, 1, none⟩ = some (.iface ut ux) := by simp [World.cell?, hh]
      have HU := Lib.hid hu
      have hty := run_eql_iface_types (P := Tryd.prog) 91 41 (.pointer (some ⟨g, 0, none⟩)) (.int .i64 n) Tryd.underlying31 (by decide) wr
      clear hh hu
      go_wp2_with fail
      refine (step_unwrap g _ _ q1).mono ?_
      rintro e9 w9 ⟨rfl, rfl⟩
      go_wp2_with fail
      go_roundg k
      case measure => omega
      case rel => exact ⟨HU.out, rfl⟩
set_option maxHeartbeats 4000000 in
set_option maxRecDepth 100000 in
theorem errors_is (d : Nat) (v : Value) (e n : Int) (w : World) (he : ErrN w d v e) :
    Calls Tryd.prog 32 #[v, .iface 41 (.int .i64 n)] w fun r w' => (∃ b, r = .returned (.bool b)) ∧ w = w' := by
  have x1 := @run_callFunc_extern Tryd.prog 50 _ ReflectliteType.typeOf Tryd.func50 (by kernel_rfl) (by kernel_rfl) (by kernel_rfl) (by kernel_rfl)
  have x2 := @run_callFunc_extern Tryd.prog 111 _ (ReflectliteType.method fun t => do Rtype.noPackHeld "Comparable" t; pure (.bool (← typeInfo t).comparable)) Tryd.func111 (by kernel_rfl) (by kernel_rfl) (by kernel_rfl) (by kernel_rfl)
  have y1 := fa_typeOfE
  have y2 := fi_comparable
  have y3 := fi_methodComparable
  have HE := Lib.hid he
  obtain ⟨t, x, rfl⟩ := he.iface
  clear he
  go_enter Tryd.func32, Tryd.ntmps32
  go_wp2_with fail
  refine (errors_is_in d _ e n _ HE.out).mono ?_
  rintro r w' ⟨⟨b, rfl⟩, rfl⟩
  go_wp2_with fail
  go_ret
  exact ⟨⟨_, rfl⟩, rfl⟩
set_option maxRecDepth 100000 in
theorem errors_is_nil (n : Int) (w : World) : Calls Tryd.prog 32 #[.nilIface, .iface 41 (.int .i64 n)] w fun r w' => r = .returned (.bool false) ∧ w = w' := by
  have hn := run_eql_iface_nil_left (P := Tryd.prog) w 41 (.int .i64 n) Tryd.underlying31
  go_enter Tryd.func32, Tryd.ntmps32
  go_wp2_with fail
  go_ret
  exact ⟨rfl, rfl⟩
end Go.Proofs.YtcppmihambcihaaDoor
