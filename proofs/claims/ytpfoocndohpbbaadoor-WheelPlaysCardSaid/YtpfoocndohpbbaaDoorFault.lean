/- Errors: what a chain of steps around a number is; fault.New, fault.Wrap, errors.As at it, fault.Code. After the kit's worked text ToyasAs. -/
import Derived.Test.YtpfoocndohpbbaaDoorFr
import Derived.Test.YtpfoocndohpbbaaDoorProg
import Derived.LaidEql
import Derived.Stop.Asserts
import Derived.RowKitTokens
import Derived.Deep.LoopGhost
namespace Go.Proofs.YtpfoocndohpbbaaDoor
open Go.RowKit Go.Extern.Stop Go.Stop Go.Extern
set_option linter.unusedVariables false
set_option linter.unusedSimpArgs false

/-- An error: so many steps around a number. -/
def ErrN (w : World) : Nat → Value → Int → Prop
  | 0, v, e => v = .iface 34 (.int .i64 e)
  | d + 1, v, e => ∃ (g : Nat) (s : ByteArray) (u : Value), v = .iface 70 (.pointer (some ⟨g, 0, none⟩)) ∧ w.heap[g]? = some (.cells #[.string s, u] 72 (0, 0)) ∧ ErrN w d u e
/-- The frame turns no step. -/
def NoStep (w : World) (F : Nat → Prop) : Prop := ∀ k cs m, F k → w.heap[k]? ≠ some (.cells cs 72 m)
theorem NoStep.none (w : World) : NoStep w (fun _ => False) := fun _ _ _ h => h.elim
theorem noStep_block {w : World} {g : Nat} {cs : Array Value} {t : TypeId} {m : Nat × Nat} (h : w.heap[g]? = some (.cells cs t m)) (ht : t ≠ 72) : NoStep w (fun k => k = g) := by
  intro k cs' m' e h1
  rw [e, h] at h1
  injection h1 with h1
  injection h1 with _ h2
  exact ht h2
theorem ErrN.fr {F : Nat → Prop} {w w' : World} (hf : Fr F w w') (hF : NoStep w F) {e : Int} : ∀ {d : Nat} {v : Value}, ErrN w d v e → ErrN w' d v e
  | 0, _, h => h
  | d + 1, _, ⟨g, s, u, hv, hh, hu⟩ => ⟨g, s, u, hv, (hf.block g (Array.getElem?_eq_some_iff.1 hh).1 (fun h => hF g _ _ h hh)).trans hh, hu.fr hf hF⟩
theorem ErrN.below {w w' : World} (hb : Below w.heap.size w w') {e : Int} {d : Nat} {v : Value} (h : ErrN w d v e) : ErrN w' d v e := h.fr (Fr.ofBelow hb (fun _ => False)) (NoStep.none w)
theorem ErrN.iface {w : World} {e : Int} : ∀ {d : Nat} {v : Value}, ErrN w d v e → ∃ t u, v = .iface t u
  | 0, _, h => ⟨_, _, h⟩
  | d + 1, _, ⟨g, s, u, hv, _⟩ => ⟨_, _, hv⟩

theorem fault_new (e : Int) (s : ByteArray) (w : World) (he : (e == 0) = false) :
    Calls Tryd.prog 24 #[.int .i64 e, .string s] w fun r w' => ∃ v, r = .returned v ∧ ErrN w' 1 v e ∧ Below w.heap.size w w' := by
  go_enter Tryd.func24, Tryd.ntmps24
  go_wp2_with fail
  go_ret
  exact ⟨_, rfl, ⟨w.heap.size, s, _, rfl, heap_alloc_new w _, rfl⟩, (Below.refl _ _).alloc (Nat.le_refl _) _⟩

/-! ### The model's entries for reflectlite at this translation's types -/
theorem fa_valueOfP (t : Addr) (w : World) : (ReflectliteValue.unpack (.iface 65 (.pointer (some t)))).run Tryd.prog w
    = .ok (.agg #[.pointer (some ⟨1, 65, none⟩), .pointer (some ⟨w.heap.size, 0, none⟩), .int .u64 150]) (w.alloc (.cells #[.pointer (some t)] 65)) := by kernel_rfl
theorem fa_typeP (a : Addr) (w : World) : (ReflectliteValue.methodAny (ReflectliteValue.valueError "reflectlite.Value.Type" 0) (fun t _ _ _ => ReflectliteType.toType t) #[.agg #[.pointer (some ⟨1, 65, none⟩), .pointer (some a), .int .u64 150]]).run Tryd.prog w
    = .ok (.iface 90 (.agg #[.pointer (some ⟨1, 65, none⟩)])) w := by kernel_rfl
theorem fa_methodKind (h : Value) (w : World) : (Go.method 252 90 (.agg #[h]) "Kind").run Tryd.prog w = .ok (76, h) w := by kernel_rfl
theorem fa_kindP (w : World) : ((ReflectliteType.abiMethod fun t => (fun a : Nat => Value.int IntKind.u8 (a : Int)) <$> Rtype.kind t) #[.pointer (some ⟨1, 65, none⟩)]).run Tryd.prog w = .ok (.int .u8 22) w := by kernel_rfl
theorem fa_kindE (w : World) : ((ReflectliteType.abiMethod fun t => (fun a : Nat => Value.int IntKind.u8 (a : Int)) <$> Rtype.kind t) #[.pointer (some ⟨1, 34, none⟩)]).run Tryd.prog w = .ok (.int .u8 2) w := by kernel_rfl
theorem fa_rlm (z : Sem Value) (f : TypeId → Addr → Nat → Nat → Sem Value) (v : Value) :
    ReflectliteValue.method z f #[v] = (do match ← ReflectliteValue.parts v with | none => z | some (t, a, fl) => f t a fl (fl % 32)) := rfl
theorem fa_partsP (a : Addr) (w : World) : (ReflectliteValue.parts (.agg #[.pointer (some ⟨1, 65, none⟩), .pointer (some a), .int .u64 150])).run Tryd.prog w = .ok (some (65, a, 150)) w := by kernel_rfl
theorem fa_isNil (a p : Addr) (W : World) (ha : W.cell? a = some (.pointer (some p))) :
    (ReflectliteValue.method (ReflectliteValue.valueError "reflectlite.Value.IsNil" 0) ReflectliteValue.isNil #[.agg #[.pointer (some ⟨1, 65, none⟩), .pointer (some a), .int .u64 150]]).run Tryd.prog W = .ok (.bool false) W := by
  rw [fa_rlm]
  simp only [Sem.run_bind, fa_partsP, Result.andThen]
  simp [ReflectliteValue.isNil, loadVar, isAgg, underlying, Tryd.underlying65, ha, Result.andThen]
theorem fa_methodElem (h : Value) (w : World) : (Go.method 252 90 (.agg #[h]) "Elem").run Tryd.prog w = .ok (88, .agg #[h]) w := by kernel_rfl
theorem fa_methodImplements (h : Value) (w : World) : (Go.method 252 90 (.agg #[h]) "Implements").run Tryd.prog w = .ok (89, .agg #[h]) w := by kernel_rfl
theorem fa_methodAssignableTo (h : Value) (w : World) : (Go.method 252 90 (.agg #[h]) "AssignableTo").run Tryd.prog w = .ok (86, .agg #[h]) w := by kernel_rfl
theorem fa_elemP (w : World) : (ReflectliteType.method ReflectliteType.elem #[.agg #[.pointer (some ⟨1, 65, none⟩)]]).run Tryd.prog w = .ok (.iface 90 (.agg #[.pointer (some ⟨1, 34, none⟩)])) w := by kernel_rfl
theorem fa_implementsE (w : World) : (ReflectliteType.relation "Implements" ReflectliteType.implements_ #[.agg #[.pointer (some ⟨1, 34, none⟩)], .iface 90 (.agg #[.pointer (some ⟨1, 31, none⟩)])]).run Tryd.prog w = .ok (.bool true) w := by kernel_rfl
theorem fa_typeOfE (v : Value) (w : World) : (ReflectliteType.typeOf #[.iface 34 v]).run Tryd.prog w = .ok (.iface 90 (.agg #[.pointer (some ⟨1, 34, none⟩)])) w := by kernel_rfl
theorem fa_typeOfS (v : Value) (w : World) : (ReflectliteType.typeOf #[.iface 70 v]).run Tryd.prog w = .ok (.iface 90 (.agg #[.pointer (some ⟨1, 70, none⟩)])) w := by kernel_rfl
theorem fa_assignableE (w : World) : (ReflectliteType.relation "AssignableTo" ReflectliteType.assignableTo #[.agg #[.pointer (some ⟨1, 34, none⟩)], .iface 90 (.agg #[.pointer (some ⟨1, 34, none⟩)])]).run Tryd.prog w = .ok (.bool true) w := by kernel_rfl
theorem fa_assignableS (w : World) : (ReflectliteType.relation "AssignableTo" ReflectliteType.assignableTo #[.agg #[.pointer (some ⟨1, 70, none⟩)], .iface 90 (.agg #[.pointer (some ⟨1, 34, none⟩)])]).run Tryd.prog w = .ok (.bool false) w := by kernel_rfl
theorem fa_valueOfE (e : Int) (w : World) : (ReflectliteValue.unpack (.iface 34 (.int .i64 e))).run Tryd.prog w
    = .ok (.agg #[.pointer (some ⟨1, 34, none⟩), .pointer (some ⟨w.heap.size, 0, none⟩), .int .u64 130]) (w.alloc (.cells #[.int .i64 e] 34)) := by kernel_rfl
theorem fa_elemOfP (w : World) : (Rtype.elem? 65).run Tryd.prog w = .ok (some 34) w := by kernel_rfl
theorem fa_mkE (p : Addr) (w : World) : (ReflectliteValue.mk 34 p ReflectliteValue.flagAddr).run Tryd.prog w = .ok (.agg #[.pointer (some ⟨1, 34, none⟩), .pointer (some p), .int .u64 386]) w := by kernel_rfl
theorem fa_elemV (a p : Addr) (W : World) (ha : W.cell? a = some (.pointer (some p))) :
    (ReflectliteValue.method (ReflectliteValue.valueError "reflectlite.Value.Elem" 0) ReflectliteValue.elem #[.agg #[.pointer (some ⟨1, 65, none⟩), .pointer (some a), .int .u64 150]]).run Tryd.prog W
      = .ok (.agg #[.pointer (some ⟨1, 34, none⟩), .pointer (some p), .int .u64 386]) W := by
  rw [fa_rlm]
  simp only [Sem.run_bind, fa_partsP, Result.andThen]
  simp [ReflectliteValue.elem, loadVar, isAgg, underlying, Tryd.underlying65, ha, Result.andThen, fa_elemOfP, fa_mkE]
theorem fa_rls (v x : Value) : ReflectliteValue.set #[v, x] = (do
    let (some (dst, a, fl), some (src, b, _)) := (← ReflectliteValue.parts v, ← ReflectliteValue.parts x)
      | unsupported (.noEntry "extern/(internal/reflectlite.Value).Set.zeroValue")
    if fl / ReflectliteValue.flagAddr % 2 == 0 then unsupported (.noEntry "extern/(internal/reflectlite.Value).Set.unaddressable")
    let val ← loadVar src b
    if ← Rtype.directlyAssignable dst src then storeVar dst a val
    else if ← Rtype.implements dst src then
      if (← Rtype.kind src) == 20 then
        match val with
        | .nilIface => unsupported (.noEntry "extern/reflectlite: a nil value of one interface type handed on as a value of another")
        | _ => storeVar dst a val
      else storeVar dst a (.iface src val)
    else panicString ("reflectlite.Set: value of type " ++ (← Rtype.spelt src) ++ " is not assignable to type " ++ (← Rtype.spelt dst))
    pure (.tuple #[])) := rfl
theorem fa_partsA (a : Addr) (w : World) : (ReflectliteValue.parts (.agg #[.pointer (some ⟨1, 34, none⟩), .pointer (some a), .int .u64 386])).run Tryd.prog w = .ok (some (34, a, 386)) w := by kernel_rfl
theorem fa_partsB (a : Addr) (w : World) : (ReflectliteValue.parts (.agg #[.pointer (some ⟨1, 34, none⟩), .pointer (some a), .int .u64 130])).run Tryd.prog w = .ok (some (34, a, 130)) w := by kernel_rfl
theorem fa_direct (w : World) : (Rtype.directlyAssignable 34 34).run Tryd.prog w = .ok true w := by kernel_rfl
theorem fa_set (ta b : Addr) (e : Int) (old : Value) (W : World) (hb : W.cell? b = some (.int .i64 e)) (ht : W.cell? ta = some old) (hf : W.frozen? ta = false) :
    (ReflectliteValue.set #[.agg #[.pointer (some ⟨1, 34, none⟩), .pointer (some ta), .int .u64 386], .agg #[.pointer (some ⟨1, 34, none⟩), .pointer (some b), .int .u64 130]]).run Tryd.prog W
      = .ok (.tuple #[]) (W.setCell ta (.int .i64 e)) := by
  rw [fa_rls]
  simp only [Sem.run_bind, fa_partsA, fa_partsB, Result.andThen]
  simp [ReflectliteValue.flagAddr, loadVar, isAgg, underlying, Tryd.underlying34, hb, Result.andThen, fa_direct, storeVar, Value.cells, storeCells, Addr.add]
  rw [run_store Tryd.prog W ta _ _ (by rfl)]
  simp [ht, hf]
theorem fa_noAs (v : Value) (w : World) : (Instr.typeAssert (.iface 70 v) 31 95 true).run Tryd.prog w = .ok (.tuple #[.nilIface, .bool false]) w := run_typeAssert_lacksB Tryd.underlying95 (by kernel_rfl) (by kernel_rfl) v _ w
theorem fa_unwrap (v : Value) (w : World) : (Instr.typeAssert (.iface 70 v) 31 98 true).run Tryd.prog w = .ok (.tuple #[.iface 70 v, .bool true]) w := run_typeAssert_hasB Tryd.underlying98 (by kernel_rfl) v _ w
theorem fa_methodUnwrap (v : Value) (w : World) : (Go.method 252 70 v "Unwrap").run Tryd.prog w = .ok (81, v) w := by kernel_rfl

theorem step_unwrap (g : Nat) (u : Value) (w : World) (h : w.cell? ⟨g, 1, none⟩ = some u) : Calls Tryd.prog 81 #[.pointer (some ⟨g, 0, none⟩)] w fun r w' => r = .returned u ∧ w = w' := by
  go_enter Tryd.func81, Tryd.ntmps81
  go_wp2_with fail
  go_ret
  exact ⟨rfl, rfl⟩

set_option maxHeartbeats 4000000 in
set_option maxRecDepth 100000 in
theorem errors_as_in (d : Nat) (v : Value) (e : Int) (t a : Addr) (old : Value) (w : World) (he : ErrN w d v e) (ha : w.cell? a = some (.pointer (some t))) (ht : w.cell? t = some old) (hf : w.frozen? t = false) :
    Calls Tryd.prog 39 #[v, .iface 65 (.pointer (some t)), .agg #[.pointer (some ⟨1, 65, none⟩), .pointer (some a), .int .u64 150], .iface 90 (.agg #[.pointer (some ⟨1, 34, none⟩)])] w
      fun r w' => r = .returned (.bool true) ∧ w'.cell? t = some (.int .i64 e) ∧ Fr (fun k => k = t.block) w w' := by
  have x1 := @run_callFunc_extern Tryd.prog 43 _ ReflectliteType.typeOf Tryd.func43 (by kernel_rfl) (by kernel_rfl) (by kernel_rfl) (by kernel_rfl)
  have x2 := @run_callFunc_extern Tryd.prog 86 _ (ReflectliteType.relation "AssignableTo" ReflectliteType.assignableTo) Tryd.func86 (by kernel_rfl) (by kernel_rfl) (by kernel_rfl) (by kernel_rfl)
  have x3 := @run_callFunc_extern Tryd.prog 44 _ (ReflectliteValue.method (ReflectliteValue.valueError "reflectlite.Value.Elem" 0) ReflectliteValue.elem) Tryd.func44 (by kernel_rfl) (by kernel_rfl) (by kernel_rfl) (by kernel_rfl)
  have x4 := @run_callFunc_extern Tryd.prog 36 _ (fun args => ReflectliteValue.unpack (args.getD 0 (.tuple #[]))) Tryd.func36 (by kernel_rfl) (by kernel_rfl) (by kernel_rfl) (by kernel_rfl)
  have x5 := @run_callFunc_extern Tryd.prog 45 _ ReflectliteValue.set Tryd.func45 (by kernel_rfl) (by kernel_rfl) (by kernel_rfl) (by kernel_rfl)
  have y1 := fa_typeOfE
  have y2 := fa_typeOfS
  have y3 := fa_methodAssignableTo
  have y4 := fa_assignableE
  have y5 := fa_assignableS
  have y6 := fa_valueOfE
  have y7 := fa_noAs
  have y8 := fa_unwrap
  have y9 := fa_methodUnwrap
  have hal := World.block_lt_of_cell? w _ ha
  have htl := World.block_lt_of_cell? w _ ht
  generalize hw1 : w.alloc (.cells #[.pointer (some ⟨1, 65, none⟩), .pointer (some a), .int .u64 150] 76) = w1
  have hb1 : Below w.heap.size w w1 := by rw [← hw1]; exact (Below.refl _ _).alloc (Nat.le_refl _) _
  have hsz : w1.heap.size = w.heap.size + 1 := by rw [← hw1]; simp
  have ha1 : w1.cell? a = some (.pointer (some t)) := (hb1.cell hal).trans ha
  have ht1 : w1.cell? t = some old := (hb1.cell htl).trans ht
  have hf1 : w1.frozen? t = false := (hb1.frozen htl).trans hf
  have he1 := he.below hb1
  have c0 : w1.cell? ⟨w.heap.size, 0, none⟩ = some (.pointer (some ⟨1, 65, none⟩)) := by rw [← hw1, World.cell?_alloc_at _ _ _ _ rfl]; rfl
  have c1 : w1.cell? ⟨w.heap.size, 1, none⟩ = some (.pointer (some a)) := by rw [← hw1, World.cell?_alloc_at _ _ _ _ rfl]; rfl
  have c2 : w1.cell? ⟨w.heap.size, 2, none⟩ = some (.int .u64 150) := by rw [← hw1, World.cell?_alloc_at _ _ _ _ rfl]; rfl
  have H1 := Lib.hid hw1
  have H2 := Lib.hid hb1
  have H3 := Lib.hid hsz
  have H4 := Lib.hid ht1
  have H5 := Lib.hid hf1
  clear hb1 hsz he ha ht hf hal htl
  go_enter Tryd.func39, Tryd.ntmps39
  go_wp2_with fail
  try simp only [hw1]
  clear hw1
  go_loopg [0] d (fun k s0 wr => ErrN w1 k s0 e ∧ wr = w1)
  case atStart => exact ⟨he1, rfl⟩
  case round =>
    obtain ⟨hk, rfl⟩ := hrel
    clear he1
    cases gk with
    | zero =>
      obtain rfl := hk
      have z1 := fa_elemV a t wr ha1
      have z2 := fa_elemV a t (wr.alloc (.cells #[.int .i64 e] 34)) ((((Below.refl _ wr).alloc (Nat.le_refl _) _).cell (World.block_lt_of_cell? _ _ ha1)).trans ha1)
      have z3 := fa_set t ⟨wr.heap.size, 0, none⟩ e old (wr.alloc (.cells #[.int .i64 e] 34)) (by rw [World.cell?_alloc_at _ _ _ _ rfl]; rfl)
        ((((Below.refl _ wr).alloc (Nat.le_refl _) _).cell (World.block_lt_of_cell? _ _ H4.out)).trans H4.out) ((((Below.refl _ wr).alloc (Nat.le_refl _) _).frozen (World.block_lt_of_cell? _ _ H4.out)).trans H5.out)
      go_wp2_with fail
      go_ret
      refine ⟨rfl, ?_, ?_⟩
      · refine World.cell?_setCell_same' _ _ _ ?_
        rw [(((Below.refl _ wr).alloc (Nat.le_refl _) _).cell (World.block_lt_of_cell? _ _ H4.out)).trans H4.out]; rfl
      · exact ((Fr.ofBelow H2.out _).trans (fr_alloc (fun _ => False) wr _) (fun _ h => h.elim)).trans (fr_setCell (F := fun k => k = t.block) t _ rfl) (fun _ h => .inl h)
    | succ k =>
      obtain ⟨g, s, u, rfl, hh, hu⟩ := hk
      obtain ⟨ut, ux, rfl⟩ := hu.iface
      have q1 : wr.cell? ⟨g, 1, none⟩ = some (.iface ut ux) := by simp [World.cell?, hh]
      have q0 : wr.cell? ⟨g, 0, none⟩ = some (.string s) := by simp [World.cell?, hh]
      have HH := Lib.hid hh
      have HU := Lib.hid hu
      clear hh hu
      go_wp2_with fail
      refine (step_unwrap g _ _ q1).mono ?_
      rintro e9 w9 ⟨rfl, rfl⟩
      go_wp2_with fail
      go_roundg k
      case measure => omega
      case rel => exact ⟨HU.out, rfl⟩

set_option maxHeartbeats 4000000 in
set_option maxRecDepth 100000 in
/-- errors.As at an error of a number: that number. -/
theorem errors_as (d : Nat) (v : Value) (e : Int) (t : Addr) (old : Value) (w : World) (hg : w.cell? ⟨0, 0, none⟩ = some (.iface 90 (.agg #[.pointer (some ⟨1, 31, none⟩)]))) (he : ErrN w d v e) (ht : w.cell? t = some old) (hf : w.frozen? t = false) :
    Calls Tryd.prog 29 #[v, .iface 65 (.pointer (some t))] w
      fun r w' => r = .returned (.bool true) ∧ w'.cell? t = some (.int .i64 e) ∧ Fr (fun k => k = t.block) w w' := by
  have x4 := @run_callFunc_extern Tryd.prog 36 _ (fun args => ReflectliteValue.unpack (args.getD 0 (.tuple #[]))) Tryd.func36 (by kernel_rfl) (by kernel_rfl) (by kernel_rfl) (by kernel_rfl)
  have x7 := @run_callFunc_extern Tryd.prog 37 _ (ReflectliteValue.methodAny (ReflectliteValue.valueError "reflectlite.Value.Type" 0) (fun t _ _ _ => ReflectliteType.toType t)) Tryd.func37 (by kernel_rfl) (by kernel_rfl) (by kernel_rfl) (by kernel_rfl)
  have x8 := @run_callFunc_extern Tryd.prog 38 _ (ReflectliteValue.method (ReflectliteValue.valueError "reflectlite.Value.IsNil" 0) ReflectliteValue.isNil) Tryd.func38 (by kernel_rfl) (by kernel_rfl) (by kernel_rfl) (by kernel_rfl)
  have xK := @run_callFunc_extern Tryd.prog 76 _ (ReflectliteType.abiMethod fun t => do pure (.int .u8 (← Rtype.kind t))) Tryd.func76 (by kernel_rfl) (by kernel_rfl) (by kernel_rfl) (by kernel_rfl)
  have xE := @run_callFunc_extern Tryd.prog 88 _ (ReflectliteType.method ReflectliteType.elem) Tryd.func88 (by kernel_rfl) (by kernel_rfl) (by kernel_rfl) (by kernel_rfl)
  have xI := @run_callFunc_extern Tryd.prog 89 _ (ReflectliteType.relation "Implements" ReflectliteType.implements_) Tryd.func89 (by kernel_rfl) (by kernel_rfl) (by kernel_rfl) (by kernel_rfl)
  have y1 := fa_valueOfP
  have y2 := fa_typeP
  have y3 := fa_methodKind
  have y4 := fa_kindP
  have y5 := fa_kindE
  have y6 := fa_methodElem
  have y7 := fa_methodImplements
  have y8 := fa_elemP
  have y9 := fa_implementsE
  have htl := World.block_lt_of_cell? w _ ht
  have hgl := World.block_lt_of_cell? w _ hg
  have h0 : ∀ w', Below w.heap.size w w' → w'.cell? ⟨0, 0, none⟩ = some (.iface 90 (.agg #[.pointer (some ⟨1, 31, none⟩)])) := fun w' hb => (hb.cell hgl).trans hg
  have hb2 : Below w.heap.size w ((w.alloc (.cells #[.pointer (some t)] 65)).alloc (.cells #[.pointer (some ⟨1, 65, none⟩), .pointer (some ⟨w.heap.size, 0, none⟩), .int .u64 150] 76)) := ((Below.refl _ _).alloc (Nat.le_refl _) _).alloc (by simp) _
  have hn := fa_isNil ⟨w.heap.size, 0, none⟩ t ((w.alloc (.cells #[.pointer (some t)] 65)).alloc (.cells #[.pointer (some ⟨1, 65, none⟩), .pointer (some ⟨w.heap.size, 0, none⟩), .int .u64 150] 76)) (by simp)
  have h1 := h0 _ hb2
  have he2 := Lib.hid (he.below hb2)
  have ht2 := (hb2.cell htl).trans ht
  have hf2 := (hb2.frozen htl).trans hf
  have H2 := Lib.hid hb2
  obtain ⟨vt, vx, rfl⟩ := he.iface
  clear h0 hb2 he
  go_enter Tryd.func29, Tryd.ntmps29
  go_wp2_with fail
  refine (errors_as_in d _ e t ⟨w.heap.size, 0, none⟩ old _ he2.out (by simp) ht2 hf2).mono ?_
  rintro r w' ⟨rfl, hc, hfr⟩
  go_wp2_with fail
  go_ret
  exact ⟨rfl, hc, (Fr.ofBelow H2.out _).trans hfr (fun _ h => .inl h)⟩

/-- fault.Code. -/
theorem fault_code_nil (w : World) : Calls Tryd.prog 14 #[.nilIface] w fun r w' => r = .returned (.int .i64 0) ∧ w = w' := by
  go_enter Tryd.func14, Tryd.ntmps14
  go_wp2_with fail
  go_ret
  exact ⟨rfl, rfl⟩
set_option maxHeartbeats 4000000 in
set_option maxRecDepth 100000 in
theorem fault_code (d : Nat) (v : Value) (e : Int) (w : World) (hg : w.cell? ⟨0, 0, none⟩ = some (.iface 90 (.agg #[.pointer (some ⟨1, 31, none⟩)]))) (he : ErrN w d v e) :
    Calls Tryd.prog 14 #[v] w fun r w' => r = .returned (.int .i64 e) ∧ Below w.heap.size w w' := by
  have hgl := World.block_lt_of_cell? w _ hg
  have hb1 : Below w.heap.size w (w.alloc (.cells #[.int .i64 0] 34)) := (Below.refl _ _).alloc (Nat.le_refl _) _
  have he1 := Lib.hid (he.below hb1)
  have hg1 := (hb1.cell hgl).trans hg
  have H1 := Lib.hid hb1
  obtain ⟨vt, vx, rfl⟩ := he.iface
  clear he hb1
  go_enter Tryd.func14, Tryd.ntmps14
  go_wp2_with fail
  refine (errors_as d _ e ⟨w.heap.size, 0, none⟩ (.int .i64 0) _ hg1 he1.out (by simp) (by simp)).mono ?_
  rintro r w' ⟨rfl, hc, hfr⟩
  have hres : Below w.heap.size w w' := H1.out.trans (hfr.below w.heap.size (by simp) (fun i h => by rw [h]; exact Nat.le_refl _))
  clear hfr
  go_wp2_with fail
  go_ret
  exact ⟨rfl, hres⟩
end Go.Proofs.YtpfoocndohpbbaaDoor
