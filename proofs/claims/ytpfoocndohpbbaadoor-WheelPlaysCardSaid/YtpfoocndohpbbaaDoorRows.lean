/-
  NARROWER THAN 'FOR EVERY INPUT', by the rows' own cells (each row's printed sentence says how): WheelPlays: laid · WheelFires: laid · WheelOnce: laid · WheelPools: laid · WheelApart: laid · WheelAgain: laid.
  DERIVED. THE GIVEN ROWS OF THIS SEAT. 6 by the template 'for every input the law returns true; each argument reads behind the call as it read before'; 0 by the template 'total and deterministic' (their statements: YtpfoocndohpbbaaDoorTotals.lean).
  GIVEN WITH THE SEED: the statements are not yours to turn. If you find one false, say at which input.
  Laid BY PROGRAM, IN A SANDBOX (cutbox-rows.mjs): the forced cells as the released guide's own fill.sh prints them over the translation 66cd1605518a4bec… (all of the seat's roots in one cut). By AI agents, Wed Nov 11 2026. No macro, syntax, notation, axiom, sorry.
-/
import Derived.Test.YtpfoocndohpbbaaDoorChecked
import GoSem.Claim
import GoSem.ClaimJoined
import GoSem.ClaimMapViews
import Derived.JoinedTies
import Derived.KernelRfl
namespace Go.Proofs.YtpfoocndohpbbaaDoor
/- THE CELL 'sum', in the pinned program and in every row, IS THE sha256 OF THE DUMP (.gsa) THAT YtpfoocndohpbbaaDoorProg.lean LOADS. Nothing in Lean hashes anything: it is a label: what it is worth is what the hold of that sum in a sandbox is worth. -/
noncomputable def Tryd.pinned : Pinned := { name := "ytpfoocndohpbbaadoor", sum := "66cd1605518a4bec05fb3e0be0e523201966eaa861e9ac442395e6ec97aa0ab2", checked := Tryd.checked }
namespace Rows
def none {H : Type} : Left H := { results := [], args := [] }

/- WHAT THE LISTED PACKAGE-LEVEL VARIABLES READ AS WHEN THE CALL BEGINS. Each datum BY PROGRAM (the guide's laid-datum.mjs) off the statement by which the dump's own 'gosem.cut.vars' lays the variable. In a bare row this is a premise. The card (YtpfoocndohpbbaaDoorCards.lean) ties it to the program's text. -/
def laid_errors_errorType {H : Type} : DataW H := .iface "internal/reflectlite.rtype" (.agg [.ptr (.lit (.string [101, 114, 114, 111, 114]))])

/-- 'crossbucklaw05.WheelPlays': WHATEVER THE INPUT: true; the input reads as it did. -/
def wheelPlaysSpec : ChangeSpec := { name := "wheelPlays", fn := fun _ => fun
  | [d1, d2] => { results := [.lit (.bool true)], args := [d1, d2] }
  | _ => none }
def wheelPlaysRow : OpenClaim := { program := "ytpfoocndohpbbaadoor", sum := "66cd1605518a4bec05fb3e0be0e523201966eaa861e9ac442395e6ec97aa0ab2", func := "crossbuck/crossbucklaw05.WheelPlays", spec := "wheelPlays", inPlace := ["internal/reflectlite.ValueOf", "(internal/reflectlite.Value).Type", "(internal/reflectlite.Value).IsNil", "internal/reflectlite.TypeOf", "(internal/reflectlite.Value).Elem", "(internal/reflectlite.Value).Set"], unfollowed := true, recurses := true, named := ["errors.errorType"], apart := false, laid := [("errors.errorType", laid_errors_errorType)] }
def WheelPlaysSaid : Prop := wheelPlaysRow.holds Tryd.pinned (OpenSpec.ofChange wheelPlaysSpec)

/-- ITS FALSE NEIGHBOUR: 'it returns false'. Refute it at one input. -/
def wheelPlaysWrong : ChangeSpec := { name := "wheelPlays", fn := fun _ => fun
  | [d1, d2] => { results := [.lit (.bool false)], args := [d1, d2] }
  | _ => none }
def WheelPlaysWrongFalsely : Prop := wheelPlaysRow.holds Tryd.pinned (OpenSpec.ofChange wheelPlaysWrong)

/-- 'crossbucklaw05.WheelFires': WHATEVER THE INPUT: true; the input reads as it did. -/
def wheelFiresSpec : ChangeSpec := { name := "wheelFires", fn := fun _ => fun
  | [d1, d2, d3] => { results := [.lit (.bool true)], args := [d1, d2, d3] }
  | _ => none }
def wheelFiresRow : OpenClaim := { program := "ytpfoocndohpbbaadoor", sum := "66cd1605518a4bec05fb3e0be0e523201966eaa861e9ac442395e6ec97aa0ab2", func := "crossbuck/crossbucklaw05.WheelFires", spec := "wheelFires", inPlace := ["internal/reflectlite.ValueOf", "(internal/reflectlite.Value).Type", "(internal/reflectlite.Value).IsNil", "internal/reflectlite.TypeOf", "(internal/reflectlite.Value).Elem", "(internal/reflectlite.Value).Set"], unfollowed := true, recurses := true, named := ["errors.errorType"], apart := false, laid := [("errors.errorType", laid_errors_errorType)] }
def WheelFiresSaid : Prop := wheelFiresRow.holds Tryd.pinned (OpenSpec.ofChange wheelFiresSpec)

/-- ITS FALSE NEIGHBOUR: 'it returns false'. Refute it at one input. -/
def wheelFiresWrong : ChangeSpec := { name := "wheelFires", fn := fun _ => fun
  | [d1, d2, d3] => { results := [.lit (.bool false)], args := [d1, d2, d3] }
  | _ => none }
def WheelFiresWrongFalsely : Prop := wheelFiresRow.holds Tryd.pinned (OpenSpec.ofChange wheelFiresWrong)

/-- 'crossbucklaw05.WheelOnce': WHATEVER THE INPUT: true; the input reads as it did. -/
def wheelOnceSpec : ChangeSpec := { name := "wheelOnce", fn := fun _ => fun
  | [d] => { results := [.lit (.bool true)], args := [d] }
  | _ => none }
def wheelOnceRow : OpenClaim := { program := "ytpfoocndohpbbaadoor", sum := "66cd1605518a4bec05fb3e0be0e523201966eaa861e9ac442395e6ec97aa0ab2", func := "crossbuck/crossbucklaw05.WheelOnce", spec := "wheelOnce", inPlace := ["internal/reflectlite.ValueOf", "(internal/reflectlite.Value).Type", "(internal/reflectlite.Value).IsNil", "internal/reflectlite.TypeOf", "(internal/reflectlite.Value).Elem", "(internal/reflectlite.Value).Set"], unfollowed := true, recurses := true, named := ["errors.errorType"], apart := false, laid := [("errors.errorType", laid_errors_errorType)] }
def WheelOnceSaid : Prop := wheelOnceRow.holds Tryd.pinned (OpenSpec.ofChange wheelOnceSpec)

/-- ITS FALSE NEIGHBOUR: 'it returns false'. Refute it at one input. -/
def wheelOnceWrong : ChangeSpec := { name := "wheelOnce", fn := fun _ => fun
  | [d] => { results := [.lit (.bool false)], args := [d] }
  | _ => none }
def WheelOnceWrongFalsely : Prop := wheelOnceRow.holds Tryd.pinned (OpenSpec.ofChange wheelOnceWrong)

/-- 'crossbucklaw05.WheelPools': WHATEVER THE INPUT: true; the input reads as it did. -/
def wheelPoolsSpec : ChangeSpec := { name := "wheelPools", fn := fun _ => fun
  | [d1, d2] => { results := [.lit (.bool true)], args := [d1, d2] }
  | _ => none }
def wheelPoolsRow : OpenClaim := { program := "ytpfoocndohpbbaadoor", sum := "66cd1605518a4bec05fb3e0be0e523201966eaa861e9ac442395e6ec97aa0ab2", func := "crossbuck/crossbucklaw05.WheelPools", spec := "wheelPools", inPlace := ["internal/reflectlite.ValueOf", "(internal/reflectlite.Value).Type", "(internal/reflectlite.Value).IsNil", "internal/reflectlite.TypeOf", "(internal/reflectlite.Value).Elem", "(internal/reflectlite.Value).Set"], unfollowed := true, recurses := true, named := ["errors.errorType"], apart := false, laid := [("errors.errorType", laid_errors_errorType)] }
def WheelPoolsSaid : Prop := wheelPoolsRow.holds Tryd.pinned (OpenSpec.ofChange wheelPoolsSpec)

/-- ITS FALSE NEIGHBOUR: 'it returns false'. Refute it at one input. -/
def wheelPoolsWrong : ChangeSpec := { name := "wheelPools", fn := fun _ => fun
  | [d1, d2] => { results := [.lit (.bool false)], args := [d1, d2] }
  | _ => none }
def WheelPoolsWrongFalsely : Prop := wheelPoolsRow.holds Tryd.pinned (OpenSpec.ofChange wheelPoolsWrong)

/-- 'crossbucklaw05.WheelApart': WHATEVER THE INPUT: true; the input reads as it did. -/
def wheelApartSpec : ChangeSpec := { name := "wheelApart", fn := fun _ => fun
  | [d1, d2, d3] => { results := [.lit (.bool true)], args := [d1, d2, d3] }
  | _ => none }
def wheelApartRow : OpenClaim := { program := "ytpfoocndohpbbaadoor", sum := "66cd1605518a4bec05fb3e0be0e523201966eaa861e9ac442395e6ec97aa0ab2", func := "crossbuck/crossbucklaw05.WheelApart", spec := "wheelApart", inPlace := ["internal/reflectlite.ValueOf", "(internal/reflectlite.Value).Type", "(internal/reflectlite.Value).IsNil", "internal/reflectlite.TypeOf", "(internal/reflectlite.Value).Elem", "(internal/reflectlite.Value).Set"], unfollowed := true, recurses := true, named := ["errors.errorType"], apart := false, laid := [("errors.errorType", laid_errors_errorType)] }
def WheelApartSaid : Prop := wheelApartRow.holds Tryd.pinned (OpenSpec.ofChange wheelApartSpec)

/-- ITS FALSE NEIGHBOUR: 'it returns false'. Refute it at one input. -/
def wheelApartWrong : ChangeSpec := { name := "wheelApart", fn := fun _ => fun
  | [d1, d2, d3] => { results := [.lit (.bool false)], args := [d1, d2, d3] }
  | _ => none }
def WheelApartWrongFalsely : Prop := wheelApartRow.holds Tryd.pinned (OpenSpec.ofChange wheelApartWrong)

/-- 'crossbucklaw05.WheelAgain': WHATEVER THE INPUT: true; the input reads as it did. -/
def wheelAgainSpec : ChangeSpec := { name := "wheelAgain", fn := fun _ => fun
  | [d1, d2] => { results := [.lit (.bool true)], args := [d1, d2] }
  | _ => none }
def wheelAgainRow : OpenClaim := { program := "ytpfoocndohpbbaadoor", sum := "66cd1605518a4bec05fb3e0be0e523201966eaa861e9ac442395e6ec97aa0ab2", func := "crossbuck/crossbucklaw05.WheelAgain", spec := "wheelAgain", inPlace := ["internal/reflectlite.ValueOf", "(internal/reflectlite.Value).Type", "(internal/reflectlite.Value).IsNil", "internal/reflectlite.TypeOf", "(internal/reflectlite.Value).Elem", "(internal/reflectlite.Value).Set"], unfollowed := true, recurses := true, named := ["errors.errorType"], apart := false, laid := [("errors.errorType", laid_errors_errorType)] }
def WheelAgainSaid : Prop := wheelAgainRow.holds Tryd.pinned (OpenSpec.ofChange wheelAgainSpec)

/-- ITS FALSE NEIGHBOUR: 'it returns false'. Refute it at one input. -/
def wheelAgainWrong : ChangeSpec := { name := "wheelAgain", fn := fun _ => fun
  | [d1, d2] => { results := [.lit (.bool false)], args := [d1, d2] }
  | _ => none }
def WheelAgainWrongFalsely : Prop := wheelAgainRow.holds Tryd.pinned (OpenSpec.ofChange wheelAgainWrong)

/- THE SECOND FORM. 'bulk': how many values and letters a reading holds, each counted each time it is reached (what is shared counts as often as it is met; a slice's spare places count too). A statement '..UptoSaid' is the law's where the arguments, and the package variables that the reading takes, are together of bulk at most 1048576: NARROWER than '..Said'. Prove '..Said' where nothing that the law and all that it calls make is longer than what came in: it says more and counts as full. Else prove '..UptoSaid'. A law counts once. -/
mutual
def uptoBulk {H : Type} : DataW H → Nat
  | .lit (.string bytes) => bytes.length + 1
  | .lit _ => 1
  | .nil => 1
  | .ptr d => uptoBulk d + 1
  | .slice elems spare => uptoBulkAll elems + uptoBulkAll spare + 1
  | .agg parts => uptoBulkAll parts + 1
  | .iface _ d => uptoBulk d + 1
  | .map entries => uptoBulkEntries entries + 1
  | .held _ => 1
def uptoBulkAll {H : Type} : List (DataW H) → Nat
  | [] => 0
  | d :: r => uptoBulk d + uptoBulkAll r
def uptoBulkEntries {H : Type} : List (Lit × DataW H) → Nat
  | [] => 0
  | x :: r => uptoBulkEntry x + uptoBulkEntries r
def uptoBulkEntry {H : Type} : Lit × DataW H → Nat
  | (.string bytes, d) => bytes.length + uptoBulk d + 1
  | (_, d) => uptoBulk d + 1
 end
def uptoSmall : (H : Type) → List (DataW H) → Bool := fun _ ds => decide (uptoBulkAll ds ≤ 1048576)
def OpenSpec.upto (s : _root_.Go.ChangeSpec) : _root_.Go.OpenSpec := { _root_.Go.OpenSpec.ofChange s with cond := some uptoSmall }

/-- 'crossbucklaw05.WheelPlays', WHERE WHAT IT READS IS OF BULK AT MOST 1048576: true; the input reads as it did. -/
def wheelPlaysUptoRow : OpenClaim := { program := "ytpfoocndohpbbaadoor", sum := "66cd1605518a4bec05fb3e0be0e523201966eaa861e9ac442395e6ec97aa0ab2", func := "crossbuck/crossbucklaw05.WheelPlays", spec := "wheelPlays", inPlace := ["internal/reflectlite.ValueOf", "(internal/reflectlite.Value).Type", "(internal/reflectlite.Value).IsNil", "internal/reflectlite.TypeOf", "(internal/reflectlite.Value).Elem", "(internal/reflectlite.Value).Set"], unfollowed := true, recurses := true, named := ["errors.errorType"], apart := false, laid := [("errors.errorType", laid_errors_errorType)], narrowed := true }
def WheelPlaysUptoSaid : Prop := wheelPlaysUptoRow.holds Tryd.pinned (OpenSpec.upto wheelPlaysSpec)

/-- 'crossbucklaw05.WheelFires', WHERE WHAT IT READS IS OF BULK AT MOST 1048576: true; the input reads as it did. -/
def wheelFiresUptoRow : OpenClaim := { program := "ytpfoocndohpbbaadoor", sum := "66cd1605518a4bec05fb3e0be0e523201966eaa861e9ac442395e6ec97aa0ab2", func := "crossbuck/crossbucklaw05.WheelFires", spec := "wheelFires", inPlace := ["internal/reflectlite.ValueOf", "(internal/reflectlite.Value).Type", "(internal/reflectlite.Value).IsNil", "internal/reflectlite.TypeOf", "(internal/reflectlite.Value).Elem", "(internal/reflectlite.Value).Set"], unfollowed := true, recurses := true, named := ["errors.errorType"], apart := false, laid := [("errors.errorType", laid_errors_errorType)], narrowed := true }
def WheelFiresUptoSaid : Prop := wheelFiresUptoRow.holds Tryd.pinned (OpenSpec.upto wheelFiresSpec)

/-- 'crossbucklaw05.WheelOnce', WHERE WHAT IT READS IS OF BULK AT MOST 1048576: true; the input reads as it did. -/
def wheelOnceUptoRow : OpenClaim := { program := "ytpfoocndohpbbaadoor", sum := "66cd1605518a4bec05fb3e0be0e523201966eaa861e9ac442395e6ec97aa0ab2", func := "crossbuck/crossbucklaw05.WheelOnce", spec := "wheelOnce", inPlace := ["internal/reflectlite.ValueOf", "(internal/reflectlite.Value).Type", "(internal/reflectlite.Value).IsNil", "internal/reflectlite.TypeOf", "(internal/reflectlite.Value).Elem", "(internal/reflectlite.Value).Set"], unfollowed := true, recurses := true, named := ["errors.errorType"], apart := false, laid := [("errors.errorType", laid_errors_errorType)], narrowed := true }
def WheelOnceUptoSaid : Prop := wheelOnceUptoRow.holds Tryd.pinned (OpenSpec.upto wheelOnceSpec)

/-- 'crossbucklaw05.WheelPools', WHERE WHAT IT READS IS OF BULK AT MOST 1048576: true; the input reads as it did. -/
def wheelPoolsUptoRow : OpenClaim := { program := "ytpfoocndohpbbaadoor", sum := "66cd1605518a4bec05fb3e0be0e523201966eaa861e9ac442395e6ec97aa0ab2", func := "crossbuck/crossbucklaw05.WheelPools", spec := "wheelPools", inPlace := ["internal/reflectlite.ValueOf", "(internal/reflectlite.Value).Type", "(internal/reflectlite.Value).IsNil", "internal/reflectlite.TypeOf", "(internal/reflectlite.Value).Elem", "(internal/reflectlite.Value).Set"], unfollowed := true, recurses := true, named := ["errors.errorType"], apart := false, laid := [("errors.errorType", laid_errors_errorType)], narrowed := true }
def WheelPoolsUptoSaid : Prop := wheelPoolsUptoRow.holds Tryd.pinned (OpenSpec.upto wheelPoolsSpec)

/-- 'crossbucklaw05.WheelApart', WHERE WHAT IT READS IS OF BULK AT MOST 1048576: true; the input reads as it did. -/
def wheelApartUptoRow : OpenClaim := { program := "ytpfoocndohpbbaadoor", sum := "66cd1605518a4bec05fb3e0be0e523201966eaa861e9ac442395e6ec97aa0ab2", func := "crossbuck/crossbucklaw05.WheelApart", spec := "wheelApart", inPlace := ["internal/reflectlite.ValueOf", "(internal/reflectlite.Value).Type", "(internal/reflectlite.Value).IsNil", "internal/reflectlite.TypeOf", "(internal/reflectlite.Value).Elem", "(internal/reflectlite.Value).Set"], unfollowed := true, recurses := true, named := ["errors.errorType"], apart := false, laid := [("errors.errorType", laid_errors_errorType)], narrowed := true }
def WheelApartUptoSaid : Prop := wheelApartUptoRow.holds Tryd.pinned (OpenSpec.upto wheelApartSpec)

/-- 'crossbucklaw05.WheelAgain', WHERE WHAT IT READS IS OF BULK AT MOST 1048576: true; the input reads as it did. -/
def wheelAgainUptoRow : OpenClaim := { program := "ytpfoocndohpbbaadoor", sum := "66cd1605518a4bec05fb3e0be0e523201966eaa861e9ac442395e6ec97aa0ab2", func := "crossbuck/crossbucklaw05.WheelAgain", spec := "wheelAgain", inPlace := ["internal/reflectlite.ValueOf", "(internal/reflectlite.Value).Type", "(internal/reflectlite.Value).IsNil", "internal/reflectlite.TypeOf", "(internal/reflectlite.Value).Elem", "(internal/reflectlite.Value).Set"], unfollowed := true, recurses := true, named := ["errors.errorType"], apart := false, laid := [("errors.errorType", laid_errors_errorType)], narrowed := true }
def WheelAgainUptoSaid : Prop := wheelAgainUptoRow.holds Tryd.pinned (OpenSpec.upto wheelAgainSpec)

end Rows
end Go.Proofs.YtpfoocndohpbbaaDoor
