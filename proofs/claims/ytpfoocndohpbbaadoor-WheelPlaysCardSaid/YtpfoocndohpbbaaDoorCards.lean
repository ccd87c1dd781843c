/-
  DERIVED. GIVEN WITH THE SEED: THE CARDS: each row of YtpfoocndohpbbaaDoorRows.lean that lists a variable, with what it lists TIED to the program's text (the seventh form; the later family's looks); each row that meets fmt, with fmt's text TOLD by the authors' own Lean function (tested against real Go, not proved from fmt's source: count such statements apart). THE CARD IS WHAT COUNTS. Prove the row's statement (the work); the ties are given (YtpfoocndohpbbaaDoorTie.lean); close each card by the builder's one call (the guide's Derived/Test/ToyasCard.lean, 'card_holds'). Laid BY PROGRAM, IN A SANDBOX (cutbox-door.mjs). By AI agents, Wed Nov 11 2026. No macro, syntax, notation, axiom, sorry.
-/
import Derived.Test.YtpfoocndohpbbaaDoorRows
import GoSem.ClaimSeven
namespace Go.Proofs.YtpfoocndohpbbaaDoor
namespace Rows

/-- THE TIED CARD OF 'crossbucklaw05.WheelPlays'. -/
def wheelPlaysCard : Claim7 := { stood := { row := wheelPlaysRow, standIns := [], harness := (true, "dae7d43cac77bb061f54e3af7852656a36de41797d8f22e882c405d9d63aab5f"), looks := true }, kinds := [], alts := [], laidByText := true, laidKinds := [.handle], laidTests := true, laidLooks := .later }
def WheelPlaysCardSaid : Prop := Claim7.holds Tryd.pinned (.plain (OpenSpec.ofChange wheelPlaysSpec)) wheelPlaysCard

/-- THE TIED CARD OF 'crossbucklaw05.WheelFires'. -/
def wheelFiresCard : Claim7 := { stood := { row := wheelFiresRow, standIns := [], harness := (true, "dae7d43cac77bb061f54e3af7852656a36de41797d8f22e882c405d9d63aab5f"), looks := true }, kinds := [], alts := [], laidByText := true, laidKinds := [.handle], laidTests := true, laidLooks := .later }
def WheelFiresCardSaid : Prop := Claim7.holds Tryd.pinned (.plain (OpenSpec.ofChange wheelFiresSpec)) wheelFiresCard

/-- THE TIED CARD OF 'crossbucklaw05.WheelOnce'. -/
def wheelOnceCard : Claim7 := { stood := { row := wheelOnceRow, standIns := [], harness := (true, "dae7d43cac77bb061f54e3af7852656a36de41797d8f22e882c405d9d63aab5f"), looks := true }, kinds := [], alts := [], laidByText := true, laidKinds := [.handle], laidTests := true, laidLooks := .later }
def WheelOnceCardSaid : Prop := Claim7.holds Tryd.pinned (.plain (OpenSpec.ofChange wheelOnceSpec)) wheelOnceCard

/-- THE TIED CARD OF 'crossbucklaw05.WheelPools'. -/
def wheelPoolsCard : Claim7 := { stood := { row := wheelPoolsRow, standIns := [], harness := (true, "dae7d43cac77bb061f54e3af7852656a36de41797d8f22e882c405d9d63aab5f"), looks := true }, kinds := [], alts := [], laidByText := true, laidKinds := [.handle], laidTests := true, laidLooks := .later }
def WheelPoolsCardSaid : Prop := Claim7.holds Tryd.pinned (.plain (OpenSpec.ofChange wheelPoolsSpec)) wheelPoolsCard

/-- THE TIED CARD OF 'crossbucklaw05.WheelApart'. -/
def wheelApartCard : Claim7 := { stood := { row := wheelApartRow, standIns := [], harness := (true, "dae7d43cac77bb061f54e3af7852656a36de41797d8f22e882c405d9d63aab5f"), looks := true }, kinds := [], alts := [], laidByText := true, laidKinds := [.handle], laidTests := true, laidLooks := .later }
def WheelApartCardSaid : Prop := Claim7.holds Tryd.pinned (.plain (OpenSpec.ofChange wheelApartSpec)) wheelApartCard

/-- THE TIED CARD OF 'crossbucklaw05.WheelAgain'. -/
def wheelAgainCard : Claim7 := { stood := { row := wheelAgainRow, standIns := [], harness := (true, "dae7d43cac77bb061f54e3af7852656a36de41797d8f22e882c405d9d63aab5f"), looks := true }, kinds := [], alts := [], laidByText := true, laidKinds := [.handle], laidTests := true, laidLooks := .later }
def WheelAgainCardSaid : Prop := Claim7.holds Tryd.pinned (.plain (OpenSpec.ofChange wheelAgainSpec)) wheelAgainCard

/-- THE SECOND FORM's CARD OF 'crossbucklaw05.WheelPlays'. -/
def wheelPlaysUptoCard : Claim7 := { stood := { row := wheelPlaysUptoRow, standIns := [], harness := (true, "dae7d43cac77bb061f54e3af7852656a36de41797d8f22e882c405d9d63aab5f"), looks := true }, kinds := [], alts := [], laidByText := true, laidKinds := [.handle], laidTests := true, laidLooks := .later }
def WheelPlaysUptoCardSaid : Prop := Claim7.holds Tryd.pinned (.plain (OpenSpec.upto wheelPlaysSpec)) wheelPlaysUptoCard

/-- THE SECOND FORM's CARD OF 'crossbucklaw05.WheelFires'. -/
def wheelFiresUptoCard : Claim7 := { stood := { row := wheelFiresUptoRow, standIns := [], harness := (true, "dae7d43cac77bb061f54e3af7852656a36de41797d8f22e882c405d9d63aab5f"), looks := true }, kinds := [], alts := [], laidByText := true, laidKinds := [.handle], laidTests := true, laidLooks := .later }
def WheelFiresUptoCardSaid : Prop := Claim7.holds Tryd.pinned (.plain (OpenSpec.upto wheelFiresSpec)) wheelFiresUptoCard

/-- THE SECOND FORM's CARD OF 'crossbucklaw05.WheelOnce'. -/
def wheelOnceUptoCard : Claim7 := { stood := { row := wheelOnceUptoRow, standIns := [], harness := (true, "dae7d43cac77bb061f54e3af7852656a36de41797d8f22e882c405d9d63aab5f"), looks := true }, kinds := [], alts := [], laidByText := true, laidKinds := [.handle], laidTests := true, laidLooks := .later }
def WheelOnceUptoCardSaid : Prop := Claim7.holds Tryd.pinned (.plain (OpenSpec.upto wheelOnceSpec)) wheelOnceUptoCard

/-- THE SECOND FORM's CARD OF 'crossbucklaw05.WheelPools'. -/
def wheelPoolsUptoCard : Claim7 := { stood := { row := wheelPoolsUptoRow, standIns := [], harness := (true, "dae7d43cac77bb061f54e3af7852656a36de41797d8f22e882c405d9d63aab5f"), looks := true }, kinds := [], alts := [], laidByText := true, laidKinds := [.handle], laidTests := true, laidLooks := .later }
def WheelPoolsUptoCardSaid : Prop := Claim7.holds Tryd.pinned (.plain (OpenSpec.upto wheelPoolsSpec)) wheelPoolsUptoCard

/-- THE SECOND FORM's CARD OF 'crossbucklaw05.WheelApart'. -/
def wheelApartUptoCard : Claim7 := { stood := { row := wheelApartUptoRow, standIns := [], harness := (true, "dae7d43cac77bb061f54e3af7852656a36de41797d8f22e882c405d9d63aab5f"), looks := true }, kinds := [], alts := [], laidByText := true, laidKinds := [.handle], laidTests := true, laidLooks := .later }
def WheelApartUptoCardSaid : Prop := Claim7.holds Tryd.pinned (.plain (OpenSpec.upto wheelApartSpec)) wheelApartUptoCard

/-- THE SECOND FORM's CARD OF 'crossbucklaw05.WheelAgain'. -/
def wheelAgainUptoCard : Claim7 := { stood := { row := wheelAgainUptoRow, standIns := [], harness := (true, "dae7d43cac77bb061f54e3af7852656a36de41797d8f22e882c405d9d63aab5f"), looks := true }, kinds := [], alts := [], laidByText := true, laidKinds := [.handle], laidTests := true, laidLooks := .later }
def WheelAgainUptoCardSaid : Prop := Claim7.holds Tryd.pinned (.plain (OpenSpec.upto wheelAgainSpec)) wheelAgainUptoCard
end Rows
end Go.Proofs.YtpfoocndohpbbaaDoor
