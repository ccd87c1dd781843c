/-
  DERIVED. GIVEN WITH THE SEED: THE CARDS: each row of YtcppmihambcihaaDoorRows.lean that lists a variable, with what it lists TIED to the program's text (the seventh form; the later family's looks); each row that meets fmt, with fmt's text TOLD by the authors' own Lean function (tested against real Go, not proved from fmt's source: count such statements apart). THE CARD IS WHAT COUNTS. Prove the row's statement (the work); the ties are given (YtcppmihambcihaaDoorTie.lean); close each card by the builder's one call (the guide's Derived/Test/ToyasCard.lean, 'card_holds'). Laid BY PROGRAM, IN A SANDBOX (cutbox-door.mjs). By AI agents, Wed Nov 11 2026. No macro, syntax, notation, axiom, sorry.
-/
import Derived.Test.YtcppmihambcihaaDoorRows
import GoSem.ClaimSeven
namespace Go.Proofs.YtcppmihambcihaaDoor
namespace Rows

/-- THE TIED CARD OF 'crossbucklaw17.JournalKeeps'. -/
def journalKeepsCard : Claim7 := { stood := { row := journalKeepsRow, standIns := [], harness := (true, "353f2ae5ca87b4113e270f8d3523ac22f91dcf822d6354dc06a9b2bbfe2d3540"), looks := true }, kinds := [], alts := [], laidByText := true, laidKinds := [.handle], laidTests := true, laidLooks := .later }
def JournalKeepsCardSaid : Prop := Claim7.holds Tryd.pinned (.plain (OpenSpec.ofChange journalKeepsSpec)) journalKeepsCard

/-- THE TIED CARD OF 'crossbucklaw17.JournalAny'. -/
def journalAnyCard : Claim7 := { stood := { row := journalAnyRow, standIns := [], harness := (true, "353f2ae5ca87b4113e270f8d3523ac22f91dcf822d6354dc06a9b2bbfe2d3540"), looks := true }, kinds := [], alts := [], laidByText := true, laidKinds := [.handle], laidTests := true, laidLooks := .later }
def JournalAnyCardSaid : Prop := Claim7.holds Tryd.pinned (.plain (OpenSpec.ofChange journalAnySpec)) journalAnyCard

/-- THE TIED CARD OF 'crossbucklaw17.JournalMany'. -/
def journalManyCard : Claim7 := { stood := { row := journalManyRow, standIns := [], harness := (true, "353f2ae5ca87b4113e270f8d3523ac22f91dcf822d6354dc06a9b2bbfe2d3540"), looks := true }, kinds := [], alts := [], laidByText := true, laidKinds := [.handle], laidTests := true, laidLooks := .later }
def JournalManyCardSaid : Prop := Claim7.holds Tryd.pinned (.plain (OpenSpec.ofChange journalManySpec)) journalManyCard

/-- THE TIED CARD OF 'crossbucklaw17.JournalPlays'. -/
def journalPlaysCard : Claim7 := { stood := { row := journalPlaysRow, standIns := [], harness := (true, "353f2ae5ca87b4113e270f8d3523ac22f91dcf822d6354dc06a9b2bbfe2d3540"), looks := true }, kinds := [], alts := [], laidByText := true, laidKinds := [.handle], laidTests := true, laidLooks := .later }
def JournalPlaysCardSaid : Prop := Claim7.holds Tryd.pinned (.plain (OpenSpec.ofChange journalPlaysSpec)) journalPlaysCard

/-- THE TIED CARD OF 'crossbucklaw17.JournalSurvives'. -/
def journalSurvivesCard : Claim7 := { stood := { row := journalSurvivesRow, standIns := [], harness := (true, "353f2ae5ca87b4113e270f8d3523ac22f91dcf822d6354dc06a9b2bbfe2d3540"), looks := true }, kinds := [], alts := [], laidByText := true, laidKinds := [.handle], laidTests := true, laidLooks := .later }
def JournalSurvivesCardSaid : Prop := Claim7.holds Tryd.pinned (.plain (OpenSpec.ofChange journalSurvivesSpec)) journalSurvivesCard

/-- THE SECOND FORM's CARD OF 'crossbucklaw17.JournalKeeps'. -/
def journalKeepsUptoCard : Claim7 := { stood := { row := journalKeepsUptoRow, standIns := [], harness := (true, "353f2ae5ca87b4113e270f8d3523ac22f91dcf822d6354dc06a9b2bbfe2d3540"), looks := true }, kinds := [], alts := [], laidByText := true, laidKinds := [.handle], laidTests := true, laidLooks := .later }
def JournalKeepsUptoCardSaid : Prop := Claim7.holds Tryd.pinned (.plain (OpenSpec.upto journalKeepsSpec)) journalKeepsUptoCard

/-- THE SECOND FORM's CARD OF 'crossbucklaw17.JournalAny'. -/
def journalAnyUptoCard : Claim7 := { stood := { row := journalAnyUptoRow, standIns := [], harness := (true, "353f2ae5ca87b4113e270f8d3523ac22f91dcf822d6354dc06a9b2bbfe2d3540"), looks := true }, kinds := [], alts := [], laidByText := true, laidKinds := [.handle], laidTests := true, laidLooks := .later }
def JournalAnyUptoCardSaid : Prop := Claim7.holds Tryd.pinned (.plain (OpenSpec.upto journalAnySpec)) journalAnyUptoCard

/-- THE SECOND FORM's CARD OF 'crossbucklaw17.JournalMany'. -/
def journalManyUptoCard : Claim7 := { stood := { row := journalManyUptoRow, standIns := [], harness := (true, "353f2ae5ca87b4113e270f8d3523ac22f91dcf822d6354dc06a9b2bbfe2d3540"), looks := true }, kinds := [], alts := [], laidByText := true, laidKinds := [.handle], laidTests := true, laidLooks := .later }
def JournalManyUptoCardSaid : Prop := Claim7.holds Tryd.pinned (.plain (OpenSpec.upto journalManySpec)) journalManyUptoCard

/-- THE SECOND FORM's CARD OF 'crossbucklaw17.JournalPlays'. -/
def journalPlaysUptoCard : Claim7 := { stood := { row := journalPlaysUptoRow, standIns := [], harness := (true, "353f2ae5ca87b4113e270f8d3523ac22f91dcf822d6354dc06a9b2bbfe2d3540"), looks := true }, kinds := [], alts := [], laidByText := true, laidKinds := [.handle], laidTests := true, laidLooks := .later }
def JournalPlaysUptoCardSaid : Prop := Claim7.holds Tryd.pinned (.plain (OpenSpec.upto journalPlaysSpec)) journalPlaysUptoCard

/-- THE SECOND FORM's CARD OF 'crossbucklaw17.JournalSurvives'. -/
def journalSurvivesUptoCard : Claim7 := { stood := { row := journalSurvivesUptoRow, standIns := [], harness := (true, "353f2ae5ca87b4113e270f8d3523ac22f91dcf822d6354dc06a9b2bbfe2d3540"), looks := true }, kinds := [], alts := [], laidByText := true, laidKinds := [.handle], laidTests := true, laidLooks := .later }
def JournalSurvivesUptoCardSaid : Prop := Claim7.holds Tryd.pinned (.plain (OpenSpec.upto journalSurvivesSpec)) journalSurvivesUptoCard
end Rows
end Go.Proofs.YtcppmihambcihaaDoor
