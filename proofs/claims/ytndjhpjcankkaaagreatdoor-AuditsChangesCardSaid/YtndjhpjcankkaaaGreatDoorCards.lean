/-
  DERIVED. GIVEN WITH THE SEED: THE CARDS: each row of YtndjhpjcankkaaaGreatDoorRows.lean that lists a variable, with what it lists TIED to the program's text (the seventh form; the later family's looks); each row that meets fmt, with fmt's text TOLD by the authors' own Lean function (tested against real Go, not proved from fmt's source: count such statements apart). THE CARD IS WHAT COUNTS. Prove the row's statement (the work); the ties are given (YtndjhpjcankkaaaGreatDoorTie.lean); close each card by the builder's one call (the guide's Derived/Test/ToyasCard.lean, 'card_holds'). Laid BY PROGRAM, IN A SANDBOX (cutbox-door.mjs). By AI agents, Wed Nov 11 2026. No macro, syntax, notation, axiom, sorry.
-/
import Derived.Test.YtndjhpjcankkaaaGreatDoorRows
import GoSem.ClaimSeven
namespace Go.Proofs.YtndjhpjcankkaaaGreatDoor
namespace Rows

/-- THE TIED CARD OF 'pinballlaw41.AuditsTurns'. -/
def auditsTurnsCard : Claim7 := { stood := { row := auditsTurnsRow, standIns := [], harness := (true, "af7a35e5067dc4570083d05e26b26ed7704004e6cf09f4d6d67fab268d9f2f68"), looks := true }, kinds := [], alts := [], laidByText := true, laidKinds := [.data, .data, .data, .data, .sentinel, .sentinel, .pinned], laidTests := true, laidLooks := .later }
def AuditsTurnsCardSaid : Prop := Claim7.holds Tryz.pinned (.plain (OpenSpec.ofChange auditsTurnsSpec)) auditsTurnsCard

/-- THE TIED CARD OF 'pinballlaw41.AuditsScores'. -/
def auditsScoresCard : Claim7 := { stood := { row := auditsScoresRow, standIns := [], harness := (true, "af7a35e5067dc4570083d05e26b26ed7704004e6cf09f4d6d67fab268d9f2f68"), looks := true }, kinds := [], alts := [], laidByText := true, laidKinds := [.data, .data, .data, .data, .sentinel, .sentinel, .pinned], laidTests := true, laidLooks := .later }
def AuditsScoresCardSaid : Prop := Claim7.holds Tryz.pinned (.plain (OpenSpec.ofChange auditsScoresSpec)) auditsScoresCard

/-- THE TIED CARD OF 'pinballlaw41.AuditsEncodes'. -/
def auditsEncodesCard : Claim7 := { stood := { row := auditsEncodesRow, standIns := [], harness := (true, "af7a35e5067dc4570083d05e26b26ed7704004e6cf09f4d6d67fab268d9f2f68"), looks := true }, kinds := [], alts := [], laidByText := true, laidKinds := [.data, .data, .data, .data, .sentinel, .sentinel, .pinned], laidTests := true, laidLooks := .later }
def AuditsEncodesCardSaid : Prop := Claim7.holds Tryz.pinned (.plain (OpenSpec.ofChange auditsEncodesSpec)) auditsEncodesCard

/-- THE TIED CARD OF 'pinballlaw41.AuditsDecodes'. -/
def auditsDecodesCard : Claim7 := { stood := { row := auditsDecodesRow, standIns := [], harness := (true, "af7a35e5067dc4570083d05e26b26ed7704004e6cf09f4d6d67fab268d9f2f68"), looks := true }, kinds := [], alts := [], laidByText := true, laidKinds := [.data, .data, .data, .data, .sentinel, .sentinel, .pinned], laidTests := true, laidLooks := .later }
def AuditsDecodesCardSaid : Prop := Claim7.holds Tryz.pinned (.plain (OpenSpec.ofChange auditsDecodesSpec)) auditsDecodesCard

/-- THE TIED CARD OF 'pinballlaw41.AuditsLoads'. -/
def auditsLoadsCard : Claim7 := { stood := { row := auditsLoadsRow, standIns := [], harness := (true, "af7a35e5067dc4570083d05e26b26ed7704004e6cf09f4d6d67fab268d9f2f68"), looks := true }, kinds := [], alts := [], laidByText := true, laidKinds := [.data, .data, .data, .data, .sentinel, .sentinel, .pinned], laidTests := true, laidLooks := .later }
def AuditsLoadsCardSaid : Prop := Claim7.holds Tryz.pinned (.plain (OpenSpec.ofChange auditsLoadsSpec)) auditsLoadsCard

/-- THE TIED CARD OF 'pinballlaw41.AuditsSurvives'. -/
def auditsSurvivesCard : Claim7 := { stood := { row := auditsSurvivesRow, standIns := [], harness := (true, "af7a35e5067dc4570083d05e26b26ed7704004e6cf09f4d6d67fab268d9f2f68"), looks := true }, kinds := [], alts := [], laidByText := true, laidKinds := [.data, .data, .data, .data, .sentinel, .sentinel, .pinned], laidTests := true, laidLooks := .later }
def AuditsSurvivesCardSaid : Prop := Claim7.holds Tryz.pinned (.plain (OpenSpec.ofChange auditsSurvivesSpec)) auditsSurvivesCard

/-- THE TIED CARD OF 'pinballlaw41.AuditsSets'. -/
def auditsSetsCard : Claim7 := { stood := { row := auditsSetsRow, standIns := [], harness := (true, "af7a35e5067dc4570083d05e26b26ed7704004e6cf09f4d6d67fab268d9f2f68"), looks := true }, kinds := [], alts := [], laidByText := true, laidKinds := [.data, .data, .data, .data, .sentinel, .sentinel, .pinned], laidTests := true, laidLooks := .later }
def AuditsSetsCardSaid : Prop := Claim7.holds Tryz.pinned (.plain (OpenSpec.ofChange auditsSetsSpec)) auditsSetsCard

/-- THE TIED CARD OF 'pinballlaw41.AuditsStates'. -/
def auditsStatesCard : Claim7 := { stood := { row := auditsStatesRow, standIns := [], harness := (true, "af7a35e5067dc4570083d05e26b26ed7704004e6cf09f4d6d67fab268d9f2f68"), looks := true }, kinds := [], alts := [], laidByText := true, laidKinds := [.data, .data, .data, .data, .sentinel, .sentinel, .pinned], laidTests := true, laidLooks := .later }
def AuditsStatesCardSaid : Prop := Claim7.holds Tryz.pinned (.plain (OpenSpec.ofChange auditsStatesSpec)) auditsStatesCard

/-- THE TIED CARD OF 'pinballlaw41.AuditsChanges'. -/
def auditsChangesCard : Claim7 := { stood := { row := auditsChangesRow, standIns := [], harness := (true, "af7a35e5067dc4570083d05e26b26ed7704004e6cf09f4d6d67fab268d9f2f68"), looks := true }, kinds := [], alts := [], laidByText := true, laidKinds := [.data, .data, .data, .data, .sentinel, .sentinel, .pinned], laidTests := true, laidLooks := .later }
def AuditsChangesCardSaid : Prop := Claim7.holds Tryz.pinned (.plain (OpenSpec.ofChange auditsChangesSpec)) auditsChangesCard

/-- THE SECOND FORM's CARD OF 'pinballlaw41.AuditsTurns'. -/
def auditsTurnsUptoCard : Claim7 := { stood := { row := auditsTurnsUptoRow, standIns := [], harness := (true, "af7a35e5067dc4570083d05e26b26ed7704004e6cf09f4d6d67fab268d9f2f68"), looks := true }, kinds := [], alts := [], laidByText := true, laidKinds := [.data, .data, .data, .data, .sentinel, .sentinel, .pinned], laidTests := true, laidLooks := .later }
def AuditsTurnsUptoCardSaid : Prop := Claim7.holds Tryz.pinned (.plain (OpenSpec.upto auditsTurnsSpec)) auditsTurnsUptoCard

/-- THE SECOND FORM's CARD OF 'pinballlaw41.AuditsScores'. -/
def auditsScoresUptoCard : Claim7 := { stood := { row := auditsScoresUptoRow, standIns := [], harness := (true, "af7a35e5067dc4570083d05e26b26ed7704004e6cf09f4d6d67fab268d9f2f68"), looks := true }, kinds := [], alts := [], laidByText := true, laidKinds := [.data, .data, .data, .data, .sentinel, .sentinel, .pinned], laidTests := true, laidLooks := .later }
def AuditsScoresUptoCardSaid : Prop := Claim7.holds Tryz.pinned (.plain (OpenSpec.upto auditsScoresSpec)) auditsScoresUptoCard

/-- THE SECOND FORM's CARD OF 'pinballlaw41.AuditsEncodes'. -/
def auditsEncodesUptoCard : Claim7 := { stood := { row := auditsEncodesUptoRow, standIns := [], harness := (true, "af7a35e5067dc4570083d05e26b26ed7704004e6cf09f4d6d67fab268d9f2f68"), looks := true }, kinds := [], alts := [], laidByText := true, laidKinds := [.data, .data, .data, .data, .sentinel, .sentinel, .pinned], laidTests := true, laidLooks := .later }
def AuditsEncodesUptoCardSaid : Prop := Claim7.holds Tryz.pinned (.plain (OpenSpec.upto auditsEncodesSpec)) auditsEncodesUptoCard

/-- THE SECOND FORM's CARD OF 'pinballlaw41.AuditsDecodes'. -/
def auditsDecodesUptoCard : Claim7 := { stood := { row := auditsDecodesUptoRow, standIns := [], harness := (true, "af7a35e5067dc4570083d05e26b26ed7704004e6cf09f4d6d67fab268d9f2f68"), looks := true }, kinds := [], alts := [], laidByText := true, laidKinds := [.data, .data, .data, .data, .sentinel, .sentinel, .pinned], laidTests := true, laidLooks := .later }
def AuditsDecodesUptoCardSaid : Prop := Claim7.holds Tryz.pinned (.plain (OpenSpec.upto auditsDecodesSpec)) auditsDecodesUptoCard

/-- THE SECOND FORM's CARD OF 'pinballlaw41.AuditsLoads'. -/
def auditsLoadsUptoCard : Claim7 := { stood := { row := auditsLoadsUptoRow, standIns := [], harness := (true, "af7a35e5067dc4570083d05e26b26ed7704004e6cf09f4d6d67fab268d9f2f68"), looks := true }, kinds := [], alts := [], laidByText := true, laidKinds := [.data, .data, .data, .data, .sentinel, .sentinel, .pinned], laidTests := true, laidLooks := .later }
def AuditsLoadsUptoCardSaid : Prop := Claim7.holds Tryz.pinned (.plain (OpenSpec.upto auditsLoadsSpec)) auditsLoadsUptoCard

/-- THE SECOND FORM's CARD OF 'pinballlaw41.AuditsSurvives'. -/
def auditsSurvivesUptoCard : Claim7 := { stood := { row := auditsSurvivesUptoRow, standIns := [], harness := (true, "af7a35e5067dc4570083d05e26b26ed7704004e6cf09f4d6d67fab268d9f2f68"), looks := true }, kinds := [], alts := [], laidByText := true, laidKinds := [.data, .data, .data, .data, .sentinel, .sentinel, .pinned], laidTests := true, laidLooks := .later }
def AuditsSurvivesUptoCardSaid : Prop := Claim7.holds Tryz.pinned (.plain (OpenSpec.upto auditsSurvivesSpec)) auditsSurvivesUptoCard

/-- THE SECOND FORM's CARD OF 'pinballlaw41.AuditsSets'. -/
def auditsSetsUptoCard : Claim7 := { stood := { row := auditsSetsUptoRow, standIns := [], harness := (true, "af7a35e5067dc4570083d05e26b26ed7704004e6cf09f4d6d67fab268d9f2f68"), looks := true }, kinds := [], alts := [], laidByText := true, laidKinds := [.data, .data, .data, .data, .sentinel, .sentinel, .pinned], laidTests := true, laidLooks := .later }
def AuditsSetsUptoCardSaid : Prop := Claim7.holds Tryz.pinned (.plain (OpenSpec.upto auditsSetsSpec)) auditsSetsUptoCard

/-- THE SECOND FORM's CARD OF 'pinballlaw41.AuditsStates'. -/
def auditsStatesUptoCard : Claim7 := { stood := { row := auditsStatesUptoRow, standIns := [], harness := (true, "af7a35e5067dc4570083d05e26b26ed7704004e6cf09f4d6d67fab268d9f2f68"), looks := true }, kinds := [], alts := [], laidByText := true, laidKinds := [.data, .data, .data, .data, .sentinel, .sentinel, .pinned], laidTests := true, laidLooks := .later }
def AuditsStatesUptoCardSaid : Prop := Claim7.holds Tryz.pinned (.plain (OpenSpec.upto auditsStatesSpec)) auditsStatesUptoCard

/-- THE SECOND FORM's CARD OF 'pinballlaw41.AuditsChanges'. -/
def auditsChangesUptoCard : Claim7 := { stood := { row := auditsChangesUptoRow, standIns := [], harness := (true, "af7a35e5067dc4570083d05e26b26ed7704004e6cf09f4d6d67fab268d9f2f68"), looks := true }, kinds := [], alts := [], laidByText := true, laidKinds := [.data, .data, .data, .data, .sentinel, .sentinel, .pinned], laidTests := true, laidLooks := .later }
def AuditsChangesUptoCardSaid : Prop := Claim7.holds Tryz.pinned (.plain (OpenSpec.upto auditsChangesSpec)) auditsChangesUptoCard
end Rows
end Go.Proofs.YtndjhpjcankkaaaGreatDoor
