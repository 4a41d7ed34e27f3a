/-
  DERIVED. GIVEN WITH THE SEED: THE CARDS: each row of YthlpinppaclofaaGreatDoorRows.lean that lists a variable, with what it lists TIED to the program's text (the seventh form; the later family's looks); each row that meets fmt, with fmt's text TOLD by the authors' own Lean function (tested against real Go, not proved from fmt's source: count such statements apart). THE CARD IS WHAT COUNTS. Prove the row's statement (the work); the ties are given (YthlpinppaclofaaGreatDoorTie.lean); close each card by the builder's one call (the guide's Derived/Test/ToyasCard.lean, 'card_holds'). Laid BY PROGRAM, IN A SANDBOX (cutbox-door.mjs). By AI agents, Wed Nov 11 2026. No macro, syntax, notation, axiom, sorry.
-/
import Derived.Test.YthlpinppaclofaaGreatDoorRows
import GoSem.ClaimSeven
namespace Go.Proofs.YthlpinppaclofaaGreatDoor
namespace Rows

/-- THE TIED CARD OF 'pinballlaw31.SyntaxParses'. -/
def syntaxParsesCard : Claim7 := { stood := { row := syntaxParsesRow, standIns := [], harness := (true, "32574fb0439b3794d94b3a18a6d85312ef377853fed790a0b6859ef3533acd1a"), looks := true }, kinds := [], alts := [], laidByText := true, laidKinds := [.data, .data, .data, .sentinel, .sentinel, .listed, .data], laidTests := true, laidLooks := .later }
def SyntaxParsesCardSaid : Prop := Claim7.holds Tryz.pinned (.plain (OpenSpec.ofChange syntaxParsesSpec)) syntaxParsesCard

/-- THE TIED CARD OF 'pinballlaw31.SyntaxWords'. -/
def syntaxWordsCard : Claim7 := { stood := { row := syntaxWordsRow, standIns := [], harness := (true, "32574fb0439b3794d94b3a18a6d85312ef377853fed790a0b6859ef3533acd1a"), looks := true }, kinds := [], alts := [], laidByText := true, laidKinds := [.data, .data, .data, .sentinel, .sentinel, .listed, .data], laidTests := true, laidLooks := .later }
def SyntaxWordsCardSaid : Prop := Claim7.holds Tryz.pinned (.plain (OpenSpec.ofChange syntaxWordsSpec)) syntaxWordsCard

/-- THE TIED CARD OF 'pinballlaw31.SyntaxExprs'. -/
def syntaxExprsCard : Claim7 := { stood := { row := syntaxExprsRow, standIns := [], harness := (true, "32574fb0439b3794d94b3a18a6d85312ef377853fed790a0b6859ef3533acd1a"), looks := true }, kinds := [], alts := [], laidByText := true, laidKinds := [.data, .data, .data, .sentinel, .sentinel, .listed, .data], laidTests := true, laidLooks := .later }
def SyntaxExprsCardSaid : Prop := Claim7.holds Tryz.pinned (.plain (OpenSpec.ofChange syntaxExprsSpec)) syntaxExprsCard

/-- THE TIED CARD OF 'pinballlaw31.SyntaxMade'. -/
def syntaxMadeCard : Claim7 := { stood := { row := syntaxMadeRow, standIns := [], harness := (true, "32574fb0439b3794d94b3a18a6d85312ef377853fed790a0b6859ef3533acd1a"), looks := true }, kinds := [], alts := [], laidByText := true, laidKinds := [.data, .data, .data, .sentinel, .sentinel, .listed, .data], laidTests := true, laidLooks := .later }
def SyntaxMadeCardSaid : Prop := Claim7.holds Tryz.pinned (.plain (OpenSpec.ofChange syntaxMadeSpec)) syntaxMadeCard

/-- THE TIED CARD OF 'pinballlaw31.SyntaxFormatsExpr'. -/
def syntaxFormatsExprCard : Claim7 := { stood := { row := syntaxFormatsExprRow, standIns := [], harness := (true, "32574fb0439b3794d94b3a18a6d85312ef377853fed790a0b6859ef3533acd1a"), looks := true }, kinds := [], alts := [], laidByText := true, laidKinds := [.data, .data, .data, .sentinel, .sentinel, .listed, .data], laidTests := true, laidLooks := .later }
def SyntaxFormatsExprCardSaid : Prop := Claim7.holds Tryz.pinned (.plain (OpenSpec.ofChange syntaxFormatsExprSpec)) syntaxFormatsExprCard

/-- THE TIED CARD OF 'pinballlaw31.SyntaxLimits'. -/
def syntaxLimitsCard : Claim7 := { stood := { row := syntaxLimitsRow, standIns := [], harness := (true, "32574fb0439b3794d94b3a18a6d85312ef377853fed790a0b6859ef3533acd1a"), looks := true }, kinds := [], alts := [], laidByText := true, laidKinds := [.data, .data, .data, .sentinel, .sentinel, .listed, .data], laidTests := true, laidLooks := .later }
def SyntaxLimitsCardSaid : Prop := Claim7.holds Tryz.pinned (.plain (OpenSpec.ofChange syntaxLimitsSpec)) syntaxLimitsCard

/-- THE TIED CARD OF 'pinballlaw31.SyntaxAssociates'. -/
def syntaxAssociatesCard : Claim7 := { stood := { row := syntaxAssociatesRow, standIns := [], harness := (true, "32574fb0439b3794d94b3a18a6d85312ef377853fed790a0b6859ef3533acd1a"), looks := true }, kinds := [], alts := [], laidByText := true, laidKinds := [.data, .data, .data, .sentinel, .sentinel, .listed, .data], laidTests := true, laidLooks := .later }
def SyntaxAssociatesCardSaid : Prop := Claim7.holds Tryz.pinned (.plain (OpenSpec.ofChange syntaxAssociatesSpec)) syntaxAssociatesCard

/-- THE TIED CARD OF 'pinballlaw31.SyntaxBack'. -/
def syntaxBackCard : Claim7 := { stood := { row := syntaxBackRow, standIns := [], harness := (true, "32574fb0439b3794d94b3a18a6d85312ef377853fed790a0b6859ef3533acd1a"), looks := true }, kinds := [], alts := [], laidByText := true, laidKinds := [.data, .data, .data, .sentinel, .sentinel, .listed, .data], laidTests := true, laidLooks := .later }
def SyntaxBackCardSaid : Prop := Claim7.holds Tryz.pinned (.plain (OpenSpec.ofChange syntaxBackSpec)) syntaxBackCard

/-- THE TIED CARD OF 'pinballlaw31.SyntaxFormats'. -/
def syntaxFormatsCard : Claim7 := { stood := { row := syntaxFormatsRow, standIns := [], harness := (true, "32574fb0439b3794d94b3a18a6d85312ef377853fed790a0b6859ef3533acd1a"), looks := true }, kinds := [], alts := [], laidByText := true, laidKinds := [.data, .data, .data, .sentinel, .sentinel, .listed, .data], laidTests := true, laidLooks := .later }
def SyntaxFormatsCardSaid : Prop := Claim7.holds Tryz.pinned (.plain (OpenSpec.ofChange syntaxFormatsSpec)) syntaxFormatsCard

/-- THE SECOND FORM's CARD OF 'pinballlaw31.SyntaxParses'. -/
def syntaxParsesUptoCard : Claim7 := { stood := { row := syntaxParsesUptoRow, standIns := [], harness := (true, "32574fb0439b3794d94b3a18a6d85312ef377853fed790a0b6859ef3533acd1a"), looks := true }, kinds := [], alts := [], laidByText := true, laidKinds := [.data, .data, .data, .sentinel, .sentinel, .listed, .data], laidTests := true, laidLooks := .later }
def SyntaxParsesUptoCardSaid : Prop := Claim7.holds Tryz.pinned (.plain (OpenSpec.upto syntaxParsesSpec)) syntaxParsesUptoCard

/-- THE SECOND FORM's CARD OF 'pinballlaw31.SyntaxWords'. -/
def syntaxWordsUptoCard : Claim7 := { stood := { row := syntaxWordsUptoRow, standIns := [], harness := (true, "32574fb0439b3794d94b3a18a6d85312ef377853fed790a0b6859ef3533acd1a"), looks := true }, kinds := [], alts := [], laidByText := true, laidKinds := [.data, .data, .data, .sentinel, .sentinel, .listed, .data], laidTests := true, laidLooks := .later }
def SyntaxWordsUptoCardSaid : Prop := Claim7.holds Tryz.pinned (.plain (OpenSpec.upto syntaxWordsSpec)) syntaxWordsUptoCard

/-- THE SECOND FORM's CARD OF 'pinballlaw31.SyntaxExprs'. -/
def syntaxExprsUptoCard : Claim7 := { stood := { row := syntaxExprsUptoRow, standIns := [], harness := (true, "32574fb0439b3794d94b3a18a6d85312ef377853fed790a0b6859ef3533acd1a"), looks := true }, kinds := [], alts := [], laidByText := true, laidKinds := [.data, .data, .data, .sentinel, .sentinel, .listed, .data], laidTests := true, laidLooks := .later }
def SyntaxExprsUptoCardSaid : Prop := Claim7.holds Tryz.pinned (.plain (OpenSpec.upto syntaxExprsSpec)) syntaxExprsUptoCard

/-- THE SECOND FORM's CARD OF 'pinballlaw31.SyntaxMade'. -/
def syntaxMadeUptoCard : Claim7 := { stood := { row := syntaxMadeUptoRow, standIns := [], harness := (true, "32574fb0439b3794d94b3a18a6d85312ef377853fed790a0b6859ef3533acd1a"), looks := true }, kinds := [], alts := [], laidByText := true, laidKinds := [.data, .data, .data, .sentinel, .sentinel, .listed, .data], laidTests := true, laidLooks := .later }
def SyntaxMadeUptoCardSaid : Prop := Claim7.holds Tryz.pinned (.plain (OpenSpec.upto syntaxMadeSpec)) syntaxMadeUptoCard

/-- THE SECOND FORM's CARD OF 'pinballlaw31.SyntaxFormatsExpr'. -/
def syntaxFormatsExprUptoCard : Claim7 := { stood := { row := syntaxFormatsExprUptoRow, standIns := [], harness := (true, "32574fb0439b3794d94b3a18a6d85312ef377853fed790a0b6859ef3533acd1a"), looks := true }, kinds := [], alts := [], laidByText := true, laidKinds := [.data, .data, .data, .sentinel, .sentinel, .listed, .data], laidTests := true, laidLooks := .later }
def SyntaxFormatsExprUptoCardSaid : Prop := Claim7.holds Tryz.pinned (.plain (OpenSpec.upto syntaxFormatsExprSpec)) syntaxFormatsExprUptoCard

/-- THE SECOND FORM's CARD OF 'pinballlaw31.SyntaxLimits'. -/
def syntaxLimitsUptoCard : Claim7 := { stood := { row := syntaxLimitsUptoRow, standIns := [], harness := (true, "32574fb0439b3794d94b3a18a6d85312ef377853fed790a0b6859ef3533acd1a"), looks := true }, kinds := [], alts := [], laidByText := true, laidKinds := [.data, .data, .data, .sentinel, .sentinel, .listed, .data], laidTests := true, laidLooks := .later }
def SyntaxLimitsUptoCardSaid : Prop := Claim7.holds Tryz.pinned (.plain (OpenSpec.upto syntaxLimitsSpec)) syntaxLimitsUptoCard

/-- THE SECOND FORM's CARD OF 'pinballlaw31.SyntaxAssociates'. -/
def syntaxAssociatesUptoCard : Claim7 := { stood := { row := syntaxAssociatesUptoRow, standIns := [], harness := (true, "32574fb0439b3794d94b3a18a6d85312ef377853fed790a0b6859ef3533acd1a"), looks := true }, kinds := [], alts := [], laidByText := true, laidKinds := [.data, .data, .data, .sentinel, .sentinel, .listed, .data], laidTests := true, laidLooks := .later }
def SyntaxAssociatesUptoCardSaid : Prop := Claim7.holds Tryz.pinned (.plain (OpenSpec.upto syntaxAssociatesSpec)) syntaxAssociatesUptoCard

/-- THE SECOND FORM's CARD OF 'pinballlaw31.SyntaxBack'. -/
def syntaxBackUptoCard : Claim7 := { stood := { row := syntaxBackUptoRow, standIns := [], harness := (true, "32574fb0439b3794d94b3a18a6d85312ef377853fed790a0b6859ef3533acd1a"), looks := true }, kinds := [], alts := [], laidByText := true, laidKinds := [.data, .data, .data, .sentinel, .sentinel, .listed, .data], laidTests := true, laidLooks := .later }
def SyntaxBackUptoCardSaid : Prop := Claim7.holds Tryz.pinned (.plain (OpenSpec.upto syntaxBackSpec)) syntaxBackUptoCard

/-- THE SECOND FORM's CARD OF 'pinballlaw31.SyntaxFormats'. -/
def syntaxFormatsUptoCard : Claim7 := { stood := { row := syntaxFormatsUptoRow, standIns := [], harness := (true, "32574fb0439b3794d94b3a18a6d85312ef377853fed790a0b6859ef3533acd1a"), looks := true }, kinds := [], alts := [], laidByText := true, laidKinds := [.data, .data, .data, .sentinel, .sentinel, .listed, .data], laidTests := true, laidLooks := .later }
def SyntaxFormatsUptoCardSaid : Prop := Claim7.holds Tryz.pinned (.plain (OpenSpec.upto syntaxFormatsSpec)) syntaxFormatsUptoCard
end Rows
end Go.Proofs.YthlpinppaclofaaGreatDoor
