/-
  DERIVED. GIVEN WITH THE SEED: THE CARDS: each row of YtibjoemdkeimfaaDoorRows.lean that lists a variable, with what it lists TIED to the program's text (the seventh form; the later family's looks); each row that meets fmt, with fmt's text TOLD by the authors' own Lean function (tested against real Go, not proved from fmt's source: count such statements apart). THE CARD IS WHAT COUNTS. Prove the row's statement (the work); the ties are given (YtibjoemdkeimfaaDoorTie.lean); close each card by the builder's one call (the guide's Derived/Test/ToyasCard.lean, 'card_holds'). Laid BY PROGRAM, IN A SANDBOX (cutbox-door.mjs). By AI agents, Wed Nov 11 2026. No macro, syntax, notation, axiom, sorry.
-/
import Derived.Test.YtibjoemdkeimfaaDoorRows
import GoSem.ClaimSeven
namespace Go.Proofs.YtibjoemdkeimfaaDoor
namespace Rows

/-- THE TIED CARD OF 'pinballlaw30.TokenScans'. -/
def tokenScansCard : Claim7 := { stood := { row := tokenScansRow, standIns := [], harness := (true, "c02b8fe63bbfacac12f69b04820d7b81ffa07ec08d3e4fba51bc6a34f929eaaf"), looks := true }, kinds := [], alts := [], laidByText := true, laidKinds := [.data, .data, .data, .sentinel, .sentinel, .listed, .data], laidTests := true, laidLooks := .later }
def TokenScansCardSaid : Prop := Claim7.holds Tryd.pinned (.plain (OpenSpec.ofChange tokenScansSpec)) tokenScansCard

/-- THE TIED CARD OF 'pinballlaw30.TokenNames'. -/
def tokenNamesCard : Claim7 := { stood := { row := tokenNamesRow, standIns := [], harness := (true, "c02b8fe63bbfacac12f69b04820d7b81ffa07ec08d3e4fba51bc6a34f929eaaf"), looks := true }, kinds := [], alts := [], laidByText := true, laidKinds := [.data, .data, .data, .sentinel, .sentinel, .listed, .data], laidTests := true, laidLooks := .later }
def TokenNamesCardSaid : Prop := Claim7.holds Tryd.pinned (.plain (OpenSpec.ofChange tokenNamesSpec)) tokenNamesCard

/-- THE TIED CARD OF 'pinballlaw30.TokenSeparators'. -/
def tokenSeparatorsCard : Claim7 := { stood := { row := tokenSeparatorsRow, standIns := [], harness := (true, "c02b8fe63bbfacac12f69b04820d7b81ffa07ec08d3e4fba51bc6a34f929eaaf"), looks := true }, kinds := [], alts := [], laidByText := true, laidKinds := [.data, .data, .data, .sentinel, .sentinel, .listed, .data], laidTests := true, laidLooks := .later }
def TokenSeparatorsCardSaid : Prop := Claim7.holds Tryd.pinned (.plain (OpenSpec.ofChange tokenSeparatorsSpec)) tokenSeparatorsCard

/-- THE TIED CARD OF 'pinballlaw30.TokenSpans'. -/
def tokenSpansCard : Claim7 := { stood := { row := tokenSpansRow, standIns := [], harness := (true, "c02b8fe63bbfacac12f69b04820d7b81ffa07ec08d3e4fba51bc6a34f929eaaf"), looks := true }, kinds := [], alts := [], laidByText := true, laidKinds := [.data, .data, .data, .sentinel, .sentinel, .listed, .data], laidTests := true, laidLooks := .later }
def TokenSpansCardSaid : Prop := Claim7.holds Tryd.pinned (.plain (OpenSpec.ofChange tokenSpansSpec)) tokenSpansCard

/-- THE TIED CARD OF 'pinballlaw30.TokenLimits'. -/
def tokenLimitsCard : Claim7 := { stood := { row := tokenLimitsRow, standIns := [], harness := (true, "c02b8fe63bbfacac12f69b04820d7b81ffa07ec08d3e4fba51bc6a34f929eaaf"), looks := true }, kinds := [], alts := [], laidByText := true, laidKinds := [.data, .data, .data, .sentinel, .sentinel, .listed, .data], laidTests := true, laidLooks := .later }
def TokenLimitsCardSaid : Prop := Claim7.holds Tryd.pinned (.plain (OpenSpec.ofChange tokenLimitsSpec)) tokenLimitsCard

/-- THE TIED CARD OF 'pinballlaw30.TokenTexts'. -/
def tokenTextsCard : Claim7 := { stood := { row := tokenTextsRow, standIns := [], harness := (true, "c02b8fe63bbfacac12f69b04820d7b81ffa07ec08d3e4fba51bc6a34f929eaaf"), looks := true }, kinds := [], alts := [], laidByText := true, laidKinds := [.data, .data, .data, .sentinel, .sentinel, .listed, .data], laidTests := true, laidLooks := .later }
def TokenTextsCardSaid : Prop := Claim7.holds Tryd.pinned (.plain (OpenSpec.ofChange tokenTextsSpec)) tokenTextsCard

/-- THE TIED CARD OF 'pinballlaw30.TokenBack'. -/
def tokenBackCard : Claim7 := { stood := { row := tokenBackRow, standIns := [], harness := (true, "c02b8fe63bbfacac12f69b04820d7b81ffa07ec08d3e4fba51bc6a34f929eaaf"), looks := true }, kinds := [], alts := [], laidByText := true, laidKinds := [.data, .data, .data, .sentinel, .sentinel, .listed, .data], laidTests := true, laidLooks := .later }
def TokenBackCardSaid : Prop := Claim7.holds Tryd.pinned (.plain (OpenSpec.ofChange tokenBackSpec)) tokenBackCard

/-- THE SECOND FORM's CARD OF 'pinballlaw30.TokenScans'. -/
def tokenScansUptoCard : Claim7 := { stood := { row := tokenScansUptoRow, standIns := [], harness := (true, "c02b8fe63bbfacac12f69b04820d7b81ffa07ec08d3e4fba51bc6a34f929eaaf"), looks := true }, kinds := [], alts := [], laidByText := true, laidKinds := [.data, .data, .data, .sentinel, .sentinel, .listed, .data], laidTests := true, laidLooks := .later }
def TokenScansUptoCardSaid : Prop := Claim7.holds Tryd.pinned (.plain (OpenSpec.upto tokenScansSpec)) tokenScansUptoCard

/-- THE SECOND FORM's CARD OF 'pinballlaw30.TokenNames'. -/
def tokenNamesUptoCard : Claim7 := { stood := { row := tokenNamesUptoRow, standIns := [], harness := (true, "c02b8fe63bbfacac12f69b04820d7b81ffa07ec08d3e4fba51bc6a34f929eaaf"), looks := true }, kinds := [], alts := [], laidByText := true, laidKinds := [.data, .data, .data, .sentinel, .sentinel, .listed, .data], laidTests := true, laidLooks := .later }
def TokenNamesUptoCardSaid : Prop := Claim7.holds Tryd.pinned (.plain (OpenSpec.upto tokenNamesSpec)) tokenNamesUptoCard

/-- THE SECOND FORM's CARD OF 'pinballlaw30.TokenSeparators'. -/
def tokenSeparatorsUptoCard : Claim7 := { stood := { row := tokenSeparatorsUptoRow, standIns := [], harness := (true, "c02b8fe63bbfacac12f69b04820d7b81ffa07ec08d3e4fba51bc6a34f929eaaf"), looks := true }, kinds := [], alts := [], laidByText := true, laidKinds := [.data, .data, .data, .sentinel, .sentinel, .listed, .data], laidTests := true, laidLooks := .later }
def TokenSeparatorsUptoCardSaid : Prop := Claim7.holds Tryd.pinned (.plain (OpenSpec.upto tokenSeparatorsSpec)) tokenSeparatorsUptoCard

/-- THE SECOND FORM's CARD OF 'pinballlaw30.TokenSpans'. -/
def tokenSpansUptoCard : Claim7 := { stood := { row := tokenSpansUptoRow, standIns := [], harness := (true, "c02b8fe63bbfacac12f69b04820d7b81ffa07ec08d3e4fba51bc6a34f929eaaf"), looks := true }, kinds := [], alts := [], laidByText := true, laidKinds := [.data, .data, .data, .sentinel, .sentinel, .listed, .data], laidTests := true, laidLooks := .later }
def TokenSpansUptoCardSaid : Prop := Claim7.holds Tryd.pinned (.plain (OpenSpec.upto tokenSpansSpec)) tokenSpansUptoCard

/-- THE SECOND FORM's CARD OF 'pinballlaw30.TokenLimits'. -/
def tokenLimitsUptoCard : Claim7 := { stood := { row := tokenLimitsUptoRow, standIns := [], harness := (true, "c02b8fe63bbfacac12f69b04820d7b81ffa07ec08d3e4fba51bc6a34f929eaaf"), looks := true }, kinds := [], alts := [], laidByText := true, laidKinds := [.data, .data, .data, .sentinel, .sentinel, .listed, .data], laidTests := true, laidLooks := .later }
def TokenLimitsUptoCardSaid : Prop := Claim7.holds Tryd.pinned (.plain (OpenSpec.upto tokenLimitsSpec)) tokenLimitsUptoCard

/-- THE SECOND FORM's CARD OF 'pinballlaw30.TokenTexts'. -/
def tokenTextsUptoCard : Claim7 := { stood := { row := tokenTextsUptoRow, standIns := [], harness := (true, "c02b8fe63bbfacac12f69b04820d7b81ffa07ec08d3e4fba51bc6a34f929eaaf"), looks := true }, kinds := [], alts := [], laidByText := true, laidKinds := [.data, .data, .data, .sentinel, .sentinel, .listed, .data], laidTests := true, laidLooks := .later }
def TokenTextsUptoCardSaid : Prop := Claim7.holds Tryd.pinned (.plain (OpenSpec.upto tokenTextsSpec)) tokenTextsUptoCard

/-- THE SECOND FORM's CARD OF 'pinballlaw30.TokenBack'. -/
def tokenBackUptoCard : Claim7 := { stood := { row := tokenBackUptoRow, standIns := [], harness := (true, "c02b8fe63bbfacac12f69b04820d7b81ffa07ec08d3e4fba51bc6a34f929eaaf"), looks := true }, kinds := [], alts := [], laidByText := true, laidKinds := [.data, .data, .data, .sentinel, .sentinel, .listed, .data], laidTests := true, laidLooks := .later }
def TokenBackUptoCardSaid : Prop := Claim7.holds Tryd.pinned (.plain (OpenSpec.upto tokenBackSpec)) tokenBackUptoCard
end Rows
end Go.Proofs.YtibjoemdkeimfaaDoor
