/-
  DERIVED. GIVEN WITH THE SEED: THE CARDS: each row of YtenmhfknbopmeaaGreatDoorRows.lean that lists a variable, with what it lists TIED to the program's text (the seventh form; the later family's looks); each row that meets fmt, with fmt's text TOLD by the authors' own Lean function (tested against real Go, not proved from fmt's source: count such statements apart). THE CARD IS WHAT COUNTS. Prove the row's statement (the work); the ties are given (YtenmhfknbopmeaaGreatDoorTie.lean); close each card by the builder's one call (the guide's Derived/Test/ToyasCard.lean, 'card_holds'). Laid BY PROGRAM, IN A SANDBOX (cutbox-door.mjs). By AI agents, Wed Nov 11 2026. No macro, syntax, notation, axiom, sorry.
-/
import Derived.Test.YtenmhfknbopmeaaGreatDoorRows
import GoSem.ClaimSeven
namespace Go.Proofs.YtenmhfknbopmeaaGreatDoor
namespace Rows

/-- THE TIED CARD OF 'pinballlaw34.CompilePlain'. -/
def compilePlainCard : Claim7 := { stood := { row := compilePlainRow, standIns := [], harness := (true, "54228247a02140161b1dadd7e547653932899b5dabcb0e47d5adc2793c677748"), looks := true }, kinds := [], alts := [], laidByText := true, laidKinds := [.data, .data, .data, .sentinel, .sentinel, .listed, .data], laidTests := true, laidLooks := .later }
def CompilePlainCardSaid : Prop := Claim7.holds Tryz.pinned (.plain (OpenSpec.ofChange compilePlainSpec)) compilePlainCard

/-- THE TIED CARD OF 'pinballlaw34.CompileJoins'. -/
def compileJoinsCard : Claim7 := { stood := { row := compileJoinsRow, standIns := [], harness := (true, "54228247a02140161b1dadd7e547653932899b5dabcb0e47d5adc2793c677748"), looks := true }, kinds := [], alts := [], laidByText := true, laidKinds := [.data, .data, .data, .sentinel, .sentinel, .listed, .data], laidTests := true, laidLooks := .later }
def CompileJoinsCardSaid : Prop := Claim7.holds Tryz.pinned (.plain (OpenSpec.ofChange compileJoinsSpec)) compileJoinsCard

/-- THE TIED CARD OF 'pinballlaw34.CompileMade'. -/
def compileMadeCard : Claim7 := { stood := { row := compileMadeRow, standIns := [], harness := (true, "54228247a02140161b1dadd7e547653932899b5dabcb0e47d5adc2793c677748"), looks := true }, kinds := [], alts := [], laidByText := true, laidKinds := [.data, .data, .data, .sentinel, .sentinel, .listed, .data], laidTests := true, laidLooks := .later }
def CompileMadeCardSaid : Prop := Claim7.holds Tryz.pinned (.plain (OpenSpec.ofChange compileMadeSpec)) compileMadeCard

/-- THE TIED CARD OF 'pinballlaw34.CompileCarries'. -/
def compileCarriesCard : Claim7 := { stood := { row := compileCarriesRow, standIns := [], harness := (true, "54228247a02140161b1dadd7e547653932899b5dabcb0e47d5adc2793c677748"), looks := true }, kinds := [], alts := [], laidByText := true, laidKinds := [.data, .data, .data, .sentinel, .sentinel, .listed, .data], laidTests := true, laidLooks := .later }
def CompileCarriesCardSaid : Prop := Claim7.holds Tryz.pinned (.plain (OpenSpec.ofChange compileCarriesSpec)) compileCarriesCard

/-- THE SECOND FORM's CARD OF 'pinballlaw34.CompilePlain'. -/
def compilePlainUptoCard : Claim7 := { stood := { row := compilePlainUptoRow, standIns := [], harness := (true, "54228247a02140161b1dadd7e547653932899b5dabcb0e47d5adc2793c677748"), looks := true }, kinds := [], alts := [], laidByText := true, laidKinds := [.data, .data, .data, .sentinel, .sentinel, .listed, .data], laidTests := true, laidLooks := .later }
def CompilePlainUptoCardSaid : Prop := Claim7.holds Tryz.pinned (.plain (OpenSpec.upto compilePlainSpec)) compilePlainUptoCard

/-- THE SECOND FORM's CARD OF 'pinballlaw34.CompileJoins'. -/
def compileJoinsUptoCard : Claim7 := { stood := { row := compileJoinsUptoRow, standIns := [], harness := (true, "54228247a02140161b1dadd7e547653932899b5dabcb0e47d5adc2793c677748"), looks := true }, kinds := [], alts := [], laidByText := true, laidKinds := [.data, .data, .data, .sentinel, .sentinel, .listed, .data], laidTests := true, laidLooks := .later }
def CompileJoinsUptoCardSaid : Prop := Claim7.holds Tryz.pinned (.plain (OpenSpec.upto compileJoinsSpec)) compileJoinsUptoCard

/-- THE SECOND FORM's CARD OF 'pinballlaw34.CompileMade'. -/
def compileMadeUptoCard : Claim7 := { stood := { row := compileMadeUptoRow, standIns := [], harness := (true, "54228247a02140161b1dadd7e547653932899b5dabcb0e47d5adc2793c677748"), looks := true }, kinds := [], alts := [], laidByText := true, laidKinds := [.data, .data, .data, .sentinel, .sentinel, .listed, .data], laidTests := true, laidLooks := .later }
def CompileMadeUptoCardSaid : Prop := Claim7.holds Tryz.pinned (.plain (OpenSpec.upto compileMadeSpec)) compileMadeUptoCard

/-- THE SECOND FORM's CARD OF 'pinballlaw34.CompileCarries'. -/
def compileCarriesUptoCard : Claim7 := { stood := { row := compileCarriesUptoRow, standIns := [], harness := (true, "54228247a02140161b1dadd7e547653932899b5dabcb0e47d5adc2793c677748"), looks := true }, kinds := [], alts := [], laidByText := true, laidKinds := [.data, .data, .data, .sentinel, .sentinel, .listed, .data], laidTests := true, laidLooks := .later }
def CompileCarriesUptoCardSaid : Prop := Claim7.holds Tryz.pinned (.plain (OpenSpec.upto compileCarriesSpec)) compileCarriesUptoCard
end Rows
end Go.Proofs.YtenmhfknbopmeaaGreatDoor
