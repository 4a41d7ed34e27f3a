/-
  DERIVED. GIVEN WITH THE SEED: THE CARDS: each row of YtdclpmddofggcaaGreatDoorRows.lean that lists a variable, with what it lists TIED to the program's text (the seventh form; the later family's looks); each row that meets fmt, with fmt's text TOLD by the authors' own Lean function (tested against real Go, not proved from fmt's source: count such statements apart). THE CARD IS WHAT COUNTS. Prove the row's statement (the work); the ties are given (YtdclpmddofggcaaGreatDoorTie.lean); close each card by the builder's one call (the guide's Derived/Test/ToyasCard.lean, 'card_holds'). Laid BY PROGRAM, IN A SANDBOX (cutbox-door.mjs). By AI agents, Wed Nov 11 2026. No macro, syntax, notation, axiom, sorry.
-/
import Derived.Test.YtdclpmddofggcaaGreatDoorRows
import GoSem.ClaimSeven
namespace Go.Proofs.YtdclpmddofggcaaGreatDoor
namespace Rows

/-- THE TIED CARD OF 'pinballlaw34.CompileBuilds'. -/
def compileBuildsCard : Claim7 := { stood := { row := compileBuildsRow, standIns := [], harness := (true, "7cd0cd73c027367444e92bad63fa5b992833110fc727bb55c22ae0f90fccc533"), looks := true }, kinds := [], alts := [], laidByText := true, laidKinds := [.data, .data, .data, .sentinel, .sentinel, .listed, .data], laidTests := true, laidLooks := .later }
def CompileBuildsCardSaid : Prop := Claim7.holds Tryz.pinned (.plain (OpenSpec.ofChange compileBuildsSpec)) compileBuildsCard

/-- THE SECOND FORM's CARD OF 'pinballlaw34.CompileBuilds'. -/
def compileBuildsUptoCard : Claim7 := { stood := { row := compileBuildsUptoRow, standIns := [], harness := (true, "7cd0cd73c027367444e92bad63fa5b992833110fc727bb55c22ae0f90fccc533"), looks := true }, kinds := [], alts := [], laidByText := true, laidKinds := [.data, .data, .data, .sentinel, .sentinel, .listed, .data], laidTests := true, laidLooks := .later }
def CompileBuildsUptoCardSaid : Prop := Claim7.holds Tryz.pinned (.plain (OpenSpec.upto compileBuildsSpec)) compileBuildsUptoCard
end Rows
end Go.Proofs.YtdclpmddofggcaaGreatDoor
