/-
  DERIVED. GIVEN WITH THE SEED: THE CARDS: each row of YtnkkfehegdplgaaGreatDoorRows.lean that lists a variable, with what it lists TIED to the program's text (the seventh form; the later family's looks); each row that meets fmt, with fmt's text TOLD by the authors' own Lean function (tested against real Go, not proved from fmt's source: count such statements apart). THE CARD IS WHAT COUNTS. Prove the row's statement (the work); the ties are given (YtnkkfehegdplgaaGreatDoorTie.lean); close each card by the builder's one call (the guide's Derived/Test/ToyasCard.lean, 'card_holds'). Laid BY PROGRAM, IN A SANDBOX (cutbox-door.mjs). By AI agents, Wed Nov 11 2026. No macro, syntax, notation, axiom, sorry.
-/
import Derived.Test.YtnkkfehegdplgaaGreatDoorRows
import GoSem.ClaimSeven
namespace Go.Proofs.YtnkkfehegdplgaaGreatDoor
namespace Rows

/-- THE TIED CARD OF 'pinballlaw34.CompileCarries'. -/
def compileCarriesCard : Claim7 := { stood := { row := compileCarriesRow, standIns := [], harness := (true, "9943773fa1cbffc73f2d4e9451947a577221d45095a8d0a7aaa7da708e8570c4"), looks := true }, kinds := [], alts := [], laidByText := true, laidKinds := [.data, .data, .data, .sentinel, .sentinel, .listed, .data], laidTests := true, laidLooks := .later }
def CompileCarriesCardSaid : Prop := Claim7.holds Tryz.pinned (.plain (OpenSpec.ofChange compileCarriesSpec)) compileCarriesCard

/-- THE SECOND FORM's CARD OF 'pinballlaw34.CompileCarries'. -/
def compileCarriesUptoCard : Claim7 := { stood := { row := compileCarriesUptoRow, standIns := [], harness := (true, "9943773fa1cbffc73f2d4e9451947a577221d45095a8d0a7aaa7da708e8570c4"), looks := true }, kinds := [], alts := [], laidByText := true, laidKinds := [.data, .data, .data, .sentinel, .sentinel, .listed, .data], laidTests := true, laidLooks := .later }
def CompileCarriesUptoCardSaid : Prop := Claim7.holds Tryz.pinned (.plain (OpenSpec.upto compileCarriesSpec)) compileCarriesUptoCard
end Rows
end Go.Proofs.YtnkkfehegdplgaaGreatDoor
