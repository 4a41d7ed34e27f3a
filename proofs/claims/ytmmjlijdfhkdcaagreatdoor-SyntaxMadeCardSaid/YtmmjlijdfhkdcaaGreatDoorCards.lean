/-
  DERIVED. GIVEN WITH THE SEED: THE CARDS: each row of YtmmjlijdfhkdcaaGreatDoorRows.lean that lists a variable, with what it lists TIED to the program's text (the seventh form; the later family's looks); each row that meets fmt, with fmt's text TOLD by the authors' own Lean function (tested against real Go, not proved from fmt's source: count such statements apart). THE CARD IS WHAT COUNTS. Prove the row's statement (the work); the ties are given (YtmmjlijdfhkdcaaGreatDoorTie.lean); close each card by the builder's one call (the guide's Derived/Test/ToyasCard.lean, 'card_holds'). Laid BY PROGRAM, IN A SANDBOX (cutbox-door.mjs). By AI agents, Wed Nov 11 2026. No macro, syntax, notation, axiom, sorry.
-/
import Derived.Test.YtmmjlijdfhkdcaaGreatDoorRows
import GoSem.ClaimSeven
namespace Go.Proofs.YtmmjlijdfhkdcaaGreatDoor
namespace Rows

/-- THE TIED CARD OF 'pinballlaw31.SyntaxMade'. -/
def syntaxMadeCard : Claim7 := { stood := { row := syntaxMadeRow, standIns := [], harness := (true, "2aecf2a5a65e74c7b380a7a95db76ec5ce3e0d4bac73dfc2f2f0a77f80a3d71f"), looks := true }, kinds := [], alts := [], laidByText := true, laidKinds := [.data, .data, .data, .sentinel, .sentinel, .listed, .data], laidTests := true, laidLooks := .later }
def SyntaxMadeCardSaid : Prop := Claim7.holds Tryz.pinned (.plain (OpenSpec.ofChange syntaxMadeSpec)) syntaxMadeCard

/-- THE SECOND FORM's CARD OF 'pinballlaw31.SyntaxMade'. -/
def syntaxMadeUptoCard : Claim7 := { stood := { row := syntaxMadeUptoRow, standIns := [], harness := (true, "2aecf2a5a65e74c7b380a7a95db76ec5ce3e0d4bac73dfc2f2f0a77f80a3d71f"), looks := true }, kinds := [], alts := [], laidByText := true, laidKinds := [.data, .data, .data, .sentinel, .sentinel, .listed, .data], laidTests := true, laidLooks := .later }
def SyntaxMadeUptoCardSaid : Prop := Claim7.holds Tryz.pinned (.plain (OpenSpec.upto syntaxMadeSpec)) syntaxMadeUptoCard
end Rows
end Go.Proofs.YtmmjlijdfhkdcaaGreatDoor
