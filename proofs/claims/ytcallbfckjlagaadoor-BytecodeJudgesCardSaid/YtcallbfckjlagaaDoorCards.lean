/-
  DERIVED. GIVEN WITH THE SEED: THE CARDS: each row of YtcallbfckjlagaaDoorRows.lean that lists a variable, with what it lists TIED to the program's text (the seventh form; the later family's looks); each row that meets fmt, with fmt's text TOLD by the authors' own Lean function (tested against real Go, not proved from fmt's source: count such statements apart). THE CARD IS WHAT COUNTS. Prove the row's statement (the work); the ties are given (YtcallbfckjlagaaDoorTie.lean); close each card by the builder's one call (the guide's Derived/Test/ToyasCard.lean, 'card_holds'). Laid BY PROGRAM, IN A SANDBOX (cutbox-door.mjs). By AI agents, Wed Nov 11 2026. No macro, syntax, notation, axiom, sorry.
-/
import Derived.Test.YtcallbfckjlagaaDoorRows
import GoSem.ClaimSeven
namespace Go.Proofs.YtcallbfckjlagaaDoor
namespace Rows

/-- THE TIED CARD OF 'pinballlaw33.BytecodeJudges'. -/
def bytecodeJudgesCard : Claim7 := { stood := { row := bytecodeJudgesRow, standIns := [], harness := (true, "d4ba9963093d959c433b127b29dad56fa6b271a3f8e4f8b1b67b809d1221cb7b"), looks := false }, kinds := [], alts := [], laidByText := true, laidKinds := [.data, .data, .data], laidTests := true, laidLooks := .later }
def BytecodeJudgesCardSaid : Prop := Claim7.holds Tryd.pinned (.plain (OpenSpec.ofChange bytecodeJudgesSpec)) bytecodeJudgesCard

/-- THE TIED CARD OF 'pinballlaw33.BytecodeMade'. -/
def bytecodeMadeCard : Claim7 := { stood := { row := bytecodeMadeRow, standIns := [], harness := (true, "d4ba9963093d959c433b127b29dad56fa6b271a3f8e4f8b1b67b809d1221cb7b"), looks := false }, kinds := [], alts := [], laidByText := true, laidKinds := [.data, .data, .data], laidTests := true, laidLooks := .later }
def BytecodeMadeCardSaid : Prop := Claim7.holds Tryd.pinned (.plain (OpenSpec.ofChange bytecodeMadeSpec)) bytecodeMadeCard

/-- THE TIED CARD OF 'pinballlaw33.BytecodeDecodes'. -/
def bytecodeDecodesCard : Claim7 := { stood := { row := bytecodeDecodesRow, standIns := [], harness := (true, "d4ba9963093d959c433b127b29dad56fa6b271a3f8e4f8b1b67b809d1221cb7b"), looks := false }, kinds := [], alts := [], laidByText := true, laidKinds := [.data, .data, .data], laidTests := true, laidLooks := .later }
def BytecodeDecodesCardSaid : Prop := Claim7.holds Tryd.pinned (.plain (OpenSpec.ofChange bytecodeDecodesSpec)) bytecodeDecodesCard

/-- THE TIED CARD OF 'pinballlaw33.BytecodeSafe'. -/
def bytecodeSafeCard : Claim7 := { stood := { row := bytecodeSafeRow, standIns := [], harness := (true, "d4ba9963093d959c433b127b29dad56fa6b271a3f8e4f8b1b67b809d1221cb7b"), looks := false }, kinds := [], alts := [], laidByText := true, laidKinds := [.data, .data, .data], laidTests := true, laidLooks := .later }
def BytecodeSafeCardSaid : Prop := Claim7.holds Tryd.pinned (.plain (OpenSpec.ofChange bytecodeSafeSpec)) bytecodeSafeCard

/-- THE TIED CARD OF 'pinballlaw33.BytecodeOrder'. -/
def bytecodeOrderCard : Claim7 := { stood := { row := bytecodeOrderRow, standIns := [], harness := (true, "d4ba9963093d959c433b127b29dad56fa6b271a3f8e4f8b1b67b809d1221cb7b"), looks := false }, kinds := [], alts := [], laidByText := true, laidKinds := [.data, .data, .data], laidTests := true, laidLooks := .later }
def BytecodeOrderCardSaid : Prop := Claim7.holds Tryd.pinned (.plain (OpenSpec.ofChange bytecodeOrderSpec)) bytecodeOrderCard

/-- THE TIED CARD OF 'pinballlaw33.BytecodeBack'. -/
def bytecodeBackCard : Claim7 := { stood := { row := bytecodeBackRow, standIns := [], harness := (true, "d4ba9963093d959c433b127b29dad56fa6b271a3f8e4f8b1b67b809d1221cb7b"), looks := false }, kinds := [], alts := [], laidByText := true, laidKinds := [.data, .data, .data], laidTests := true, laidLooks := .later }
def BytecodeBackCardSaid : Prop := Claim7.holds Tryd.pinned (.plain (OpenSpec.ofChange bytecodeBackSpec)) bytecodeBackCard

/-- THE SECOND FORM's CARD OF 'pinballlaw33.BytecodeJudges'. -/
def bytecodeJudgesUptoCard : Claim7 := { stood := { row := bytecodeJudgesUptoRow, standIns := [], harness := (true, "d4ba9963093d959c433b127b29dad56fa6b271a3f8e4f8b1b67b809d1221cb7b"), looks := false }, kinds := [], alts := [], laidByText := true, laidKinds := [.data, .data, .data], laidTests := true, laidLooks := .later }
def BytecodeJudgesUptoCardSaid : Prop := Claim7.holds Tryd.pinned (.plain (OpenSpec.upto bytecodeJudgesSpec)) bytecodeJudgesUptoCard

/-- THE SECOND FORM's CARD OF 'pinballlaw33.BytecodeMade'. -/
def bytecodeMadeUptoCard : Claim7 := { stood := { row := bytecodeMadeUptoRow, standIns := [], harness := (true, "d4ba9963093d959c433b127b29dad56fa6b271a3f8e4f8b1b67b809d1221cb7b"), looks := false }, kinds := [], alts := [], laidByText := true, laidKinds := [.data, .data, .data], laidTests := true, laidLooks := .later }
def BytecodeMadeUptoCardSaid : Prop := Claim7.holds Tryd.pinned (.plain (OpenSpec.upto bytecodeMadeSpec)) bytecodeMadeUptoCard

/-- THE SECOND FORM's CARD OF 'pinballlaw33.BytecodeDecodes'. -/
def bytecodeDecodesUptoCard : Claim7 := { stood := { row := bytecodeDecodesUptoRow, standIns := [], harness := (true, "d4ba9963093d959c433b127b29dad56fa6b271a3f8e4f8b1b67b809d1221cb7b"), looks := false }, kinds := [], alts := [], laidByText := true, laidKinds := [.data, .data, .data], laidTests := true, laidLooks := .later }
def BytecodeDecodesUptoCardSaid : Prop := Claim7.holds Tryd.pinned (.plain (OpenSpec.upto bytecodeDecodesSpec)) bytecodeDecodesUptoCard

/-- THE SECOND FORM's CARD OF 'pinballlaw33.BytecodeSafe'. -/
def bytecodeSafeUptoCard : Claim7 := { stood := { row := bytecodeSafeUptoRow, standIns := [], harness := (true, "d4ba9963093d959c433b127b29dad56fa6b271a3f8e4f8b1b67b809d1221cb7b"), looks := false }, kinds := [], alts := [], laidByText := true, laidKinds := [.data, .data, .data], laidTests := true, laidLooks := .later }
def BytecodeSafeUptoCardSaid : Prop := Claim7.holds Tryd.pinned (.plain (OpenSpec.upto bytecodeSafeSpec)) bytecodeSafeUptoCard

/-- THE SECOND FORM's CARD OF 'pinballlaw33.BytecodeOrder'. -/
def bytecodeOrderUptoCard : Claim7 := { stood := { row := bytecodeOrderUptoRow, standIns := [], harness := (true, "d4ba9963093d959c433b127b29dad56fa6b271a3f8e4f8b1b67b809d1221cb7b"), looks := false }, kinds := [], alts := [], laidByText := true, laidKinds := [.data, .data, .data], laidTests := true, laidLooks := .later }
def BytecodeOrderUptoCardSaid : Prop := Claim7.holds Tryd.pinned (.plain (OpenSpec.upto bytecodeOrderSpec)) bytecodeOrderUptoCard

/-- THE SECOND FORM's CARD OF 'pinballlaw33.BytecodeBack'. -/
def bytecodeBackUptoCard : Claim7 := { stood := { row := bytecodeBackUptoRow, standIns := [], harness := (true, "d4ba9963093d959c433b127b29dad56fa6b271a3f8e4f8b1b67b809d1221cb7b"), looks := false }, kinds := [], alts := [], laidByText := true, laidKinds := [.data, .data, .data], laidTests := true, laidLooks := .later }
def BytecodeBackUptoCardSaid : Prop := Claim7.holds Tryd.pinned (.plain (OpenSpec.upto bytecodeBackSpec)) bytecodeBackUptoCard
end Rows
end Go.Proofs.YtcallbfckjlagaaDoor
