/-
  DERIVED. GIVEN WITH THE SEED: THE CARDS: each row of YtnmkkggfgdfmeaaGreatDoorRows.lean that lists a variable, with what it lists TIED to the program's text (the seventh form; the later family's looks); each row that meets fmt, with fmt's text TOLD by the authors' own Lean function (tested against real Go, not proved from fmt's source: count such statements apart). THE CARD IS WHAT COUNTS. Prove the row's statement (the work); the ties are given (YtnmkkggfgdfmeaaGreatDoorTie.lean); close each card by the builder's one call (the guide's Derived/Test/ToyasCard.lean, 'card_holds'). Laid BY PROGRAM, IN A SANDBOX (cutbox-door.mjs). By AI agents, Wed Nov 11 2026. No macro, syntax, notation, axiom, sorry.
-/
import Derived.Test.YtnmkkggfgdfmeaaGreatDoorRows
import GoSem.ClaimSeven
namespace Go.Proofs.YtnmkkggfgdfmeaaGreatDoor
namespace Rows

/-- THE TIED CARD OF 'pinballlaw32.CheckMade'. -/
def checkMadeCard : Claim7 := { stood := { row := checkMadeRow, standIns := [], harness := (true, "d3ba5940257c01b012c9fac56a47d1f7ef6f69db69b45f21a1e4b3bfb56569b9"), looks := false }, kinds := [], alts := [], laidByText := true, laidKinds := [.listed, .data], laidTests := true, laidLooks := .later }
def CheckMadeCardSaid : Prop := Claim7.holds Tryz.pinned (.plain (OpenSpec.ofChange checkMadeSpec)) checkMadeCard

/-- THE TIED CARD OF 'pinballlaw32.CheckWords'. -/
def checkWordsCard : Claim7 := { stood := { row := checkWordsRow, standIns := [], harness := (true, "d3ba5940257c01b012c9fac56a47d1f7ef6f69db69b45f21a1e4b3bfb56569b9"), looks := false }, kinds := [], alts := [], laidByText := true, laidKinds := [.listed, .data], laidTests := true, laidLooks := .later }
def CheckWordsCardSaid : Prop := Claim7.holds Tryz.pinned (.plain (OpenSpec.ofChange checkWordsSpec)) checkWordsCard

/-- THE TIED CARD OF 'pinballlaw32.CheckDecls'. -/
def checkDeclsCard : Claim7 := { stood := { row := checkDeclsRow, standIns := [], harness := (true, "d3ba5940257c01b012c9fac56a47d1f7ef6f69db69b45f21a1e4b3bfb56569b9"), looks := false }, kinds := [], alts := [], laidByText := true, laidKinds := [.listed, .data], laidTests := true, laidLooks := .later }
def CheckDeclsCardSaid : Prop := Claim7.holds Tryz.pinned (.plain (OpenSpec.ofChange checkDeclsSpec)) checkDeclsCard

/-- THE TIED CARD OF 'pinballlaw32.CheckRaw'. -/
def checkRawCard : Claim7 := { stood := { row := checkRawRow, standIns := [], harness := (true, "d3ba5940257c01b012c9fac56a47d1f7ef6f69db69b45f21a1e4b3bfb56569b9"), looks := false }, kinds := [], alts := [], laidByText := true, laidKinds := [.listed, .data], laidTests := true, laidLooks := .later }
def CheckRawCardSaid : Prop := Claim7.holds Tryz.pinned (.plain (OpenSpec.ofChange checkRawSpec)) checkRawCard

/-- THE TIED CARD OF 'pinballlaw32.CheckOrder'. -/
def checkOrderCard : Claim7 := { stood := { row := checkOrderRow, standIns := [], harness := (true, "d3ba5940257c01b012c9fac56a47d1f7ef6f69db69b45f21a1e4b3bfb56569b9"), looks := false }, kinds := [], alts := [], laidByText := true, laidKinds := [.listed, .data], laidTests := true, laidLooks := .later }
def CheckOrderCardSaid : Prop := Claim7.holds Tryz.pinned (.plain (OpenSpec.ofChange checkOrderSpec)) checkOrderCard

/-- THE TIED CARD OF 'pinballlaw32.CheckTrims'. -/
def checkTrimsCard : Claim7 := { stood := { row := checkTrimsRow, standIns := [], harness := (true, "d3ba5940257c01b012c9fac56a47d1f7ef6f69db69b45f21a1e4b3bfb56569b9"), looks := false }, kinds := [], alts := [], laidByText := true, laidKinds := [.listed, .data], laidTests := true, laidLooks := .later }
def CheckTrimsCardSaid : Prop := Claim7.holds Tryz.pinned (.plain (OpenSpec.ofChange checkTrimsSpec)) checkTrimsCard

/-- THE TIED CARD OF 'pinballlaw32.CheckAccepts'. -/
def checkAcceptsCard : Claim7 := { stood := { row := checkAcceptsRow, standIns := [], harness := (true, "d3ba5940257c01b012c9fac56a47d1f7ef6f69db69b45f21a1e4b3bfb56569b9"), looks := false }, kinds := [], alts := [], laidByText := true, laidKinds := [.listed, .data], laidTests := true, laidLooks := .later }
def CheckAcceptsCardSaid : Prop := Claim7.holds Tryz.pinned (.plain (OpenSpec.ofChange checkAcceptsSpec)) checkAcceptsCard

/-- THE TIED CARD OF 'pinballlaw32.CheckTypes'. -/
def checkTypesCard : Claim7 := { stood := { row := checkTypesRow, standIns := [], harness := (true, "d3ba5940257c01b012c9fac56a47d1f7ef6f69db69b45f21a1e4b3bfb56569b9"), looks := false }, kinds := [], alts := [], laidByText := true, laidKinds := [.listed, .data], laidTests := true, laidLooks := .later }
def CheckTypesCardSaid : Prop := Claim7.holds Tryz.pinned (.plain (OpenSpec.ofChange checkTypesSpec)) checkTypesCard

/-- THE TIED CARD OF 'pinballlaw32.CheckLooks'. -/
def checkLooksCard : Claim7 := { stood := { row := checkLooksRow, standIns := [], harness := (true, "d3ba5940257c01b012c9fac56a47d1f7ef6f69db69b45f21a1e4b3bfb56569b9"), looks := false }, kinds := [], alts := [], laidByText := true, laidKinds := [.listed, .data], laidTests := true, laidLooks := .later }
def CheckLooksCardSaid : Prop := Claim7.holds Tryz.pinned (.plain (OpenSpec.ofChange checkLooksSpec)) checkLooksCard

/-- THE SECOND FORM's CARD OF 'pinballlaw32.CheckMade'. -/
def checkMadeUptoCard : Claim7 := { stood := { row := checkMadeUptoRow, standIns := [], harness := (true, "d3ba5940257c01b012c9fac56a47d1f7ef6f69db69b45f21a1e4b3bfb56569b9"), looks := false }, kinds := [], alts := [], laidByText := true, laidKinds := [.listed, .data], laidTests := true, laidLooks := .later }
def CheckMadeUptoCardSaid : Prop := Claim7.holds Tryz.pinned (.plain (OpenSpec.upto checkMadeSpec)) checkMadeUptoCard

/-- THE SECOND FORM's CARD OF 'pinballlaw32.CheckWords'. -/
def checkWordsUptoCard : Claim7 := { stood := { row := checkWordsUptoRow, standIns := [], harness := (true, "d3ba5940257c01b012c9fac56a47d1f7ef6f69db69b45f21a1e4b3bfb56569b9"), looks := false }, kinds := [], alts := [], laidByText := true, laidKinds := [.listed, .data], laidTests := true, laidLooks := .later }
def CheckWordsUptoCardSaid : Prop := Claim7.holds Tryz.pinned (.plain (OpenSpec.upto checkWordsSpec)) checkWordsUptoCard

/-- THE SECOND FORM's CARD OF 'pinballlaw32.CheckDecls'. -/
def checkDeclsUptoCard : Claim7 := { stood := { row := checkDeclsUptoRow, standIns := [], harness := (true, "d3ba5940257c01b012c9fac56a47d1f7ef6f69db69b45f21a1e4b3bfb56569b9"), looks := false }, kinds := [], alts := [], laidByText := true, laidKinds := [.listed, .data], laidTests := true, laidLooks := .later }
def CheckDeclsUptoCardSaid : Prop := Claim7.holds Tryz.pinned (.plain (OpenSpec.upto checkDeclsSpec)) checkDeclsUptoCard

/-- THE SECOND FORM's CARD OF 'pinballlaw32.CheckRaw'. -/
def checkRawUptoCard : Claim7 := { stood := { row := checkRawUptoRow, standIns := [], harness := (true, "d3ba5940257c01b012c9fac56a47d1f7ef6f69db69b45f21a1e4b3bfb56569b9"), looks := false }, kinds := [], alts := [], laidByText := true, laidKinds := [.listed, .data], laidTests := true, laidLooks := .later }
def CheckRawUptoCardSaid : Prop := Claim7.holds Tryz.pinned (.plain (OpenSpec.upto checkRawSpec)) checkRawUptoCard

/-- THE SECOND FORM's CARD OF 'pinballlaw32.CheckOrder'. -/
def checkOrderUptoCard : Claim7 := { stood := { row := checkOrderUptoRow, standIns := [], harness := (true, "d3ba5940257c01b012c9fac56a47d1f7ef6f69db69b45f21a1e4b3bfb56569b9"), looks := false }, kinds := [], alts := [], laidByText := true, laidKinds := [.listed, .data], laidTests := true, laidLooks := .later }
def CheckOrderUptoCardSaid : Prop := Claim7.holds Tryz.pinned (.plain (OpenSpec.upto checkOrderSpec)) checkOrderUptoCard

/-- THE SECOND FORM's CARD OF 'pinballlaw32.CheckTrims'. -/
def checkTrimsUptoCard : Claim7 := { stood := { row := checkTrimsUptoRow, standIns := [], harness := (true, "d3ba5940257c01b012c9fac56a47d1f7ef6f69db69b45f21a1e4b3bfb56569b9"), looks := false }, kinds := [], alts := [], laidByText := true, laidKinds := [.listed, .data], laidTests := true, laidLooks := .later }
def CheckTrimsUptoCardSaid : Prop := Claim7.holds Tryz.pinned (.plain (OpenSpec.upto checkTrimsSpec)) checkTrimsUptoCard

/-- THE SECOND FORM's CARD OF 'pinballlaw32.CheckAccepts'. -/
def checkAcceptsUptoCard : Claim7 := { stood := { row := checkAcceptsUptoRow, standIns := [], harness := (true, "d3ba5940257c01b012c9fac56a47d1f7ef6f69db69b45f21a1e4b3bfb56569b9"), looks := false }, kinds := [], alts := [], laidByText := true, laidKinds := [.listed, .data], laidTests := true, laidLooks := .later }
def CheckAcceptsUptoCardSaid : Prop := Claim7.holds Tryz.pinned (.plain (OpenSpec.upto checkAcceptsSpec)) checkAcceptsUptoCard

/-- THE SECOND FORM's CARD OF 'pinballlaw32.CheckTypes'. -/
def checkTypesUptoCard : Claim7 := { stood := { row := checkTypesUptoRow, standIns := [], harness := (true, "d3ba5940257c01b012c9fac56a47d1f7ef6f69db69b45f21a1e4b3bfb56569b9"), looks := false }, kinds := [], alts := [], laidByText := true, laidKinds := [.listed, .data], laidTests := true, laidLooks := .later }
def CheckTypesUptoCardSaid : Prop := Claim7.holds Tryz.pinned (.plain (OpenSpec.upto checkTypesSpec)) checkTypesUptoCard

/-- THE SECOND FORM's CARD OF 'pinballlaw32.CheckLooks'. -/
def checkLooksUptoCard : Claim7 := { stood := { row := checkLooksUptoRow, standIns := [], harness := (true, "d3ba5940257c01b012c9fac56a47d1f7ef6f69db69b45f21a1e4b3bfb56569b9"), looks := false }, kinds := [], alts := [], laidByText := true, laidKinds := [.listed, .data], laidTests := true, laidLooks := .later }
def CheckLooksUptoCardSaid : Prop := Claim7.holds Tryz.pinned (.plain (OpenSpec.upto checkLooksSpec)) checkLooksUptoCard
end Rows
end Go.Proofs.YtnmkkggfgdfmeaaGreatDoor
