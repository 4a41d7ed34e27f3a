/-
  NARROWER THAN 'FOR EVERY INPUT', by the rows' own cells (each row's printed sentence says how): CheckMade: laid · CheckWords: laid · CheckDecls: laid · CheckRaw: loops, laid · CheckOrder: laid · CheckTrims: laid · CheckAccepts: laid · CheckTypes: loops, laid · CheckLooks: loops, laid.
  DERIVED. THE GIVEN ROWS OF THIS SEAT. 9 by the template 'for every input the law returns true; each argument reads behind the call as it read before'; 0 by the template 'total and deterministic' (their statements: YtnmkkggfgdfmeaaGreatDoorTotals.lean).
  GIVEN WITH THE SEED: the statements are not yours to turn. If you find one false, say at which input.
  Laid BY PROGRAM, IN A SANDBOX (cutbox-rows.mjs): the forced cells as the released guide's own fill.sh prints them over the translation 2edfe97cad4bbf3b… (all of the seat's roots in one cut). By AI agents, Wed Nov 11 2026. No macro, syntax, notation, axiom, sorry.
-/
import Derived.Test.YtnmkkggfgdfmeaaGreatDoorChecked
import GoSem.Claim
import GoSem.ClaimJoined
import GoSem.ClaimMapViews
import Derived.JoinedTies
import Derived.KernelRfl
namespace Go.Proofs.YtnmkkggfgdfmeaaGreatDoor
/- THE CELL 'sum', in the pinned program and in every row, IS THE sha256 OF THE DUMP (.gsa) THAT YtnmkkggfgdfmeaaGreatDoorProg.lean LOADS. Nothing in Lean hashes anything: it is a label: what it is worth is what the hold of that sum in a sandbox is worth. -/
noncomputable def Tryz.pinned : Pinned := { name := "ytnmkkggfgdfmeaagreatdoor", sum := "2edfe97cad4bbf3b5293f705becaf72f9bc649c899c2d404957c020a81033597", checked := Tryz.checked }
namespace Rows
def none {H : Type} : Left H := { results := [], args := [] }

/- WHAT THE LISTED PACKAGE-LEVEL VARIABLES READ AS WHEN THE CALL BEGINS. Each datum BY PROGRAM (the guide's laid-datum.mjs) off the statement by which the dump's own 'gosem.cut.vars' lays the variable. In a bare row this is a premise. The card (YtnmkkggfgdfmeaaGreatDoorCards.lean) ties it to the program's text. -/
def laid_unicode_White_Space {H : Type} : DataW H := .ptr (.agg [.slice [.agg [.lit (.int .u16 9), .lit (.int .u16 13), .lit (.int .u16 1)], .agg [.lit (.int .u16 32), .lit (.int .u16 133), .lit (.int .u16 101)], .agg [.lit (.int .u16 160), .lit (.int .u16 5760), .lit (.int .u16 5600)], .agg [.lit (.int .u16 8192), .lit (.int .u16 8202), .lit (.int .u16 1)], .agg [.lit (.int .u16 8232), .lit (.int .u16 8233), .lit (.int .u16 1)], .agg [.lit (.int .u16 8239), .lit (.int .u16 8287), .lit (.int .u16 48)], .agg [.lit (.int .u16 12288), .lit (.int .u16 12288), .lit (.int .u16 1)]] [], .nil, .lit (.int .i64 2)])
def laid_strings_asciiSpace {H : Type} : DataW H := .agg [.lit (.int .u8 0), .lit (.int .u8 0), .lit (.int .u8 0), .lit (.int .u8 0), .lit (.int .u8 0), .lit (.int .u8 0), .lit (.int .u8 0), .lit (.int .u8 0), .lit (.int .u8 0), .lit (.int .u8 1), .lit (.int .u8 1), .lit (.int .u8 1), .lit (.int .u8 1), .lit (.int .u8 1), .lit (.int .u8 0), .lit (.int .u8 0), .lit (.int .u8 0), .lit (.int .u8 0), .lit (.int .u8 0), .lit (.int .u8 0), .lit (.int .u8 0), .lit (.int .u8 0), .lit (.int .u8 0), .lit (.int .u8 0), .lit (.int .u8 0), .lit (.int .u8 0), .lit (.int .u8 0), .lit (.int .u8 0), .lit (.int .u8 0), .lit (.int .u8 0), .lit (.int .u8 0), .lit (.int .u8 0), .lit (.int .u8 1), .lit (.int .u8 0), .lit (.int .u8 0), .lit (.int .u8 0), .lit (.int .u8 0), .lit (.int .u8 0), .lit (.int .u8 0), .lit (.int .u8 0), .lit (.int .u8 0), .lit (.int .u8 0), .lit (.int .u8 0), .lit (.int .u8 0), .lit (.int .u8 0), .lit (.int .u8 0), .lit (.int .u8 0), .lit (.int .u8 0), .lit (.int .u8 0), .lit (.int .u8 0), .lit (.int .u8 0), .lit (.int .u8 0), .lit (.int .u8 0), .lit (.int .u8 0), .lit (.int .u8 0), .lit (.int .u8 0), .lit (.int .u8 0), .lit (.int .u8 0), .lit (.int .u8 0), .lit (.int .u8 0), .lit (.int .u8 0), .lit (.int .u8 0), .lit (.int .u8 0), .lit (.int .u8 0), .lit (.int .u8 0), .lit (.int .u8 0), .lit (.int .u8 0), .lit (.int .u8 0), .lit (.int .u8 0), .lit (.int .u8 0), .lit (.int .u8 0), .lit (.int .u8 0), .lit (.int .u8 0), .lit (.int .u8 0), .lit (.int .u8 0), .lit (.int .u8 0), .lit (.int .u8 0), .lit (.int .u8 0), .lit (.int .u8 0), .lit (.int .u8 0), .lit (.int .u8 0), .lit (.int .u8 0), .lit (.int .u8 0), .lit (.int .u8 0), .lit (.int .u8 0), .lit (.int .u8 0), .lit (.int .u8 0), .lit (.int .u8 0), .lit (.int .u8 0), .lit (.int .u8 0), .lit (.int .u8 0), .lit (.int .u8 0), .lit (.int .u8 0), .lit (.int .u8 0), .lit (.int .u8 0), .lit (.int .u8 0), .lit (.int .u8 0), .lit (.int .u8 0), .lit (.int .u8 0), .lit (.int .u8 0), .lit (.int .u8 0), .lit (.int .u8 0), .lit (.int .u8 0), .lit (.int .u8 0), .lit (.int .u8 0), .lit (.int .u8 0), .lit (.int .u8 0), .lit (.int .u8 0), .lit (.int .u8 0), .lit (.int .u8 0), .lit (.int .u8 0), .lit (.int .u8 0), .lit (.int .u8 0), .lit (.int .u8 0), .lit (.int .u8 0), .lit (.int .u8 0), .lit (.int .u8 0), .lit (.int .u8 0), .lit (.int .u8 0), .lit (.int .u8 0), .lit (.int .u8 0), .lit (.int .u8 0), .lit (.int .u8 0), .lit (.int .u8 0), .lit (.int .u8 0), .lit (.int .u8 0), .lit (.int .u8 0), .lit (.int .u8 0), .lit (.int .u8 0), .lit (.int .u8 0), .lit (.int .u8 0), .lit (.int .u8 0), .lit (.int .u8 0), .lit (.int .u8 0), .lit (.int .u8 0), .lit (.int .u8 0), .lit (.int .u8 0), .lit (.int .u8 0), .lit (.int .u8 0), .lit (.int .u8 0), .lit (.int .u8 0), .lit (.int .u8 0), .lit (.int .u8 0), .lit (.int .u8 0), .lit (.int .u8 0), .lit (.int .u8 0), .lit (.int .u8 0), .lit (.int .u8 0), .lit (.int .u8 0), .lit (.int .u8 0), .lit (.int .u8 0), .lit (.int .u8 0), .lit (.int .u8 0), .lit (.int .u8 0), .lit (.int .u8 0), .lit (.int .u8 0), .lit (.int .u8 0), .lit (.int .u8 0), .lit (.int .u8 0), .lit (.int .u8 0), .lit (.int .u8 0), .lit (.int .u8 0), .lit (.int .u8 0), .lit (.int .u8 0), .lit (.int .u8 0), .lit (.int .u8 0), .lit (.int .u8 0), .lit (.int .u8 0), .lit (.int .u8 0), .lit (.int .u8 0), .lit (.int .u8 0), .lit (.int .u8 0), .lit (.int .u8 0), .lit (.int .u8 0), .lit (.int .u8 0), .lit (.int .u8 0), .lit (.int .u8 0), .lit (.int .u8 0), .lit (.int .u8 0), .lit (.int .u8 0), .lit (.int .u8 0), .lit (.int .u8 0), .lit (.int .u8 0), .lit (.int .u8 0), .lit (.int .u8 0), .lit (.int .u8 0), .lit (.int .u8 0), .lit (.int .u8 0), .lit (.int .u8 0), .lit (.int .u8 0), .lit (.int .u8 0), .lit (.int .u8 0), .lit (.int .u8 0), .lit (.int .u8 0), .lit (.int .u8 0), .lit (.int .u8 0), .lit (.int .u8 0), .lit (.int .u8 0), .lit (.int .u8 0), .lit (.int .u8 0), .lit (.int .u8 0), .lit (.int .u8 0), .lit (.int .u8 0), .lit (.int .u8 0), .lit (.int .u8 0), .lit (.int .u8 0), .lit (.int .u8 0), .lit (.int .u8 0), .lit (.int .u8 0), .lit (.int .u8 0), .lit (.int .u8 0), .lit (.int .u8 0), .lit (.int .u8 0), .lit (.int .u8 0), .lit (.int .u8 0), .lit (.int .u8 0), .lit (.int .u8 0), .lit (.int .u8 0), .lit (.int .u8 0), .lit (.int .u8 0), .lit (.int .u8 0), .lit (.int .u8 0), .lit (.int .u8 0), .lit (.int .u8 0), .lit (.int .u8 0), .lit (.int .u8 0), .lit (.int .u8 0), .lit (.int .u8 0), .lit (.int .u8 0), .lit (.int .u8 0), .lit (.int .u8 0), .lit (.int .u8 0), .lit (.int .u8 0), .lit (.int .u8 0), .lit (.int .u8 0), .lit (.int .u8 0), .lit (.int .u8 0), .lit (.int .u8 0), .lit (.int .u8 0), .lit (.int .u8 0), .lit (.int .u8 0), .lit (.int .u8 0), .lit (.int .u8 0), .lit (.int .u8 0), .lit (.int .u8 0), .lit (.int .u8 0), .lit (.int .u8 0), .lit (.int .u8 0), .lit (.int .u8 0), .lit (.int .u8 0), .lit (.int .u8 0), .lit (.int .u8 0), .lit (.int .u8 0), .lit (.int .u8 0), .lit (.int .u8 0), .lit (.int .u8 0)]

/-- 'pinballlaw32.CheckMade': WHATEVER THE INPUT: true; the input reads as it did. -/
def checkMadeSpec : ChangeSpec := { name := "checkMade", fn := fun _ => fun
  | [d1, d2] => { results := [.lit (.bool true)], args := [d1, d2] }
  | _ => none }
def checkMadeRow : OpenClaim := { program := "ytnmkkggfgdfmeaagreatdoor", sum := "2edfe97cad4bbf3b5293f705becaf72f9bc649c899c2d404957c020a81033597", func := "pinball/pinballlaw32.CheckMade", spec := "checkMade", unfollowed := true, recurses := true, named := ["strings.asciiSpace", "unicode.White_Space"], apart := false, laid := [("unicode.White_Space", laid_unicode_White_Space), ("strings.asciiSpace", laid_strings_asciiSpace)] }
def CheckMadeSaid : Prop := checkMadeRow.holds Tryz.pinned (OpenSpec.ofChange checkMadeSpec)

/-- ITS FALSE NEIGHBOUR: 'it returns false'. Refute it at one input. -/
def checkMadeWrong : ChangeSpec := { name := "checkMade", fn := fun _ => fun
  | [d1, d2] => { results := [.lit (.bool false)], args := [d1, d2] }
  | _ => none }
def CheckMadeWrongFalsely : Prop := checkMadeRow.holds Tryz.pinned (OpenSpec.ofChange checkMadeWrong)

/-- 'pinballlaw32.CheckWords': WHATEVER THE INPUT: true; the input reads as it did. -/
def checkWordsSpec : ChangeSpec := { name := "checkWords", fn := fun _ => fun
  | [d1, d2] => { results := [.lit (.bool true)], args := [d1, d2] }
  | _ => none }
def checkWordsRow : OpenClaim := { program := "ytnmkkggfgdfmeaagreatdoor", sum := "2edfe97cad4bbf3b5293f705becaf72f9bc649c899c2d404957c020a81033597", func := "pinball/pinballlaw32.CheckWords", spec := "checkWords", unfollowed := true, recurses := true, named := ["strings.asciiSpace", "unicode.White_Space"], apart := false, laid := [("unicode.White_Space", laid_unicode_White_Space), ("strings.asciiSpace", laid_strings_asciiSpace)] }
def CheckWordsSaid : Prop := checkWordsRow.holds Tryz.pinned (OpenSpec.ofChange checkWordsSpec)

/-- ITS FALSE NEIGHBOUR: 'it returns false'. Refute it at one input. -/
def checkWordsWrong : ChangeSpec := { name := "checkWords", fn := fun _ => fun
  | [d1, d2] => { results := [.lit (.bool false)], args := [d1, d2] }
  | _ => none }
def CheckWordsWrongFalsely : Prop := checkWordsRow.holds Tryz.pinned (OpenSpec.ofChange checkWordsWrong)

/-- 'pinballlaw32.CheckDecls': WHATEVER THE INPUT: true; the input reads as it did. -/
def checkDeclsSpec : ChangeSpec := { name := "checkDecls", fn := fun _ => fun
  | [d1, d2] => { results := [.lit (.bool true)], args := [d1, d2] }
  | _ => none }
def checkDeclsRow : OpenClaim := { program := "ytnmkkggfgdfmeaagreatdoor", sum := "2edfe97cad4bbf3b5293f705becaf72f9bc649c899c2d404957c020a81033597", func := "pinball/pinballlaw32.CheckDecls", spec := "checkDecls", unfollowed := true, recurses := true, named := ["strings.asciiSpace", "unicode.White_Space"], apart := false, laid := [("unicode.White_Space", laid_unicode_White_Space), ("strings.asciiSpace", laid_strings_asciiSpace)] }
def CheckDeclsSaid : Prop := checkDeclsRow.holds Tryz.pinned (OpenSpec.ofChange checkDeclsSpec)

/-- ITS FALSE NEIGHBOUR: 'it returns false'. Refute it at one input. -/
def checkDeclsWrong : ChangeSpec := { name := "checkDecls", fn := fun _ => fun
  | [d1, d2] => { results := [.lit (.bool false)], args := [d1, d2] }
  | _ => none }
def CheckDeclsWrongFalsely : Prop := checkDeclsRow.holds Tryz.pinned (OpenSpec.ofChange checkDeclsWrong)

/-- 'pinballlaw32.CheckRaw': WHATEVER THE INPUT: true; the input reads as it did. -/
def checkRawSpec : ChangeSpec := { name := "checkRaw", fn := fun _ => fun
  | [d] => { results := [.lit (.bool true)], args := [d] }
  | _ => none }
def checkRawRow : OpenClaim := { program := "ytnmkkggfgdfmeaagreatdoor", sum := "2edfe97cad4bbf3b5293f705becaf72f9bc649c899c2d404957c020a81033597", func := "pinball/pinballlaw32.CheckRaw", spec := "checkRaw", unfollowed := true, recurses := true, named := ["strings.asciiSpace", "unicode.White_Space"], loops := true, apart := false, laid := [("unicode.White_Space", laid_unicode_White_Space), ("strings.asciiSpace", laid_strings_asciiSpace)] }
def CheckRawSaid : Prop := checkRawRow.holds Tryz.pinned (OpenSpec.ofChange checkRawSpec)

/-- ITS FALSE NEIGHBOUR: 'it returns false'. Refute it at one input. -/
def checkRawWrong : ChangeSpec := { name := "checkRaw", fn := fun _ => fun
  | [d] => { results := [.lit (.bool false)], args := [d] }
  | _ => none }
def CheckRawWrongFalsely : Prop := checkRawRow.holds Tryz.pinned (OpenSpec.ofChange checkRawWrong)

/-- 'pinballlaw32.CheckOrder': WHATEVER THE INPUT: true; the input reads as it did. -/
def checkOrderSpec : ChangeSpec := { name := "checkOrder", fn := fun _ => fun
  | [d1, d2, d3] => { results := [.lit (.bool true)], args := [d1, d2, d3] }
  | _ => none }
def checkOrderRow : OpenClaim := { program := "ytnmkkggfgdfmeaagreatdoor", sum := "2edfe97cad4bbf3b5293f705becaf72f9bc649c899c2d404957c020a81033597", func := "pinball/pinballlaw32.CheckOrder", spec := "checkOrder", unfollowed := true, recurses := true, named := ["strings.asciiSpace", "unicode.White_Space"], apart := false, laid := [("unicode.White_Space", laid_unicode_White_Space), ("strings.asciiSpace", laid_strings_asciiSpace)] }
def CheckOrderSaid : Prop := checkOrderRow.holds Tryz.pinned (OpenSpec.ofChange checkOrderSpec)

/-- ITS FALSE NEIGHBOUR: 'it returns false'. Refute it at one input. -/
def checkOrderWrong : ChangeSpec := { name := "checkOrder", fn := fun _ => fun
  | [d1, d2, d3] => { results := [.lit (.bool false)], args := [d1, d2, d3] }
  | _ => none }
def CheckOrderWrongFalsely : Prop := checkOrderRow.holds Tryz.pinned (OpenSpec.ofChange checkOrderWrong)

/-- 'pinballlaw32.CheckTrims': WHATEVER THE INPUT: true; the input reads as it did. -/
def checkTrimsSpec : ChangeSpec := { name := "checkTrims", fn := fun _ => fun
  | [d] => { results := [.lit (.bool true)], args := [d] }
  | _ => none }
def checkTrimsRow : OpenClaim := { program := "ytnmkkggfgdfmeaagreatdoor", sum := "2edfe97cad4bbf3b5293f705becaf72f9bc649c899c2d404957c020a81033597", func := "pinball/pinballlaw32.CheckTrims", spec := "checkTrims", unfollowed := true, recurses := true, named := ["strings.asciiSpace", "unicode.White_Space"], apart := false, laid := [("unicode.White_Space", laid_unicode_White_Space), ("strings.asciiSpace", laid_strings_asciiSpace)] }
def CheckTrimsSaid : Prop := checkTrimsRow.holds Tryz.pinned (OpenSpec.ofChange checkTrimsSpec)

/-- ITS FALSE NEIGHBOUR: 'it returns false'. Refute it at one input. -/
def checkTrimsWrong : ChangeSpec := { name := "checkTrims", fn := fun _ => fun
  | [d] => { results := [.lit (.bool false)], args := [d] }
  | _ => none }
def CheckTrimsWrongFalsely : Prop := checkTrimsRow.holds Tryz.pinned (OpenSpec.ofChange checkTrimsWrong)

/-- 'pinballlaw32.CheckAccepts': WHATEVER THE INPUT: true; the input reads as it did. -/
def checkAcceptsSpec : ChangeSpec := { name := "checkAccepts", fn := fun _ => fun
  | [d] => { results := [.lit (.bool true)], args := [d] }
  | _ => none }
def checkAcceptsRow : OpenClaim := { program := "ytnmkkggfgdfmeaagreatdoor", sum := "2edfe97cad4bbf3b5293f705becaf72f9bc649c899c2d404957c020a81033597", func := "pinball/pinballlaw32.CheckAccepts", spec := "checkAccepts", unfollowed := true, recurses := true, named := ["strings.asciiSpace", "unicode.White_Space"], apart := false, laid := [("unicode.White_Space", laid_unicode_White_Space), ("strings.asciiSpace", laid_strings_asciiSpace)] }
def CheckAcceptsSaid : Prop := checkAcceptsRow.holds Tryz.pinned (OpenSpec.ofChange checkAcceptsSpec)

/-- ITS FALSE NEIGHBOUR: 'it returns false'. Refute it at one input. -/
def checkAcceptsWrong : ChangeSpec := { name := "checkAccepts", fn := fun _ => fun
  | [d] => { results := [.lit (.bool false)], args := [d] }
  | _ => none }
def CheckAcceptsWrongFalsely : Prop := checkAcceptsRow.holds Tryz.pinned (OpenSpec.ofChange checkAcceptsWrong)

/-- 'pinballlaw32.CheckTypes': WHATEVER THE INPUT: true; the input reads as it did. -/
def checkTypesSpec : ChangeSpec := { name := "checkTypes", fn := fun _ => fun
  | [d1, d2, d3] => { results := [.lit (.bool true)], args := [d1, d2, d3] }
  | _ => none }
def checkTypesRow : OpenClaim := { program := "ytnmkkggfgdfmeaagreatdoor", sum := "2edfe97cad4bbf3b5293f705becaf72f9bc649c899c2d404957c020a81033597", func := "pinball/pinballlaw32.CheckTypes", spec := "checkTypes", unfollowed := true, recurses := true, named := ["strings.asciiSpace", "unicode.White_Space"], loops := true, apart := false, laid := [("unicode.White_Space", laid_unicode_White_Space), ("strings.asciiSpace", laid_strings_asciiSpace)] }
def CheckTypesSaid : Prop := checkTypesRow.holds Tryz.pinned (OpenSpec.ofChange checkTypesSpec)

/-- ITS FALSE NEIGHBOUR: 'it returns false'. Refute it at one input. -/
def checkTypesWrong : ChangeSpec := { name := "checkTypes", fn := fun _ => fun
  | [d1, d2, d3] => { results := [.lit (.bool false)], args := [d1, d2, d3] }
  | _ => none }
def CheckTypesWrongFalsely : Prop := checkTypesRow.holds Tryz.pinned (OpenSpec.ofChange checkTypesWrong)

/-- 'pinballlaw32.CheckLooks': WHATEVER THE INPUT: true; the input reads as it did. -/
def checkLooksSpec : ChangeSpec := { name := "checkLooks", fn := fun _ => fun
  | [d1, d2, d3] => { results := [.lit (.bool true)], args := [d1, d2, d3] }
  | _ => none }
def checkLooksRow : OpenClaim := { program := "ytnmkkggfgdfmeaagreatdoor", sum := "2edfe97cad4bbf3b5293f705becaf72f9bc649c899c2d404957c020a81033597", func := "pinball/pinballlaw32.CheckLooks", spec := "checkLooks", unfollowed := true, recurses := true, named := ["strings.asciiSpace", "unicode.White_Space"], loops := true, apart := false, laid := [("unicode.White_Space", laid_unicode_White_Space), ("strings.asciiSpace", laid_strings_asciiSpace)] }
def CheckLooksSaid : Prop := checkLooksRow.holds Tryz.pinned (OpenSpec.ofChange checkLooksSpec)

/-- ITS FALSE NEIGHBOUR: 'it returns false'. Refute it at one input. -/
def checkLooksWrong : ChangeSpec := { name := "checkLooks", fn := fun _ => fun
  | [d1, d2, d3] => { results := [.lit (.bool false)], args := [d1, d2, d3] }
  | _ => none }
def CheckLooksWrongFalsely : Prop := checkLooksRow.holds Tryz.pinned (OpenSpec.ofChange checkLooksWrong)

/- THE SECOND FORM. 'bulk': how many values and letters a reading holds, each counted each time it is reached (what is shared counts as often as it is met; a slice's spare places count too). A statement '..UptoSaid' is the law's where the arguments, and the package variables that the reading takes, are together of bulk at most 1048576: NARROWER than '..Said'. Prove '..Said' where nothing that the law and all that it calls make is longer than what came in: it says more and counts as full. Else prove '..UptoSaid'. A law counts once. -/
mutual
def uptoBulk {H : Type} : DataW H → Nat
  | .lit (.string bytes) => bytes.length + 1
  | .lit _ => 1
  | .nil => 1
  | .ptr d => uptoBulk d + 1
  | .slice elems spare => uptoBulkAll elems + uptoBulkAll spare + 1
  | .agg parts => uptoBulkAll parts + 1
  | .iface _ d => uptoBulk d + 1
  | .map entries => uptoBulkEntries entries + 1
  | .held _ => 1
def uptoBulkAll {H : Type} : List (DataW H) → Nat
  | [] => 0
  | d :: r => uptoBulk d + uptoBulkAll r
def uptoBulkEntries {H : Type} : List (Lit × DataW H) → Nat
  | [] => 0
  | x :: r => uptoBulkEntry x + uptoBulkEntries r
def uptoBulkEntry {H : Type} : Lit × DataW H → Nat
  | (.string bytes, d) => bytes.length + uptoBulk d + 1
  | (_, d) => uptoBulk d + 1
 end
def uptoSmall : (H : Type) → List (DataW H) → Bool := fun _ ds => decide (uptoBulkAll ds ≤ 1048576)
def OpenSpec.upto (s : _root_.Go.ChangeSpec) : _root_.Go.OpenSpec := { _root_.Go.OpenSpec.ofChange s with cond := some uptoSmall }

/-- 'pinballlaw32.CheckMade', WHERE WHAT IT READS IS OF BULK AT MOST 1048576: true; the input reads as it did. -/
def checkMadeUptoRow : OpenClaim := { program := "ytnmkkggfgdfmeaagreatdoor", sum := "2edfe97cad4bbf3b5293f705becaf72f9bc649c899c2d404957c020a81033597", func := "pinball/pinballlaw32.CheckMade", spec := "checkMade", unfollowed := true, recurses := true, named := ["strings.asciiSpace", "unicode.White_Space"], apart := false, laid := [("unicode.White_Space", laid_unicode_White_Space), ("strings.asciiSpace", laid_strings_asciiSpace)], narrowed := true }
def CheckMadeUptoSaid : Prop := checkMadeUptoRow.holds Tryz.pinned (OpenSpec.upto checkMadeSpec)

/-- 'pinballlaw32.CheckWords', WHERE WHAT IT READS IS OF BULK AT MOST 1048576: true; the input reads as it did. -/
def checkWordsUptoRow : OpenClaim := { program := "ytnmkkggfgdfmeaagreatdoor", sum := "2edfe97cad4bbf3b5293f705becaf72f9bc649c899c2d404957c020a81033597", func := "pinball/pinballlaw32.CheckWords", spec := "checkWords", unfollowed := true, recurses := true, named := ["strings.asciiSpace", "unicode.White_Space"], apart := false, laid := [("unicode.White_Space", laid_unicode_White_Space), ("strings.asciiSpace", laid_strings_asciiSpace)], narrowed := true }
def CheckWordsUptoSaid : Prop := checkWordsUptoRow.holds Tryz.pinned (OpenSpec.upto checkWordsSpec)

/-- 'pinballlaw32.CheckDecls', WHERE WHAT IT READS IS OF BULK AT MOST 1048576: true; the input reads as it did. -/
def checkDeclsUptoRow : OpenClaim := { program := "ytnmkkggfgdfmeaagreatdoor", sum := "2edfe97cad4bbf3b5293f705becaf72f9bc649c899c2d404957c020a81033597", func := "pinball/pinballlaw32.CheckDecls", spec := "checkDecls", unfollowed := true, recurses := true, named := ["strings.asciiSpace", "unicode.White_Space"], apart := false, laid := [("unicode.White_Space", laid_unicode_White_Space), ("strings.asciiSpace", laid_strings_asciiSpace)], narrowed := true }
def CheckDeclsUptoSaid : Prop := checkDeclsUptoRow.holds Tryz.pinned (OpenSpec.upto checkDeclsSpec)

/-- 'pinballlaw32.CheckRaw', WHERE WHAT IT READS IS OF BULK AT MOST 1048576: true; the input reads as it did. -/
def checkRawUptoRow : OpenClaim := { program := "ytnmkkggfgdfmeaagreatdoor", sum := "2edfe97cad4bbf3b5293f705becaf72f9bc649c899c2d404957c020a81033597", func := "pinball/pinballlaw32.CheckRaw", spec := "checkRaw", unfollowed := true, recurses := true, named := ["strings.asciiSpace", "unicode.White_Space"], loops := true, apart := false, laid := [("unicode.White_Space", laid_unicode_White_Space), ("strings.asciiSpace", laid_strings_asciiSpace)], narrowed := true }
def CheckRawUptoSaid : Prop := checkRawUptoRow.holds Tryz.pinned (OpenSpec.upto checkRawSpec)

/-- 'pinballlaw32.CheckOrder', WHERE WHAT IT READS IS OF BULK AT MOST 1048576: true; the input reads as it did. -/
def checkOrderUptoRow : OpenClaim := { program := "ytnmkkggfgdfmeaagreatdoor", sum := "2edfe97cad4bbf3b5293f705becaf72f9bc649c899c2d404957c020a81033597", func := "pinball/pinballlaw32.CheckOrder", spec := "checkOrder", unfollowed := true, recurses := true, named := ["strings.asciiSpace", "unicode.White_Space"], apart := false, laid := [("unicode.White_Space", laid_unicode_White_Space), ("strings.asciiSpace", laid_strings_asciiSpace)], narrowed := true }
def CheckOrderUptoSaid : Prop := checkOrderUptoRow.holds Tryz.pinned (OpenSpec.upto checkOrderSpec)

/-- 'pinballlaw32.CheckTrims', WHERE WHAT IT READS IS OF BULK AT MOST 1048576: true; the input reads as it did. -/
def checkTrimsUptoRow : OpenClaim := { program := "ytnmkkggfgdfmeaagreatdoor", sum := "2edfe97cad4bbf3b5293f705becaf72f9bc649c899c2d404957c020a81033597", func := "pinball/pinballlaw32.CheckTrims", spec := "checkTrims", unfollowed := true, recurses := true, named := ["strings.asciiSpace", "unicode.White_Space"], apart := false, laid := [("unicode.White_Space", laid_unicode_White_Space), ("strings.asciiSpace", laid_strings_asciiSpace)], narrowed := true }
def CheckTrimsUptoSaid : Prop := checkTrimsUptoRow.holds Tryz.pinned (OpenSpec.upto checkTrimsSpec)

/-- 'pinballlaw32.CheckAccepts', WHERE WHAT IT READS IS OF BULK AT MOST 1048576: true; the input reads as it did. -/
def checkAcceptsUptoRow : OpenClaim := { program := "ytnmkkggfgdfmeaagreatdoor", sum := "2edfe97cad4bbf3b5293f705becaf72f9bc649c899c2d404957c020a81033597", func := "pinball/pinballlaw32.CheckAccepts", spec := "checkAccepts", unfollowed := true, recurses := true, named := ["strings.asciiSpace", "unicode.White_Space"], apart := false, laid := [("unicode.White_Space", laid_unicode_White_Space), ("strings.asciiSpace", laid_strings_asciiSpace)], narrowed := true }
def CheckAcceptsUptoSaid : Prop := checkAcceptsUptoRow.holds Tryz.pinned (OpenSpec.upto checkAcceptsSpec)

/-- 'pinballlaw32.CheckTypes', WHERE WHAT IT READS IS OF BULK AT MOST 1048576: true; the input reads as it did. -/
def checkTypesUptoRow : OpenClaim := { program := "ytnmkkggfgdfmeaagreatdoor", sum := "2edfe97cad4bbf3b5293f705becaf72f9bc649c899c2d404957c020a81033597", func := "pinball/pinballlaw32.CheckTypes", spec := "checkTypes", unfollowed := true, recurses := true, named := ["strings.asciiSpace", "unicode.White_Space"], loops := true, apart := false, laid := [("unicode.White_Space", laid_unicode_White_Space), ("strings.asciiSpace", laid_strings_asciiSpace)], narrowed := true }
def CheckTypesUptoSaid : Prop := checkTypesUptoRow.holds Tryz.pinned (OpenSpec.upto checkTypesSpec)

/-- 'pinballlaw32.CheckLooks', WHERE WHAT IT READS IS OF BULK AT MOST 1048576: true; the input reads as it did. -/
def checkLooksUptoRow : OpenClaim := { program := "ytnmkkggfgdfmeaagreatdoor", sum := "2edfe97cad4bbf3b5293f705becaf72f9bc649c899c2d404957c020a81033597", func := "pinball/pinballlaw32.CheckLooks", spec := "checkLooks", unfollowed := true, recurses := true, named := ["strings.asciiSpace", "unicode.White_Space"], loops := true, apart := false, laid := [("unicode.White_Space", laid_unicode_White_Space), ("strings.asciiSpace", laid_strings_asciiSpace)], narrowed := true }
def CheckLooksUptoSaid : Prop := checkLooksUptoRow.holds Tryz.pinned (OpenSpec.upto checkLooksSpec)

end Rows
end Go.Proofs.YtnmkkggfgdfmeaaGreatDoor
