/-
  No cell of these rows narrows 'for every input' (looked for: loops, veiled, ifaces, maps, wideKeys, modest, calm, conditions, laid).
  DERIVED. THE GIVEN ROWS OF THIS SEAT. 5 by the template 'for every input the law returns true; each argument reads behind the call as it read before'; 0 by the template 'total and deterministic' (their statements: YtcallbfckjlagaaGreatTotals.lean).
  GIVEN WITH THE SEED: the statements are not yours to turn. If you find one false, say at which input.
  Laid BY PROGRAM, IN A SANDBOX (cutbox-rows.mjs): the forced cells as the released guide's own fill.sh prints them over the translation e6f0f8af7f9521d1… (all of the seat's roots in one cut). By AI agents, Wed Nov 11 2026. No macro, syntax, notation, axiom, sorry.
-/
import Derived.Test.YtcallbfckjlagaaGreatChecked
import GoSem.Claim
import GoSem.ClaimJoined
import GoSem.ClaimMapViews
import Derived.JoinedTies
import Derived.KernelRfl
namespace Go.Proofs.YtcallbfckjlagaaGreat
/- THE CELL 'sum', in the pinned program and in every row, IS THE sha256 OF THE DUMP (.gsa) THAT YtcallbfckjlagaaGreatProg.lean LOADS. Nothing in Lean hashes anything: it is a label: what it is worth is what the hold of that sum in a sandbox is worth. -/
noncomputable def Tryz.pinned : Pinned := { name := "ytcallbfckjlagaagreat", sum := "e6f0f8af7f9521d1c66e3e7c7ea774cc2e130f0a04f7445060004fdb72b37b35", checked := Tryz.checked }
namespace Rows
def none {H : Type} : Left H := { results := [], args := [] }

/-- 'pinballlaw35.VMBudget': WHATEVER THE INPUT: true; the input reads as it did. -/
def vMBudgetSpec : ChangeSpec := { name := "vMBudget", fn := fun _ => fun
  | [d1, d2] => { results := [.lit (.bool true)], args := [d1, d2] }
  | _ => none }
def vMBudgetRow : OpenClaim := { program := "ytcallbfckjlagaagreat", sum := "e6f0f8af7f9521d1c66e3e7c7ea774cc2e130f0a04f7445060004fdb72b37b35", func := "pinball/pinballlaw35.VMBudget", spec := "vMBudget", unfollowed := true, recurses := true, apart := false }
def VMBudgetSaid : Prop := vMBudgetRow.holds Tryz.pinned (OpenSpec.ofChange vMBudgetSpec)

/-- ITS FALSE NEIGHBOUR: 'it returns false'. Refute it at one input. -/
def vMBudgetWrong : ChangeSpec := { name := "vMBudget", fn := fun _ => fun
  | [d1, d2] => { results := [.lit (.bool false)], args := [d1, d2] }
  | _ => none }
def VMBudgetWrongFalsely : Prop := vMBudgetRow.holds Tryz.pinned (OpenSpec.ofChange vMBudgetWrong)

/-- 'pinballlaw35.VMEnds': WHATEVER THE INPUT: true; the input reads as it did. -/
def vMEndsSpec : ChangeSpec := { name := "vMEnds", fn := fun _ => fun
  | [d1, d2] => { results := [.lit (.bool true)], args := [d1, d2] }
  | _ => none }
def vMEndsRow : OpenClaim := { program := "ytcallbfckjlagaagreat", sum := "e6f0f8af7f9521d1c66e3e7c7ea774cc2e130f0a04f7445060004fdb72b37b35", func := "pinball/pinballlaw35.VMEnds", spec := "vMEnds", unfollowed := true, recurses := true, apart := false }
def VMEndsSaid : Prop := vMEndsRow.holds Tryz.pinned (OpenSpec.ofChange vMEndsSpec)

/-- ITS FALSE NEIGHBOUR: 'it returns false'. Refute it at one input. -/
def vMEndsWrong : ChangeSpec := { name := "vMEnds", fn := fun _ => fun
  | [d1, d2] => { results := [.lit (.bool false)], args := [d1, d2] }
  | _ => none }
def VMEndsWrongFalsely : Prop := vMEndsRow.holds Tryz.pinned (OpenSpec.ofChange vMEndsWrong)

/-- 'pinballlaw35.VMExecutes': WHATEVER THE INPUT: true; the input reads as it did. -/
def vMExecutesSpec : ChangeSpec := { name := "vMExecutes", fn := fun _ => fun
  | [d1, d2, d3] => { results := [.lit (.bool true)], args := [d1, d2, d3] }
  | _ => none }
def vMExecutesRow : OpenClaim := { program := "ytcallbfckjlagaagreat", sum := "e6f0f8af7f9521d1c66e3e7c7ea774cc2e130f0a04f7445060004fdb72b37b35", func := "pinball/pinballlaw35.VMExecutes", spec := "vMExecutes", unfollowed := true, recurses := true, apart := false }
def VMExecutesSaid : Prop := vMExecutesRow.holds Tryz.pinned (OpenSpec.ofChange vMExecutesSpec)

/-- ITS FALSE NEIGHBOUR: 'it returns false'. Refute it at one input. -/
def vMExecutesWrong : ChangeSpec := { name := "vMExecutes", fn := fun _ => fun
  | [d1, d2, d3] => { results := [.lit (.bool false)], args := [d1, d2, d3] }
  | _ => none }
def VMExecutesWrongFalsely : Prop := vMExecutesRow.holds Tryz.pinned (OpenSpec.ofChange vMExecutesWrong)

/-- 'pinballlaw35.VMBroken': WHATEVER THE INPUT: true; the input reads as it did. -/
def vMBrokenSpec : ChangeSpec := { name := "vMBroken", fn := fun _ => fun
  | [d1, d2, d3] => { results := [.lit (.bool true)], args := [d1, d2, d3] }
  | _ => none }
def vMBrokenRow : OpenClaim := { program := "ytcallbfckjlagaagreat", sum := "e6f0f8af7f9521d1c66e3e7c7ea774cc2e130f0a04f7445060004fdb72b37b35", func := "pinball/pinballlaw35.VMBroken", spec := "vMBroken", unfollowed := true, recurses := true, apart := false }
def VMBrokenSaid : Prop := vMBrokenRow.holds Tryz.pinned (OpenSpec.ofChange vMBrokenSpec)

/-- ITS FALSE NEIGHBOUR: 'it returns false'. Refute it at one input. -/
def vMBrokenWrong : ChangeSpec := { name := "vMBroken", fn := fun _ => fun
  | [d1, d2, d3] => { results := [.lit (.bool false)], args := [d1, d2, d3] }
  | _ => none }
def VMBrokenWrongFalsely : Prop := vMBrokenRow.holds Tryz.pinned (OpenSpec.ofChange vMBrokenWrong)

/-- 'pinballlaw35.VMTraces': WHATEVER THE INPUT: true; the input reads as it did. -/
def vMTracesSpec : ChangeSpec := { name := "vMTraces", fn := fun _ => fun
  | [d1, d2] => { results := [.lit (.bool true)], args := [d1, d2] }
  | _ => none }
def vMTracesRow : OpenClaim := { program := "ytcallbfckjlagaagreat", sum := "e6f0f8af7f9521d1c66e3e7c7ea774cc2e130f0a04f7445060004fdb72b37b35", func := "pinball/pinballlaw35.VMTraces", spec := "vMTraces", unfollowed := true, recurses := true, apart := false }
def VMTracesSaid : Prop := vMTracesRow.holds Tryz.pinned (OpenSpec.ofChange vMTracesSpec)

/-- ITS FALSE NEIGHBOUR: 'it returns false'. Refute it at one input. -/
def vMTracesWrong : ChangeSpec := { name := "vMTraces", fn := fun _ => fun
  | [d1, d2] => { results := [.lit (.bool false)], args := [d1, d2] }
  | _ => none }
def VMTracesWrongFalsely : Prop := vMTracesRow.holds Tryz.pinned (OpenSpec.ofChange vMTracesWrong)

/- THE SECOND FORM. 'bulk': how many values and letters a reading holds, each counted each time it is reached (what is shared counts as often as it is met; a slice's spare places count too). A statement '..UptoSaid' is the law's where the arguments, and the package variables that the reading takes, are together of bulk at most 1048576: NARROWER than '..Said'. Prove '..Said' where nothing that the law and all that it calls make is longer than what came in: it says more and counts as full. Else prove '..UptoSaid'. A law counts once. -/
mutual
def uptoBulk {H : Type} : DataW H → Nat
  | .lit (.string bytes) => bytes.length + 1
  | .lit _ => 1
  | .nil => 1
  | .ptr d => uptoBulk d + 1
  | .slice elems spare => uptoBulkAll elems + uptoBulkAll spare + 1
  | .agg parts => uptoBulkAll parts + 1
  | .iface _ d => uptoBulk d + 1
  | .map entries => uptoBulkEntries entries + 1
  | .held _ => 1
def uptoBulkAll {H : Type} : List (DataW H) → Nat
  | [] => 0
  | d :: r => uptoBulk d + uptoBulkAll r
def uptoBulkEntries {H : Type} : List (Lit × DataW H) → Nat
  | [] => 0
  | x :: r => uptoBulkEntry x + uptoBulkEntries r
def uptoBulkEntry {H : Type} : Lit × DataW H → Nat
  | (.string bytes, d) => bytes.length + uptoBulk d + 1
  | (_, d) => uptoBulk d + 1
 end
def uptoSmall : (H : Type) → List (DataW H) → Bool := fun _ ds => decide (uptoBulkAll ds ≤ 1048576)
def OpenSpec.upto (s : _root_.Go.ChangeSpec) : _root_.Go.OpenSpec := { _root_.Go.OpenSpec.ofChange s with cond := some uptoSmall }

/-- 'pinballlaw35.VMBudget', WHERE WHAT IT READS IS OF BULK AT MOST 1048576: true; the input reads as it did. -/
def vMBudgetUptoRow : OpenClaim := { program := "ytcallbfckjlagaagreat", sum := "e6f0f8af7f9521d1c66e3e7c7ea774cc2e130f0a04f7445060004fdb72b37b35", func := "pinball/pinballlaw35.VMBudget", spec := "vMBudget", unfollowed := true, recurses := true, apart := false, narrowed := true }
def VMBudgetUptoSaid : Prop := vMBudgetUptoRow.holds Tryz.pinned (OpenSpec.upto vMBudgetSpec)

/-- 'pinballlaw35.VMEnds', WHERE WHAT IT READS IS OF BULK AT MOST 1048576: true; the input reads as it did. -/
def vMEndsUptoRow : OpenClaim := { program := "ytcallbfckjlagaagreat", sum := "e6f0f8af7f9521d1c66e3e7c7ea774cc2e130f0a04f7445060004fdb72b37b35", func := "pinball/pinballlaw35.VMEnds", spec := "vMEnds", unfollowed := true, recurses := true, apart := false, narrowed := true }
def VMEndsUptoSaid : Prop := vMEndsUptoRow.holds Tryz.pinned (OpenSpec.upto vMEndsSpec)

/-- 'pinballlaw35.VMExecutes', WHERE WHAT IT READS IS OF BULK AT MOST 1048576: true; the input reads as it did. -/
def vMExecutesUptoRow : OpenClaim := { program := "ytcallbfckjlagaagreat", sum := "e6f0f8af7f9521d1c66e3e7c7ea774cc2e130f0a04f7445060004fdb72b37b35", func := "pinball/pinballlaw35.VMExecutes", spec := "vMExecutes", unfollowed := true, recurses := true, apart := false, narrowed := true }
def VMExecutesUptoSaid : Prop := vMExecutesUptoRow.holds Tryz.pinned (OpenSpec.upto vMExecutesSpec)

/-- 'pinballlaw35.VMBroken', WHERE WHAT IT READS IS OF BULK AT MOST 1048576: true; the input reads as it did. -/
def vMBrokenUptoRow : OpenClaim := { program := "ytcallbfckjlagaagreat", sum := "e6f0f8af7f9521d1c66e3e7c7ea774cc2e130f0a04f7445060004fdb72b37b35", func := "pinball/pinballlaw35.VMBroken", spec := "vMBroken", unfollowed := true, recurses := true, apart := false, narrowed := true }
def VMBrokenUptoSaid : Prop := vMBrokenUptoRow.holds Tryz.pinned (OpenSpec.upto vMBrokenSpec)

/-- 'pinballlaw35.VMTraces', WHERE WHAT IT READS IS OF BULK AT MOST 1048576: true; the input reads as it did. -/
def vMTracesUptoRow : OpenClaim := { program := "ytcallbfckjlagaagreat", sum := "e6f0f8af7f9521d1c66e3e7c7ea774cc2e130f0a04f7445060004fdb72b37b35", func := "pinball/pinballlaw35.VMTraces", spec := "vMTraces", unfollowed := true, recurses := true, apart := false, narrowed := true }
def VMTracesUptoSaid : Prop := vMTracesUptoRow.holds Tryz.pinned (OpenSpec.upto vMTracesSpec)

end Rows
end Go.Proofs.YtcallbfckjlagaaGreat
