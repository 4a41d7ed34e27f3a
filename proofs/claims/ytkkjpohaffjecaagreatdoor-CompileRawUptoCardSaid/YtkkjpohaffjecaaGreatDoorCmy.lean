/-
  CLAIM: CompileRaw holds where the arguments are of bulk at most 1048576, as the tied card of its second form says it: for every such input the law's call returns true and leaves its arguments as they were; the listed package variables (tables of the library) hold what the program's text lays.
-/
import Derived.Test.YtkkjpohaffjecaaGreatDoorCmyk
import Derived.Test.YtkkjpohaffjecaaGreatDoorRows
import Derived.Test.YtkkjpohaffjecaaGreatDoorTie
import Derived.Test.YtkkjpohaffjecaaGreatDoorCards
import Derived.WalkKit
import Derived.ProofKit
import Derived.OpenShut
import Derived.LaidMore
import Derived.JoinedCond
import Derived.Deep.DeepWitnessRowRef
import Derived.Stop.Joined
import Derived.SevenTiedAt
noncomputable section
namespace Go.Proofs.YtkkjpohaffjecaaGreatDoor.compileRaw
open Go.ChangeShapes Go.WideShapes Go.ChangeAt Go.RowKit
set_option linter.unusedVariables false
theorem own : ownKnob Tryz.prog.godebug = none := by kernel_rfl
theorem kids : Kids Tryz.prog (· < Tryz.prog.types.size) := kids_rows (by kernel_rfl) (by kernel_rfl)
theorem full : ∀ t e, t < Tryz.prog.types.size -> Tryz.prog.underlying t = some (.slice e) -> 0 < Tryz.prog.cellsOf e := slices_full_of Tryz.prog (by kernel_rfl)
theorem D9y : 26 < Tryz.prog.types.size := of_decide_eq_true (by kernel_rfl)
theorem tabOk{W : World}(h : laidMetH Tryz.prog Rows.compileRawUptoRow.laid W): Sym.TabOk W := by
 have h2 : laidMet Tryz.prog Rows.compileRawUptoRow.laid W := h;intro x hx;have hx : x = ((0 : Nat), fun r => r = (Lib.pow10Tab.map fun z => Value.int .u64 z).toArray) \/ x = ((1 : Nat), fun r => r = (Lib.asciiSpaceTab.map fun z => Value.int .u8 z).toArray) \/ x = ((7 : Nat), fun r => ∃ te pe, r = #[.iface te pe]) := by simpa[Sym.Tab.tab] using hx
 rcases hx with rfl |rfl |rfl
 ·exact Sym.laid_tab h2 (A0G _ (A0G _ A0H)) (by kernel_rfl) (by kernel_rfl) Tryz.underlying325 Tryz.underlying37 (by kernel_rfl) (by kernel_rfl) (by kernel_rfl)
 ·exact Sym.laid_tab h2 (A0G _ (A0G _ (A0G _ (A0G _ (A0G _ (A0G _ A0H)))))) (by kernel_rfl) (by kernel_rfl) Tryz.underlying330 Tryz.underlying5 (by kernel_rfl) (by kernel_rfl) (by kernel_rfl)
 ·exact Sym.laid_err h2 (A0G _ (A0G _ (A0G _ A0H))) (by kernel_rfl) (by kernel_rfl) Tryz.underlying263
theorem door_met(os : Os)(args : Array Value): laidMetH Tryz.prog Rows.compileRawUptoRow.laid ((World.doorLaid Tryz.prog 400 os).forCall (fun _ _ => 0) ⟨#[], args, []⟩).memory :=
 laidMetH_of_parts3 (fuel := 8) (laidMet_of_run' 8 (by kernel_rfl) (by kernel_rfl)) (by kernel_rfl) (by kernel_rfl)
theorem walk(l0 : Pb.Ru)(hl0 : l0.sz <= 1048576)(v0 : Value)(w : World)(hT : Sym.TabOk w)(hr0 : Sym.VRel (Sym.topR w hT) (Pb.Ru.v l0) v0):
  Calls Tryz.prog 10 #[v0] w fun e w' => e = .returned (.bool true) /\ Below w.heap.size w w' := by
 have h := Sym.AC.top (P := Tryz.prog) (f := 10) (c_CompileRaw l0 (by omega)).ac w hT #[v0] ⟨rfl, fun i x y hx hy => ?_⟩
 ·refine h.mono ?_;rintro e w' ⟨v, v', H', c', ρ', e1, q, hv, hb⟩;subst q;cases hv;exact⟨e1, hb⟩
 ·rcases i with _ |_
  ·cases hx; cases hy; exact hr0
  ·cases hx
theorem reads(os : Os){H : Type}(enc : TypeId × Value -> H): ∃ places, DataW.whole enc Tryz.prog ((World.doorLaid Tryz.prog 400 os).forCall (fun _ _ => 0) ⟨#[], #[.agg #[.slice none 0 0, .slice none 0 0]], []⟩).memory Tryz.f10.params.toList Rows.compileRawSpec.vars false (#[.agg #[.slice none 0 0, .slice none 0 0]] : Array Value).toList 8 = some ([.agg [.nil, .nil]], [], places) :=
 ⟨[], by kernel_rfl⟩
set_option maxRecDepth 100000 in
theorem lifted(os : Os)(started : os.Started)(H : Type)(enc : TypeId × Value -> H)(F : Stop.Interp):
  ReturnsInHanded {} Tryz.checked os 10 .any ((Rows.OpenSpec.upto Rows.compileRawSpec).preRow enc Tryz.prog Tryz.f10 Rows.compileRawUptoRow.domain false Rows.compileRawUptoRow.laid) (((Rows.OpenSpec.upto Rows.compileRawSpec).at F).post enc Tryz.prog Tryz.f10 false true false false) := by
 obtain⟨places, hx⟩ := reads os enc;refine returnsInHanded_of_row (C := Tryz.checked) (s := Rows.OpenSpec.upto Rows.compileRawSpec) own started (by kernel_rfl) Tryz.func10
  (witness_row_atRef (enc := enc) (C := Tryz.checked) false (World.doorLaid Tryz.prog 400 os) #[.agg #[.slice none 0 0, .slice none 0 0]] rfl (by kernel_rfl) (by kernel_rfl) (by kernel_rfl)
   (OpenSpec.preRow_of_cond 8 hx (by kernel_rfl) (fun k hk => by cases hk; kernel_rfl) (by kernel_rfl) (door_met os _))) ?_
 intro W base args ds gs before hval0 hW _ hcond _ hL _ _;have hk : Rows.uptoSmall H (ds ++ gs) = true := hcond _ rfl;have hval : ∀ (j : Nat) t v, Tryz.f10.params[j]? = some t -> args[j]? = some v -> Value.okWide Tryz.prog W .any base t v := hval0;have hW' := hW;obtain⟨p, q, hA0, hV, rfl, hfz, hnd⟩ := hW;have hA : DataW.TrodAll enc Tryz.prog W 0 (fun _ => true) true Tryz.f10.params.toList args.toList ds p := hA0;rw[Tryz.params10]at hA hval;have hAk := hA;obtain⟨v0, vs0, d0, ds0, p0, q0, hargs, rfl, rfl, h0, r0⟩ := trodAll_cons hA;obtain⟨rfl, rfl, rfl⟩ := trodAll_nil r0;obtain rfl : args = #[v0] := by cases args; simp_all
 obtain⟨rfl, rfl⟩ := trodVars_none hV;have hT := tabOk hL;obtain⟨l0, hl0, hr0⟩ := Sym.ReadsB.arg1 (E4i (hT := hT) 1048576) (B4q hk (by simp)) h0 (by obtain⟨cs, e, -⟩ := okWide_struct Tryz.underlying26 (hval 0 26 _ rfl rfl); exact⟨cs, e⟩) (fun _ => ⟨_, rfl⟩);have hl0 := A1E hl0 (B4q hk (by simp));clear hA0 hval0;refine (walk l0 hl0 v0 W hT hr0).mono fun e W' ⟨he, hg⟩ => ?_;subst he;refine⟨_, rfl, Go.Eng.post_of_below (pv := []) hW' (fun _ _ _ => (trodAll_cons_mk (shut_bool Tryz.underlying4 _) trodAll_mk0)) (fun sp hsp => ?_) (fun _ _ => rfl) rfl
  hg (ok_one (by kernel_rfl) rfl (okWide_bool_mk Tryz.underlying4 _))⟩
 have hT : ∀ t ∈ ([26] : List TypeId), t < Tryz.prog.types.size := by
  intro t ht;simp only[A0Y, A2R, or_false]at ht;subst ht; exact D9y
 have hk := Sym.arg_kept kids full hg (sp := sp) hT hAk (fun x hx => hsp x (A3I _ hx));rw[Tryz.params10];exact hk
theorem C8o : (Rows.compileRawUptoRow.inPlace == Tryz.pinned.checked.prog.inPlace 10) = true := by kernel_rfl
theorem E6g : (Rows.compileRawUptoRow.unfollowed == Tryz.pinned.checked.prog.unfollowed 10) = true := by kernel_rfl
theorem E2k : (Rows.compileRawUptoRow.recurses == Tryz.pinned.checked.prog.recurses 10) = true := by kernel_rfl
theorem E6j : (Rows.compileRawUptoRow.named == Tryz.pinned.checked.prog.varsNamed 10) = true := by kernel_rfl
theorem E6i : (Rows.compileRawUptoRow.plainKeys == Tryz.pinned.checked.prog.plainKeys) = true := by kernel_rfl
theorem E6h : (Tryz.pinned.checked.prog.stopsHeard) = true := by kernel_rfl
theorem E6l : (Tryz.pinned.checked.prog.mayEnter) = true := by kernel_rfl
theorem E6n : (Rows.compileRawUptoRow.lifted == Tryz.pinned.checked.prog.liftsFinal) = true := by kernel_rfl
theorem E6m : (Tryz.pinned.checked.prog.make == some Rows.compileRawUptoRow.make) = true := by kernel_rfl
theorem E6o : (laidOutB Tryz.pinned.checked.prog) = true := by kernel_rfl
theorem E6k : (mapsRowed Tryz.pinned.checked.prog) = true := by kernel_rfl
theorem facts : joinedFacts Tryz.pinned.checked.prog 10 Tryz.f10 (Rows.OpenSpec.upto Rows.compileRawSpec).bare Rows.compileRawUptoRow = true := by
 unfold joinedFacts;rw[C8o, E6g, E2k, E6j, E6i, E6h, E6l, E6n, E6m, E6o, E6k]
 kernel_rfl
theorem named : Tryz.pinned.checked.prog.funcNamed Rows.compileRawUptoRow.func = some 10 := by kernel_rfl
theorem E6d : Tryz.f10.isInstance Tryz.pinned.checked.prog Rows.compileRawUptoRow.origin Rows.compileRawUptoRow.targs := of_decide_eq_true (by kernel_rfl)
theorem D9u : Tryz.f10.isWrapper Tryz.pinned.checked.prog Rows.compileRawUptoRow.wrapper Rows.compileRawUptoRow.mainSum := by unfold Func.isWrapper; first |(rw[if_pos (by decide +kernel)]; kernel_rfl) |(rw[if_neg (by decide +kernel)]; exact⟨rfl, rfl⟩)
theorem over : Rows.compileRawUptoRow.holds Tryz.pinned (Rows.OpenSpec.upto Rows.compileRawSpec) :=
 OpenClaim.holds_of_cond 10 Tryz.f10 rfl rfl rfl rfl rfl rfl rfl ⟨rfl, rfl, rfl, rfl, rfl⟩ rfl rfl rfl rfl rfl named Tryz.func10 facts E6d D9u
  (fun os started H enc _ F => by rw[OpenClaim.pre_eq_preRow]; exact lifted os started H enc F)
theorem pw : Rows.compileRawUptoRow.wfByText (Rows.OpenSpec.upto Rows.compileRawSpec) = true := by kernel_rfl
theorem pm : Tryz.pinned.checked.prog.mainIs = some (true, "0f3b3099e14a7b91d84b94ddc57beb15ea1838be39e2b525fc53e1b23209ee3f".toList) := by kernel_rfl
theorem pl : true = Tryz.pinned.checked.prog.looks [] := by kernel_rfl
theorem pg : false = Rows.compileRawUptoRow.goesBy Tryz.pinned.checked.prog := by kernel_rfl
theorem rowHolds : Rows.CompileRawUptoSaid := over
theorem proved : Rows.CompileRawUptoCardSaid :=
 Claim7.holds_tied_plain_at .later [] [.data, .data, .data, .sentinel, .sentinel, .listed, .data] true (true, "0f3b3099e14a7b91d84b94ddc57beb15ea1838be39e2b525fc53e1b23209ee3f") _
  rowHolds (fun _ h => by cases h) pw (fun _ h => by cases h) compileRawUpto_row_tie rfl ⟨rfl, rfl⟩ pm rfl
  (fun f fn hf hfn => by
   obtain rfl : f = 10 := Option.some.inj ((show Tryz.prog.funcNamed Rows.compileRawUptoRow.func = some 10 by kernel_rfl).symm.trans hf) |>.symm;obtain rfl : fn = Tryz.f10 := (Option.some.inj (Tryz.func10.symm.trans hfn)).symm;exact⟨pl, fun j t ht => by
    rw[Tryz.params10]at ht;have hm : t ∈ [26] := by simpa using Array.mem_of_getElem? ht
    have hall : ([26].all fun u => !Tryz.prog.wantsStandIn u) = true := by kernel_rfl
    exact (show Tryz.prog.wantsStandIn t = false by simpa using A0R.1 hall t hm)⟩)
  pg
end Go.Proofs.YtkkjpohaffjecaaGreatDoor.compileRaw
#print axioms Go.Proofs.YtkkjpohaffjecaaGreatDoor.compileRaw.proved
end
