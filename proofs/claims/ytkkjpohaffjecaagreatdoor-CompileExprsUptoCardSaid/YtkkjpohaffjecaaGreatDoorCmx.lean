/-
  CLAIM: CompileExprs holds where the arguments are of bulk at most 1048576, as the tied card of its second form says it: for every such input the law's call returns true and leaves its arguments as they were; the listed package variables (tables of the library) hold what the program's text lays.
-/
import Derived.Test.YtkkjpohaffjecaaGreatDoorCmxh
import Derived.Test.YtkkjpohaffjecaaGreatDoorRows
import Derived.Test.YtkkjpohaffjecaaGreatDoorTie
import Derived.Test.YtkkjpohaffjecaaGreatDoorCards
import Derived.WalkKit
import Derived.ProofKit
import Derived.OpenShut
import Derived.LaidMore
import Derived.JoinedCond
import Derived.Deep.DeepWitnessRowRef
import Derived.Stop.Joined
import Derived.SevenTiedAt
noncomputable section
namespace Go.Proofs.YtkkjpohaffjecaaGreatDoor.compileExprs
open Go.ChangeShapes Go.WideShapes Go.ChangeAt Go.RowKit
set_option linter.unusedVariables false
theorem own : ownKnob Tryz.prog.godebug = none := by kernel_rfl
theorem kids : Kids Tryz.prog (· < Tryz.prog.types.size) := kids_rows (by kernel_rfl) (by kernel_rfl)
theorem full : ∀ t e, t < Tryz.prog.types.size -> Tryz.prog.underlying t = some (.slice e) -> 0 < Tryz.prog.cellsOf e := slices_full_of Tryz.prog (by kernel_rfl)
theorem D5t : 5 < Tryz.prog.types.size := of_decide_eq_true (by kernel_rfl)
theorem D1x : 22 < Tryz.prog.types.size := of_decide_eq_true (by kernel_rfl)
theorem D1w : 73 < Tryz.prog.types.size := of_decide_eq_true (by kernel_rfl)
theorem D1e : Tryz.prog.cellsOf 5 = 1 := by kernel_rfl
theorem tabOk{W : World}(h : laidMetH Tryz.prog Rows.compileExprsUptoRow.laid W): Sym.TabOk W := by
 have h2 : laidMet Tryz.prog Rows.compileExprsUptoRow.laid W := h;intro x hx;have hx : x = ((0 : Nat), fun r => r = (Lib.pow10Tab.map fun z => Value.int .u64 z).toArray) \/ x = ((1 : Nat), fun r => r = (Lib.asciiSpaceTab.map fun z => Value.int .u8 z).toArray) \/ x = ((7 : Nat), fun r => ∃ te pe, r = #[.iface te pe]) := by simpa[Sym.Tab.tab] using hx
 rcases hx with rfl |rfl |rfl
 ·exact Sym.laid_tab h2 (A0L _ (A0L _ A0M)) (by kernel_rfl) (by kernel_rfl) Tryz.underlying325 Tryz.underlying37 (by kernel_rfl) (by kernel_rfl) (by kernel_rfl)
 ·exact Sym.laid_tab h2 (A0L _ (A0L _ (A0L _ (A0L _ (A0L _ (A0L _ A0M)))))) (by kernel_rfl) (by kernel_rfl) Tryz.underlying330 Tryz.underlying5 (by kernel_rfl) (by kernel_rfl) (by kernel_rfl)
 ·exact Sym.laid_err h2 (A0L _ (A0L _ (A0L _ A0M))) (by kernel_rfl) (by kernel_rfl) Tryz.underlying263
theorem door_met(os : Os)(args : Array Value): laidMetH Tryz.prog Rows.compileExprsUptoRow.laid ((World.doorLaid Tryz.prog 400 os).forCall (fun _ _ => 0) ⟨#[], args, []⟩).memory :=
 laidMetH_of_parts3 (fuel := 8) (laidMet_of_run' 8 (by kernel_rfl) (by kernel_rfl)) (by kernel_rfl) (by kernel_rfl)
theorem walk(l0 : List UInt8)(hl0 : l0.length <= 9223372036854775807)(v0 : Value)(l1 : Pb.Ex)(hl1 : l1.sz <= 1048576)(v1 : Value)(u2 : UInt8)(v2 : Value)(w : World)(hT : Sym.TabOk w)(hr0 : Sym.VRel (Sym.topR w hT) (.lst (Pb.bytesC l0)) v0)(hr1 : Sym.VRel (Sym.topR w hT) (Pb.Ex.v l1) v1)(hr2 : Sym.VRel (Sym.topR w hT) (.int .u8 (u2.toNat : Int)) v2):
  Calls Tryz.prog 7 #[v0, v1, v2] w fun e w' => e = .returned (.bool true) /\ Below w.heap.size w w' := by
 have h := Sym.AC.top (P := Tryz.prog) (f := 7) (c_CompileExprs l0 hl0 l1 (by omega) u2).ac w hT #[v0, v1, v2] ⟨rfl, fun i x y hx hy => ?_⟩
 ·refine h.mono ?_;rintro e w' ⟨v, v', H', c', ρ', e1, q, hv, hb⟩;subst q;cases hv;exact⟨e1, hb⟩
 ·rcases i with _ |_ |_ |_
  ·cases hx; cases hy; exact hr0
  ·cases hx; cases hy; exact hr1
  ·cases hx; cases hy; exact hr2
  ·cases hx
theorem reads(os : Os){H : Type}(enc : TypeId × Value -> H): ∃ places, DataW.whole enc Tryz.prog ((World.doorLaid Tryz.prog 400 os).forCall (fun _ _ => 0) ⟨#[], #[.slice none 0 0, .agg #[.int .i64 0, .int .i64 0, .string ⟨#[]⟩, .slice none 0 0, .int .i64 0], .int .u8 0], []⟩).memory Tryz.f7.params.toList Rows.compileExprsSpec.vars false (#[.slice none 0 0, .agg #[.int .i64 0, .int .i64 0, .string ⟨#[]⟩, .slice none 0 0, .int .i64 0], .int .u8 0] : Array Value).toList 8 = some ([.nil, .agg [.lit (.int .i64 0), .lit (.int .i64 0), .lit (.string []), .nil, .lit (.int .i64 0)], .lit (.int .u8 0)], [], places) :=
 ⟨[], by kernel_rfl⟩
set_option maxRecDepth 100000 in
theorem lifted(os : Os)(started : os.Started)(H : Type)(enc : TypeId × Value -> H)(F : Stop.Interp):
  ReturnsInHanded {} Tryz.checked os 7 .any ((Rows.OpenSpec.upto Rows.compileExprsSpec).preRow enc Tryz.prog Tryz.f7 Rows.compileExprsUptoRow.domain false Rows.compileExprsUptoRow.laid) (((Rows.OpenSpec.upto Rows.compileExprsSpec).at F).post enc Tryz.prog Tryz.f7 false true false false) := by
 obtain⟨places, hx⟩ := reads os enc;refine returnsInHanded_of_row (C := Tryz.checked) (s := Rows.OpenSpec.upto Rows.compileExprsSpec) own started (by kernel_rfl) Tryz.func7
  (witness_row_atRef (enc := enc) (C := Tryz.checked) false (World.doorLaid Tryz.prog 400 os) #[.slice none 0 0, .agg #[.int .i64 0, .int .i64 0, .string ⟨#[]⟩, .slice none 0 0, .int .i64 0], .int .u8 0] rfl (by kernel_rfl) (by kernel_rfl) (by kernel_rfl)
   (OpenSpec.preRow_of_cond 8 hx (by kernel_rfl) (fun k hk => by cases hk; kernel_rfl) (by kernel_rfl) (door_met os _))) ?_
 intro W base args ds gs before hval0 hW _ hcond _ hL _ _;have hk : Rows.uptoSmall H (ds ++ gs) = true := hcond _ rfl;have hval : ∀ (j : Nat) t v, Tryz.f7.params[j]? = some t -> args[j]? = some v -> Value.okWide Tryz.prog W .any base t v := hval0;have hW' := hW;obtain⟨p, q, hA0, hV, rfl, hfz, hnd⟩ := hW;have hA : DataW.TrodAll enc Tryz.prog W 0 (fun _ => true) true Tryz.f7.params.toList args.toList ds p := hA0;rw[Tryz.params7]at hA hval;have hAk := hA;obtain⟨v0, vs0, d0, ds0, p0, q0, hargs, rfl, rfl, h0, r0⟩ := trodAll_cons hA;obtain⟨v1, vs1, d1, ds1, p1, q1, rfl, rfl, rfl, h1, r1⟩ := trodAll_cons r0;obtain⟨v2, vs2, d2, ds2, p2, q2, rfl, rfl, rfl, h2, r2⟩ := trodAll_cons r1;obtain⟨rfl, rfl, rfl⟩ := trodAll_nil r2;obtain rfl : args = #[v0, v1, v2] := by cases args; simp_all
 obtain⟨rfl, rfl⟩ := trodVars_none hV;have hT := tabOk hL;obtain⟨l0, hl0, hr0⟩ := Sym.open_bytes (hT := hT) Tryz.underlying22 Tryz.underlying5 D1e h0 (by obtain⟨a, n, c, rfl⟩ := okWide_slice Tryz.underlying22 (hval 0 22 _ rfl rfl); rfl);obtain⟨l1, hl1, hr1⟩ := Sym.ReadsB.arg1 (D1z (hT := hT) 1048576) (B0r hk (by simp)) h1 (by obtain⟨cs, e, -⟩ := okWide_struct Tryz.underlying73 (hval 1 73 _ rfl rfl); exact⟨cs, e⟩) (fun a => ⟨_, Pb.Ex.v_w a⟩);have hl1 := A1A hl1 (B0r hk (by simp));obtain⟨u2, hr2⟩ := Sym.open_u8 (hT := hT) Tryz.underlying5 (hval 2 5 _ rfl rfl) h2;clear hA0 hval0;refine (walk l0 hl0 v0 l1 hl1 v1 u2 v2 W hT hr0 hr1 hr2).mono fun e W' ⟨he, hg⟩ => ?_;subst he;refine⟨_, rfl, Go.Eng.post_of_below (pv := []) hW' (fun _ _ _ => (trodAll_cons_mk (shut_bool Tryz.underlying4 _) trodAll_mk0)) (fun sp hsp => ?_) (fun _ _ => rfl) rfl
  hg (ok_one (by kernel_rfl) rfl (okWide_bool_mk Tryz.underlying4 _))⟩
 have hT : ∀ t ∈ ([22, 73, 5] : List TypeId), t < Tryz.prog.types.size := by
  intro t ht;simp only[A1P, List.not_mem_nil, or_false]at ht;rcases ht with rfl |rfl |rfl
  ·exact D1x
  ·exact D1w
  ·exact D5t
 have hk := Sym.arg_kept kids full hg (sp := sp) hT hAk (fun x hx => hsp x (A3M _ hx));rw[Tryz.params7];exact hk
theorem C1v : (Rows.compileExprsUptoRow.inPlace == Tryz.pinned.checked.prog.inPlace 7) = true := by kernel_rfl
theorem D7o : (Rows.compileExprsUptoRow.unfollowed == Tryz.pinned.checked.prog.unfollowed 7) = true := by kernel_rfl
theorem D4a : (Rows.compileExprsUptoRow.recurses == Tryz.pinned.checked.prog.recurses 7) = true := by kernel_rfl
theorem D7r : (Rows.compileExprsUptoRow.named == Tryz.pinned.checked.prog.varsNamed 7) = true := by kernel_rfl
theorem D7q : (Rows.compileExprsUptoRow.plainKeys == Tryz.pinned.checked.prog.plainKeys) = true := by kernel_rfl
theorem D7p : (Tryz.pinned.checked.prog.stopsHeard) = true := by kernel_rfl
theorem D7t : (Tryz.pinned.checked.prog.mayEnter) = true := by kernel_rfl
theorem D7v : (Rows.compileExprsUptoRow.lifted == Tryz.pinned.checked.prog.liftsFinal) = true := by kernel_rfl
theorem D7u : (Tryz.pinned.checked.prog.make == some Rows.compileExprsUptoRow.make) = true := by kernel_rfl
theorem D7w : (laidOutB Tryz.pinned.checked.prog) = true := by kernel_rfl
theorem D7s : (mapsRowed Tryz.pinned.checked.prog) = true := by kernel_rfl
theorem facts : joinedFacts Tryz.pinned.checked.prog 7 Tryz.f7 (Rows.OpenSpec.upto Rows.compileExprsSpec).bare Rows.compileExprsUptoRow = true := by
 unfold joinedFacts;rw[C1v, D7o, D4a, D7r, D7q, D7p, D7t, D7v, D7u, D7w, D7s]
 kernel_rfl
theorem named : Tryz.pinned.checked.prog.funcNamed Rows.compileExprsUptoRow.func = some 7 := by kernel_rfl
theorem D7l : Tryz.f7.isInstance Tryz.pinned.checked.prog Rows.compileExprsUptoRow.origin Rows.compileExprsUptoRow.targs := of_decide_eq_true (by kernel_rfl)
theorem D1r : Tryz.f7.isWrapper Tryz.pinned.checked.prog Rows.compileExprsUptoRow.wrapper Rows.compileExprsUptoRow.mainSum := by unfold Func.isWrapper; first |(rw[if_pos (by decide +kernel)]; kernel_rfl) |(rw[if_neg (by decide +kernel)]; exact⟨rfl, rfl⟩)
theorem over : Rows.compileExprsUptoRow.holds Tryz.pinned (Rows.OpenSpec.upto Rows.compileExprsSpec) :=
 OpenClaim.holds_of_cond 7 Tryz.f7 rfl rfl rfl rfl rfl rfl rfl ⟨rfl, rfl, rfl, rfl, rfl⟩ rfl rfl rfl rfl rfl named Tryz.func7 facts D7l D1r
  (fun os started H enc _ F => by rw[OpenClaim.pre_eq_preRow]; exact lifted os started H enc F)
theorem pw : Rows.compileExprsUptoRow.wfByText (Rows.OpenSpec.upto Rows.compileExprsSpec) = true := by kernel_rfl
theorem pm : Tryz.pinned.checked.prog.mainIs = some (true, "0f3b3099e14a7b91d84b94ddc57beb15ea1838be39e2b525fc53e1b23209ee3f".toList) := by kernel_rfl
theorem pl : true = Tryz.pinned.checked.prog.looks [] := by kernel_rfl
theorem pg : false = Rows.compileExprsUptoRow.goesBy Tryz.pinned.checked.prog := by kernel_rfl
theorem rowHolds : Rows.CompileExprsUptoSaid := over
theorem proved : Rows.CompileExprsUptoCardSaid :=
 Claim7.holds_tied_plain_at .later [] [.data, .data, .data, .sentinel, .sentinel, .listed, .data] true (true, "0f3b3099e14a7b91d84b94ddc57beb15ea1838be39e2b525fc53e1b23209ee3f") _
  rowHolds (fun _ h => by cases h) pw (fun _ h => by cases h) compileExprsUpto_row_tie rfl ⟨rfl, rfl⟩ pm rfl
  (fun f fn hf hfn => by
   obtain rfl : f = 7 := Option.some.inj ((show Tryz.prog.funcNamed Rows.compileExprsUptoRow.func = some 7 by kernel_rfl).symm.trans hf) |>.symm;obtain rfl : fn = Tryz.f7 := (Option.some.inj (Tryz.func7.symm.trans hfn)).symm;exact⟨pl, fun j t ht => by
    rw[Tryz.params7]at ht;have hm : t ∈ [22, 73, 5] := by simpa using Array.mem_of_getElem? ht
    have hall : ([22, 73, 5].all fun u => !Tryz.prog.wantsStandIn u) = true := by kernel_rfl
    exact (show Tryz.prog.wantsStandIn t = false by simpa using A0P.1 hall t hm)⟩)
  pg
end Go.Proofs.YtkkjpohaffjecaaGreatDoor.compileExprs
#print axioms Go.Proofs.YtkkjpohaffjecaaGreatDoor.compileExprs.proved
end
