/-
  CLAIM: VMRepeats holds, as its tied card says it: for every input the law's call returns true and leaves its arguments as they were; the listed package variables (tables of the library) hold what the program's text lays.
-/
import Derived.Test.YtkkjpohaffjecaaGreatDoorCmzf
import Derived.Test.YtkkjpohaffjecaaGreatDoorRows
import Derived.Test.YtkkjpohaffjecaaGreatDoorTie
import Derived.Test.YtkkjpohaffjecaaGreatDoorCards
import Derived.WalkKit
import Derived.ProofKit
import Derived.OpenShut
import Derived.LaidMore
import Derived.Stop.Joined
import Derived.SevenTiedAt
noncomputable section
namespace Go.Proofs.YtkkjpohaffjecaaGreatDoor.vMRepeats
open Go.ChangeShapes Go.WideShapes Go.ChangeAt Go.RowKit
set_option linter.unusedVariables false
theorem own : ownKnob Tryz.prog.godebug = none := by kernel_rfl
theorem kids : Kids Tryz.prog (· < Tryz.prog.types.size) := kids_rows (by kernel_rfl) (by kernel_rfl)
theorem full : ∀ t e, t < Tryz.prog.types.size -> Tryz.prog.underlying t = some (.slice e) -> 0 < Tryz.prog.cellsOf e := slices_full_of Tryz.prog (by kernel_rfl)
theorem B6a : 4 < Tryz.prog.types.size := of_decide_eq_true (by kernel_rfl)
theorem B5z : 5 < Tryz.prog.types.size := of_decide_eq_true (by kernel_rfl)
theorem tabOk{W : World}(h : laidMetH Tryz.prog Rows.vMRepeatsRow.laid W): Sym.TabOk W := by
 have h2 : laidMet Tryz.prog Rows.vMRepeatsRow.laid W := h;intro x hx;have hx : x = ((0 : Nat), fun r => r = (Lib.pow10Tab.map fun z => Value.int .u64 z).toArray) \/ x = ((1 : Nat), fun r => r = (Lib.asciiSpaceTab.map fun z => Value.int .u8 z).toArray) \/ x = ((7 : Nat), fun r => ∃ te pe, r = #[.iface te pe]) := by simpa[Sym.Tab.tab] using hx
 rcases hx with rfl |rfl |rfl
 ·exact Sym.laid_tab h2 (A0A _ (A0A _ A0D)) (by kernel_rfl) (by kernel_rfl) Tryz.underlying325 Tryz.underlying37 (by kernel_rfl) (by kernel_rfl) (by kernel_rfl)
 ·exact Sym.laid_tab h2 (A0A _ (A0A _ (A0A _ (A0A _ (A0A _ (A0A _ A0D)))))) (by kernel_rfl) (by kernel_rfl) Tryz.underlying330 Tryz.underlying5 (by kernel_rfl) (by kernel_rfl) (by kernel_rfl)
 ·exact Sym.laid_err h2 (A0A _ (A0A _ (A0A _ A0D))) (by kernel_rfl) (by kernel_rfl) Tryz.underlying263
theorem door_met(os : Os)(args : Array Value): laidMetH Tryz.prog Rows.vMRepeatsRow.laid ((World.doorLaid Tryz.prog 400 os).forCall (fun _ _ => 0) ⟨#[], args, []⟩).memory :=
 laidMetH_of_parts3 (fuel := 8) (laidMet_of_run' 8 (by kernel_rfl) (by kernel_rfl)) (by kernel_rfl) (by kernel_rfl)
theorem walk(u0 : UInt8)(v0 : Value)(u1 : Bool)(v1 : Value)(w : World)(hT : Sym.TabOk w)(hr0 : Sym.VRel (Sym.topR w hT) (.int .u8 (u0.toNat : Int)) v0)(hr1 : Sym.VRel (Sym.topR w hT) (.bool u1) v1):
  Calls Tryz.prog 12 #[v0, v1] w fun e w' => e = .returned (.bool true) /\ Below w.heap.size w w' := by
 have h := Sym.AC.top (P := Tryz.prog) (f := 12) (c_VMRepeats u0 u1).ac w hT #[v0, v1] ⟨rfl, fun i x y hx hy => ?_⟩
 ·refine h.mono ?_;rintro e w' ⟨v, v', H', c', ρ', e1, q, hv, hb⟩;subst q;cases hv;exact⟨e1, hb⟩
 ·rcases i with _ |_ |_
  ·cases hx; cases hy; exact hr0
  ·cases hx; cases hy; exact hr1
  ·cases hx
set_option maxRecDepth 100000 in
theorem lifted(os : Os)(started : os.Started)(H : Type)(enc : TypeId × Value -> H):
  ReturnsInHanded {} Tryz.checked os 12 .any (fun w args => (Rows.vMRepeatsSpec.pre enc Tryz.prog Tryz.f12 [] false w args /\ laidMetH Tryz.prog Rows.vMRepeatsRow.laid w) /\ sizedMet enc Tryz.prog Tryz.f12 (OpenSpec.ofChange Rows.vMRepeatsSpec) false w args)
   (Rows.vMRepeatsSpec.post enc Tryz.prog Tryz.f12 false true false false) := by
 refine returnsInHanded_of_change_and (C := Tryz.checked) (X := fun w _ => laidMetH Tryz.prog Rows.vMRepeatsRow.laid w) (fun _ _ _ hh h => h.of_heap hh) own started (by kernel_rfl) Tryz.func12
  (ChangeSpec.witness_shaped (enc := enc) (C := Tryz.checked) (os := os) (X := fun w _ => laidMetH Tryz.prog Rows.vMRepeatsRow.laid w) false (World.doorLaid Tryz.prog 400 os) #[.int .u8 0, .bool false] 8 rfl (World.shaped_of_RefB (by kernel_rfl) (by kernel_rfl)) (by kernel_rfl) (by kernel_rfl) (by kernel_rfl) (door_met os _)) ?_
 intro W base args ds gs before hval0 hW _ _ hL _;have hval : ∀ (j : Nat) t v, Tryz.f12.params[j]? = some t -> args[j]? = some v -> Value.okWide Tryz.prog W .any base t v := hval0;have hW' := hW;obtain⟨p, q, hA0, hV, rfl, hfz, hnd⟩ := hW;have hA : DataW.TrodAll enc Tryz.prog W 0 (fun _ => true) true Tryz.f12.params.toList args.toList ds p := hA0;rw[Tryz.params12]at hA hval;have hAk := hA;obtain⟨v0, vs0, d0, ds0, p0, q0, hargs, rfl, rfl, h0, r0⟩ := trodAll_cons hA;obtain⟨v1, vs1, d1, ds1, p1, q1, rfl, rfl, rfl, h1, r1⟩ := trodAll_cons r0;obtain⟨rfl, rfl, rfl⟩ := trodAll_nil r1;obtain rfl : args = #[v0, v1] := by cases args; simp_all
 obtain⟨rfl, rfl⟩ := trodVars_none hV;have hT := tabOk hL;obtain⟨u0, hr0⟩ := Sym.open_u8 (hT := hT) Tryz.underlying5 (hval 0 5 _ rfl rfl) h0;obtain⟨u1, -, hr1⟩ := Sym.Reads1.arg1 (Sym.rd_bool (hT := hT) Tryz.underlying4) h1 (by obtain⟨n, rfl⟩ := okWide_bool Tryz.underlying4 (hval 1 4 _ rfl rfl); rfl);clear hA0 hval0;refine (walk u0 v0 u1 v1 W hT hr0 hr1).mono fun e W' ⟨he, hg⟩ => ?_;subst he;refine⟨_, rfl, Go.Eng.post_of_below (pv := []) hW' (fun _ _ _ => (trodAll_cons_mk (shut_bool Tryz.underlying4 _) trodAll_mk0)) (fun sp hsp => ?_) (fun _ _ => rfl) rfl
  hg (ok_one (by kernel_rfl) rfl (okWide_bool_mk Tryz.underlying4 _))⟩
 have hT : ∀ t ∈ ([5, 4] : List TypeId), t < Tryz.prog.types.size := by
  intro t ht;simp only[A0N, A2A, or_false]at ht;rcases ht with rfl |rfl
  ·exact B5z
  ·exact B6a
 have hk := Sym.arg_kept kids full hg (sp := sp) hT hAk (fun x hx => hsp x (List.mem_append_left _ hx));rw[Tryz.params12];exact hk
theorem A6r : (Rows.vMRepeatsRow.inPlace == Tryz.pinned.checked.prog.inPlace 12) = true := by kernel_rfl
theorem B7q : (Rows.vMRepeatsRow.unfollowed == Tryz.pinned.checked.prog.unfollowed 12) = true := by kernel_rfl
theorem B4i : (Rows.vMRepeatsRow.recurses == Tryz.pinned.checked.prog.recurses 12) = true := by kernel_rfl
theorem B7t : (Rows.vMRepeatsRow.named == Tryz.pinned.checked.prog.varsNamed 12) = true := by kernel_rfl
theorem B7s : (Rows.vMRepeatsRow.plainKeys == Tryz.pinned.checked.prog.plainKeys) = true := by kernel_rfl
theorem B7r : (Tryz.pinned.checked.prog.stopsHeard) = true := by kernel_rfl
theorem B7v : (Tryz.pinned.checked.prog.mayEnter) = true := by kernel_rfl
theorem B7x : (Rows.vMRepeatsRow.lifted == Tryz.pinned.checked.prog.liftsFinal) = true := by kernel_rfl
theorem B7w : (Tryz.pinned.checked.prog.make == some Rows.vMRepeatsRow.make) = true := by kernel_rfl
theorem B7y : (laidOutB Tryz.pinned.checked.prog) = true := by kernel_rfl
theorem B7u : (mapsRowed Tryz.pinned.checked.prog) = true := by kernel_rfl
theorem B4k : joinedFacts Tryz.pinned.checked.prog 12 Tryz.f12 Rows.vMRepeatsSpec Rows.vMRepeatsRow = true := by
 unfold joinedFacts;rw[A6r, B7q, B4i, B7t, B7s, B7r, B7v, B7x, B7w, B7y, B7u]
 kernel_rfl
theorem named : Tryz.pinned.checked.prog.funcNamed Rows.vMRepeatsRow.func = some 12 := by kernel_rfl
theorem B7m : Tryz.f12.isInstance Tryz.pinned.checked.prog Rows.vMRepeatsRow.origin Rows.vMRepeatsRow.targs := of_decide_eq_true (by kernel_rfl)
theorem B2h : Tryz.f12.isWrapper Tryz.pinned.checked.prog Rows.vMRepeatsRow.wrapper Rows.vMRepeatsRow.mainSum := by unfold Func.isWrapper; first |(rw[if_pos (by decide +kernel)]; kernel_rfl) |(rw[if_neg (by decide +kernel)]; exact⟨rfl, rfl⟩)
theorem over : Rows.vMRepeatsRow.holds Tryz.pinned (OpenSpec.ofChange Rows.vMRepeatsSpec) :=
 OpenClaim.holds_of_wide 12 Tryz.f12 rfl rfl rfl rfl rfl rfl rfl ⟨rfl, rfl, rfl, rfl, rfl⟩ rfl rfl rfl rfl rfl named Tryz.func12 B4k B7m B2h
  (fun os started H enc _ => lifted os started H enc)
theorem pw : Rows.vMRepeatsRow.wfByText (OpenSpec.ofChange Rows.vMRepeatsSpec) = true := by kernel_rfl
theorem pm : Tryz.pinned.checked.prog.mainIs = some (true, "0f3b3099e14a7b91d84b94ddc57beb15ea1838be39e2b525fc53e1b23209ee3f".toList) := by kernel_rfl
theorem pl : true = Tryz.pinned.checked.prog.looks [] := by kernel_rfl
theorem pg : false = Rows.vMRepeatsRow.goesBy Tryz.pinned.checked.prog := by kernel_rfl
theorem rowHolds : Rows.VMRepeatsSaid := over
theorem proved : Rows.VMRepeatsCardSaid :=
 Claim7.holds_tied_plain_at .later [] [.data, .data, .data, .sentinel, .sentinel, .listed, .data] true (true, "0f3b3099e14a7b91d84b94ddc57beb15ea1838be39e2b525fc53e1b23209ee3f") _
  rowHolds (fun _ h => by cases h) pw (fun _ h => by cases h) vMRepeats_row_tie rfl ⟨rfl, rfl⟩ pm rfl
  (fun f fn hf hfn => by
   obtain rfl : f = 12 := Option.some.inj ((show Tryz.prog.funcNamed Rows.vMRepeatsRow.func = some 12 by kernel_rfl).symm.trans hf) |>.symm;obtain rfl : fn = Tryz.f12 := (Option.some.inj (Tryz.func12.symm.trans hfn)).symm;exact⟨pl, fun j t ht => by
    rw[Tryz.params12]at ht;have hm : t ∈ [5, 4] := by simpa using Array.mem_of_getElem? ht
    have hall : ([5, 4].all fun u => !Tryz.prog.wantsStandIn u) = true := by kernel_rfl
    exact (show Tryz.prog.wantsStandIn t = false by simpa using A0H.1 hall t hm)⟩)
  pg
end Go.Proofs.YtkkjpohaffjecaaGreatDoor.vMRepeats
#print axioms Go.Proofs.YtkkjpohaffjecaaGreatDoor.vMRepeats.proved
end
