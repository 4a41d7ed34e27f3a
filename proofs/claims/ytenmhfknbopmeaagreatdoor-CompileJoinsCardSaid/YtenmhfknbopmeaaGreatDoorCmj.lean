/-
  CLAIM: CompileJoins holds, as its tied card says it: for every input the law's call returns true and leaves its arguments as they were; the listed package variables (tables of the library) hold what the program's text lays.
-/
import Derived.Test.YtenmhfknbopmeaaGreatDoorCmjk
import Derived.Test.YtenmhfknbopmeaaGreatDoorRows
import Derived.Test.YtenmhfknbopmeaaGreatDoorTie
import Derived.Test.YtenmhfknbopmeaaGreatDoorCards
import Derived.WalkKit
import Derived.ProofKit
import Derived.OpenShut
import Derived.LaidMore
import Derived.Stop.Joined
import Derived.SevenTiedAt
noncomputable section
namespace Go.Proofs.YtenmhfknbopmeaaGreatDoor.compileJoins
open Go.ChangeShapes Go.WideShapes Go.ChangeAt Go.RowKit
set_option linter.unusedVariables false
theorem own : ownKnob Tryz.prog.godebug = none := by kernel_rfl
theorem kids : Kids Tryz.prog (· < Tryz.prog.types.size) := kids_rows (by kernel_rfl) (by kernel_rfl)
theorem full : ∀ t e, t < Tryz.prog.types.size -> Tryz.prog.underlying t = some (.slice e) -> 0 < Tryz.prog.cellsOf e := slices_full_of Tryz.prog (by kernel_rfl)
theorem D9y : 5 < Tryz.prog.types.size := of_decide_eq_true (by kernel_rfl)
theorem D5x : 22 < Tryz.prog.types.size := of_decide_eq_true (by kernel_rfl)
theorem D4u : Tryz.prog.cellsOf 5 = 1 := by kernel_rfl
theorem tabOk{W : World}(h : laidMetH Tryz.prog Rows.compileJoinsRow.laid W): Sym.TabOk W := by
 have h2 : laidMet Tryz.prog Rows.compileJoinsRow.laid W := h;intro x hx;have hx : x = ((5 : Nat), fun r => r = (Lib.pow10Tab.map fun z => Value.int .u64 z).toArray) \/ x = ((0 : Nat), fun r => r = (Lib.asciiSpaceTab.map fun z => Value.int .u8 z).toArray) \/ x = ((3 : Nat), fun r => ∃ te pe, r = #[.iface te pe]) := by simpa[Sym.Tab.tab] using hx
 rcases hx with rfl |rfl |rfl
 ·exact Sym.laid_tab h2 (A0F _ (A0F _ A0I)) (by kernel_rfl) (by kernel_rfl) Tryz.underlying318 Tryz.underlying171 (by kernel_rfl) (by kernel_rfl) (by kernel_rfl)
 ·exact Sym.laid_tab h2 (A0F _ (A0F _ (A0F _ (A0F _ (A0F _ (A0F _ A0I)))))) (by kernel_rfl) (by kernel_rfl) Tryz.underlying255 Tryz.underlying5 (by kernel_rfl) (by kernel_rfl) (by kernel_rfl)
 ·exact Sym.laid_err h2 (A0F _ (A0F _ (A0F _ A0I))) (by kernel_rfl) (by kernel_rfl) Tryz.underlying259
theorem door_met(os : Os)(args : Array Value): laidMetH Tryz.prog Rows.compileJoinsRow.laid ((World.doorLaid Tryz.prog 400 os).forCall (fun _ _ => 0) ⟨#[], args, []⟩).memory :=
 laidMetH_of_parts3 (fuel := 8) (laidMet_of_run' 8 (by kernel_rfl) (by kernel_rfl)) (by kernel_rfl) (by kernel_rfl)
theorem walk(l0 : List UInt8)(hl0 : l0.length <= 9223372036854775807)(v0 : Value)(u1 : UInt8)(v1 : Value)(w : World)(hT : Sym.TabOk w)(hr0 : Sym.VRel (Sym.topR w hT) (.lst (Pb.bytesC l0)) v0)(hr1 : Sym.VRel (Sym.topR w hT) (.int .u8 (u1.toNat : Int)) v1):
  Calls Tryz.prog 4 #[v0, v1] w fun e w' => e = .returned (.bool true) /\ Below w.heap.size w w' := by
 have h := Sym.AC.top (P := Tryz.prog) (f := 4) (c_CompileJoins l0 hl0 u1).ac w hT #[v0, v1] ⟨rfl, fun i x y hx hy => ?_⟩
 ·refine h.mono ?_;rintro e w' ⟨v, v', H', c', ρ', e1, q, hv, hb⟩;subst q;cases hv;exact⟨e1, hb⟩
 ·rcases i with _ |_ |_
  ·cases hx; cases hy; exact hr0
  ·cases hx; cases hy; exact hr1
  ·cases hx
set_option maxRecDepth 100000 in
theorem lifted(os : Os)(started : os.Started)(H : Type)(enc : TypeId × Value -> H):
  ReturnsInHanded {} Tryz.checked os 4 .any (fun w args => (Rows.compileJoinsSpec.pre enc Tryz.prog Tryz.f4 [] false w args /\ laidMetH Tryz.prog Rows.compileJoinsRow.laid w) /\ sizedMet enc Tryz.prog Tryz.f4 (OpenSpec.ofChange Rows.compileJoinsSpec) false w args)
   (Rows.compileJoinsSpec.post enc Tryz.prog Tryz.f4 false true false false) := by
 refine returnsInHanded_of_change_and (C := Tryz.checked) (X := fun w _ => laidMetH Tryz.prog Rows.compileJoinsRow.laid w) (fun _ _ _ hh h => h.of_heap hh) own started (by kernel_rfl) Tryz.func4
  (ChangeSpec.witness_shaped (enc := enc) (C := Tryz.checked) (os := os) (X := fun w _ => laidMetH Tryz.prog Rows.compileJoinsRow.laid w) false (World.doorLaid Tryz.prog 400 os) #[.slice none 0 0, .int .u8 0] 8 rfl (World.shaped_of_RefB (by kernel_rfl) (by kernel_rfl)) (by kernel_rfl) (by kernel_rfl) (by kernel_rfl) (door_met os _)) ?_
 intro W base args ds gs before hval0 hW _ _ hL _;have hval : ∀ (j : Nat) t v, Tryz.f4.params[j]? = some t -> args[j]? = some v -> Value.okWide Tryz.prog W .any base t v := hval0;have hW' := hW;obtain⟨p, q, hA0, hV, rfl, hfz, hnd⟩ := hW;have hA : DataW.TrodAll enc Tryz.prog W 0 (fun _ => true) true Tryz.f4.params.toList args.toList ds p := hA0;rw[Tryz.params4]at hA hval;have hAk := hA;obtain⟨v0, vs0, d0, ds0, p0, q0, hargs, rfl, rfl, h0, r0⟩ := trodAll_cons hA;obtain⟨v1, vs1, d1, ds1, p1, q1, rfl, rfl, rfl, h1, r1⟩ := trodAll_cons r0;obtain⟨rfl, rfl, rfl⟩ := trodAll_nil r1;obtain rfl : args = #[v0, v1] := by cases args; simp_all
 obtain⟨rfl, rfl⟩ := trodVars_none hV;have hT := tabOk hL;obtain⟨l0, hl0, hr0⟩ := Sym.open_bytes (hT := hT) Tryz.underlying22 Tryz.underlying5 D4u h0 (by obtain⟨a, n, c, rfl⟩ := okWide_slice Tryz.underlying22 (hval 0 22 _ rfl rfl); rfl);obtain⟨u1, hr1⟩ := Sym.open_u8 (hT := hT) Tryz.underlying5 (hval 1 5 _ rfl rfl) h1;clear hA0 hval0;refine (walk l0 hl0 v0 u1 v1 W hT hr0 hr1).mono fun e W' ⟨he, hg⟩ => ?_;subst he;refine⟨_, rfl, Go.Eng.post_of_below (pv := []) hW' (fun _ _ _ => (trodAll_cons_mk (shut_bool Tryz.underlying4 _) trodAll_mk0)) (fun sp hsp => ?_) (fun _ _ => rfl) rfl
  hg (ok_one (by kernel_rfl) rfl (okWide_bool_mk Tryz.underlying4 _))⟩
 have hT : ∀ t ∈ ([22, 5] : List TypeId), t < Tryz.prog.types.size := by
  intro t ht;simp only[A1A, A1Y, or_false]at ht;rcases ht with rfl |rfl
  ·exact D5x
  ·exact D9y
 have hk := Sym.arg_kept kids full hg (sp := sp) hT hAk (fun x hx => hsp x (A2U _ hx));rw[Tryz.params4];exact hk
theorem C3v : (Rows.compileJoinsRow.inPlace == Tryz.pinned.checked.prog.inPlace 4) = true := by kernel_rfl
theorem E1u : (Rows.compileJoinsRow.unfollowed == Tryz.pinned.checked.prog.unfollowed 4) = true := by kernel_rfl
theorem D7z : (Rows.compileJoinsRow.recurses == Tryz.pinned.checked.prog.recurses 4) = true := by kernel_rfl
theorem E1x : (Rows.compileJoinsRow.named == Tryz.pinned.checked.prog.varsNamed 4) = true := by kernel_rfl
theorem E1w : (Rows.compileJoinsRow.plainKeys == Tryz.pinned.checked.prog.plainKeys) = true := by kernel_rfl
theorem E1v : (Tryz.pinned.checked.prog.stopsHeard) = true := by kernel_rfl
theorem E1z : (Tryz.pinned.checked.prog.mayEnter) = true := by kernel_rfl
theorem E2b : (Rows.compileJoinsRow.lifted == Tryz.pinned.checked.prog.liftsFinal) = true := by kernel_rfl
theorem E2a : (Tryz.pinned.checked.prog.make == some Rows.compileJoinsRow.make) = true := by kernel_rfl
theorem E2c : (laidOutB Tryz.pinned.checked.prog) = true := by kernel_rfl
theorem E1y : (mapsRowed Tryz.pinned.checked.prog) = true := by kernel_rfl
theorem D8b : joinedFacts Tryz.pinned.checked.prog 4 Tryz.f4 Rows.compileJoinsSpec Rows.compileJoinsRow = true := by
 unfold joinedFacts;rw[C3v, E1u, D7z, E1x, E1w, E1v, E1z, E2b, E2a, E2c, E1y]
 kernel_rfl
theorem named : Tryz.pinned.checked.prog.funcNamed Rows.compileJoinsRow.func = some 4 := by kernel_rfl
theorem E1q : Tryz.f4.isInstance Tryz.pinned.checked.prog Rows.compileJoinsRow.origin Rows.compileJoinsRow.targs := of_decide_eq_true (by kernel_rfl)
theorem D5q : Tryz.f4.isWrapper Tryz.pinned.checked.prog Rows.compileJoinsRow.wrapper Rows.compileJoinsRow.mainSum := by unfold Func.isWrapper; first |(rw[if_pos (by decide +kernel)]; kernel_rfl) |(rw[if_neg (by decide +kernel)]; exact⟨rfl, rfl⟩)
theorem over : Rows.compileJoinsRow.holds Tryz.pinned (OpenSpec.ofChange Rows.compileJoinsSpec) :=
 OpenClaim.holds_of_wide 4 Tryz.f4 rfl rfl rfl rfl rfl rfl rfl ⟨rfl, rfl, rfl, rfl, rfl⟩ rfl rfl rfl rfl rfl named Tryz.func4 D8b E1q D5q
  (fun os started H enc _ => lifted os started H enc)
theorem pw : Rows.compileJoinsRow.wfByText (OpenSpec.ofChange Rows.compileJoinsSpec) = true := by kernel_rfl
theorem pm : Tryz.pinned.checked.prog.mainIs = some (true, "54228247a02140161b1dadd7e547653932899b5dabcb0e47d5adc2793c677748".toList) := by kernel_rfl
theorem pl : true = Tryz.pinned.checked.prog.looks [] := by kernel_rfl
theorem pg : false = Rows.compileJoinsRow.goesBy Tryz.pinned.checked.prog := by kernel_rfl
theorem rowHolds : Rows.CompileJoinsSaid := over
theorem proved : Rows.CompileJoinsCardSaid :=
 Claim7.holds_tied_plain_at .later [] [.data, .data, .data, .sentinel, .sentinel, .listed, .data] true (true, "54228247a02140161b1dadd7e547653932899b5dabcb0e47d5adc2793c677748") _
  rowHolds (fun _ h => by cases h) pw (fun _ h => by cases h) compileJoins_row_tie rfl ⟨rfl, rfl⟩ pm rfl
  (fun f fn hf hfn => by
   obtain rfl : f = 4 := Option.some.inj ((show Tryz.prog.funcNamed Rows.compileJoinsRow.func = some 4 by kernel_rfl).symm.trans hf) |>.symm;obtain rfl : fn = Tryz.f4 := (Option.some.inj (Tryz.func4.symm.trans hfn)).symm;exact⟨pl, fun j t ht => by
    rw[Tryz.params4]at ht;have hm : t ∈ [22, 5] := by simpa using Array.mem_of_getElem? ht
    have hall : ([22, 5].all fun u => !Tryz.prog.wantsStandIn u) = true := by kernel_rfl
    exact (show Tryz.prog.wantsStandIn t = false by simpa using A0Q.1 hall t hm)⟩)
  pg
end Go.Proofs.YtenmhfknbopmeaaGreatDoor.compileJoins
#print axioms Go.Proofs.YtenmhfknbopmeaaGreatDoor.compileJoins.proved
end
