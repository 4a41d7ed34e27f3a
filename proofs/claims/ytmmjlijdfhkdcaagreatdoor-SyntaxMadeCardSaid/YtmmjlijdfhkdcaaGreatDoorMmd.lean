/-
  CLAIM: SyntaxMade holds, as its tied card says it: for every input the law's call returns true and leaves its arguments as they were; the listed package variables (tables of the library) hold what the program's text lays.
-/
import Derived.Test.YtmmjlijdfhkdcaaGreatDoorMmdk
import Derived.Test.YtmmjlijdfhkdcaaGreatDoorRows
import Derived.Test.YtmmjlijdfhkdcaaGreatDoorTie
import Derived.Test.YtmmjlijdfhkdcaaGreatDoorCards
import Derived.WalkKit
import Derived.ProofKit
import Derived.OpenShut
import Derived.LaidMore
import Derived.Stop.Joined
import Derived.SevenTiedAt
noncomputable section
namespace Go.Proofs.YtmmjlijdfhkdcaaGreatDoor.syntaxMade
open Go.ChangeShapes Go.WideShapes Go.ChangeAt Go.RowKit
set_option linter.unusedVariables false
theorem own : ownKnob Tryz.prog.godebug = none := by kernel_rfl
theorem kids : Kids Tryz.prog (· < Tryz.prog.types.size) := kids_rows (by kernel_rfl) (by kernel_rfl)
theorem full : ∀ t e, t < Tryz.prog.types.size -> Tryz.prog.underlying t = some (.slice e) -> 0 < Tryz.prog.cellsOf e := slices_full_of Tryz.prog (by kernel_rfl)
theorem D2u : 22 < Tryz.prog.types.size := of_decide_eq_true (by kernel_rfl)
theorem D2t : 23 < Tryz.prog.types.size := of_decide_eq_true (by kernel_rfl)
theorem C3l : Tryz.prog.cellsOf 5 = 1 := by kernel_rfl
theorem D2f : Tryz.prog.cellsOf 23 = 4 := by kernel_rfl
set_option maxRecDepth 100000 in
theorem D3t{w : World}{r : Reach}{b : Nat}{v : Value}(h : Value.okWide Tryz.prog w r b 23 v): ∃ cs : Array Value, v = .agg cs /\ cs.size = 4 := by
 simp only[Value.okWide, Tryz.underlying23]at h;obtain⟨cs, h1, h2, -⟩ := h;exact⟨cs, h1, by rw[h2, D2f]⟩
theorem tabOk{W : World}(h : laidMetH Tryz.prog Rows.syntaxMadeRow.laid W): Sym.TabOk W := by
 have h2 : laidMet Tryz.prog Rows.syntaxMadeRow.laid W := h;intro x hx;have hx : x = ((0 : Nat), fun r => r = (Lib.pow10Tab.map fun z => Value.int .u64 z).toArray) \/ x = ((1 : Nat), fun r => r = (Lib.asciiSpaceTab.map fun z => Value.int .u8 z).toArray) \/ x = ((7 : Nat), fun r => ∃ te pe, r = #[.iface te pe]) := by simpa[Sym.Tab.tab] using hx
 rcases hx with rfl |rfl |rfl
 ·exact Sym.laid_tab h2 (A0H _ (A0H _ A0K)) (by kernel_rfl) (by kernel_rfl) Tryz.underlying175 Tryz.underlying158 (by kernel_rfl) (by kernel_rfl) (by kernel_rfl)
 ·exact Sym.laid_tab h2 (A0H _ (A0H _ (A0H _ (A0H _ (A0H _ (A0H _ A0K)))))) (by kernel_rfl) (by kernel_rfl) Tryz.underlying183 Tryz.underlying5 (by kernel_rfl) (by kernel_rfl) (by kernel_rfl)
 ·exact Sym.laid_err h2 (A0H _ (A0H _ (A0H _ A0K))) (by kernel_rfl) (by kernel_rfl) Tryz.underlying133
theorem door_met(os : Os)(args : Array Value): laidMetH Tryz.prog Rows.syntaxMadeRow.laid ((World.doorLaid Tryz.prog 400 os).forCall (fun _ _ => 0) ⟨#[], args, []⟩).memory :=
 laidMetH_of_parts3 (fuel := 8) (laidMet_of_run' 8 (by kernel_rfl) (by kernel_rfl)) (by kernel_rfl) (by kernel_rfl)
theorem walk(l0 : List UInt8)(hl0 : l0.length <= 9223372036854775807)(v0 : Value)(a1 b1 c1 e1 : Nat)(ha1 : a1 < 256)(hb1 : b1 < 256)(hc1 : c1 < 256)(he1 : e1 < 256)(v1 : Value)(w : World)(hT : Sym.TabOk w)(hr0 : Sym.VRel (Sym.topR w hT) (.lst (Pb.bytesC l0)) v0)(hr1 : Sym.VRel (Sym.topR w hT) (.agg [.int .u8 (a1 : Int), .int .u8 (b1 : Int), .int .u8 (c1 : Int), .int .u8 (e1 : Int)]) v1):
  Calls Tryz.prog 3 #[v0, v1] w fun e w' => e = .returned (.bool true) /\ Below w.heap.size w w' := by
 have h := Sym.AC.top (P := Tryz.prog) (f := 3) (c_SyntaxMade l0 hl0 a1 b1 c1 e1 ha1 hb1 hc1 he1).ac w hT #[v0, v1] ⟨rfl, fun i x y hx hy => ?_⟩
 ·refine h.mono ?_;rintro e w' ⟨v, v', H', c', ρ', e1, q, hv, hb⟩;subst q;cases hv;exact⟨e1, hb⟩
 ·rcases i with _ |_ |_
  ·cases hx; cases hy; exact hr0
  ·cases hx; cases hy; exact hr1
  ·cases hx
set_option maxRecDepth 100000 in
theorem lifted(os : Os)(started : os.Started)(H : Type)(enc : TypeId × Value -> H):
  ReturnsInHanded {} Tryz.checked os 3 .any (fun w args => (Rows.syntaxMadeSpec.pre enc Tryz.prog Tryz.f3 [] false w args /\ laidMetH Tryz.prog Rows.syntaxMadeRow.laid w) /\ sizedMet enc Tryz.prog Tryz.f3 (OpenSpec.ofChange Rows.syntaxMadeSpec) false w args)
   (Rows.syntaxMadeSpec.post enc Tryz.prog Tryz.f3 false true false false) := by
 refine returnsInHanded_of_change_and (C := Tryz.checked) (X := fun w _ => laidMetH Tryz.prog Rows.syntaxMadeRow.laid w) (fun _ _ _ hh h => h.of_heap hh) own started (by kernel_rfl) Tryz.func3
  (ChangeSpec.witness_shaped (enc := enc) (C := Tryz.checked) (os := os) (X := fun w _ => laidMetH Tryz.prog Rows.syntaxMadeRow.laid w) false (World.doorLaid Tryz.prog 400 os) #[.slice none 0 0, .agg #[.int .u8 0, .int .u8 0, .int .u8 0, .int .u8 0]] 8 rfl (World.shaped_of_RefB (by kernel_rfl) (by kernel_rfl)) (by kernel_rfl) (by kernel_rfl) (by kernel_rfl) (door_met os _)) ?_
 intro W base args ds gs before hval0 hW _ _ hL _;have hval : ∀ (j : Nat) t v, Tryz.f3.params[j]? = some t -> args[j]? = some v -> Value.okWide Tryz.prog W .any base t v := hval0;have hW' := hW;obtain⟨p, q, hA0, hV, rfl, hfz, hnd⟩ := hW;have hA : DataW.TrodAll enc Tryz.prog W 0 (fun _ => true) true Tryz.f3.params.toList args.toList ds p := hA0;rw[Tryz.params3]at hA hval;have hAk := hA;obtain⟨v0, vs0, d0, ds0, p0, q0, hargs, rfl, rfl, h0, r0⟩ := trodAll_cons hA;obtain⟨v1, vs1, d1, ds1, p1, q1, rfl, rfl, rfl, h1, r1⟩ := trodAll_cons r0;obtain⟨rfl, rfl, rfl⟩ := trodAll_nil r1;obtain rfl : args = #[v0, v1] := by cases args; simp_all
 obtain⟨rfl, rfl⟩ := trodVars_none hV;have hT := tabOk hL;obtain⟨l0, hl0, hr0⟩ := Sym.open_bytes (hT := hT) Tryz.underlying22 Tryz.underlying5 C3l h0 (by obtain⟨a, n, c, rfl⟩ := okWide_slice Tryz.underlying22 (hval 0 22 _ rfl rfl); rfl);obtain⟨a1, b1, c1, e1, ha1, hb1, hc1, he1, hr1⟩ := Sym.open_arr4 (hT := hT) Tryz.underlying23 Tryz.underlying5 C3l h1 (D3t (hval 1 23 _ rfl rfl));clear hA0 hval0;refine (walk l0 hl0 v0 a1 b1 c1 e1 ha1 hb1 hc1 he1 v1 W hT hr0 hr1).mono fun e W' ⟨he, hg⟩ => ?_;subst he;refine⟨_, rfl, Go.Eng.post_of_below (pv := []) hW' (fun _ _ _ => (trodAll_cons_mk (shut_bool Tryz.underlying4 _) trodAll_mk0)) (fun sp hsp => ?_) (fun _ _ => rfl) rfl
  hg (ok_one (by kernel_rfl) rfl (okWide_bool_mk Tryz.underlying4 _))⟩
 have hT : ∀ t ∈ ([22, 23] : List TypeId), t < Tryz.prog.types.size := by
  intro t ht;simp only[A1E, A2F, or_false]at ht;rcases ht with rfl |rfl
  ·exact D2u
  ·exact D2t
 have hk := Sym.arg_kept kids full hg (sp := sp) hT hAk (fun x hx => hsp x (A2R _ hx));rw[Tryz.params3];exact hk
theorem C2s : (Rows.syntaxMadeRow.inPlace == Tryz.pinned.checked.prog.inPlace 3) = true := by kernel_rfl
theorem D8r : (Rows.syntaxMadeRow.unfollowed == Tryz.pinned.checked.prog.unfollowed 3) = true := by kernel_rfl
theorem D5i : (Rows.syntaxMadeRow.recurses == Tryz.pinned.checked.prog.recurses 3) = true := by kernel_rfl
theorem D8u : (Rows.syntaxMadeRow.named == Tryz.pinned.checked.prog.varsNamed 3) = true := by kernel_rfl
theorem D8t : (Rows.syntaxMadeRow.plainKeys == Tryz.pinned.checked.prog.plainKeys) = true := by kernel_rfl
theorem D8s : (Tryz.pinned.checked.prog.stopsHeard) = true := by kernel_rfl
theorem D8w : (Tryz.pinned.checked.prog.mayEnter) = true := by kernel_rfl
theorem D8y : (Rows.syntaxMadeRow.lifted == Tryz.pinned.checked.prog.liftsFinal) = true := by kernel_rfl
theorem D8x : (Tryz.pinned.checked.prog.make == some Rows.syntaxMadeRow.make) = true := by kernel_rfl
theorem D8z : (laidOutB Tryz.pinned.checked.prog) = true := by kernel_rfl
theorem D8v : (mapsRowed Tryz.pinned.checked.prog) = true := by kernel_rfl
theorem facts : joinedFacts Tryz.pinned.checked.prog 3 Tryz.f3 Rows.syntaxMadeSpec Rows.syntaxMadeRow = true := by
 unfold joinedFacts;rw[C2s, D8r, D5i, D8u, D8t, D8s, D8w, D8y, D8x, D8z, D8v]
 kernel_rfl
theorem named : Tryz.pinned.checked.prog.funcNamed Rows.syntaxMadeRow.func = some 3 := by kernel_rfl
theorem D8o : Tryz.f3.isInstance Tryz.pinned.checked.prog Rows.syntaxMadeRow.origin Rows.syntaxMadeRow.targs := of_decide_eq_true (by kernel_rfl)
theorem D2o : Tryz.f3.isWrapper Tryz.pinned.checked.prog Rows.syntaxMadeRow.wrapper Rows.syntaxMadeRow.mainSum := by unfold Func.isWrapper; first |(rw[if_pos (by decide +kernel)]; kernel_rfl) |(rw[if_neg (by decide +kernel)]; exact⟨rfl, rfl⟩)
theorem over : Rows.syntaxMadeRow.holds Tryz.pinned (OpenSpec.ofChange Rows.syntaxMadeSpec) :=
 OpenClaim.holds_of_wide 3 Tryz.f3 rfl rfl rfl rfl rfl rfl rfl ⟨rfl, rfl, rfl, rfl, rfl⟩ rfl rfl rfl rfl rfl named Tryz.func3 facts D8o D2o
  (fun os started H enc _ => lifted os started H enc)
theorem pw : Rows.syntaxMadeRow.wfByText (OpenSpec.ofChange Rows.syntaxMadeSpec) = true := by kernel_rfl
theorem pm : Tryz.pinned.checked.prog.mainIs = some (true, "2aecf2a5a65e74c7b380a7a95db76ec5ce3e0d4bac73dfc2f2f0a77f80a3d71f".toList) := by kernel_rfl
theorem pl : true = Tryz.pinned.checked.prog.looks [] := by kernel_rfl
theorem pg : false = Rows.syntaxMadeRow.goesBy Tryz.pinned.checked.prog := by kernel_rfl
theorem rowHolds : Rows.SyntaxMadeSaid := over
theorem proved : Rows.SyntaxMadeCardSaid :=
 Claim7.holds_tied_plain_at .later [] [.data, .data, .data, .sentinel, .sentinel, .listed, .data] true (true, "2aecf2a5a65e74c7b380a7a95db76ec5ce3e0d4bac73dfc2f2f0a77f80a3d71f") _
  rowHolds (fun _ h => by cases h) pw (fun _ h => by cases h) syntaxMade_row_tie rfl ⟨rfl, rfl⟩ pm rfl
  (fun f fn hf hfn => by
   obtain rfl : f = 3 := Option.some.inj ((show Tryz.prog.funcNamed Rows.syntaxMadeRow.func = some 3 by kernel_rfl).symm.trans hf) |>.symm;obtain rfl : fn = Tryz.f3 := (Option.some.inj (Tryz.func3.symm.trans hfn)).symm;exact⟨pl, fun j t ht => by
    rw[Tryz.params3]at ht;have hm : t ∈ [22, 23] := by simpa using Array.mem_of_getElem? ht
    have hall : ([22, 23].all fun u => !Tryz.prog.wantsStandIn u) = true := by kernel_rfl
    exact (show Tryz.prog.wantsStandIn t = false by simpa using A0Q.1 hall t hm)⟩)
  pg
end Go.Proofs.YtmmjlijdfhkdcaaGreatDoor.syntaxMade
#print axioms Go.Proofs.YtmmjlijdfhkdcaaGreatDoor.syntaxMade.proved
end
