/-
  CLAIM: SyntaxFormats holds where the arguments are of bulk at most 1048576, as the tied card of its second form says it: for every such input the law's call returns true and leaves its arguments as they were; the listed package variables (tables of the library) hold what the program's text lays.
-/
import Derived.Test.YthlpinppaclofaaGreatDoorSyfk
import Derived.Test.YthlpinppaclofaaGreatDoorRows
import Derived.Test.YthlpinppaclofaaGreatDoorTie
import Derived.Test.YthlpinppaclofaaGreatDoorCards
import Derived.WalkKit
import Derived.ProofKit
import Derived.OpenShut
import Derived.LaidMore
import Derived.JoinedCond
import Derived.Deep.DeepWitnessRowRef
import Derived.Stop.Joined
import Derived.SevenTiedAt
noncomputable section
namespace Go.Proofs.YthlpinppaclofaaGreatDoor.syntaxFormats
open Go.ChangeShapes Go.WideShapes Go.ChangeAt Go.RowKit
set_option linter.unusedVariables false
theorem own : ownKnob Tryz.prog.godebug = none := by kernel_rfl
theorem kids : Kids Tryz.prog (· < Tryz.prog.types.size) := kids_rows (by kernel_rfl) (by kernel_rfl)
theorem full : ∀ t e, t < Tryz.prog.types.size -> Tryz.prog.underlying t = some (.slice e) -> 0 < Tryz.prog.cellsOf e := slices_full_of Tryz.prog (by kernel_rfl)
theorem D2u : 39 < Tryz.prog.types.size := of_decide_eq_true (by kernel_rfl)
theorem tabOk {W : World} (h : laidMetH Tryz.prog Rows.syntaxFormatsUptoRow.laid W) : Sym.TabOk W := by
 have h2 : laidMet Tryz.prog Rows.syntaxFormatsUptoRow.laid W := h;intro x hx;have hx : x = ((1 : Nat), fun r => r = (Lib.pow10Tab.map fun z => Value.int .u64 z).toArray) \/ x = ((0 : Nat), fun r => r = (Lib.asciiSpaceTab.map fun z => Value.int .u8 z).toArray) \/ x = ((7 : Nat), fun r => ∃ te pe, r = #[.iface te pe]) := by simpa [Sym.Tab.tab] using hx
 rcases hx with rfl | rfl | rfl
 ·exact Sym.laid_tab h2 (A0J _ (A0J _ A0K)) (by kernel_rfl) (by kernel_rfl) Tryz.underlying200 Tryz.underlying184 (by kernel_rfl) (by kernel_rfl) (by kernel_rfl)
 ·exact Sym.laid_tab h2 (A0J _ (A0J _ (A0J _ (A0J _ (A0J _ (A0J _ A0K)))))) (by kernel_rfl) (by kernel_rfl) Tryz.underlying192 Tryz.underlying5 (by kernel_rfl) (by kernel_rfl) (by kernel_rfl)
 ·exact Sym.laid_err h2 (A0J _ (A0J _ (A0J _ A0K))) (by kernel_rfl) (by kernel_rfl) Tryz.underlying138
theorem door_met (os : Os) (args : Array Value) : laidMetH Tryz.prog Rows.syntaxFormatsUptoRow.laid ((World.doorLaid Tryz.prog 400 os).forCall (fun _ _ => 0) ⟨#[], args, []⟩).memory :=
 laidMetH_of_parts3 (fuel := 8) (laidMet_of_run' 8 (by kernel_rfl) (by kernel_rfl)) (by kernel_rfl) (by kernel_rfl)
theorem walk (l0 : Pb.Ru) (hl0 : l0.sz <= 1048576) (v0 : Value) (w : World) (hT : Sym.TabOk w) (hr0 : Sym.VRel (Sym.topR w hT) (Pb.Ru.v l0) v0) :
  Calls Tryz.prog 11 #[v0] w fun e w' => e = .returned (.bool true) /\ Below w.heap.size w w' := by
 have h := Sym.AC.top (P := Tryz.prog) (f := 11) (c_SyntaxFormats l0 hl0).ac w hT #[v0] ⟨rfl, fun i x y hx hy => ?_⟩
 ·refine h.mono ?_;rintro e w' ⟨v, v', H', c', ρ', e1, q, hv, hb⟩;subst q;cases hv;exact ⟨e1, hb⟩
 ·rcases i with _ | _
  ·cases hx; cases hy; exact hr0
  ·cases hx
theorem reads (os : Os) {H : Type} (enc : TypeId × Value -> H) : ∃ places, DataW.whole enc Tryz.prog ((World.doorLaid Tryz.prog 400 os).forCall (fun _ _ => 0) ⟨#[], #[.agg #[.slice none 0 0, .slice none 0 0]], []⟩).memory Tryz.f11.params.toList Rows.syntaxFormatsSpec.vars false (#[.agg #[.slice none 0 0, .slice none 0 0]] : Array Value).toList 8 = some ([.agg [.nil, .nil]], [], places) :=
 ⟨[], by kernel_rfl⟩
set_option maxRecDepth 100000 in
theorem lifted (os : Os) (started : os.Started) (H : Type) (enc : TypeId × Value -> H) (F : Stop.Interp) :
  ReturnsInHanded {} Tryz.checked os 11 .any ((Rows.OpenSpec.upto Rows.syntaxFormatsSpec).preRow enc Tryz.prog Tryz.f11 Rows.syntaxFormatsUptoRow.domain false Rows.syntaxFormatsUptoRow.laid) (((Rows.OpenSpec.upto Rows.syntaxFormatsSpec).at F).post enc Tryz.prog Tryz.f11 false true false false) := by
 obtain ⟨places, hx⟩ := reads os enc;refine returnsInHanded_of_row (C := Tryz.checked) (s := Rows.OpenSpec.upto Rows.syntaxFormatsSpec) own started (by kernel_rfl) Tryz.func11
  (witness_row_atRef (enc := enc) (C := Tryz.checked) false (World.doorLaid Tryz.prog 400 os) #[.agg #[.slice none 0 0, .slice none 0 0]] rfl (by kernel_rfl) (by kernel_rfl) (by kernel_rfl)
   (OpenSpec.preRow_of_cond 8 hx (by kernel_rfl) (fun k hk => by cases hk; kernel_rfl) (by kernel_rfl) (door_met os _))) ?_
 intro W base args ds gs before hval0 hW _ hcond _ hL _ _;have hk : Rows.uptoSmall H (ds ++ gs) = true := hcond _ rfl;have hval : ∀ (j : Nat) t v, Tryz.f11.params[j]? = some t -> args[j]? = some v -> Value.okWide Tryz.prog W .any base t v := hval0;have hW' := hW;obtain ⟨p, q, hA0, hV, rfl, hfz, hnd⟩ := hW;have hA : DataW.TrodAll enc Tryz.prog W 0 (fun _ => true) true Tryz.f11.params.toList args.toList ds p := hA0;rw [Tryz.params11] at hA hval;have hAk := hA;obtain ⟨v0, vs0, d0, ds0, p0, q0, hargs, rfl, rfl, h0, r0⟩ := trodAll_cons hA;obtain ⟨rfl, rfl, rfl⟩ := trodAll_nil r0;obtain rfl : args = #[v0] := by cases args; simp_all
 obtain ⟨rfl, rfl⟩ := trodVars_none hV;have hT := tabOk hL;obtain ⟨l0, hl0, hr0⟩ := Sym.ReadsB.arg1 (D7a (hT := hT) 1048576) (B2i hk (by simp)) h0 (by obtain ⟨cs, e, -⟩ := okWide_struct Tryz.underlying39 (hval 0 39 _ rfl rfl); exact ⟨cs, e⟩) (fun _ => ⟨_, rfl⟩);have hl0 := A2A hl0 (B2i hk (by simp));clear hA0 hval0;refine (walk l0 hl0 v0 W hT hr0).mono fun e W' ⟨he, hg⟩ => ?_;subst he;refine ⟨_, rfl, Go.Eng.post_of_below (pv := []) hW' (fun _ _ _ => (trodAll_cons_mk (shut_bool Tryz.underlying4 _) trodAll_mk0)) (fun sp hsp => ?_) (fun _ _ => rfl) rfl
  hg (ok_one (by kernel_rfl) rfl (okWide_bool_mk Tryz.underlying4 _))⟩
 have hT : ∀ t ∈ ([39] : List TypeId), t < Tryz.prog.types.size := by
  intro t ht;simp only [A1S, List.not_mem_nil, or_false] at ht;subst ht; exact D2u
 have hk := Sym.arg_kept kids full hg (sp := sp) hT hAk (fun x hx => hsp x (A3K _ hx));rw [Tryz.params11];exact hk
theorem facts : joinedFacts Tryz.pinned.checked.prog 11 Tryz.f11 (Rows.OpenSpec.upto Rows.syntaxFormatsSpec).bare Rows.syntaxFormatsUptoRow = true := by kernel_rfl
theorem D3y : Tryz.pinned.checked.prog.funcNamed Rows.syntaxFormatsUptoRow.func = some 11 := by kernel_rfl
theorem D8r : Tryz.f11.isInstance Tryz.pinned.checked.prog Rows.syntaxFormatsUptoRow.origin Rows.syntaxFormatsUptoRow.targs := of_decide_eq_true (by kernel_rfl)
theorem D2m : Tryz.f11.isWrapper Tryz.pinned.checked.prog Rows.syntaxFormatsUptoRow.wrapper Rows.syntaxFormatsUptoRow.mainSum := by unfold Func.isWrapper; first | (rw [if_pos (by decide +kernel)]; kernel_rfl) | (rw [if_neg (by decide +kernel)]; exact ⟨rfl, rfl⟩)
theorem over : Rows.syntaxFormatsUptoRow.holds Tryz.pinned (Rows.OpenSpec.upto Rows.syntaxFormatsSpec) :=
 OpenClaim.holds_of_cond 11 Tryz.f11 rfl rfl rfl rfl rfl rfl rfl ⟨rfl, rfl, rfl, rfl, rfl⟩ rfl rfl rfl rfl rfl D3y Tryz.func11 facts D8r D2m
  (fun os started H enc _ F => by rw [OpenClaim.pre_eq_preRow]; exact lifted os started H enc F)
theorem rowHolds : Rows.SyntaxFormatsUptoSaid := over
theorem proved : Rows.SyntaxFormatsUptoCardSaid :=
 Claim7.holds_tied_plain_at .later [] [.data, .data, .data, .sentinel, .sentinel, .listed, .data] true (true, "32574fb0439b3794d94b3a18a6d85312ef377853fed790a0b6859ef3533acd1a") _
  rowHolds (fun _ h => by cases h) (by kernel_rfl) (fun _ h => by cases h) syntaxFormatsUpto_row_tie rfl ⟨rfl, rfl⟩ (by kernel_rfl) rfl
  (fun f fn hf hfn => by
   obtain rfl : f = 11 := Option.some.inj ((show Tryz.prog.funcNamed Rows.syntaxFormatsUptoRow.func = some 11 by kernel_rfl).symm.trans hf) |>.symm;obtain rfl : fn = Tryz.f11 := (Option.some.inj (Tryz.func11.symm.trans hfn)).symm;exact ⟨by kernel_rfl, fun j t ht => by
    rw [Tryz.params11] at ht;have hm : t ∈ [39] := by simpa using Array.mem_of_getElem? ht
    have hall : ([39].all fun u => !Tryz.prog.wantsStandIn u) = true := by kernel_rfl
    exact (show Tryz.prog.wantsStandIn t = false by simpa using A0P.1 hall t hm)⟩)
  (by kernel_rfl)
end Go.Proofs.YthlpinppaclofaaGreatDoor.syntaxFormats
#print axioms Go.Proofs.YthlpinppaclofaaGreatDoor.syntaxFormats.proved
end
