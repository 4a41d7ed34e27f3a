/-
  CLAIM: SyntaxAssociates holds, as its tied card says it: for every input the law's call returns true and leaves its arguments as they were; the listed package variables (tables of the library) hold what the program's text lays.
-/
import Derived.Test.YthlpinppaclofaaGreatDoorSyai
import Derived.Test.YthlpinppaclofaaGreatDoorRows
import Derived.Test.YthlpinppaclofaaGreatDoorTie
import Derived.Test.YthlpinppaclofaaGreatDoorCards
import Derived.WalkKit
import Derived.ProofKit
import Derived.OpenShut
import Derived.LaidMore
import Derived.Stop.Joined
import Derived.SevenTiedAt
noncomputable section
namespace Go.Proofs.YthlpinppaclofaaGreatDoor.syntaxAssociates
open Go.ChangeShapes Go.WideShapes Go.ChangeAt Go.RowKit
set_option linter.unusedVariables false
theorem own : ownKnob Tryz.prog.godebug = none := by kernel_rfl
theorem kids : Kids Tryz.prog (· < Tryz.prog.types.size) := kids_rows (by kernel_rfl) (by kernel_rfl)
theorem full : ∀ t e, t < Tryz.prog.types.size -> Tryz.prog.underlying t = some (.slice e) -> 0 < Tryz.prog.cellsOf e := slices_full_of Tryz.prog (by kernel_rfl)
theorem row5 : 5 < Tryz.prog.types.size := of_decide_eq_true (by kernel_rfl)
theorem tabOk {W : World} (h : laidMetH Tryz.prog Rows.syntaxAssociatesRow.laid W) : Sym.TabOk W := by
 have h2 : laidMet Tryz.prog Rows.syntaxAssociatesRow.laid W := h;intro x hx;have hx : x = ((1 : Nat), fun r => r = (Lib.pow10Tab.map fun z => Value.int .u64 z).toArray) \/ x = ((0 : Nat), fun r => r = (Lib.asciiSpaceTab.map fun z => Value.int .u8 z).toArray) \/ x = ((7 : Nat), fun r => ∃ te pe, r = #[.iface te pe]) := by simpa [Sym.Tab.tab] using hx
 rcases hx with rfl | rfl | rfl
 ·exact Sym.laid_tab h2 (List.mem_cons_of_mem _ (List.mem_cons_of_mem _ List.mem_cons_self)) (by kernel_rfl) (by kernel_rfl) Tryz.underlying200 Tryz.underlying184 (by kernel_rfl) (by kernel_rfl) (by kernel_rfl)
 ·exact Sym.laid_tab h2 (List.mem_cons_of_mem _ (List.mem_cons_of_mem _ (List.mem_cons_of_mem _ (List.mem_cons_of_mem _ (List.mem_cons_of_mem _ (List.mem_cons_of_mem _ List.mem_cons_self)))))) (by kernel_rfl) (by kernel_rfl) Tryz.underlying192 Tryz.underlying5 (by kernel_rfl) (by kernel_rfl) (by kernel_rfl)
 ·exact Sym.laid_err h2 (List.mem_cons_of_mem _ (List.mem_cons_of_mem _ (List.mem_cons_of_mem _ List.mem_cons_self))) (by kernel_rfl) (by kernel_rfl) Tryz.underlying138
theorem door_met (os : Os) (args : Array Value) : laidMetH Tryz.prog Rows.syntaxAssociatesRow.laid ((World.doorLaid Tryz.prog 400 os).forCall (fun _ _ => 0) ⟨#[], args, []⟩).memory :=
 laidMetH_of_parts3 (fuel := 8) (laidMet_of_run' 8 (by kernel_rfl) (by kernel_rfl)) (by kernel_rfl) (by kernel_rfl)
theorem walk (u0 : UInt8) (v0 : Value) (u1 : UInt8) (v1 : Value) (w : World) (hT : Sym.TabOk w) (hr0 : Sym.VRel (Sym.topR w hT) (.int .u8 (u0.toNat : Int)) v0) (hr1 : Sym.VRel (Sym.topR w hT) (.int .u8 (u1.toNat : Int)) v1) :
  Calls Tryz.prog 9 #[v0, v1] w fun e w' => e = .returned (.bool true) /\ Below w.heap.size w w' := by
 have h := Sym.AC.top (P := Tryz.prog) (f := 9) (c_SyntaxAssociates u0 u1).ac w hT #[v0, v1] ⟨rfl, fun i x y hx hy => ?_⟩
 ·refine h.mono ?_;rintro e w' ⟨v, v', H', c', ρ', e1, q, hv, hb⟩;subst q;cases hv;exact ⟨e1, hb⟩
 ·rcases i with _ | _ | _
  ·cases hx; cases hy; exact hr0
  ·cases hx; cases hy; exact hr1
  ·cases hx
set_option maxRecDepth 100000 in
theorem lifted (os : Os) (started : os.Started) (H : Type) (enc : TypeId × Value -> H) :
  ReturnsInHanded {} Tryz.checked os 9 .any (fun w args => (Rows.syntaxAssociatesSpec.pre enc Tryz.prog Tryz.f9 [] false w args /\ laidMetH Tryz.prog Rows.syntaxAssociatesRow.laid w) /\ sizedMet enc Tryz.prog Tryz.f9 (OpenSpec.ofChange Rows.syntaxAssociatesSpec) false w args)
   (Rows.syntaxAssociatesSpec.post enc Tryz.prog Tryz.f9 false true false false) := by
 refine returnsInHanded_of_change_and (C := Tryz.checked) (X := fun w _ => laidMetH Tryz.prog Rows.syntaxAssociatesRow.laid w) (fun _ _ _ hh h => h.of_heap hh) own started (by kernel_rfl) Tryz.func9
  (ChangeSpec.witness_shaped (enc := enc) (C := Tryz.checked) (os := os) (X := fun w _ => laidMetH Tryz.prog Rows.syntaxAssociatesRow.laid w) false (World.doorLaid Tryz.prog 400 os) #[.int .u8 0, .int .u8 0] 8 rfl (World.shaped_of_RefB (by kernel_rfl) (by kernel_rfl)) (by kernel_rfl) (by kernel_rfl) (by kernel_rfl) (door_met os _)) ?_
 intro W base args ds gs before hval0 hW _ _ hL _;have hval : ∀ (j : Nat) t v, Tryz.f9.params[j]? = some t -> args[j]? = some v -> Value.okWide Tryz.prog W .any base t v := hval0;have hW' := hW;obtain ⟨p, q, hA0, hV, rfl, hfz, hnd⟩ := hW;have hA : DataW.TrodAll enc Tryz.prog W 0 (fun _ => true) true Tryz.f9.params.toList args.toList ds p := hA0;rw [Tryz.params9] at hA hval;have hAk := hA;obtain ⟨v0, vs0, d0, ds0, p0, q0, hargs, rfl, rfl, h0, r0⟩ := trodAll_cons hA;obtain ⟨v1, vs1, d1, ds1, p1, q1, rfl, rfl, rfl, h1, r1⟩ := trodAll_cons r0;obtain ⟨rfl, rfl, rfl⟩ := trodAll_nil r1;obtain rfl : args = #[v0, v1] := by cases args; simp_all
 obtain ⟨rfl, rfl⟩ := trodVars_none hV;have hT := tabOk hL;obtain ⟨u0, hr0⟩ := Sym.open_u8 (hT := hT) Tryz.underlying5 (hval 0 5 _ rfl rfl) h0;obtain ⟨u1, hr1⟩ := Sym.open_u8 (hT := hT) Tryz.underlying5 (hval 1 5 _ rfl rfl) h1;clear hA0 hval0;refine (walk u0 v0 u1 v1 W hT hr0 hr1).mono fun e W' ⟨he, hg⟩ => ?_;subst he;refine ⟨_, rfl, Go.Eng.post_of_below (pv := []) hW' (fun _ _ _ => (trodAll_cons_mk (shut_bool Tryz.underlying4 _) trodAll_mk0)) (fun sp hsp => ?_) (fun _ _ => rfl) rfl
  hg (ok_one (by kernel_rfl) rfl (okWide_bool_mk Tryz.underlying4 _))⟩
 have hT : ∀ t ∈ ([5, 5] : List TypeId), t < Tryz.prog.types.size := by
  intro t ht;simp only [List.mem_cons, List.not_mem_nil, or_false, or_self] at ht;subst ht; exact row5
 have hk := Sym.arg_kept kids full hg (sp := sp) hT hAk (fun x hx => hsp x (List.mem_append_left _ hx));rw [Tryz.params9];exact hk
theorem over : Rows.syntaxAssociatesRow.holds Tryz.pinned (OpenSpec.ofChange Rows.syntaxAssociatesSpec) :=
 OpenClaim.holds_of_wide 9 Tryz.f9 rfl rfl rfl rfl rfl rfl rfl ⟨rfl, rfl, rfl, rfl, rfl⟩ rfl rfl rfl rfl rfl (by kernel_rfl) Tryz.func9 (by kernel_rfl)
  (of_decide_eq_true (by kernel_rfl)) (by unfold Func.isWrapper; first | (rw [if_pos (by decide +kernel)]; kernel_rfl) | (rw [if_neg (by decide +kernel)]; exact ⟨rfl, rfl⟩))
  (fun os started H enc _ => lifted os started H enc)
theorem rowHolds : Rows.SyntaxAssociatesSaid := over
theorem proved : Rows.SyntaxAssociatesCardSaid :=
 Claim7.holds_tied_plain_at .later [] [.data, .data, .data, .sentinel, .sentinel, .listed, .data] true (true, "32574fb0439b3794d94b3a18a6d85312ef377853fed790a0b6859ef3533acd1a") _
  rowHolds (fun _ h => by cases h) (by kernel_rfl) (fun _ h => by cases h) syntaxAssociates_row_tie rfl ⟨rfl, rfl⟩ (by kernel_rfl) rfl
  (fun f fn hf hfn => by
   obtain rfl : f = 9 := Option.some.inj ((show Tryz.prog.funcNamed Rows.syntaxAssociatesRow.func = some 9 by kernel_rfl).symm.trans hf) |>.symm;obtain rfl : fn = Tryz.f9 := (Option.some.inj (Tryz.func9.symm.trans hfn)).symm;exact ⟨by kernel_rfl, fun j t ht => by
    rw [Tryz.params9] at ht;have hm : t ∈ [5, 5] := by simpa using Array.mem_of_getElem? ht
    have hall : ([5, 5].all fun u => !Tryz.prog.wantsStandIn u) = true := by kernel_rfl
    exact (show Tryz.prog.wantsStandIn t = false by simpa using List.all_eq_true.1 hall t hm)⟩)
  (by kernel_rfl)
end Go.Proofs.YthlpinppaclofaaGreatDoor.syntaxAssociates
#print axioms Go.Proofs.YthlpinppaclofaaGreatDoor.syntaxAssociates.proved
end
