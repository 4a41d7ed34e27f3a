/-
  CLAIM: SyntaxBack holds, as its tied card says it: for every input the law's call returns true and leaves its arguments as they were; the listed package variables (tables of the library) hold what the program's text lays.
-/
import Derived.Test.YthlpinppaclofaaGreatDoorSybk
import Derived.Test.YthlpinppaclofaaGreatDoorRows
import Derived.Test.YthlpinppaclofaaGreatDoorTie
import Derived.Test.YthlpinppaclofaaGreatDoorCards
import Derived.WalkKit
import Derived.ProofKit
import Derived.OpenShut
import Derived.LaidMore
import Derived.Stop.Joined
import Derived.SevenTiedAt
noncomputable section
namespace Go.Proofs.YthlpinppaclofaaGreatDoor.syntaxBack
open Go.ChangeShapes Go.WideShapes Go.ChangeAt Go.RowKit
set_option linter.unusedVariables false
theorem own : ownKnob Tryz.prog.godebug = none := by kernel_rfl
theorem kids : Kids Tryz.prog (· < Tryz.prog.types.size) := kids_rows (by kernel_rfl) (by kernel_rfl)
theorem full : ∀ t e, t < Tryz.prog.types.size -> Tryz.prog.underlying t = some (.slice e) -> 0 < Tryz.prog.cellsOf e := slices_full_of Tryz.prog (by kernel_rfl)
theorem E2y : 22 < Tryz.prog.types.size := of_decide_eq_true (by kernel_rfl)
theorem D1n : Tryz.prog.cellsOf 5 = 1 := by kernel_rfl
theorem tabOk {W : World} (h : laidMetH Tryz.prog Rows.syntaxBackRow.laid W) : Sym.TabOk W := by
 have h2 : laidMet Tryz.prog Rows.syntaxBackRow.laid W := h;intro x hx;have hx : x = ((1 : Nat), fun r => r = (Lib.pow10Tab.map fun z => Value.int .u64 z).toArray) \/ x = ((0 : Nat), fun r => r = (Lib.asciiSpaceTab.map fun z => Value.int .u8 z).toArray) \/ x = ((7 : Nat), fun r => ∃ te pe, r = #[.iface te pe]) := by simpa [Sym.Tab.tab] using hx
 rcases hx with rfl | rfl | rfl
 ·exact Sym.laid_tab h2 (A0J _ (A0J _ A0L)) (by kernel_rfl) (by kernel_rfl) Tryz.underlying200 Tryz.underlying184 (by kernel_rfl) (by kernel_rfl) (by kernel_rfl)
 ·exact Sym.laid_tab h2 (A0J _ (A0J _ (A0J _ (A0J _ (A0J _ (A0J _ A0L)))))) (by kernel_rfl) (by kernel_rfl) Tryz.underlying192 Tryz.underlying5 (by kernel_rfl) (by kernel_rfl) (by kernel_rfl)
 ·exact Sym.laid_err h2 (A0J _ (A0J _ (A0J _ A0L))) (by kernel_rfl) (by kernel_rfl) Tryz.underlying138
theorem door_met (os : Os) (args : Array Value) : laidMetH Tryz.prog Rows.syntaxBackRow.laid ((World.doorLaid Tryz.prog 400 os).forCall (fun _ _ => 0) ⟨#[], args, []⟩).memory :=
 laidMetH_of_parts3 (fuel := 8) (laidMet_of_run' 8 (by kernel_rfl) (by kernel_rfl)) (by kernel_rfl) (by kernel_rfl)
theorem walk (l0 : List UInt8) (hl0 : l0.length <= 9223372036854775807) (v0 : Value) (l1 : List UInt8) (hl1 : l1.length <= 9223372036854775807) (v1 : Value) (w : World) (hT : Sym.TabOk w) (hr0 : Sym.VRel (Sym.topR w hT) (.lst (Pb.bytesC l0)) v0) (hr1 : Sym.VRel (Sym.topR w hT) (.lst (Pb.bytesC l1)) v1) :
  Calls Tryz.prog 10 #[v0, v1] w fun e w' => e = .returned (.bool true) /\ Below w.heap.size w w' := by
 have h := Sym.AC.top (P := Tryz.prog) (f := 10) (c_SyntaxBack l0 hl0 l1 hl1).ac w hT #[v0, v1] ⟨rfl, fun i x y hx hy => ?_⟩
 ·refine h.mono ?_;rintro e w' ⟨v, v', H', c', ρ', e1, q, hv, hb⟩;subst q;cases hv;exact ⟨e1, hb⟩
 ·rcases i with _ | _ | _
  ·cases hx; cases hy; exact hr0
  ·cases hx; cases hy; exact hr1
  ·cases hx
set_option maxRecDepth 100000 in
theorem lifted (os : Os) (started : os.Started) (H : Type) (enc : TypeId × Value -> H) :
  ReturnsInHanded {} Tryz.checked os 10 .any (fun w args => (Rows.syntaxBackSpec.pre enc Tryz.prog Tryz.f10 [] false w args /\ laidMetH Tryz.prog Rows.syntaxBackRow.laid w) /\ sizedMet enc Tryz.prog Tryz.f10 (OpenSpec.ofChange Rows.syntaxBackSpec) false w args)
   (Rows.syntaxBackSpec.post enc Tryz.prog Tryz.f10 false true false false) := by
 refine returnsInHanded_of_change_and (C := Tryz.checked) (X := fun w _ => laidMetH Tryz.prog Rows.syntaxBackRow.laid w) (fun _ _ _ hh h => h.of_heap hh) own started (by kernel_rfl) Tryz.func10
  (ChangeSpec.witness_shaped (enc := enc) (C := Tryz.checked) (os := os) (X := fun w _ => laidMetH Tryz.prog Rows.syntaxBackRow.laid w) false (World.doorLaid Tryz.prog 400 os) #[.slice none 0 0, .slice none 0 0] 8 rfl (World.shaped_of_RefB (by kernel_rfl) (by kernel_rfl)) (by kernel_rfl) (by kernel_rfl) (by kernel_rfl) (door_met os _)) ?_
 intro W base args ds gs before hval0 hW _ _ hL _;have hval : ∀ (j : Nat) t v, Tryz.f10.params[j]? = some t -> args[j]? = some v -> Value.okWide Tryz.prog W .any base t v := hval0;have hW' := hW;obtain ⟨p, q, hA0, hV, rfl, hfz, hnd⟩ := hW;have hA : DataW.TrodAll enc Tryz.prog W 0 (fun _ => true) true Tryz.f10.params.toList args.toList ds p := hA0;rw [Tryz.params10] at hA hval;have hAk := hA;obtain ⟨v0, vs0, d0, ds0, p0, q0, hargs, rfl, rfl, h0, r0⟩ := trodAll_cons hA;obtain ⟨v1, vs1, d1, ds1, p1, q1, rfl, rfl, rfl, h1, r1⟩ := trodAll_cons r0;obtain ⟨rfl, rfl, rfl⟩ := trodAll_nil r1;obtain rfl : args = #[v0, v1] := by cases args; simp_all
 obtain ⟨rfl, rfl⟩ := trodVars_none hV;have hT := tabOk hL;obtain ⟨l0, hl0, hr0⟩ := Sym.open_bytes (hT := hT) Tryz.underlying22 Tryz.underlying5 D1n h0 (by obtain ⟨a, n, c, rfl⟩ := okWide_slice Tryz.underlying22 (hval 0 22 _ rfl rfl); rfl);obtain ⟨l1, hl1, hr1⟩ := Sym.open_bytes (hT := hT) Tryz.underlying22 Tryz.underlying5 D1n h1 (by obtain ⟨a, n, c, rfl⟩ := okWide_slice Tryz.underlying22 (hval 1 22 _ rfl rfl); rfl);clear hA0 hval0;refine (walk l0 hl0 v0 l1 hl1 v1 W hT hr0 hr1).mono fun e W' ⟨he, hg⟩ => ?_;subst he;refine ⟨_, rfl, Go.Eng.post_of_below (pv := []) hW' (fun _ _ _ => (trodAll_cons_mk (shut_bool Tryz.underlying4 _) trodAll_mk0)) (fun sp hsp => ?_) (fun _ _ => rfl) rfl
  hg (ok_one (by kernel_rfl) rfl (okWide_bool_mk Tryz.underlying4 _))⟩
 have hT : ∀ t ∈ ([22, 22] : List TypeId), t < Tryz.prog.types.size := by
  intro t ht;simp only [A1D, A2I, or_false, or_self] at ht;subst ht; exact E2y
 have hk := Sym.arg_kept kids full hg (sp := sp) hT hAk (fun x hx => hsp x (A3A _ hx));rw [Tryz.params10];exact hk
theorem over : Rows.syntaxBackRow.holds Tryz.pinned (OpenSpec.ofChange Rows.syntaxBackSpec) :=
 OpenClaim.holds_of_wide 10 Tryz.f10 rfl rfl rfl rfl rfl rfl rfl ⟨rfl, rfl, rfl, rfl, rfl⟩ rfl rfl rfl rfl rfl (by kernel_rfl) Tryz.func10 (by kernel_rfl)
  (of_decide_eq_true (by kernel_rfl)) (by unfold Func.isWrapper; first | (rw [if_pos (by decide +kernel)]; kernel_rfl) | (rw [if_neg (by decide +kernel)]; exact ⟨rfl, rfl⟩))
  (fun os started H enc _ => lifted os started H enc)
theorem rowHolds : Rows.SyntaxBackSaid := over
theorem proved : Rows.SyntaxBackCardSaid :=
 Claim7.holds_tied_plain_at .later [] [.data, .data, .data, .sentinel, .sentinel, .listed, .data] true (true, "32574fb0439b3794d94b3a18a6d85312ef377853fed790a0b6859ef3533acd1a") _
  rowHolds (fun _ h => by cases h) (by kernel_rfl) (fun _ h => by cases h) syntaxBack_row_tie rfl ⟨rfl, rfl⟩ (by kernel_rfl) rfl
  (fun f fn hf hfn => by
   obtain rfl : f = 10 := Option.some.inj ((show Tryz.prog.funcNamed Rows.syntaxBackRow.func = some 10 by kernel_rfl).symm.trans hf) |>.symm;obtain rfl : fn = Tryz.f10 := (Option.some.inj (Tryz.func10.symm.trans hfn)).symm;exact ⟨by kernel_rfl, fun j t ht => by
    rw [Tryz.params10] at ht;have hm : t ∈ [22, 22] := by simpa using Array.mem_of_getElem? ht
    have hall : ([22, 22].all fun u => !Tryz.prog.wantsStandIn u) = true := by kernel_rfl
    exact (show Tryz.prog.wantsStandIn t = false by simpa using A0Q.1 hall t hm)⟩)
  (by kernel_rfl)
end Go.Proofs.YthlpinppaclofaaGreatDoor.syntaxBack
#print axioms Go.Proofs.YthlpinppaclofaaGreatDoor.syntaxBack.proved
end
