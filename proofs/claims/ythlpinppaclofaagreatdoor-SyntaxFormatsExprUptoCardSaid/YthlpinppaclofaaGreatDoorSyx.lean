/-
  CLAIM: SyntaxFormatsExpr holds where the arguments are of bulk at most 1048576, as the tied card of its second form says it: for every such input the law's call returns true and leaves its arguments as they were; the listed package variables (tables of the library) hold what the program's text lays.
-/
import Derived.Test.YthlpinppaclofaaGreatDoorSyxj
import Derived.Test.YthlpinppaclofaaGreatDoorRows
import Derived.Test.YthlpinppaclofaaGreatDoorTie
import Derived.Test.YthlpinppaclofaaGreatDoorCards
import Derived.WalkKit
import Derived.ProofKit
import Derived.OpenShut
import Derived.LaidMore
import Derived.JoinedCond
import Derived.Deep.DeepWitnessRowRef
import Derived.Stop.Joined
import Derived.SevenTiedAt
noncomputable section
namespace Go.Proofs.YthlpinppaclofaaGreatDoor.syntaxFormatsExpr
open Go.ChangeShapes Go.WideShapes Go.ChangeAt Go.RowKit
set_option linter.unusedVariables false
theorem own : ownKnob Tryz.prog.godebug = none := by kernel_rfl
theorem kids : Kids Tryz.prog (· < Tryz.prog.types.size) := kids_rows (by kernel_rfl) (by kernel_rfl)
theorem full : ∀ t e, t < Tryz.prog.types.size -> Tryz.prog.underlying t = some (.slice e) -> 0 < Tryz.prog.cellsOf e := slices_full_of Tryz.prog (by kernel_rfl)
theorem row5 : 5 < Tryz.prog.types.size := of_decide_eq_true (by kernel_rfl)
theorem row22 : 22 < Tryz.prog.types.size := of_decide_eq_true (by kernel_rfl)
theorem row55 : 55 < Tryz.prog.types.size := of_decide_eq_true (by kernel_rfl)
theorem cellsB : Tryz.prog.cellsOf 5 = 1 := by kernel_rfl
theorem tabOk {W : World} (h : laidMetH Tryz.prog Rows.syntaxFormatsExprUptoRow.laid W) : Sym.TabOk W := by
 have h2 : laidMet Tryz.prog Rows.syntaxFormatsExprUptoRow.laid W := h;intro x hx;have hx : x = ((1 : Nat), fun r => r = (Lib.pow10Tab.map fun z => Value.int .u64 z).toArray) \/ x = ((0 : Nat), fun r => r = (Lib.asciiSpaceTab.map fun z => Value.int .u8 z).toArray) \/ x = ((7 : Nat), fun r => ∃ te pe, r = #[.iface te pe]) := by simpa [Sym.Tab.tab] using hx
 rcases hx with rfl | rfl | rfl
 ·exact Sym.laid_tab h2 (List.mem_cons_of_mem _ (List.mem_cons_of_mem _ List.mem_cons_self)) (by kernel_rfl) (by kernel_rfl) Tryz.underlying200 Tryz.underlying184 (by kernel_rfl) (by kernel_rfl) (by kernel_rfl)
 ·exact Sym.laid_tab h2 (List.mem_cons_of_mem _ (List.mem_cons_of_mem _ (List.mem_cons_of_mem _ (List.mem_cons_of_mem _ (List.mem_cons_of_mem _ (List.mem_cons_of_mem _ List.mem_cons_self)))))) (by kernel_rfl) (by kernel_rfl) Tryz.underlying192 Tryz.underlying5 (by kernel_rfl) (by kernel_rfl) (by kernel_rfl)
 ·exact Sym.laid_err h2 (List.mem_cons_of_mem _ (List.mem_cons_of_mem _ (List.mem_cons_of_mem _ List.mem_cons_self))) (by kernel_rfl) (by kernel_rfl) Tryz.underlying138
theorem door_met (os : Os) (args : Array Value) : laidMetH Tryz.prog Rows.syntaxFormatsExprUptoRow.laid ((World.doorLaid Tryz.prog 400 os).forCall (fun _ _ => 0) ⟨#[], args, []⟩).memory :=
 laidMetH_of_parts3 (fuel := 8) (laidMet_of_run' 8 (by kernel_rfl) (by kernel_rfl)) (by kernel_rfl) (by kernel_rfl)
theorem walk (l0 : Pb.Ex) (hl0 : l0.sz <= 1048576) (v0 : Value) (l1 : List UInt8) (hl1 : l1.length <= 9223372036854775807) (v1 : Value) (u2 : UInt8) (v2 : Value) (w : World) (hT : Sym.TabOk w) (hr0 : Sym.VRel (Sym.topR w hT) (Pb.Ex.v l0) v0) (hr1 : Sym.VRel (Sym.topR w hT) (.lst (Pb.bytesC l1)) v1) (hr2 : Sym.VRel (Sym.topR w hT) (.int .u8 (u2.toNat : Int)) v2) :
  Calls Tryz.prog 7 #[v0, v1, v2] w fun e w' => e = .returned (.bool true) /\ Below w.heap.size w w' := by
 have h := Sym.AC.top (P := Tryz.prog) (f := 7) (c_SyntaxFormatsExpr l0 hl0 l1 hl1 u2.toNat u2.toNat_lt).ac w hT #[v0, v1, v2] ⟨rfl, fun i x y hx hy => ?_⟩
 ·refine h.mono ?_;rintro e w' ⟨v, v', H', c', ρ', e1, q, hv, hb⟩;subst q;cases hv;exact ⟨e1, hb⟩
 ·rcases i with _ | _ | _ | _
  ·cases hx; cases hy; exact hr0
  ·cases hx; cases hy; exact hr1
  ·cases hx; cases hy; exact hr2
  ·cases hx
theorem reads (os : Os) {H : Type} (enc : TypeId × Value -> H) : ∃ places, DataW.whole enc Tryz.prog ((World.doorLaid Tryz.prog 400 os).forCall (fun _ _ => 0) ⟨#[], #[.agg #[.int .i64 0, .int .i64 0, .string ⟨#[]⟩, .slice none 0 0, .int .i64 0], .slice none 0 0, .int .u8 0], []⟩).memory Tryz.f7.params.toList Rows.syntaxFormatsExprSpec.vars false (#[.agg #[.int .i64 0, .int .i64 0, .string ⟨#[]⟩, .slice none 0 0, .int .i64 0], .slice none 0 0, .int .u8 0] : Array Value).toList 8 = some ([.agg [.lit (.int .i64 0), .lit (.int .i64 0), .lit (.string []), .nil, .lit (.int .i64 0)], .nil, .lit (.int .u8 0)], [], places) :=
 ⟨[], by kernel_rfl⟩
set_option maxRecDepth 100000 in
theorem lifted (os : Os) (started : os.Started) (H : Type) (enc : TypeId × Value -> H) (F : Stop.Interp) :
  ReturnsInHanded {} Tryz.checked os 7 .any ((Rows.OpenSpec.upto Rows.syntaxFormatsExprSpec).preRow enc Tryz.prog Tryz.f7 Rows.syntaxFormatsExprUptoRow.domain false Rows.syntaxFormatsExprUptoRow.laid) (((Rows.OpenSpec.upto Rows.syntaxFormatsExprSpec).at F).post enc Tryz.prog Tryz.f7 false true false false) := by
 obtain ⟨places, hx⟩ := reads os enc;refine returnsInHanded_of_row (C := Tryz.checked) (s := Rows.OpenSpec.upto Rows.syntaxFormatsExprSpec) own started (by kernel_rfl) Tryz.func7
  (witness_row_atRef (enc := enc) (C := Tryz.checked) false (World.doorLaid Tryz.prog 400 os) #[.agg #[.int .i64 0, .int .i64 0, .string ⟨#[]⟩, .slice none 0 0, .int .i64 0], .slice none 0 0, .int .u8 0] rfl (by kernel_rfl) (by kernel_rfl) (by kernel_rfl)
   (OpenSpec.preRow_of_cond 8 hx (by kernel_rfl) (fun k hk => by cases hk; kernel_rfl) (by kernel_rfl) (door_met os _))) ?_
 intro W base args ds gs before hval0 hW _ hcond _ hL _ _;have hk : Rows.uptoSmall H (ds ++ gs) = true := hcond _ rfl;have hval : ∀ (j : Nat) t v, Tryz.f7.params[j]? = some t -> args[j]? = some v -> Value.okWide Tryz.prog W .any base t v := hval0;have hW' := hW;obtain ⟨p, q, hA0, hV, rfl, hfz, hnd⟩ := hW;have hA : DataW.TrodAll enc Tryz.prog W 0 (fun _ => true) true Tryz.f7.params.toList args.toList ds p := hA0;rw [Tryz.params7] at hA hval;have hAk := hA;obtain ⟨v0, vs0, d0, ds0, p0, q0, hargs, rfl, rfl, h0, r0⟩ := trodAll_cons hA;obtain ⟨v1, vs1, d1, ds1, p1, q1, rfl, rfl, rfl, h1, r1⟩ := trodAll_cons r0;obtain ⟨v2, vs2, d2, ds2, p2, q2, rfl, rfl, rfl, h2, r2⟩ := trodAll_cons r1;obtain ⟨rfl, rfl, rfl⟩ := trodAll_nil r2;obtain rfl : args = #[v0, v1, v2] := by cases args; simp_all
 obtain ⟨rfl, rfl⟩ := trodVars_none hV;have hT := tabOk hL;obtain ⟨l0, hl0, hr0⟩ := Sym.ReadsB.arg1 (rbEx (hT := hT) 1048576) (upto_mem hk (by simp)) h0 (by obtain ⟨cs, e, -⟩ := okWide_struct Tryz.underlying55 (hval 0 55 _ rfl rfl); exact ⟨cs, e⟩) (fun a => ⟨_, Pb.Ex.v_w a⟩);have hl0 := Nat.le_trans hl0 (upto_mem hk (by simp));obtain ⟨l1, hl1, hr1⟩ := Sym.open_bytes (hT := hT) Tryz.underlying22 Tryz.underlying5 cellsB h1 (by obtain ⟨a, n, c, rfl⟩ := okWide_slice Tryz.underlying22 (hval 1 22 _ rfl rfl); rfl);obtain ⟨u2, hr2⟩ := Sym.open_u8 (hT := hT) Tryz.underlying5 (hval 2 5 _ rfl rfl) h2;clear hA0 hval0;refine (walk l0 hl0 v0 l1 hl1 v1 u2 v2 W hT hr0 hr1 hr2).mono fun e W' ⟨he, hg⟩ => ?_;subst he;refine ⟨_, rfl, Go.Eng.post_of_below (pv := []) hW' (fun _ _ _ => (trodAll_cons_mk (shut_bool Tryz.underlying4 _) trodAll_mk0)) (fun sp hsp => ?_) (fun _ _ => rfl) rfl
  hg (ok_one (by kernel_rfl) rfl (okWide_bool_mk Tryz.underlying4 _))⟩
 have hT : ∀ t ∈ ([55, 22, 5] : List TypeId), t < Tryz.prog.types.size := by
  intro t ht;simp only [List.mem_cons, List.not_mem_nil, or_false] at ht;rcases ht with rfl | rfl | rfl
  ·exact row55
  ·exact row22
  ·exact row5
 have hk := Sym.arg_kept kids full hg (sp := sp) hT hAk (fun x hx => hsp x (List.mem_append_left _ hx));rw [Tryz.params7];exact hk
theorem facts : joinedFacts Tryz.pinned.checked.prog 7 Tryz.f7 (Rows.OpenSpec.upto Rows.syntaxFormatsExprSpec).bare Rows.syntaxFormatsExprUptoRow = true := by kernel_rfl
theorem named : Tryz.pinned.checked.prog.funcNamed Rows.syntaxFormatsExprUptoRow.func = some 7 := by kernel_rfl
theorem inst : Tryz.f7.isInstance Tryz.pinned.checked.prog Rows.syntaxFormatsExprUptoRow.origin Rows.syntaxFormatsExprUptoRow.targs := of_decide_eq_true (by kernel_rfl)
theorem wraps : Tryz.f7.isWrapper Tryz.pinned.checked.prog Rows.syntaxFormatsExprUptoRow.wrapper Rows.syntaxFormatsExprUptoRow.mainSum := by unfold Func.isWrapper; first | (rw [if_pos (by decide +kernel)]; kernel_rfl) | (rw [if_neg (by decide +kernel)]; exact ⟨rfl, rfl⟩)
theorem over : Rows.syntaxFormatsExprUptoRow.holds Tryz.pinned (Rows.OpenSpec.upto Rows.syntaxFormatsExprSpec) :=
 OpenClaim.holds_of_cond 7 Tryz.f7 rfl rfl rfl rfl rfl rfl rfl ⟨rfl, rfl, rfl, rfl, rfl⟩ rfl rfl rfl rfl rfl named Tryz.func7 facts inst wraps
  (fun os started H enc _ F => by rw [OpenClaim.pre_eq_preRow]; exact lifted os started H enc F)
theorem rowHolds : Rows.SyntaxFormatsExprUptoSaid := over
theorem proved : Rows.SyntaxFormatsExprUptoCardSaid :=
 Claim7.holds_tied_plain_at .later [] [.data, .data, .data, .sentinel, .sentinel, .listed, .data] true (true, "32574fb0439b3794d94b3a18a6d85312ef377853fed790a0b6859ef3533acd1a") _
  rowHolds (fun _ h => by cases h) (by kernel_rfl) (fun _ h => by cases h) syntaxFormatsExprUpto_row_tie rfl ⟨rfl, rfl⟩ (by kernel_rfl) rfl
  (fun f fn hf hfn => by
   obtain rfl : f = 7 := Option.some.inj ((show Tryz.prog.funcNamed Rows.syntaxFormatsExprUptoRow.func = some 7 by kernel_rfl).symm.trans hf) |>.symm;obtain rfl : fn = Tryz.f7 := (Option.some.inj (Tryz.func7.symm.trans hfn)).symm;exact ⟨by kernel_rfl, fun j t ht => by
    rw [Tryz.params7] at ht;have hm : t ∈ [55, 22, 5] := by simpa using Array.mem_of_getElem? ht
    have hall : ([55, 22, 5].all fun u => !Tryz.prog.wantsStandIn u) = true := by kernel_rfl
    exact (show Tryz.prog.wantsStandIn t = false by simpa using List.all_eq_true.1 hall t hm)⟩)
  (by kernel_rfl)
end Go.Proofs.YthlpinppaclofaaGreatDoor.syntaxFormatsExpr
#print axioms Go.Proofs.YthlpinppaclofaaGreatDoor.syntaxFormatsExpr.proved
end
