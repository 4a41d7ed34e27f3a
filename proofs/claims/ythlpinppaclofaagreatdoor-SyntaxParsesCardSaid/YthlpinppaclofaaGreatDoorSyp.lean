/-
  CLAIM: SyntaxParses holds, as its tied card says it: for every input the law's call returns true and leaves its arguments as they were; the listed package variables (tables of the library) hold what the program's text lays.
-/
import Derived.Test.YthlpinppaclofaaGreatDoorRows
import Derived.Test.YthlpinppaclofaaGreatDoorTie
import Derived.Test.YthlpinppaclofaaGreatDoorCards
import Derived.WalkKit
import Derived.ProofKit
import Derived.OpenShut
import Derived.LaidMore
import Derived.Stop.Joined
import Derived.SevenTiedAt
import Derived.Test.YthlpinppaclofaaGreatDoorSypk
noncomputable section
namespace Go.Proofs.YthlpinppaclofaaGreatDoor.syntaxParses
open Go.ChangeShapes Go.WideShapes Go.ChangeAt Go.RowKit
set_option linter.unusedVariables false
theorem own : ownKnob Tryz.prog.godebug = none := by kernel_rfl
theorem kids : Kids Tryz.prog (· < Tryz.prog.types.size) := kids_rows (by kernel_rfl) (by kernel_rfl)
theorem full : ∀ t e, t < Tryz.prog.types.size -> Tryz.prog.underlying t = some (.slice e) -> 0 < Tryz.prog.cellsOf e := slices_full_of Tryz.prog (by kernel_rfl)
theorem row9 : 9 < Tryz.prog.types.size := of_decide_eq_true (by kernel_rfl)
theorem row22 : 22 < Tryz.prog.types.size := of_decide_eq_true (by kernel_rfl)
theorem row23 : 23 < Tryz.prog.types.size := of_decide_eq_true (by kernel_rfl)
theorem cellsB : Tryz.prog.cellsOf 5 = 1 := by kernel_rfl
theorem cellsA : Tryz.prog.cellsOf 23 = 3 := by kernel_rfl
set_option maxRecDepth 100000 in
theorem okArr {w : World} {r : Reach} {b : Nat} {v : Value} (h : Value.okWide Tryz.prog w r b 23 v) : ∃ cs : Array Value, v = .agg cs /\ cs.size = 3 := by
 simp only [Value.okWide, Tryz.underlying23] at h;obtain ⟨cs, h1, h2, -⟩ := h;exact ⟨cs, h1, by rw [h2, cellsA]⟩
theorem tabOk {W : World} (h : laidMetH Tryz.prog Rows.syntaxParsesRow.laid W) : Sym.TabOk W := by
 have h2 : laidMet Tryz.prog Rows.syntaxParsesRow.laid W := h;intro x hx;have hx : x = ((1 : Nat), fun r => r = (Lib.pow10Tab.map fun z => Value.int .u64 z).toArray) \/ x = ((0 : Nat), fun r => r = (Lib.asciiSpaceTab.map fun z => Value.int .u8 z).toArray) \/ x = ((7 : Nat), fun r => ∃ te pe, r = #[.iface te pe]) := by simpa [Sym.Tab.tab] using hx
 rcases hx with rfl | rfl | rfl
 ·exact Sym.laid_tab h2 (List.mem_cons_of_mem _ (List.mem_cons_of_mem _ List.mem_cons_self)) (by kernel_rfl) (by kernel_rfl) Tryz.underlying200 Tryz.underlying184 (by kernel_rfl) (by kernel_rfl) (by kernel_rfl)
 ·exact Sym.laid_tab h2 (List.mem_cons_of_mem _ (List.mem_cons_of_mem _ (List.mem_cons_of_mem _ (List.mem_cons_of_mem _ (List.mem_cons_of_mem _ (List.mem_cons_of_mem _ List.mem_cons_self)))))) (by kernel_rfl) (by kernel_rfl) Tryz.underlying192 Tryz.underlying5 (by kernel_rfl) (by kernel_rfl) (by kernel_rfl)
 ·exact Sym.laid_err h2 (List.mem_cons_of_mem _ (List.mem_cons_of_mem _ (List.mem_cons_of_mem _ List.mem_cons_self))) (by kernel_rfl) (by kernel_rfl) Tryz.underlying138
theorem door_met (os : Os) (args : Array Value) : laidMetH Tryz.prog Rows.syntaxParsesRow.laid ((World.doorLaid Tryz.prog 400 os).forCall (fun _ _ => 0) ⟨#[], args, []⟩).memory :=
 laidMetH_of_parts3 (fuel := 8) (laidMet_of_run' 8 (by kernel_rfl) (by kernel_rfl)) (by kernel_rfl) (by kernel_rfl)
theorem walk (l0 : List UInt8) (hl0 : l0.length <= 9223372036854775807) (v0 : Value) (l1 : List UInt8) (hl1 : l1.length <= 9223372036854775807) (v1 : Value) (a2 b2 c2 : Nat) (ha2 : a2 < 256) (hb2 : b2 < 256) (hc2 : c2 < 256) (v2 : Value) (w : World) (hT : Sym.TabOk w) (hr0 : Sym.VRel (Sym.topR w hT) (.str l0) v0) (hr1 : Sym.VRel (Sym.topR w hT) (.lst (Pb.bytesC l1)) v1) (hr2 : Sym.VRel (Sym.topR w hT) (.agg [.int .u8 (a2 : Int), .int .u8 (b2 : Int), .int .u8 (c2 : Int)]) v2) :
  Calls Tryz.prog 3 #[v0, v1, v2] w fun e w' => e = .returned (.bool true) /\ Below w.heap.size w w' := by
 have h := Sym.AC.top (P := Tryz.prog) (f := 3) (c_SyntaxParses l0 hl0 l1 hl1 a2 b2 c2 ha2 hb2 hc2).ac w hT #[v0, v1, v2] ⟨rfl, fun i x y hx hy => ?_⟩
 ·refine h.mono ?_;rintro e w' ⟨v, v', H', c', ρ', e1, q, hv, hb⟩;subst q;cases hv;exact ⟨e1, hb⟩
 ·rcases i with _ | _ | _ | _
  ·cases hx; cases hy; exact hr0
  ·cases hx; cases hy; exact hr1
  ·cases hx; cases hy; exact hr2
  ·cases hx
set_option maxRecDepth 100000 in
theorem lifted (os : Os) (started : os.Started) (H : Type) (enc : TypeId × Value -> H) :
  ReturnsInHanded {} Tryz.checked os 3 .any (fun w args => (Rows.syntaxParsesSpec.pre enc Tryz.prog Tryz.f3 [] false w args /\ laidMetH Tryz.prog Rows.syntaxParsesRow.laid w) /\ sizedMet enc Tryz.prog Tryz.f3 (OpenSpec.ofChange Rows.syntaxParsesSpec) false w args)
   (Rows.syntaxParsesSpec.post enc Tryz.prog Tryz.f3 false true false false) := by
 refine returnsInHanded_of_change_and (C := Tryz.checked) (X := fun w _ => laidMetH Tryz.prog Rows.syntaxParsesRow.laid w) (fun _ _ _ hh h => h.of_heap hh) own started (by kernel_rfl) Tryz.func3
  (ChangeSpec.witness_shaped (enc := enc) (C := Tryz.checked) (os := os) (X := fun w _ => laidMetH Tryz.prog Rows.syntaxParsesRow.laid w) false (World.doorLaid Tryz.prog 400 os) #[.string ⟨#[]⟩, .slice none 0 0, .agg #[.int .u8 0, .int .u8 0, .int .u8 0]] 8 rfl (World.shaped_of_RefB (by kernel_rfl) (by kernel_rfl)) (by kernel_rfl) (by kernel_rfl) (by kernel_rfl) (door_met os _)) ?_
 intro W base args ds gs before hval0 hW _ _ hL _;have hval : ∀ (j : Nat) t v, Tryz.f3.params[j]? = some t -> args[j]? = some v -> Value.okWide Tryz.prog W .any base t v := hval0;have hW' := hW;obtain ⟨p, q, hA0, hV, rfl, hfz, hnd⟩ := hW;have hA : DataW.TrodAll enc Tryz.prog W 0 (fun _ => true) true Tryz.f3.params.toList args.toList ds p := hA0;rw [Tryz.params3] at hA hval;have hAk := hA;obtain ⟨v0, vs0, d0, ds0, p0, q0, hargs, rfl, rfl, h0, r0⟩ := trodAll_cons hA;obtain ⟨v1, vs1, d1, ds1, p1, q1, rfl, rfl, rfl, h1, r1⟩ := trodAll_cons r0;obtain ⟨v2, vs2, d2, ds2, p2, q2, rfl, rfl, rfl, h2, r2⟩ := trodAll_cons r1;obtain ⟨rfl, rfl, rfl⟩ := trodAll_nil r2;obtain rfl : args = #[v0, v1, v2] := by cases args; simp_all
 obtain ⟨rfl, rfl⟩ := trodVars_none hV;have hT := tabOk hL;obtain ⟨l0, hl0, hr0⟩ := Sym.open_str (hT := hT) Tryz.underlying9 h0 (by obtain ⟨x, rfl⟩ := okWide_string Tryz.underlying9 (hval 0 9 _ rfl rfl); rfl);obtain ⟨l1, hl1, hr1⟩ := Sym.open_bytes (hT := hT) Tryz.underlying22 Tryz.underlying5 cellsB h1 (by obtain ⟨a, n, c, rfl⟩ := okWide_slice Tryz.underlying22 (hval 1 22 _ rfl rfl); rfl);obtain ⟨a2, b2, c2, ha2, hb2, hc2, hr2⟩ := Sym.open_arr3 (hT := hT) Tryz.underlying23 Tryz.underlying5 cellsB h2 (okArr (hval 2 23 _ rfl rfl));clear hA0 hval0;refine (walk l0 hl0 v0 l1 hl1 v1 a2 b2 c2 ha2 hb2 hc2 v2 W hT hr0 hr1 hr2).mono fun e W' ⟨he, hg⟩ => ?_;subst he;refine ⟨_, rfl, Go.Eng.post_of_below (pv := []) hW' (fun _ _ _ => (trodAll_cons_mk (shut_bool Tryz.underlying4 _) trodAll_mk0)) (fun sp hsp => ?_) (fun _ _ => rfl) rfl
  hg (ok_one (by kernel_rfl) rfl (okWide_bool_mk Tryz.underlying4 _))⟩
 have hT : ∀ t ∈ ([9, 22, 23] : List TypeId), t < Tryz.prog.types.size := by
  intro t ht;simp only [List.mem_cons, List.not_mem_nil, or_false] at ht;rcases ht with rfl | rfl | rfl
  ·exact row9
  ·exact row22
  ·exact row23
 have hk := Sym.arg_kept kids full hg (sp := sp) hT hAk (fun x hx => hsp x (List.mem_append_left _ hx));rw [Tryz.params3];exact hk
theorem over : Rows.syntaxParsesRow.holds Tryz.pinned (OpenSpec.ofChange Rows.syntaxParsesSpec) :=
 OpenClaim.holds_of_wide 3 Tryz.f3 rfl rfl rfl rfl rfl rfl rfl ⟨rfl, rfl, rfl, rfl, rfl⟩ rfl rfl rfl rfl rfl (by kernel_rfl) Tryz.func3 (by kernel_rfl)
  (of_decide_eq_true (by kernel_rfl)) (by unfold Func.isWrapper; first | (rw [if_pos (by decide +kernel)]; kernel_rfl) | (rw [if_neg (by decide +kernel)]; exact ⟨rfl, rfl⟩))
  (fun os started H enc _ => lifted os started H enc)
theorem rowHolds : Rows.SyntaxParsesSaid := over
theorem proved : Rows.SyntaxParsesCardSaid :=
 Claim7.holds_tied_plain_at .later [] [.data, .data, .data, .sentinel, .sentinel, .listed, .data] true (true, "32574fb0439b3794d94b3a18a6d85312ef377853fed790a0b6859ef3533acd1a") _
  rowHolds (fun _ h => by cases h) (by kernel_rfl) (fun _ h => by cases h) syntaxParses_row_tie rfl ⟨rfl, rfl⟩ (by kernel_rfl) rfl
  (fun f fn hf hfn => by
   obtain rfl : f = 3 := Option.some.inj ((show Tryz.prog.funcNamed Rows.syntaxParsesRow.func = some 3 by kernel_rfl).symm.trans hf) |>.symm;obtain rfl : fn = Tryz.f3 := (Option.some.inj (Tryz.func3.symm.trans hfn)).symm;exact ⟨by kernel_rfl, fun j t ht => by
    rw [Tryz.params3] at ht;have hm : t ∈ [9, 22, 23] := by simpa using Array.mem_of_getElem? ht
    have hall : ([9, 22, 23].all fun u => !Tryz.prog.wantsStandIn u) = true := by kernel_rfl
    exact (show Tryz.prog.wantsStandIn t = false by simpa using List.all_eq_true.1 hall t hm)⟩)
  (by kernel_rfl)
end Go.Proofs.YthlpinppaclofaaGreatDoor.syntaxParses
#print axioms Go.Proofs.YthlpinppaclofaaGreatDoor.syntaxParses.proved
end
