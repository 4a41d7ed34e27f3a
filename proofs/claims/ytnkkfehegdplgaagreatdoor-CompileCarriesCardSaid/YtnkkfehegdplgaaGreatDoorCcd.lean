/-
  CLAIM: CompileCarries holds, as its tied card says it: for every input the law's call returns true and leaves its arguments as they were; the listed package variables (tables of the library) hold what the program's text lays.
-/
import Derived.Test.YtnkkfehegdplgaaGreatDoorCcdo
import Derived.Test.YtnkkfehegdplgaaGreatDoorRows
import Derived.Test.YtnkkfehegdplgaaGreatDoorTie
import Derived.Test.YtnkkfehegdplgaaGreatDoorCards
import Derived.WalkKit
import Derived.ProofKit
import Derived.OpenShut
import Derived.LaidMore
import Derived.Stop.Joined
import Derived.SevenTiedAt
noncomputable section
namespace Go.Proofs.YtnkkfehegdplgaaGreatDoor.compileCarries
open Go.ChangeShapes Go.WideShapes Go.ChangeAt Go.RowKit
set_option linter.unusedVariables false
theorem own:ownKnob Tryz.prog.godebug=none := by kernel_rfl
theorem kids:Kids Tryz.prog (· < Tryz.prog.types.size) := kids_rows (by kernel_rfl) (by kernel_rfl)
theorem full:∀t e, t<Tryz.prog.types.size->Tryz.prog.underlying t=some (.slice e)->0<Tryz.prog.cellsOf e := slices_full_of Tryz.prog (by kernel_rfl)
theorem F2v:22<Tryz.prog.types.size := of_decide_eq_true (by kernel_rfl)
theorem F1o:Tryz.prog.cellsOf 5=1 := by kernel_rfl
theorem tabOk{W:World}(h:laidMetH Tryz.prog Rows.compileCarriesRow.laid W):Sym.TabOk W := by
 have h2:laidMet Tryz.prog Rows.compileCarriesRow.laid W := h;intro x hx;have hx:x=((5:Nat), λr => r=(Lib.pow10Tab.map λz => Value.int .u64 z).toArray)\/x=((0:Nat), λr => r=(Lib.asciiSpaceTab.map λz => Value.int .u8 z).toArray)\/x=((3:Nat), λr => ∃te pe, r = #[.iface te pe]) := by simpa[Sym.Tab.tab] using hx
 rcases hx with rfl |rfl |rfl
 ·exact Sym.laid_tab h2 (A0D _ (A0D _ A0H)) (by kernel_rfl) (by kernel_rfl) Tryz.underlying304 Tryz.underlying131 (by kernel_rfl) (by kernel_rfl) (by kernel_rfl)
 ·exact Sym.laid_tab h2 (A0D _ (A0D _ (A0D _ (A0D _ (A0D _ (A0D _ A0H)))))) (by kernel_rfl) (by kernel_rfl) Tryz.underlying249 Tryz.underlying5 (by kernel_rfl) (by kernel_rfl) (by kernel_rfl)
 ·exact Sym.laid_err h2 (A0D _ (A0D _ (A0D _ A0H))) (by kernel_rfl) (by kernel_rfl) Tryz.underlying253
theorem door_met(os:Os)(args:Array Value):laidMetH Tryz.prog Rows.compileCarriesRow.laid ((World.doorLaid Tryz.prog 400 os).forCall (λ_ _ => 0) ⟨#[], args, []⟩).memory :=
 laidMetH_of_parts3 (fuel := 8) (laidMet_of_run' 8 (by kernel_rfl) (by kernel_rfl)) (by kernel_rfl) (by kernel_rfl)
theorem walk(l0:List UInt8)(hl0:l0.length<=9223372036854775807)(v0:Value)(w:World)(hT:Sym.TabOk w)(hr0:Sym.VRel (Sym.topR w hT) (.lst (Pb.bytesC l0)) v0):
  Calls Tryz.prog 3 #[v0] w λe w' => e = .returned (.bool true)/\Below w.heap.size w w' := by
 have h := Sym.AC.top (P := Tryz.prog) (f := 3) (c_CompileCarries l0 hl0).ac w hT #[v0] ⟨rfl, λi x y hx hy => ?_⟩
 ·refine h.mono ?_;rintro e w' ⟨v, v', H', c', ρ', e1, q, hv, hb⟩;subst q;cases hv;exact⟨e1, hb⟩
 ·rcases i with _ |_
  ·cases hx; cases hy; exact hr0
  ·cases hx
set_option maxRecDepth 100000 in
theorem lifted(os:Os)(started:os.Started)(H:Type)(enc:TypeId × Value->H):
  ReturnsInHanded {} Tryz.checked os 3 .any (λw args => (Rows.compileCarriesSpec.pre enc Tryz.prog Tryz.f3 [] false w args/\laidMetH Tryz.prog Rows.compileCarriesRow.laid w)/\sizedMet enc Tryz.prog Tryz.f3 (OpenSpec.ofChange Rows.compileCarriesSpec) false w args)
   (Rows.compileCarriesSpec.post enc Tryz.prog Tryz.f3 false true false false) := by
 refine returnsInHanded_of_change_and (C := Tryz.checked) (X := λw _ => laidMetH Tryz.prog Rows.compileCarriesRow.laid w) (λ_ _ _ hh h => h.of_heap hh) own started (by kernel_rfl) Tryz.func3
  (ChangeSpec.witness_shaped (enc := enc) (C := Tryz.checked) (os := os) (X := λw _ => laidMetH Tryz.prog Rows.compileCarriesRow.laid w) false (World.doorLaid Tryz.prog 400 os) #[.slice none 0 0] 8 rfl (World.shaped_of_RefB (by kernel_rfl) (by kernel_rfl)) (by kernel_rfl) (by kernel_rfl) (by kernel_rfl) (door_met os _)) ?_
 intro W base args ds gs before hval0 hW _ _ hL _;have hval:∀(j:Nat) t v, Tryz.f3.params[j]? = some t->args[j]? = some v->Value.okWide Tryz.prog W .any base t v := hval0;have hW' := hW;obtain⟨p, q, hA0, hV, rfl, hfz, hnd⟩ := hW;have hA:DataW.TrodAll enc Tryz.prog W 0 (λ_ => true) true Tryz.f3.params.toList args.toList ds p := hA0;rw[Tryz.params3]at hA hval;have hAk := hA;obtain⟨v0, vs0, d0, ds0, p0, q0, hargs, rfl, rfl, h0, r0⟩ := trodAll_cons hA;obtain⟨rfl, rfl, rfl⟩ := trodAll_nil r0;obtain rfl:args = #[v0] := by cases args; simp_all
 obtain⟨rfl, rfl⟩ := trodVars_none hV;have hT := tabOk hL;obtain⟨l0, hl0, hr0⟩ := Sym.open_bytes (hT := hT) Tryz.underlying22 Tryz.underlying5 F1o h0 (by obtain⟨a, n, c, rfl⟩ := okWide_slice Tryz.underlying22 (hval 0 22 _ rfl rfl); rfl);clear hA0 hval0;refine(walk l0 hl0 v0 W hT hr0).mono λe W' ⟨he, hg⟩ => ?_;subst he;refine⟨_, rfl, Go.Eng.post_of_below (pv := []) hW' (λ_ _ _ => (trodAll_cons_mk (shut_bool Tryz.underlying4 _) trodAll_mk0)) (λsp hsp => ?_) (λ_ _ => rfl) rfl
  hg (ok_one (by kernel_rfl) rfl (okWide_bool_mk Tryz.underlying4 _))⟩
 have hT:∀t∈([22]:List TypeId), t<Tryz.prog.types.size := by
  intro t ht;simp only[A0U, A1R, or_false]at ht;subst ht; exact F2v
 have hk := Sym.arg_kept kids full hg (sp := sp) hT hAk (λx hx => hsp x (A3G _ hx));rw[Tryz.params3];exact hk
theorem D7u:(Rows.compileCarriesRow.inPlace==Tryz.pinned.checked.prog.inPlace 3)=true := by kernel_rfl
theorem F9o:(Rows.compileCarriesRow.unfollowed==Tryz.pinned.checked.prog.unfollowed 3)=true := by kernel_rfl
theorem F5i:(Rows.compileCarriesRow.recurses==Tryz.pinned.checked.prog.recurses 3)=true := by kernel_rfl
theorem F9r:(Rows.compileCarriesRow.named==Tryz.pinned.checked.prog.varsNamed 3)=true := by kernel_rfl
theorem F9q:(Rows.compileCarriesRow.plainKeys==Tryz.pinned.checked.prog.plainKeys)=true := by kernel_rfl
theorem F9p:(Tryz.pinned.checked.prog.stopsHeard)=true := by kernel_rfl
theorem F9t:(Tryz.pinned.checked.prog.mayEnter)=true := by kernel_rfl
theorem F9v:(Rows.compileCarriesRow.lifted==Tryz.pinned.checked.prog.liftsFinal)=true := by kernel_rfl
theorem F9u:(Tryz.pinned.checked.prog.make==some Rows.compileCarriesRow.make)=true := by kernel_rfl
theorem F9w:(laidOutB Tryz.pinned.checked.prog)=true := by kernel_rfl
theorem F9s:(mapsRowed Tryz.pinned.checked.prog)=true := by kernel_rfl
theorem facts:joinedFacts Tryz.pinned.checked.prog 3 Tryz.f3 Rows.compileCarriesSpec Rows.compileCarriesRow=true := by
 unfold joinedFacts;rw[D7u, F9o, F5i, F9r, F9q, F9p, F9t, F9v, F9u, F9w, F9s]
 kernel_rfl
theorem named:Tryz.pinned.checked.prog.funcNamed Rows.compileCarriesRow.func=some 3 := by kernel_rfl
theorem F9l:Tryz.f3.isInstance Tryz.pinned.checked.prog Rows.compileCarriesRow.origin Rows.compileCarriesRow.targs := of_decide_eq_true (by kernel_rfl)
theorem F2m:Tryz.f3.isWrapper Tryz.pinned.checked.prog Rows.compileCarriesRow.wrapper Rows.compileCarriesRow.mainSum := by unfold Func.isWrapper; first |(rw[if_pos (by decide +kernel)]; kernel_rfl) |(rw[if_neg (by decide +kernel)]; exact⟨rfl, rfl⟩)
theorem over:Rows.compileCarriesRow.holds Tryz.pinned (OpenSpec.ofChange Rows.compileCarriesSpec) :=
 OpenClaim.holds_of_wide 3 Tryz.f3 rfl rfl rfl rfl rfl rfl rfl ⟨rfl, rfl, rfl, rfl, rfl⟩ rfl rfl rfl rfl rfl named Tryz.func3 facts F9l F2m
  (λos started H enc _ => lifted os started H enc)
theorem pw:Rows.compileCarriesRow.wfByText (OpenSpec.ofChange Rows.compileCarriesSpec)=true := by kernel_rfl
theorem pm : Tryz.pinned.checked.prog.mainIs = some (true, "9943773fa1cbffc73f2d4e9451947a577221d45095a8d0a7aaa7da708e8570c4".toList) := by kernel_rfl
theorem pl:true=Tryz.pinned.checked.prog.looks [] := by kernel_rfl
theorem pg:false=Rows.compileCarriesRow.goesBy Tryz.pinned.checked.prog := by kernel_rfl
theorem rowHolds:Rows.CompileCarriesSaid := over
theorem proved:Rows.CompileCarriesCardSaid :=
 Claim7.holds_tied_plain_at .later [] [.data, .data, .data, .sentinel, .sentinel, .listed, .data] true (true, "9943773fa1cbffc73f2d4e9451947a577221d45095a8d0a7aaa7da708e8570c4") _
  rowHolds (λ_ h => by cases h) pw (λ_ h => by cases h) compileCarries_row_tie rfl ⟨rfl, rfl⟩ pm rfl
  (λf fn hf hfn => by
   obtain rfl:f=3 := Option.some.inj ((show Tryz.prog.funcNamed Rows.compileCarriesRow.func=some 3 by kernel_rfl).symm.trans hf) |>.symm;obtain rfl:fn=Tryz.f3 := (Option.some.inj (Tryz.func3.symm.trans hfn)).symm;exact⟨pl, λj t ht => by
    rw[Tryz.params3]at ht;have hm:t ∈ [22] := by simpa using Array.mem_of_getElem? ht
    have hall:([22].all λu => !Tryz.prog.wantsStandIn u)=true := by kernel_rfl
    exact(show Tryz.prog.wantsStandIn t=false by simpa using A0R.1 hall t hm)⟩)
  pg
end Go.Proofs.YtnkkfehegdplgaaGreatDoor.compileCarries
#print axioms Go.Proofs.YtnkkfehegdplgaaGreatDoor.compileCarries.proved
end
