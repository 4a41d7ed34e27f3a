/-
  CLAIM: CompileBuilds holds, as its tied card says it: for every input the law's call returns true and leaves its arguments as they were; the listed package variables (tables of the library) hold what the program's text lays.
-/
import Derived.Test.YtdclpmddofggcaaGreatDoorCbdl
import Derived.Test.YtdclpmddofggcaaGreatDoorRows
import Derived.Test.YtdclpmddofggcaaGreatDoorTie
import Derived.Test.YtdclpmddofggcaaGreatDoorCards
import Derived.WalkKit
import Derived.ProofKit
import Derived.OpenShut
import Derived.LaidMore
import Derived.Stop.Joined
import Derived.SevenTiedAt
noncomputable section
namespace Go.Proofs.YtdclpmddofggcaaGreatDoor.compileBuilds
open Go.ChangeShapes Go.WideShapes Go.ChangeAt Go.RowKit
set_option linter.unusedVariables false
theorem own:ownKnob Tryz.prog.godebug=none := by kernel_rfl
theorem kids:Kids Tryz.prog (· < Tryz.prog.types.size) := kids_rows (by kernel_rfl) (by kernel_rfl)
theorem full:∀t e, t<Tryz.prog.types.size->Tryz.prog.underlying t=some (.slice e)->0<Tryz.prog.cellsOf e := slices_full_of Tryz.prog (by kernel_rfl)
theorem E8g:9<Tryz.prog.types.size := of_decide_eq_true (by kernel_rfl)
theorem E3u:22<Tryz.prog.types.size := of_decide_eq_true (by kernel_rfl)
theorem E3t:23<Tryz.prog.types.size := of_decide_eq_true (by kernel_rfl)
theorem D3i:Tryz.prog.cellsOf 5=1 := by kernel_rfl
theorem E2z:Tryz.prog.cellsOf 23=3 := by kernel_rfl
set_option maxRecDepth 100000 in
theorem E4s{w:World}{r:Reach}{b:Nat}{v:Value}(h:Value.okWide Tryz.prog w r b 23 v):∃cs:Array Value, v = .agg cs/\cs.size=3 := by
 simp only[Value.okWide, Tryz.underlying23]at h;obtain⟨cs, h1, h2, -⟩ := h;exact⟨cs, h1, by rw[h2, E2z]⟩
theorem tabOk{W:World}(h:laidMetH Tryz.prog Rows.compileBuildsRow.laid W):Sym.TabOk W := by
 have h2:laidMet Tryz.prog Rows.compileBuildsRow.laid W := h;intro x hx;have hx:x=((5:Nat), λr => r=(Lib.pow10Tab.map λz => Value.int .u64 z).toArray)\/x=((0:Nat), λr => r=(Lib.asciiSpaceTab.map λz => Value.int .u8 z).toArray)\/x=((3:Nat), λr => ∃te pe, r = #[.iface te pe]) := by simpa[Sym.Tab.tab] using hx
 rcases hx with rfl |rfl |rfl
 ·exact Sym.laid_tab h2 (A0H _ (A0H _ A0M)) (by kernel_rfl) (by kernel_rfl) Tryz.underlying280 Tryz.underlying197 (by kernel_rfl) (by kernel_rfl) (by kernel_rfl)
 ·exact Sym.laid_tab h2 (A0H _ (A0H _ (A0H _ (A0H _ (A0H _ (A0H _ A0M)))))) (by kernel_rfl) (by kernel_rfl) Tryz.underlying176 Tryz.underlying5 (by kernel_rfl) (by kernel_rfl) (by kernel_rfl)
 ·exact Sym.laid_err h2 (A0H _ (A0H _ (A0H _ A0M))) (by kernel_rfl) (by kernel_rfl) Tryz.underlying180
theorem door_met(os:Os)(args:Array Value):laidMetH Tryz.prog Rows.compileBuildsRow.laid ((World.doorLaid Tryz.prog 400 os).forCall (λ_ _ => 0) ⟨#[], args, []⟩).memory :=
 laidMetH_of_parts3 (fuel := 8) (laidMet_of_run' 8 (by kernel_rfl) (by kernel_rfl)) (by kernel_rfl) (by kernel_rfl)
theorem walk(l0:List UInt8)(hl0:l0.length<=9223372036854775807)(v0:Value)(l1:List UInt8)(hl1:l1.length<=9223372036854775807)(v1:Value)(a2 b2 c2:Nat)(ha2:a2<256)(hb2:b2<256)(hc2:c2<256)(v2:Value)(w:World)(hT:Sym.TabOk w)(hr0:Sym.VRel (Sym.topR w hT) (.str l0) v0)(hr1:Sym.VRel (Sym.topR w hT) (.lst (Pb.bytesC l1)) v1)(hr2:Sym.VRel (Sym.topR w hT) (.agg [.int .u8 (a2:Int), .int .u8 (b2:Int), .int .u8 (c2:Int)]) v2):
  Calls Tryz.prog 3 #[v0, v1, v2] w λe w' => e = .returned (.bool true)/\Below w.heap.size w w' := by
 have h := Sym.AC.top (P := Tryz.prog) (f := 3) (c_CompileBuilds l0 hl0 l1 hl1 a2 b2 c2 ha2 hb2 hc2).ac w hT #[v0, v1, v2] ⟨rfl, λi x y hx hy => ?_⟩
 ·refine h.mono ?_;rintro e w' ⟨v, v', H', c', ρ', e1, q, hv, hb⟩;subst q;cases hv;exact⟨e1, hb⟩
 ·rcases i with _ |_ |_ |_
  ·cases hx; cases hy; exact hr0
  ·cases hx; cases hy; exact hr1
  ·cases hx; cases hy; exact hr2
  ·cases hx
set_option maxRecDepth 100000 in
theorem lifted(os:Os)(started:os.Started)(H:Type)(enc:TypeId × Value->H):
  ReturnsInHanded {} Tryz.checked os 3 .any (λw args => (Rows.compileBuildsSpec.pre enc Tryz.prog Tryz.f3 [] false w args/\laidMetH Tryz.prog Rows.compileBuildsRow.laid w)/\sizedMet enc Tryz.prog Tryz.f3 (OpenSpec.ofChange Rows.compileBuildsSpec) false w args)
   (Rows.compileBuildsSpec.post enc Tryz.prog Tryz.f3 false true false false) := by
 refine returnsInHanded_of_change_and (C := Tryz.checked) (X := λw _ => laidMetH Tryz.prog Rows.compileBuildsRow.laid w) (λ_ _ _ hh h => h.of_heap hh) own started (by kernel_rfl) Tryz.func3
  (ChangeSpec.witness_shaped (enc := enc) (C := Tryz.checked) (os := os) (X := λw _ => laidMetH Tryz.prog Rows.compileBuildsRow.laid w) false (World.doorLaid Tryz.prog 400 os) #[.string ⟨#[]⟩, .slice none 0 0, .agg #[.int .u8 0, .int .u8 0, .int .u8 0]] 8 rfl (World.shaped_of_RefB (by kernel_rfl) (by kernel_rfl)) (by kernel_rfl) (by kernel_rfl) (by kernel_rfl) (door_met os _)) ?_
 intro W base args ds gs before hval0 hW _ _ hL _;have hval:∀(j:Nat) t v, Tryz.f3.params[j]? = some t->args[j]? = some v->Value.okWide Tryz.prog W .any base t v := hval0;have hW' := hW;obtain⟨p, q, hA0, hV, rfl, hfz, hnd⟩ := hW;have hA:DataW.TrodAll enc Tryz.prog W 0 (λ_ => true) true Tryz.f3.params.toList args.toList ds p := hA0;rw[Tryz.params3]at hA hval;have hAk := hA;obtain⟨v0, vs0, d0, ds0, p0, q0, hargs, rfl, rfl, h0, r0⟩ := trodAll_cons hA;obtain⟨v1, vs1, d1, ds1, p1, q1, rfl, rfl, rfl, h1, r1⟩ := trodAll_cons r0;obtain⟨v2, vs2, d2, ds2, p2, q2, rfl, rfl, rfl, h2, r2⟩ := trodAll_cons r1;obtain⟨rfl, rfl, rfl⟩ := trodAll_nil r2;obtain rfl:args = #[v0, v1, v2] := by cases args; simp_all
 obtain⟨rfl, rfl⟩ := trodVars_none hV;have hT := tabOk hL;obtain⟨l0, hl0, hr0⟩ := Sym.open_str (hT := hT) Tryz.underlying9 h0 (by obtain⟨x, rfl⟩ := okWide_string Tryz.underlying9 (hval 0 9 _ rfl rfl); rfl);obtain⟨l1, hl1, hr1⟩ := Sym.open_bytes (hT := hT) Tryz.underlying22 Tryz.underlying5 D3i h1 (by obtain⟨a, n, c, rfl⟩ := okWide_slice Tryz.underlying22 (hval 1 22 _ rfl rfl); rfl);obtain⟨a2, b2, c2, ha2, hb2, hc2, hr2⟩ := Sym.open_arr3 (hT := hT) Tryz.underlying23 Tryz.underlying5 D3i h2 (E4s (hval 2 23 _ rfl rfl));clear hA0 hval0;refine(walk l0 hl0 v0 l1 hl1 v1 a2 b2 c2 ha2 hb2 hc2 v2 W hT hr0 hr1 hr2).mono λe W' ⟨he, hg⟩ => ?_;subst he;refine⟨_, rfl, Go.Eng.post_of_below (pv := []) hW' (λ_ _ _ => (trodAll_cons_mk (shut_bool Tryz.underlying4 _) trodAll_mk0)) (λsp hsp => ?_) (λ_ _ => rfl) rfl
  hg (ok_one (by kernel_rfl) rfl (okWide_bool_mk Tryz.underlying4 _))⟩
 have hT:∀t∈([9, 22, 23]:List TypeId), t<Tryz.prog.types.size := by
  intro t ht;simp only[A1N, A4D, or_false]at ht;rcases ht with rfl |rfl |rfl
  ·exact E8g
  ·exact E3u
  ·exact E3t
 have hk := Sym.arg_kept kids full hg (sp := sp) hT hAk (λx hx => hsp x (A3C _ hx));rw[Tryz.params3];exact hk
theorem D1y:(Rows.compileBuildsRow.inPlace==Tryz.pinned.checked.prog.inPlace 3)=true := by kernel_rfl
theorem F0b:(Rows.compileBuildsRow.unfollowed==Tryz.pinned.checked.prog.unfollowed 3)=true := by kernel_rfl
theorem E6d:(Rows.compileBuildsRow.recurses==Tryz.pinned.checked.prog.recurses 3)=true := by kernel_rfl
theorem F0e:(Rows.compileBuildsRow.named==Tryz.pinned.checked.prog.varsNamed 3)=true := by kernel_rfl
theorem F0d:(Rows.compileBuildsRow.plainKeys==Tryz.pinned.checked.prog.plainKeys)=true := by kernel_rfl
theorem F0c:(Tryz.pinned.checked.prog.stopsHeard)=true := by kernel_rfl
theorem F0g:(Tryz.pinned.checked.prog.mayEnter)=true := by kernel_rfl
theorem F0i:(Rows.compileBuildsRow.lifted==Tryz.pinned.checked.prog.liftsFinal)=true := by kernel_rfl
theorem F0h:(Tryz.pinned.checked.prog.make==some Rows.compileBuildsRow.make)=true := by kernel_rfl
theorem F0j:(laidOutB Tryz.pinned.checked.prog)=true := by kernel_rfl
theorem F0f:(mapsRowed Tryz.pinned.checked.prog)=true := by kernel_rfl
theorem facts:joinedFacts Tryz.pinned.checked.prog 3 Tryz.f3 Rows.compileBuildsSpec Rows.compileBuildsRow=true := by
 unfold joinedFacts;rw[D1y, F0b, E6d, F0e, F0d, F0c, F0g, F0i, F0h, F0j, F0f]
 kernel_rfl
theorem named:Tryz.pinned.checked.prog.funcNamed Rows.compileBuildsRow.func=some 3 := by kernel_rfl
theorem E9y:Tryz.f3.isInstance Tryz.pinned.checked.prog Rows.compileBuildsRow.origin Rows.compileBuildsRow.targs := of_decide_eq_true (by kernel_rfl)
theorem E3p:Tryz.f3.isWrapper Tryz.pinned.checked.prog Rows.compileBuildsRow.wrapper Rows.compileBuildsRow.mainSum := by unfold Func.isWrapper; first |(rw[if_pos (by decide +kernel)]; kernel_rfl) |(rw[if_neg (by decide +kernel)]; exact⟨rfl, rfl⟩)
theorem over:Rows.compileBuildsRow.holds Tryz.pinned (OpenSpec.ofChange Rows.compileBuildsSpec) :=
 OpenClaim.holds_of_wide 3 Tryz.f3 rfl rfl rfl rfl rfl rfl rfl ⟨rfl, rfl, rfl, rfl, rfl⟩ rfl rfl rfl rfl rfl named Tryz.func3 facts E9y E3p
  (λos started H enc _ => lifted os started H enc)
theorem pw:Rows.compileBuildsRow.wfByText (OpenSpec.ofChange Rows.compileBuildsSpec)=true := by kernel_rfl
theorem pm : Tryz.pinned.checked.prog.mainIs = some (true, "7cd0cd73c027367444e92bad63fa5b992833110fc727bb55c22ae0f90fccc533".toList) := by kernel_rfl
theorem pl:true=Tryz.pinned.checked.prog.looks [] := by kernel_rfl
theorem pg:false=Rows.compileBuildsRow.goesBy Tryz.pinned.checked.prog := by kernel_rfl
theorem rowHolds:Rows.CompileBuildsSaid := over
theorem proved:Rows.CompileBuildsCardSaid :=
 Claim7.holds_tied_plain_at .later [] [.data, .data, .data, .sentinel, .sentinel, .listed, .data] true (true, "7cd0cd73c027367444e92bad63fa5b992833110fc727bb55c22ae0f90fccc533") _
  rowHolds (λ_ h => by cases h) pw (λ_ h => by cases h) compileBuilds_row_tie rfl ⟨rfl, rfl⟩ pm rfl
  (λf fn hf hfn => by
   obtain rfl:f=3 := Option.some.inj ((show Tryz.prog.funcNamed Rows.compileBuildsRow.func=some 3 by kernel_rfl).symm.trans hf) |>.symm;obtain rfl:fn=Tryz.f3 := (Option.some.inj (Tryz.func3.symm.trans hfn)).symm;exact⟨pl, λj t ht => by
    rw[Tryz.params3]at ht;have hm:t ∈ [9, 22, 23] := by simpa using Array.mem_of_getElem? ht
    have hall:([9, 22, 23].all λu => !Tryz.prog.wantsStandIn u)=true := by kernel_rfl
    exact(show Tryz.prog.wantsStandIn t=false by simpa using A0V.1 hall t hm)⟩)
  pg
end Go.Proofs.YtdclpmddofggcaaGreatDoor.compileBuilds
#print axioms Go.Proofs.YtdclpmddofggcaaGreatDoor.compileBuilds.proved
end
