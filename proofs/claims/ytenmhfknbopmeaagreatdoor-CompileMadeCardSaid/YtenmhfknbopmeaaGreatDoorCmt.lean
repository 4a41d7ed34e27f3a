/-
  CLAIM: CompileMade holds, as its tied card says it: for every input the law's call returns true and leaves its arguments as they were; the listed package variables (tables of the library) hold what the program's text lays.
-/
import Derived.Test.YtenmhfknbopmeaaGreatDoorCmtk
import Derived.Test.YtenmhfknbopmeaaGreatDoorRows
import Derived.Test.YtenmhfknbopmeaaGreatDoorTie
import Derived.Test.YtenmhfknbopmeaaGreatDoorCards
import Derived.WalkKit
import Derived.ProofKit
import Derived.OpenShut
import Derived.LaidMore
import Derived.Stop.Joined
import Derived.SevenTiedAt
noncomputable section
namespace Go.Proofs.YtenmhfknbopmeaaGreatDoor.compileMade
open Go.ChangeShapes Go.WideShapes Go.ChangeAt Go.RowKit
set_option linter.unusedVariables false
theorem own:ownKnob Tryz.prog.godebug=none := by kernel_rfl
theorem kids:Kids Tryz.prog (· < Tryz.prog.types.size) := kids_rows (by kernel_rfl) (by kernel_rfl)
theorem full:∀t e, t<Tryz.prog.types.size->Tryz.prog.underlying t=some (.slice e)->0<Tryz.prog.cellsOf e := slices_full_of Tryz.prog (by kernel_rfl)
theorem E8w:5<Tryz.prog.types.size := of_decide_eq_true (by kernel_rfl)
theorem E4m:22<Tryz.prog.types.size := of_decide_eq_true (by kernel_rfl)
theorem E3s:Tryz.prog.cellsOf 5=1 := by kernel_rfl
theorem tabOk{W:World}(h:laidMetH Tryz.prog Rows.compileMadeRow.laid W):Sym.TabOk W := by
 have h2:laidMet Tryz.prog Rows.compileMadeRow.laid W := h;intro x hx;have hx:x=((5:Nat), λr => r=(Lib.pow10Tab.map λz => Value.int .u64 z).toArray)\/x=((0:Nat), λr => r=(Lib.asciiSpaceTab.map λz => Value.int .u8 z).toArray)\/x=((3:Nat), λr => ∃te pe, r = #[.iface te pe]) := by simpa[Sym.Tab.tab] using hx
 rcases hx with rfl |rfl |rfl
 ·exact Sym.laid_tab h2 (A0G _ (A0G _ A0J)) (by kernel_rfl) (by kernel_rfl) Tryz.underlying318 Tryz.underlying171 (by kernel_rfl) (by kernel_rfl) (by kernel_rfl)
 ·exact Sym.laid_tab h2 (A0G _ (A0G _ (A0G _ (A0G _ (A0G _ (A0G _ A0J)))))) (by kernel_rfl) (by kernel_rfl) Tryz.underlying255 Tryz.underlying5 (by kernel_rfl) (by kernel_rfl) (by kernel_rfl)
 ·exact Sym.laid_err h2 (A0G _ (A0G _ (A0G _ A0J))) (by kernel_rfl) (by kernel_rfl) Tryz.underlying259
theorem door_met(os:Os)(args:Array Value):laidMetH Tryz.prog Rows.compileMadeRow.laid ((World.doorLaid Tryz.prog 400 os).forCall (λ_ _ => 0) ⟨#[], args, []⟩).memory :=
 laidMetH_of_parts3 (fuel := 8) (laidMet_of_run' 8 (by kernel_rfl) (by kernel_rfl)) (by kernel_rfl) (by kernel_rfl)
theorem walk(l0:List UInt8)(hl0:l0.length<=9223372036854775807)(v0:Value)(u1:UInt8)(v1:Value)(w:World)(hT:Sym.TabOk w)(hr0:Sym.VRel (Sym.topR w hT) (.lst (Pb.bytesC l0)) v0)(hr1:Sym.VRel (Sym.topR w hT) (.int .u8 (u1.toNat:Int)) v1):
  Calls Tryz.prog 5 #[v0, v1] w λe w' => e = .returned (.bool true)/\Below w.heap.size w w' := by
 have h := Sym.AC.top (P := Tryz.prog) (f := 5) (c_CompileMade2 l0 hl0 u1).ac w hT #[v0, v1] ⟨rfl, λi x y hx hy => ?_⟩
 ·refine h.mono ?_;rintro e w' ⟨v, v', H', c', ρ', e1, q, hv, hb⟩;subst q;cases hv;exact⟨e1, hb⟩
 ·rcases i with _ |_ |_
  ·cases hx; cases hy; exact hr0
  ·cases hx; cases hy; exact hr1
  ·cases hx
set_option maxRecDepth 100000 in
theorem lifted(os:Os)(started:os.Started)(H:Type)(enc:TypeId × Value->H):
  ReturnsInHanded {} Tryz.checked os 5 .any (λw args => (Rows.compileMadeSpec.pre enc Tryz.prog Tryz.f5 [] false w args/\laidMetH Tryz.prog Rows.compileMadeRow.laid w)/\sizedMet enc Tryz.prog Tryz.f5 (OpenSpec.ofChange Rows.compileMadeSpec) false w args)
   (Rows.compileMadeSpec.post enc Tryz.prog Tryz.f5 false true false false) := by
 refine returnsInHanded_of_change_and (C := Tryz.checked) (X := λw _ => laidMetH Tryz.prog Rows.compileMadeRow.laid w) (λ_ _ _ hh h => h.of_heap hh) own started (by kernel_rfl) Tryz.func5
  (ChangeSpec.witness_shaped (enc := enc) (C := Tryz.checked) (os := os) (X := λw _ => laidMetH Tryz.prog Rows.compileMadeRow.laid w) false (World.doorLaid Tryz.prog 400 os) #[.slice none 0 0, .int .u8 0] 8 rfl (World.shaped_of_RefB (by kernel_rfl) (by kernel_rfl)) (by kernel_rfl) (by kernel_rfl) (by kernel_rfl) (door_met os _)) ?_
 intro W base args ds gs before hval0 hW _ _ hL _;have hval:∀(j:Nat) t v, Tryz.f5.params[j]? = some t->args[j]? = some v->Value.okWide Tryz.prog W .any base t v := hval0;have hW' := hW;obtain⟨p, q, hA0, hV, rfl, hfz, hnd⟩ := hW;have hA:DataW.TrodAll enc Tryz.prog W 0 (λ_ => true) true Tryz.f5.params.toList args.toList ds p := hA0;rw[Tryz.params5]at hA hval;have hAk := hA;obtain⟨v0, vs0, d0, ds0, p0, q0, hargs, rfl, rfl, h0, r0⟩ := trodAll_cons hA;obtain⟨v1, vs1, d1, ds1, p1, q1, rfl, rfl, rfl, h1, r1⟩ := trodAll_cons r0;obtain⟨rfl, rfl, rfl⟩ := trodAll_nil r1;obtain rfl:args = #[v0, v1] := by cases args; simp_all
 obtain⟨rfl, rfl⟩ := trodVars_none hV;have hT := tabOk hL;obtain⟨l0, hl0, hr0⟩ := Sym.open_bytes (hT := hT) Tryz.underlying22 Tryz.underlying5 E3s h0 (by obtain⟨a, n, c, rfl⟩ := okWide_slice Tryz.underlying22 (hval 0 22 _ rfl rfl); rfl);obtain⟨u1, hr1⟩ := Sym.open_u8 (hT := hT) Tryz.underlying5 (hval 1 5 _ rfl rfl) h1;clear hA0 hval0;refine(walk l0 hl0 v0 u1 v1 W hT hr0 hr1).mono λe W' ⟨he, hg⟩ => ?_;subst he;refine⟨_, rfl, Go.Eng.post_of_below (pv := []) hW' (λ_ _ _ => (trodAll_cons_mk (shut_bool Tryz.underlying4 _) trodAll_mk0)) (λsp hsp => ?_) (λ_ _ => rfl) rfl
  hg (ok_one (by kernel_rfl) rfl (okWide_bool_mk Tryz.underlying4 _))⟩
 have hT:∀t∈([22, 5]:List TypeId), t<Tryz.prog.types.size := by
  intro t ht;simp only[A1C, A2S, or_false]at ht;rcases ht with rfl |rfl
  ·exact E4m
  ·exact E8w
 have hk := Sym.arg_kept kids full hg (sp := sp) hT hAk (λx hx => hsp x (A3K _ hx));rw[Tryz.params5];exact hk
theorem D2f:(Rows.compileMadeRow.inPlace==Tryz.pinned.checked.prog.inPlace 5)=true := by kernel_rfl
theorem F0q:(Rows.compileMadeRow.unfollowed==Tryz.pinned.checked.prog.unfollowed 5)=true := by kernel_rfl
theorem E6w:(Rows.compileMadeRow.recurses==Tryz.pinned.checked.prog.recurses 5)=true := by kernel_rfl
theorem F0t:(Rows.compileMadeRow.named==Tryz.pinned.checked.prog.varsNamed 5)=true := by kernel_rfl
theorem F0s:(Rows.compileMadeRow.plainKeys==Tryz.pinned.checked.prog.plainKeys)=true := by kernel_rfl
theorem F0r:(Tryz.pinned.checked.prog.stopsHeard)=true := by kernel_rfl
theorem F0v:(Tryz.pinned.checked.prog.mayEnter)=true := by kernel_rfl
theorem F0x:(Rows.compileMadeRow.lifted==Tryz.pinned.checked.prog.liftsFinal)=true := by kernel_rfl
theorem F0w:(Tryz.pinned.checked.prog.make==some Rows.compileMadeRow.make)=true := by kernel_rfl
theorem F0y:(laidOutB Tryz.pinned.checked.prog)=true := by kernel_rfl
theorem F0u:(mapsRowed Tryz.pinned.checked.prog)=true := by kernel_rfl
theorem facts:joinedFacts Tryz.pinned.checked.prog 5 Tryz.f5 Rows.compileMadeSpec Rows.compileMadeRow=true := by
 unfold joinedFacts;rw[D2f, F0q, E6w, F0t, F0s, F0r, F0v, F0x, F0w, F0y, F0u]
 kernel_rfl
theorem named:Tryz.pinned.checked.prog.funcNamed Rows.compileMadeRow.func=some 5 := by kernel_rfl
theorem F0n:Tryz.f5.isInstance Tryz.pinned.checked.prog Rows.compileMadeRow.origin Rows.compileMadeRow.targs := of_decide_eq_true (by kernel_rfl)
theorem E4j:Tryz.f5.isWrapper Tryz.pinned.checked.prog Rows.compileMadeRow.wrapper Rows.compileMadeRow.mainSum := by unfold Func.isWrapper; first |(rw[if_pos (by decide +kernel)]; kernel_rfl) |(rw[if_neg (by decide +kernel)]; exact⟨rfl, rfl⟩)
theorem over:Rows.compileMadeRow.holds Tryz.pinned (OpenSpec.ofChange Rows.compileMadeSpec) :=
 OpenClaim.holds_of_wide 5 Tryz.f5 rfl rfl rfl rfl rfl rfl rfl ⟨rfl, rfl, rfl, rfl, rfl⟩ rfl rfl rfl rfl rfl named Tryz.func5 facts F0n E4j
  (λos started H enc _ => lifted os started H enc)
theorem pw:Rows.compileMadeRow.wfByText (OpenSpec.ofChange Rows.compileMadeSpec)=true := by kernel_rfl
theorem pm : Tryz.pinned.checked.prog.mainIs = some (true, "54228247a02140161b1dadd7e547653932899b5dabcb0e47d5adc2793c677748".toList) := by kernel_rfl
theorem pl:true=Tryz.pinned.checked.prog.looks [] := by kernel_rfl
theorem pg:false=Rows.compileMadeRow.goesBy Tryz.pinned.checked.prog := by kernel_rfl
theorem rowHolds:Rows.CompileMadeSaid := over
theorem proved:Rows.CompileMadeCardSaid :=
 Claim7.holds_tied_plain_at .later [] [.data, .data, .data, .sentinel, .sentinel, .listed, .data] true (true, "54228247a02140161b1dadd7e547653932899b5dabcb0e47d5adc2793c677748") _
  rowHolds (λ_ h => by cases h) pw (λ_ h => by cases h) compileMade_row_tie rfl ⟨rfl, rfl⟩ pm rfl
  (λf fn hf hfn => by
   obtain rfl:f=5 := Option.some.inj ((show Tryz.prog.funcNamed Rows.compileMadeRow.func=some 5 by kernel_rfl).symm.trans hf) |>.symm;obtain rfl:fn=Tryz.f5 := (Option.some.inj (Tryz.func5.symm.trans hfn)).symm;exact⟨pl, λj t ht => by
    rw[Tryz.params5]at ht;have hm:t ∈ [22, 5] := by simpa using Array.mem_of_getElem? ht
    have hall:([22, 5].all λu => !Tryz.prog.wantsStandIn u)=true := by kernel_rfl
    exact(show Tryz.prog.wantsStandIn t=false by simpa using A0S.1 hall t hm)⟩)
  pg
end Go.Proofs.YtenmhfknbopmeaaGreatDoor.compileMade
#print axioms Go.Proofs.YtenmhfknbopmeaaGreatDoor.compileMade.proved
end
