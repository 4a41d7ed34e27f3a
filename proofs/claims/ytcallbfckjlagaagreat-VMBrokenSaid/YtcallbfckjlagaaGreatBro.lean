/-
  CLAIM: VMBroken holds: for every input the law's call returns true and leaves its arguments as they were.
-/
import Derived.Test.YtcallbfckjlagaaGreatRows
import Derived.WalkKit
import Derived.ProofKit
import Derived.OpenShut
import Derived.Test.YtcallbfckjlagaaGreatBroh
noncomputable section
namespace Go.Proofs.YtcallbfckjlagaaGreat.vMBroken
open Go.ChangeShapes Go.WideShapes Go.ChangeAt Go.RowKit
set_option linter.unusedVariables false
theorem own : ownKnob Tryz.prog.godebug = none := by kernel_rfl
theorem kids : Kids Tryz.prog (· < Tryz.prog.types.size) := kids_rows (by kernel_rfl) (by kernel_rfl)
theorem full : ∀ t e,t < Tryz.prog.types.size → Tryz.prog.underlying t = some (.slice e) → 0 < Tryz.prog.cellsOf e := slices_full_of Tryz.prog (by kernel_rfl)
theorem row22 : 22 < Tryz.prog.types.size := of_decide_eq_true (by kernel_rfl)
theorem row33 : 33 < Tryz.prog.types.size := of_decide_eq_true (by kernel_rfl)
theorem cellsB : Tryz.prog.cellsOf 5 = 1 := by kernel_rfl
theorem cellsE : [Tryz.prog.cellsOf 26,Tryz.prog.cellsOf 3,Tryz.prog.cellsOf 30,Tryz.prog.cellsOf 31] = [1,1,1,1] := by kernel_rfl
theorem cellsA : Tryz.prog.cellsOf 33 = 6 := by kernel_rfl
set_option maxRecDepth 100000 in
theorem okEnv {w : World} {r : Reach} {b : Nat} {v : Value} (h : Value.okWide Tryz.prog w r b 33 v) : ∃ cs : Array Value,v = .agg cs ∧ cs.size = 6 := by
 simp only [Value.okWide,Tryz.underlying33] at h
 obtain ⟨cs,h1,h2, -⟩ := h
 exact ⟨cs,h1,by rw [h2,cellsA]⟩
theorem walk (l0 : List UInt8) (hl0 : l0.length ≤ 9223372036854775807) (v0 : Value) (l1 : List UInt8) (hl1 : l1.length ≤ 9223372036854775807) (v1 : Value) (e2 : Pb.Envr) (n2 : e2.vars.length ≤ 9223372036854775807) (m2 : e2.left.length ≤ 9223372036854775807) (c2 : e2.closed < 18446744073709551616) (k2 : e2.active < 4294967296) (v2 : Value) (w : World) (hr0 : Sym.VRel (Sym.topR w) (.lst (Pb.bytesC l0)) v0) (hr1 : Sym.VRel (Sym.topR w) (.lst (Pb.bytesC l1)) v1) (hr2 : Sym.VRel (Sym.topR w) e2.v v2) :
  Calls Tryz.prog 6 #[v0,v1,v2] w fun e w' => e = .returned (.bool true) ∧ Below w.heap.size w w' := by
 have h := Sym.AC.top (P := Tryz.prog) (f := 6) (c_broken35 l0 l1 e2 hl0 hl1 n2 m2 c2 k2).ac w #[v0,v1,v2] ⟨rfl,fun i x y hx hy => ?_⟩
 ·refine h.mono ?_
  rintro e w' ⟨v,v',H',c', ρ',e1,q,hv,hb⟩
  subst q
  cases hv
  exact ⟨e1,hb⟩
 ·rcases i with _ | _ | _ | _
  ·cases hx; cases hy; exact hr0
  ·cases hx; cases hy; exact hr1
  ·cases hx; cases hy; exact hr2
  ·cases hx
set_option maxRecDepth 100000 in
theorem lifted (os : Os) (started : os.Started) (H : Type) (enc : TypeId × Value → H) :
  ReturnsInHanded {} Tryz.checked os 6 .any (Rows.vMBrokenSpec.pre6 enc Tryz.prog Tryz.f6 Rows.vMBrokenRow.domain false) (Rows.vMBrokenSpec.post enc Tryz.prog Tryz.f6 false true false false) := by
 refine returnsInHanded_of_change (C := Tryz.checked) own started (by kernel_rfl) Tryz.func6
  (ChangeSpec.witness6 (enc := enc) (C := Tryz.checked) false ⟨#[], #[.slice none 0 0,.slice none 0 0,.agg #[.slice none 0 0,.slice none 0 0,.int .u64 0,.int .u32 0,.int .i64 0,.int .i64 0]],[]⟩ 8 (by kernel_rfl) (by kernel_rfl) (by kernel_rfl) (by kernel_rfl)) ?_
 intro W base args ds gs before hval0 hW hcnd _
 have hval : ∀ (j : Nat) t v,Tryz.f6.params[j]? = some t → args[j]? = some v → Value.okWide Tryz.prog W .any base t v := hval0
 have hW' := hW
 obtain ⟨p,q,hA0,hV,rfl,hfz,hnd⟩ := hW
 have hA : DataW.TrodAll enc Tryz.prog W 0 (fun _ => true) true Tryz.f6.params.toList args.toList ds p := hA0
 rw [Tryz.params6] at hA hval
 have hAk := hA
 obtain ⟨v0,vs0,d0,ds0,p0,q0,hargs,rfl,rfl,h0,r0⟩ := trodAll_cons hA
 obtain ⟨v1,vs1,d1,ds1,p1,q1,rfl,rfl,rfl,h1,r1⟩ := trodAll_cons r0
 obtain ⟨v2,vs2,d2,ds2,p2,q2,rfl,rfl,rfl,h2,r2⟩ := trodAll_cons r1
 obtain ⟨rfl,rfl,rfl⟩ := trodAll_nil r2
 obtain rfl : args = #[v0,v1,v2] := by cases args; simp_all
 obtain ⟨rfl,rfl⟩ := trodVars_none hV
 obtain ⟨l0,hl0,hr0⟩ := Sym.open_bytes Tryz.underlying22 Tryz.underlying5 cellsB h0 (by obtain ⟨a,n,c,rfl⟩ := okWide_slice Tryz.underlying22 (hval 0 22 _ rfl rfl); rfl)
 obtain ⟨l1,hl1,hr1⟩ := Sym.open_bytes Tryz.underlying22 Tryz.underlying5 cellsB h1 (by obtain ⟨a,n,c,rfl⟩ := okWide_slice Tryz.underlying22 (hval 1 22 _ rfl rfl); rfl)
 obtain ⟨e2,n2,m2,c2,k2,hr2⟩ := Sym.open_env Tryz.underlying33 h2 (okEnv (hval 2 33 _ rfl rfl)) rfl rfl Tryz.underlying26 Tryz.underlying3 Tryz.underlying30 Tryz.underlying31 cellsE
 clear hA0 hval0
 refine (walk l0 hl0 v0 l1 hl1 v1 e2 n2 m2 c2 k2 v2 W hr0 hr1 hr2).mono fun e W' ⟨he,hg⟩ => ?_
 subst he
 refine ⟨_,rfl,Go.Eng.post_of_below (pv := []) hW' (fun _ _ _ => (trodAll_cons_mk (shut_bool Tryz.underlying4 _) trodAll_mk0)) (fun sp hsp => ?_) (fun _ _ => rfl) rfl
  hg (ok_one (by kernel_rfl) rfl (okWide_bool_mk Tryz.underlying4 _))⟩
 have hT : ∀ t ∈ ([22,22,33] : List TypeId),t < Tryz.prog.types.size := by
  intro t ht
  simp only [List.mem_cons,List.not_mem_nil,or_false] at ht
  rcases ht with rfl | rfl | rfl
  ·exact row22
  ·exact row22
  ·exact row33
 have hk := Sym.arg_kept kids full hg (sp := sp) hT hAk (fun x hx => hsp x (List.mem_append_left _ hx))
 rw [Tryz.params6]
 exact hk
theorem over : Rows.vMBrokenRow.holds Tryz.pinned (OpenSpec.ofChange Rows.vMBrokenSpec) :=
 OpenClaim.holds_of_wide 6 Tryz.f6 rfl rfl rfl rfl rfl rfl rfl ⟨rfl,rfl,rfl,rfl,rfl⟩ rfl rfl rfl rfl rfl (by kernel_rfl) Tryz.func6 (by kernel_rfl)
  (of_decide_eq_true (by kernel_rfl)) (by unfold Func.isWrapper; first | (rw [if_pos (by decide +kernel)]; kernel_rfl) | (rw [if_neg (by decide +kernel)]; exact ⟨rfl,rfl⟩))
  (fun os started H enc _ => lifted os started H enc)
theorem proved : Rows.VMBrokenSaid := over
end Go.Proofs.YtcallbfckjlagaaGreat.vMBroken
#print axioms Go.Proofs.YtcallbfckjlagaaGreat.vMBroken.proved
end
