/-
  CLAIM: BytecodeDecodes holds, as its tied card says it: for every input the law's call returns true and leaves its arguments as they were; the listed package variables (tables of the library) hold what the program's text lays.
-/
import Derived.Test.YtcallbfckjlagaaDoorRows
import Derived.Test.YtcallbfckjlagaaDoorTie
import Derived.Test.YtcallbfckjlagaaDoorCards
import Derived.WalkKit
import Derived.ProofKit
import Derived.OpenShut
import Derived.LaidMore
import Derived.Stop.Joined
import Derived.SevenTiedAt
import Derived.Test.YtcallbfckjlagaaDoorDech
namespace Go.Proofs.YtcallbfckjlagaaDoor.bytecodeDecodes
open Go.ChangeShapes Go.WideShapes Go.ChangeAt Go.RowKit
set_option linter.unusedVariables false
theorem own : ownKnob Tryd.prog.godebug = none := by kernel_rfl
theorem kids : Kids Tryd.prog (· < Tryd.prog.types.size) := kids_rows (by kernel_rfl) (by kernel_rfl)
theorem full : ∀ t e, t < Tryd.prog.types.size → Tryd.prog.underlying t = some (.slice e) → 0 < Tryd.prog.cellsOf e := slices_full_of Tryd.prog (by kernel_rfl)
theorem row : 22 < Tryd.prog.types.size := of_decide_eq_true (by kernel_rfl)
theorem row9 : 9 < Tryd.prog.types.size := of_decide_eq_true (by kernel_rfl)
theorem row37 : 37 < Tryd.prog.types.size := of_decide_eq_true (by kernel_rfl)
theorem cellsB : Tryd.prog.cellsOf 5 = 1 := by kernel_rfl
theorem cellsA : Tryd.prog.cellsOf 37 = 3 := by kernel_rfl
set_option maxRecDepth 100000 in
theorem okArr {w : World} {r : Reach} {b : Nat} {v : Value} (h : Value.okWide Tryd.prog w r b 37 v) : ∃ cs : Array Value, v = .agg cs ∧ cs.size = 3 := by
  simp only [Value.okWide, Tryd.underlying37] at h
  obtain ⟨cs, h1, h2, -⟩ := h
  exact ⟨cs, h1, by rw [h2, cellsA]⟩
theorem door_met (os : Os) (args : Array Value) : laidMetH Tryd.prog Rows.bytecodeDecodesRow.laid ((World.doorLaid Tryd.prog 400 os).forCall (fun _ _ => 0) ⟨#[], args, []⟩).memory :=
  laidMetH_of_parts3 (fuel := 8) (laidMet_of_run' 8 (by kernel_rfl) (by kernel_rfl)) (by kernel_rfl) (by kernel_rfl)
theorem walk (l0 : List UInt8) (hl0 : l0.length ≤ 9223372036854775807) (v0 : Value) (l1 : List UInt8) (hl1 : l1.length ≤ 9223372036854775807) (v1 : Value) (a0 a1 a2 : Nat) (b0 : a0 < 256) (b1 : a1 < 256) (b2 : a2 < 256) (v2 : Value) (w : World) (hr0 : Sym.VRel (Sym.topR w) (.lst (Pb.bytesC l0)) v0) (hr1 : Sym.VRel (Sym.topR w) (.str l1) v1) (hr2 : Sym.VRel (Sym.topR w) (.agg [.int .u8 (a0 : Int), .int .u8 (a1 : Int), .int .u8 (a2 : Int)]) v2) :
    Calls Tryd.prog 5 #[v0, v1, v2] w fun e w' => e = .returned (.bool true) ∧ Below w.heap.size w w' := by
  have h := Sym.AC.top (P := Tryd.prog) (f := 5) (c_decLaw l0 l1 a0 a1 a2 b0 b1 b2 hl0 hl1).ac w #[v0, v1, v2] ⟨rfl, fun i x y hx hy => ?_⟩
  · refine h.mono ?_
    rintro e w' ⟨v, v', H', c', ρ', e1, q, hv, hb⟩
    subst q
    cases hv
    exact ⟨e1, hb⟩
  · rcases i with _ | _ | _ | _
    · cases hx; cases hy; exact hr0
    · cases hx; cases hy; exact hr1
    · cases hx; cases hy; exact hr2
    · cases hx
set_option maxRecDepth 100000 in
theorem lifted (os : Os) (started : os.Started) (H : Type) (enc : TypeId × Value → H) :
    ReturnsInHanded {} Tryd.checked os 5 .any (fun w args => (Rows.bytecodeDecodesSpec.pre enc Tryd.prog Tryd.f5 [] false w args ∧ laidMetH Tryd.prog Rows.bytecodeDecodesRow.laid w) ∧ sizedMet enc Tryd.prog Tryd.f5 (OpenSpec.ofChange Rows.bytecodeDecodesSpec) false w args)
      (Rows.bytecodeDecodesSpec.post enc Tryd.prog Tryd.f5 false true false false) := by
  refine returnsInHanded_of_change_and (C := Tryd.checked) (X := fun w _ => laidMetH Tryd.prog Rows.bytecodeDecodesRow.laid w) (fun _ _ _ hh h => h.of_heap hh) own started (by kernel_rfl) Tryd.func5
    (ChangeSpec.witness_shaped (enc := enc) (C := Tryd.checked) (os := os) (X := fun w _ => laidMetH Tryd.prog Rows.bytecodeDecodesRow.laid w) false (World.doorLaid Tryd.prog 400 os) #[.slice none 0 0, .string ⟨#[]⟩, .agg #[.int .u8 0, .int .u8 0, .int .u8 0]] 8 rfl (World.shaped_of_RefB (by kernel_rfl) (by kernel_rfl)) (by kernel_rfl) (by kernel_rfl) (by kernel_rfl) (door_met os _)) ?_
  intro W base args ds gs before hval0 hW _ _ hL _
  have hval : ∀ (j : Nat) t v, Tryd.f5.params[j]? = some t → args[j]? = some v → Value.okWide Tryd.prog W .any base t v := hval0
  have hW' := hW
  obtain ⟨p, q, hA0, hV, rfl, hfz, hnd⟩ := hW
  have hA : DataW.TrodAll enc Tryd.prog W 0 (fun _ => true) true Tryd.f5.params.toList args.toList ds p := hA0
  rw [Tryd.params5] at hA hval
  have hAk := hA
  obtain ⟨v0, vs0, d0, ds0, p0, q0, hargs, rfl, rfl, h0, r0⟩ := trodAll_cons hA
  obtain ⟨v1, vs1, d1, ds1, p1, q1, rfl, rfl, rfl, h1, r1⟩ := trodAll_cons r0
  obtain ⟨v2, vs2, d2, ds2, p2, q2, rfl, rfl, rfl, h2, r2⟩ := trodAll_cons r1
  obtain ⟨rfl, rfl, rfl⟩ := trodAll_nil r2
  obtain rfl : args = #[v0, v1, v2] := by cases args; simp_all
  obtain ⟨rfl, rfl⟩ := trodVars_none hV
  obtain ⟨l0, hl0, hr0⟩ := Sym.open_bytes Tryd.underlying22 Tryd.underlying5 cellsB h0 (by obtain ⟨a, n, c, rfl⟩ := okWide_slice Tryd.underlying22 (hval 0 22 _ rfl rfl); rfl)
  obtain ⟨l1, hl1, hr1⟩ := Sym.open_str Tryd.underlying9 h1 (by obtain ⟨x, rfl⟩ := okWide_string Tryd.underlying9 (hval 1 9 _ rfl rfl); rfl)
  obtain ⟨a0, a1, a2, b0, b1, b2, hr2⟩ := Sym.open_arr3 Tryd.underlying37 Tryd.underlying5 cellsB h2 (okArr (hval 2 37 _ rfl rfl))
  clear hA0 hval0
  refine (walk l0 hl0 v0 l1 hl1 v1 a0 a1 a2 b0 b1 b2 v2 W hr0 hr1 hr2).mono fun e W' ⟨he, hg⟩ => ?_
  subst he
  refine ⟨_, rfl, Go.Eng.post_of_below (pv := []) hW' (fun _ _ _ => (trodAll_cons_mk (shut_bool Tryd.underlying4 _) trodAll_mk0)) (fun sp hsp => ?_) (fun _ _ => rfl) rfl
    hg (ok_one (by kernel_rfl) rfl (okWide_bool_mk Tryd.underlying4 _))⟩
  have hT : ∀ t ∈ ([22, 9, 37] : List TypeId), t < Tryd.prog.types.size := by
    intro t ht
    simp only [List.mem_cons, List.not_mem_nil, or_false] at ht
    rcases ht with rfl | rfl | rfl
    · exact row
    · exact row9
    · exact row37
  have hk := Sym.arg_kept kids full hg (sp := sp) hT hAk (fun x hx => hsp x (List.mem_append_left _ hx))
  rw [Tryd.params5]
  exact hk
theorem over : Rows.bytecodeDecodesRow.holds Tryd.pinned (OpenSpec.ofChange Rows.bytecodeDecodesSpec) :=
  OpenClaim.holds_of_wide 5 Tryd.f5 rfl rfl rfl rfl rfl rfl rfl ⟨rfl, rfl, rfl, rfl, rfl⟩ rfl rfl rfl rfl rfl (by kernel_rfl) Tryd.func5 (by kernel_rfl)
    (of_decide_eq_true (by kernel_rfl)) (by unfold Func.isWrapper; first | (rw [if_pos (by decide +kernel)]; kernel_rfl) | (rw [if_neg (by decide +kernel)]; exact ⟨rfl, rfl⟩))
    (fun os started H enc _ => lifted os started H enc)
theorem rowHolds : Rows.BytecodeDecodesSaid := over
theorem proved : Rows.BytecodeDecodesCardSaid :=
  Claim7.holds_tied_plain_at .later [] [.data, .data, .data] true (true, "d4ba9963093d959c433b127b29dad56fa6b271a3f8e4f8b1b67b809d1221cb7b") false
    rowHolds (fun _ h => by cases h) (by kernel_rfl) (fun _ h => by cases h) bytecodeDecodes_row_tie rfl ⟨rfl, rfl⟩ (by kernel_rfl) rfl
    (fun f fn hf hfn => by
      obtain rfl : f = 5 := Option.some.inj ((show Tryd.prog.funcNamed Rows.bytecodeDecodesRow.func = some 5 by kernel_rfl).symm.trans hf) |>.symm
      obtain rfl : fn = Tryd.f5 := (Option.some.inj (Tryd.func5.symm.trans hfn)).symm
      exact ⟨by kernel_rfl, fun j t ht => by
        rw [Tryd.params5] at ht
        have hm : t ∈ [22, 9, 37] := by simpa using Array.mem_of_getElem? ht
        have hall : ([22, 9, 37].all fun u => !Tryd.prog.wantsStandIn u) = true := by kernel_rfl
        exact (show Tryd.prog.wantsStandIn t = false by simpa using List.all_eq_true.1 hall t hm)⟩)
    (by kernel_rfl)
end Go.Proofs.YtcallbfckjlagaaDoor.bytecodeDecodes
#print axioms Go.Proofs.YtcallbfckjlagaaDoor.bytecodeDecodes.proved
