/-
  CLAIM: AuditsStates holds, as its tied card says it: for every input the law's call returns true and leaves its arguments as they were; the listed package variables (tables of the library) hold what the program's text lays.
-/
import Derived.Test.YtndjhpjcankkaaaGreatDoorRows
import Derived.Test.YtndjhpjcankkaaaGreatDoorTie
import Derived.Test.YtndjhpjcankkaaaGreatDoorCards
import Derived.WalkKit
import Derived.ProofKit
import Derived.OpenShut
import Derived.LaidMore
import Derived.Lay
import Derived.MakeChecks
import Derived.Stop.Joined
import Derived.SevenTiedAt
import Derived.Test.YtndjhpjcankkaaaGreatDoorAudk
namespace Go.Proofs.YtndjhpjcankkaaaGreatDoor.auditsStates
open Go.ChangeShapes Go.WideShapes Go.ChangeAt Go.RowKit
set_option linter.unusedVariables false

theorem own : ownKnob Tryz.prog.godebug = none := by kernel_rfl
theorem kids : Kids Tryz.prog (· < Tryz.prog.types.size) := kids_rows (by kernel_rfl) (by kernel_rfl)
theorem full : ∀ t e, t < Tryz.prog.types.size → Tryz.prog.underlying t = some (.slice e) → 0 < Tryz.prog.cellsOf e := slices_full_of Tryz.prog (by kernel_rfl)
theorem row30 : 30 < Tryz.prog.types.size := of_decide_eq_true (by kernel_rfl)

/-- The tables lie where the row says. -/
theorem tabOk {W : World} (h : laidMetH Tryz.prog Rows.auditsStatesRow.laid W) (hsh : W.ShapedOpen Tryz.prog) : Sym.TabOk W := by
  have h2 : laidMet Tryz.prog Rows.auditsStatesRow.laid W := h
  intro x hx
  have hx : x = ((3 : Nat), fun r => r = (Lib.pow10Tab.map fun z => Value.int .u64 z).toArray) ∨ x = ((0 : Nat), fun r => ∃ m, r = #[.int .i64 m]) ∨ x = ((1 : Nat), fun r => ∃ te pe, r = #[.iface te pe]) ∨ x = ((2 : Nat), fun r => ∃ te pe, r = #[.iface te pe]) := by simpa [Sym.Tab.tab] using hx
  rcases hx with rfl | rfl | rfl | rfl
  · exact Sym.laid_tab h2 (List.mem_cons_of_mem _ (List.mem_cons_of_mem _ List.mem_cons_self)) (by kernel_rfl) (by kernel_rfl) Tryz.underlying161 Tryz.underlying146 (by kernel_rfl) (by kernel_rfl) (by kernel_rfl)
  · exact Sym.shape_int (zero := #[.int .i64 0]) (t := 3) hsh (of_decide_eq_true (by kernel_rfl)) (by kernel_rfl) rfl (by kernel_rfl) (by kernel_rfl) Tryz.underlying3
  · exact Sym.laid_err h2 (List.mem_cons_of_mem _ (List.mem_cons_of_mem _ (List.mem_cons_of_mem _ (List.mem_cons_of_mem _ (List.mem_cons_of_mem _ List.mem_cons_self))))) (by kernel_rfl) (by kernel_rfl) Tryz.underlying101
  · exact Sym.laid_err h2 (List.mem_cons_of_mem _ (List.mem_cons_of_mem _ (List.mem_cons_of_mem _ (List.mem_cons_of_mem _ List.mem_cons_self)))) (by kernel_rfl) (by kernel_rfl) Tryz.underlying101

theorem door_met (os : Os) (args : Array Value) : laidMetH Tryz.prog Rows.auditsStatesRow.laid ((World.laidAll Tryz.prog os Rows.auditsStatesRow.laid).forCall (fun _ _ => 0) ⟨#[], args, []⟩).memory :=
  by rw [MakeChecks.laidMetH_plain _ _ _ (by kernel_rfl)]; exact laidMet_laidAll _ (by kernel_rfl) (by kernel_rfl)

theorem walk (l0 : Pb.Dsk) (hl0 : lenD l0) (v0 : Value) (l1 : Pb.Dsk) (hl1 : lenD l1) (v1 : Value) (w : World) (hT : Sym.TabOk w) (hr0 : Sym.VRel (Sym.topR w hT) (Pb.Dsk.v l0) v0) (hr1 : Sym.VRel (Sym.topR w hT) (Pb.Dsk.v l1) v1) :
    Calls Tryz.prog 10 #[v0, v1] w fun e w' => e = .returned (.bool true) ∧ Below w.heap.size w w' := by
  have h := Sym.AC.top (P := Tryz.prog) (f := 10) (c_states l0 l1 hl0 hl1).ac w hT #[v0, v1] ⟨rfl, fun i x y hx hy => ?_⟩
  · refine h.mono ?_
    rintro e w' ⟨v, v', H', c', ρ', e1, q, hv, hb⟩
    subst q
    cases hv
    exact ⟨e1, hb⟩
  · rcases i with _ | _ | _
    · cases hx; cases hy; exact hr0
    · cases hx; cases hy; exact hr1
    · cases hx

set_option maxRecDepth 100000 in
theorem lifted (os : Os) (started : os.Started) (H : Type) (enc : TypeId × Value → H) :
    ReturnsInHanded {} Tryz.checked os 10 .any (fun w args => (Rows.auditsStatesSpec.pre enc Tryz.prog Tryz.f10 [] false w args ∧ laidMetH Tryz.prog Rows.auditsStatesRow.laid w) ∧ sizedMet enc Tryz.prog Tryz.f10 (OpenSpec.ofChange Rows.auditsStatesSpec) false w args)
      (Rows.auditsStatesSpec.post enc Tryz.prog Tryz.f10 false true false false) := by
  refine Sym.handed_shape (C := Tryz.checked) (X := fun w _ => laidMetH Tryz.prog Rows.auditsStatesRow.laid w) (fun _ _ _ hh h => h.of_heap hh) own started (by kernel_rfl) Tryz.func10
    (ChangeSpec.witness_shaped (enc := enc) (C := Tryz.checked) (os := os) (X := fun w _ => laidMetH Tryz.prog Rows.auditsStatesRow.laid w) false (World.laidAll Tryz.prog os Rows.auditsStatesRow.laid) #[.agg #[.slice none 0 0, .int .i64 0, .slice none 0 0, .slice none 0 0, .slice none 0 0, .slice none 0 0], .agg #[.slice none 0 0, .int .i64 0, .slice none 0 0, .slice none 0 0, .slice none 0 0, .slice none 0 0]] 8 (World.laidAll_os _ _ _) (World.shaped_of_ZipB (by kernel_rfl) (by kernel_rfl)) (by kernel_rfl) (by kernel_rfl) (by kernel_rfl) (door_met os _)) ?_
  intro W base args ds gs before hval0 hW hL hsh
  have hval : ∀ (j : Nat) t v, Tryz.f10.params[j]? = some t → args[j]? = some v → Value.okWide Tryz.prog W .any base t v := hval0
  have hW' := hW
  obtain ⟨p, q, hA0, hV, rfl, hfz, hnd⟩ := hW
  have hA : DataW.TrodAll enc Tryz.prog W 0 (fun _ => true) true Tryz.f10.params.toList args.toList ds p := hA0
  rw [Tryz.params10] at hA hval
  have hAk := hA
  obtain ⟨v0, vs0, d0, ds0, p0, q0, hargs, rfl, rfl, h0, r0⟩ := trodAll_cons hA
  obtain ⟨v1, vs1, d1, ds1, p1, q1, rfl, rfl, rfl, h1, r1⟩ := trodAll_cons r0
  obtain ⟨rfl, rfl, rfl⟩ := trodAll_nil r1
  obtain rfl : args = #[v0, v1] := by cases args; simp_all
  obtain ⟨rfl, rfl⟩ := trodVars_none hV
  have hT := tabOk hL hsh
  obtain ⟨l0, hl0, hr0⟩ := Sym.Reads1.argS (rdDesk (hT := hT)) h0 (by obtain ⟨cs, e, -⟩ := okWide_struct Tryz.underlying30 (hval 0 30 _ rfl rfl); exact ⟨cs, e⟩)
  obtain ⟨l1, hl1, hr1⟩ := Sym.Reads1.argS (rdDesk (hT := hT)) h1 (by obtain ⟨cs, e, -⟩ := okWide_struct Tryz.underlying30 (hval 1 30 _ rfl rfl); exact ⟨cs, e⟩)
  clear hA0 hval0
  refine (walk l0 hl0 v0 l1 hl1 v1 W hT hr0 hr1).mono fun e W' ⟨he, hg⟩ => ?_
  subst he
  refine ⟨_, rfl, Go.Eng.post_of_below (pv := []) hW' (fun _ _ _ => (trodAll_cons_mk (shut_bool Tryz.underlying4 _) trodAll_mk0)) (fun sp hsp => ?_) (fun _ _ => rfl) rfl
    hg (ok_one (by kernel_rfl) rfl (okWide_bool_mk Tryz.underlying4 _))⟩
  have hT : ∀ t ∈ ([30, 30] : List TypeId), t < Tryz.prog.types.size := by
    intro t ht
    simp only [List.mem_cons, List.not_mem_nil, or_false, or_self] at ht
    subst ht; exact row30
  have hk := Sym.arg_kept kids full hg (sp := sp) hT hAk (fun x hx => hsp x (List.mem_append_left _ hx))
  rw [Tryz.params10]
  exact hk

theorem over : Rows.auditsStatesRow.holds Tryz.pinned (OpenSpec.ofChange Rows.auditsStatesSpec) :=
  OpenClaim.holds_of_wide 10 Tryz.f10 rfl rfl rfl rfl rfl rfl rfl ⟨rfl, rfl, rfl, rfl, rfl⟩ rfl rfl rfl rfl rfl (by kernel_rfl) Tryz.func10 (by kernel_rfl)
    (of_decide_eq_true (by kernel_rfl)) (by unfold Func.isWrapper; first | (rw [if_pos (by decide +kernel)]; kernel_rfl) | (rw [if_neg (by decide +kernel)]; exact ⟨rfl, rfl⟩))
    (fun os started H enc _ => lifted os started H enc)

theorem rowHolds : Rows.AuditsStatesSaid := over

/-- ████ THE STATEMENT ████ -/
theorem proved : Rows.AuditsStatesCardSaid :=
  Claim7.holds_tied_plain_at .later [] [.data, .data, .data, .data, .sentinel, .sentinel, .pinned] true (true, "af7a35e5067dc4570083d05e26b26ed7704004e6cf09f4d6d67fab268d9f2f68") true
    rowHolds (fun _ h => by cases h) (by kernel_rfl) (fun _ h => by cases h) auditsStates_row_tie rfl ⟨rfl, rfl⟩ (by kernel_rfl) rfl
    (fun f fn hf hfn => by
      obtain rfl : f = 10 := Option.some.inj ((show Tryz.prog.funcNamed Rows.auditsStatesRow.func = some 10 by kernel_rfl).symm.trans hf) |>.symm
      obtain rfl : fn = Tryz.f10 := (Option.some.inj (Tryz.func10.symm.trans hfn)).symm
      exact ⟨by kernel_rfl, fun j t ht => by
        rw [Tryz.params10] at ht
        have hm : t ∈ [30, 30] := by simpa using Array.mem_of_getElem? ht
        have hall : ([30, 30].all fun u => !Tryz.prog.wantsStandIn u) = true := by kernel_rfl
        exact (show Tryz.prog.wantsStandIn t = false by simpa using List.all_eq_true.1 hall t hm)⟩)
    (by kernel_rfl)
#print axioms proved
end Go.Proofs.YtndjhpjcankkaaaGreatDoor.auditsStates
