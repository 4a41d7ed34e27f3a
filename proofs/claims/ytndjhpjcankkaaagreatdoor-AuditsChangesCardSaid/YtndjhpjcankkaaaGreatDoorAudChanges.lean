/-
  CLAIM: AuditsChanges holds, as its tied card says it: for every input the law's call returns true and leaves its arguments as they were; the listed package variables (tables of the library) hold what the program's text lays.
-/
import Derived.Test.YtndjhpjcankkaaaGreatDoorRows
import Derived.Test.YtndjhpjcankkaaaGreatDoorTie
import Derived.Test.YtndjhpjcankkaaaGreatDoorCards
import Derived.WalkKit
import Derived.ProofKit
import Derived.OpenShut
import Derived.LaidMore
import Derived.Lay
import Derived.MakeChecks
import Derived.Stop.Joined
import Derived.SevenTiedAt
import Derived.Test.YtndjhpjcankkaaaGreatDoorAudk
namespace Go.Proofs.YtndjhpjcankkaaaGreatDoor.auditsChanges
open Go.ChangeShapes Go.WideShapes Go.ChangeAt Go.RowKit
set_option linter.unusedVariables false

theorem own : ownKnob Tryz.prog.godebug = none := by kernel_rfl
theorem kids : Kids Tryz.prog (· < Tryz.prog.types.size) := kids_rows (by kernel_rfl) (by kernel_rfl)
theorem full : ∀ t e, t < Tryz.prog.types.size → Tryz.prog.underlying t = some (.slice e) → 0 < Tryz.prog.cellsOf e := slices_full_of Tryz.prog (by kernel_rfl)
theorem row3 : 3 < Tryz.prog.types.size := of_decide_eq_true (by kernel_rfl)
theorem row30 : 30 < Tryz.prog.types.size := of_decide_eq_true (by kernel_rfl)
theorem row45 : 45 < Tryz.prog.types.size := of_decide_eq_true (by kernel_rfl)

/-- The tables lie where the row says. -/
theorem tabOk {W : World} (h : laidMetH Tryz.prog Rows.auditsChangesRow.laid W) (hsh : W.ShapedOpen Tryz.prog) : Sym.TabOk W := by
  have h2 : laidMet Tryz.prog Rows.auditsChangesRow.laid W := h
  intro x hx
  have hx : x = ((3 : Nat), fun r => r = (Lib.pow10Tab.map fun z => Value.int .u64 z).toArray) ∨ x = ((0 : Nat), fun r => ∃ m, r = #[.int .i64 m]) ∨ x = ((1 : Nat), fun r => ∃ te pe, r = #[.iface te pe]) ∨ x = ((2 : Nat), fun r => ∃ te pe, r = #[.iface te pe]) := by simpa [Sym.Tab.tab] using hx
  rcases hx with rfl | rfl | rfl | rfl
  · exact Sym.laid_tab h2 (List.mem_cons_of_mem _ (List.mem_cons_of_mem _ List.mem_cons_self)) (by kernel_rfl) (by kernel_rfl) Tryz.underlying161 Tryz.underlying146 (by kernel_rfl) (by kernel_rfl) (by kernel_rfl)
  · exact Sym.shape_int (zero := #[.int .i64 0]) (t := 3) hsh (of_decide_eq_true (by kernel_rfl)) (by kernel_rfl) rfl (by kernel_rfl) (by kernel_rfl) Tryz.underlying3
  · exact Sym.laid_err h2 (List.mem_cons_of_mem _ (List.mem_cons_of_mem _ (List.mem_cons_of_mem _ (List.mem_cons_of_mem _ (List.mem_cons_of_mem _ List.mem_cons_self))))) (by kernel_rfl) (by kernel_rfl) Tryz.underlying101
  · exact Sym.laid_err h2 (List.mem_cons_of_mem _ (List.mem_cons_of_mem _ (List.mem_cons_of_mem _ (List.mem_cons_of_mem _ List.mem_cons_self)))) (by kernel_rfl) (by kernel_rfl) Tryz.underlying101

theorem door_met (os : Os) (args : Array Value) : laidMetH Tryz.prog Rows.auditsChangesRow.laid ((World.laidAll Tryz.prog os Rows.auditsChangesRow.laid).forCall (fun _ _ => 0) ⟨#[], args, []⟩).memory :=
  by rw [MakeChecks.laidMetH_plain _ _ _ (by kernel_rfl)]; exact laidMet_laidAll _ (by kernel_rfl) (by kernel_rfl)

theorem walk (l0 : Pb.Dsk) (hl0 : lenD l0) (v0 : Value) (l1 : Pb.Sco) (hl1 : l1.name.length ≤ 9223372036854775807) (v1 : Value) (l2 : Int) (hl2 : Pb.I6 l2) (v2 : Value) (w : World) (hT : Sym.TabOk w) (hr0 : Sym.VRel (Sym.topR w hT) (Pb.Dsk.v l0) v0) (hr1 : Sym.VRel (Sym.topR w hT) (Pb.Sco.v l1) v1) (hr2 : Sym.VRel (Sym.topR w hT) (.int .i64 l2) v2) :
    Calls Tryz.prog 11 #[v0, v1, v2] w fun e w' => e = .returned (.bool true) ∧ Below w.heap.size w w' := by
  have h := Sym.AC.top (P := Tryz.prog) (f := 11) (c_changes l0 l1 l2 hl0 hl1 hl2).ac w hT #[v0, v1, v2] ⟨rfl, fun i x y hx hy => ?_⟩
  · refine h.mono ?_
    rintro e w' ⟨v, v', H', c', ρ', e1, q, hv, hb⟩
    subst q
    cases hv
    exact ⟨e1, hb⟩
  · rcases i with _ | _ | _ | _
    · cases hx; cases hy; exact hr0
    · cases hx; cases hy; exact hr1
    · cases hx; cases hy; exact hr2
    · cases hx

set_option maxRecDepth 100000 in
theorem lifted (os : Os) (started : os.Started) (H : Type) (enc : TypeId × Value → H) :
    ReturnsInHanded {} Tryz.checked os 11 .any (fun w args => (Rows.auditsChangesSpec.pre enc Tryz.prog Tryz.f11 [] false w args ∧ laidMetH Tryz.prog Rows.auditsChangesRow.laid w) ∧ sizedMet enc Tryz.prog Tryz.f11 (OpenSpec.ofChange Rows.auditsChangesSpec) false w args)
      (Rows.auditsChangesSpec.post enc Tryz.prog Tryz.f11 false true false false) := by
  refine Sym.handed_shape (C := Tryz.checked) (X := fun w _ => laidMetH Tryz.prog Rows.auditsChangesRow.laid w) (fun _ _ _ hh h => h.of_heap hh) own started (by kernel_rfl) Tryz.func11
    (ChangeSpec.witness_shaped (enc := enc) (C := Tryz.checked) (os := os) (X := fun w _ => laidMetH Tryz.prog Rows.auditsChangesRow.laid w) false (World.laidAll Tryz.prog os Rows.auditsChangesRow.laid) #[.agg #[.slice none 0 0, .int .i64 0, .slice none 0 0, .slice none 0 0, .slice none 0 0, .slice none 0 0], .agg #[.string ⟨#[]⟩, .int .i64 0], .int .i64 0] 8 (World.laidAll_os _ _ _) (World.shaped_of_ZipB (by kernel_rfl) (by kernel_rfl)) (by kernel_rfl) (by kernel_rfl) (by kernel_rfl) (door_met os _)) ?_
  intro W base args ds gs before hval0 hW hL hsh
  have hval : ∀ (j : Nat) t v, Tryz.f11.params[j]? = some t → args[j]? = some v → Value.okWide Tryz.prog W .any base t v := hval0
  have hW' := hW
  obtain ⟨p, q, hA0, hV, rfl, hfz, hnd⟩ := hW
  have hA : DataW.TrodAll enc Tryz.prog W 0 (fun _ => true) true Tryz.f11.params.toList args.toList ds p := hA0
  rw [Tryz.params11] at hA hval
  have hAk := hA
  obtain ⟨v0, vs0, d0, ds0, p0, q0, hargs, rfl, rfl, h0, r0⟩ := trodAll_cons hA
  obtain ⟨v1, vs1, d1, ds1, p1, q1, rfl, rfl, rfl, h1, r1⟩ := trodAll_cons r0
  obtain ⟨v2, vs2, d2, ds2, p2, q2, rfl, rfl, rfl, h2, r2⟩ := trodAll_cons r1
  obtain ⟨rfl, rfl, rfl⟩ := trodAll_nil r2
  obtain rfl : args = #[v0, v1, v2] := by cases args; simp_all
  obtain ⟨rfl, rfl⟩ := trodVars_none hV
  have hT := tabOk hL hsh
  obtain ⟨l0, hl0, hr0⟩ := Sym.Reads1.argS (rdDesk (hT := hT)) h0 (by obtain ⟨cs, e, -⟩ := okWide_struct Tryz.underlying30 (hval 0 30 _ rfl rfl); exact ⟨cs, e⟩)
  obtain ⟨l1, hl1, hr1⟩ := Sym.Reads1.argS (rdSco (hT := hT)) h1 (by obtain ⟨cs, e, -⟩ := okWide_struct Tryz.underlying45 (hval 1 45 _ rfl rfl); exact ⟨cs, e⟩)
  obtain ⟨l2, hl2, hr2⟩ := Sym.Reads1.arg1 (rdI (hT := hT)) h2 (by obtain ⟨n, rfl⟩ := okWide_int Tryz.underlying3 (hval 2 3 _ rfl rfl); rfl)
  clear hA0 hval0
  refine (walk l0 hl0 v0 l1 hl1 v1 l2 hl2 v2 W hT hr0 hr1 hr2).mono fun e W' ⟨he, hg⟩ => ?_
  subst he
  refine ⟨_, rfl, Go.Eng.post_of_below (pv := []) hW' (fun _ _ _ => (trodAll_cons_mk (shut_bool Tryz.underlying4 _) trodAll_mk0)) (fun sp hsp => ?_) (fun _ _ => rfl) rfl
    hg (ok_one (by kernel_rfl) rfl (okWide_bool_mk Tryz.underlying4 _))⟩
  have hT : ∀ t ∈ ([30, 45, 3] : List TypeId), t < Tryz.prog.types.size := by
    intro t ht
    simp only [List.mem_cons, List.not_mem_nil, or_false] at ht
    rcases ht with rfl | rfl | rfl
    · exact row30
    · exact row45
    · exact row3
  have hk := Sym.arg_kept kids full hg (sp := sp) hT hAk (fun x hx => hsp x (List.mem_append_left _ hx))
  rw [Tryz.params11]
  exact hk

theorem over : Rows.auditsChangesRow.holds Tryz.pinned (OpenSpec.ofChange Rows.auditsChangesSpec) :=
  OpenClaim.holds_of_wide 11 Tryz.f11 rfl rfl rfl rfl rfl rfl rfl ⟨rfl, rfl, rfl, rfl, rfl⟩ rfl rfl rfl rfl rfl (by kernel_rfl) Tryz.func11 (by kernel_rfl)
    (of_decide_eq_true (by kernel_rfl)) (by unfold Func.isWrapper; first | (rw [if_pos (by decide +kernel)]; kernel_rfl) | (rw [if_neg (by decide +kernel)]; exact ⟨rfl, rfl⟩))
    (fun os started H enc _ => lifted os started H enc)

theorem rowHolds : Rows.AuditsChangesSaid := over

/-- ████ THE STATEMENT ████ -/
theorem proved : Rows.AuditsChangesCardSaid :=
  Claim7.holds_tied_plain_at .later [] [.data, .data, .data, .data, .sentinel, .sentinel, .pinned] true (true, "af7a35e5067dc4570083d05e26b26ed7704004e6cf09f4d6d67fab268d9f2f68") true
    rowHolds (fun _ h => by cases h) (by kernel_rfl) (fun _ h => by cases h) auditsChanges_row_tie rfl ⟨rfl, rfl⟩ (by kernel_rfl) rfl
    (fun f fn hf hfn => by
      obtain rfl : f = 11 := Option.some.inj ((show Tryz.prog.funcNamed Rows.auditsChangesRow.func = some 11 by kernel_rfl).symm.trans hf) |>.symm
      obtain rfl : fn = Tryz.f11 := (Option.some.inj (Tryz.func11.symm.trans hfn)).symm
      exact ⟨by kernel_rfl, fun j t ht => by
        rw [Tryz.params11] at ht
        have hm : t ∈ [30, 45, 3] := by simpa using Array.mem_of_getElem? ht
        have hall : ([30, 45, 3].all fun u => !Tryz.prog.wantsStandIn u) = true := by kernel_rfl
        exact (show Tryz.prog.wantsStandIn t = false by simpa using List.all_eq_true.1 hall t hm)⟩)
    (by kernel_rfl)
#print axioms proved
end Go.Proofs.YtndjhpjcankkaaaGreatDoor.auditsChanges
