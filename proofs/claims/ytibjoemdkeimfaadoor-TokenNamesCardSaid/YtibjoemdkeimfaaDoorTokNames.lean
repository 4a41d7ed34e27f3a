/-
  CLAIM: TokenNames holds, as its tied card says it: for every input the law's call returns true and leaves its arguments as they were; the listed package variables (tables of the library) hold what the program's text lays.
-/
import Derived.Test.YtibjoemdkeimfaaDoorRows
import Derived.Test.YtibjoemdkeimfaaDoorTie
import Derived.Test.YtibjoemdkeimfaaDoorCards
import Derived.WalkKit
import Derived.ProofKit
import Derived.OpenShut
import Derived.LaidMore
import Derived.Stop.Joined
import Derived.SevenTiedAt
import Derived.Test.YtibjoemdkeimfaaDoorTokg
namespace Go.Proofs.YtibjoemdkeimfaaDoor.tokenNames
open Go.ChangeShapes Go.WideShapes Go.ChangeAt Go.RowKit
set_option linter.unusedVariables false

theorem own : ownKnob Tryd.prog.godebug = none := by kernel_rfl
theorem kids : Kids Tryd.prog (· < Tryd.prog.types.size) := kids_rows (by kernel_rfl) (by kernel_rfl)
theorem full : ∀ t e, t < Tryd.prog.types.size → Tryd.prog.underlying t = some (.slice e) → 0 < Tryd.prog.cellsOf e := slices_full_of Tryd.prog (by kernel_rfl)
theorem row5 : 5 < Tryd.prog.types.size := of_decide_eq_true (by kernel_rfl)
theorem row9 : 9 < Tryd.prog.types.size := of_decide_eq_true (by kernel_rfl)

/-- The tables lie where the row says. -/
theorem tabOk {W : World} (h : laidMetH Tryd.prog Rows.tokenNamesRow.laid W) : Sym.TabOk W := by
  have h2 : laidMet Tryd.prog Rows.tokenNamesRow.laid W := h
  intro x hx
  have hx : x = ((2 : Nat), fun r => r = (Lib.pow10Tab.map fun z => Value.int .u64 z).toArray) ∨ x = ((0 : Nat), fun r => r = (Lib.asciiSpaceTab.map fun z => Value.int .u8 z).toArray) ∨ x = ((5 : Nat), fun r => ∃ te pe, r = #[.iface te pe]) := by simpa [Sym.Tab.tab] using hx
  rcases hx with rfl | rfl | rfl
  · exact Sym.laid_tab h2 (List.mem_cons_of_mem _ (List.mem_cons_of_mem _ List.mem_cons_self)) (by kernel_rfl) (by kernel_rfl) Tryd.underlying113 Tryd.underlying85 (by kernel_rfl) (by kernel_rfl) (by kernel_rfl)
  · exact Sym.laid_tab h2 (List.mem_cons_of_mem _ (List.mem_cons_of_mem _ (List.mem_cons_of_mem _ (List.mem_cons_of_mem _ (List.mem_cons_of_mem _ (List.mem_cons_of_mem _ List.mem_cons_self)))))) (by kernel_rfl) (by kernel_rfl) Tryd.underlying69 Tryd.underlying5 (by kernel_rfl) (by kernel_rfl) (by kernel_rfl)
  · exact Sym.laid_err h2 (List.mem_cons_of_mem _ (List.mem_cons_of_mem _ (List.mem_cons_of_mem _ List.mem_cons_self))) (by kernel_rfl) (by kernel_rfl) Tryd.underlying65

theorem door_met (os : Os) (args : Array Value) : laidMetH Tryd.prog Rows.tokenNamesRow.laid ((World.doorLaid Tryd.prog 400 os).forCall (fun _ _ => 0) ⟨#[], args, []⟩).memory :=
  laidMetH_of_parts3 (fuel := 8) (laidMet_of_run' 8 (by kernel_rfl) (by kernel_rfl)) (by kernel_rfl) (by kernel_rfl)

theorem walk (l0 : List UInt8) (hl0 : l0.length ≤ 9223372036854775807) (v0 : Value) (u1 : UInt8) (v1 : Value) (w : World) (hT : Sym.TabOk w) (hr0 : Sym.VRel (Sym.topR w hT) (.str l0) v0) (hr1 : Sym.VRel (Sym.topR w hT) (.int .u8 (u1.toNat : Int)) v1) :
    Calls Tryd.prog 4 #[v0, v1] w fun e w' => e = .returned (.bool true) ∧ Below w.heap.size w w' := by
  have h := Sym.AC.top (P := Tryd.prog) (f := 4) (c_names l0 hl0 u1).ac w hT #[v0, v1] ⟨rfl, fun i x y hx hy => ?_⟩
  · refine h.mono ?_
    rintro e w' ⟨v, v', H', c', ρ', e1, q, hv, hb⟩
    subst q
    cases hv
    exact ⟨e1, hb⟩
  · rcases i with _ | _ | _
    · cases hx; cases hy; exact hr0
    · cases hx; cases hy; exact hr1
    · cases hx

set_option maxRecDepth 100000 in
theorem lifted (os : Os) (started : os.Started) (H : Type) (enc : TypeId × Value → H) :
    ReturnsInHanded {} Tryd.checked os 4 .any (fun w args => (Rows.tokenNamesSpec.pre enc Tryd.prog Tryd.f4 [] false w args ∧ laidMetH Tryd.prog Rows.tokenNamesRow.laid w) ∧ sizedMet enc Tryd.prog Tryd.f4 (OpenSpec.ofChange Rows.tokenNamesSpec) false w args)
      (Rows.tokenNamesSpec.post enc Tryd.prog Tryd.f4 false true false false) := by
  refine returnsInHanded_of_change_and (C := Tryd.checked) (X := fun w _ => laidMetH Tryd.prog Rows.tokenNamesRow.laid w) (fun _ _ _ hh h => h.of_heap hh) own started (by kernel_rfl) Tryd.func4
    (ChangeSpec.witness_shaped (enc := enc) (C := Tryd.checked) (os := os) (X := fun w _ => laidMetH Tryd.prog Rows.tokenNamesRow.laid w) false (World.doorLaid Tryd.prog 400 os) #[.string ⟨#[]⟩, .int .u8 0] 8 rfl (World.shaped_of_RefB (by kernel_rfl) (by kernel_rfl)) (by kernel_rfl) (by kernel_rfl) (by kernel_rfl) (door_met os _)) ?_
  intro W base args ds gs before hval0 hW _ _ hL _
  have hval : ∀ (j : Nat) t v, Tryd.f4.params[j]? = some t → args[j]? = some v → Value.okWide Tryd.prog W .any base t v := hval0
  have hW' := hW
  obtain ⟨p, q, hA0, hV, rfl, hfz, hnd⟩ := hW
  have hA : DataW.TrodAll enc Tryd.prog W 0 (fun _ => true) true Tryd.f4.params.toList args.toList ds p := hA0
  rw [Tryd.params4] at hA hval
  have hAk := hA
  obtain ⟨v0, vs0, d0, ds0, p0, q0, hargs, rfl, rfl, h0, r0⟩ := trodAll_cons hA
  obtain ⟨v1, vs1, d1, ds1, p1, q1, rfl, rfl, rfl, h1, r1⟩ := trodAll_cons r0
  obtain ⟨rfl, rfl, rfl⟩ := trodAll_nil r1
  obtain rfl : args = #[v0, v1] := by cases args; simp_all
  obtain ⟨rfl, rfl⟩ := trodVars_none hV
  have hT := tabOk hL
  obtain ⟨l0, hl0, hr0⟩ := Sym.open_str (hT := hT) Tryd.underlying9 h0 (by obtain ⟨x, rfl⟩ := okWide_string Tryd.underlying9 (hval 0 9 _ rfl rfl); rfl)
  obtain ⟨u1, hr1⟩ := Sym.open_u8 (hT := hT) Tryd.underlying5 (hval 1 5 _ rfl rfl) h1
  clear hA0 hval0
  refine (walk l0 hl0 v0 u1 v1 W hT hr0 hr1).mono fun e W' ⟨he, hg⟩ => ?_
  subst he
  refine ⟨_, rfl, Go.Eng.post_of_below (pv := []) hW' (fun _ _ _ => (trodAll_cons_mk (shut_bool Tryd.underlying4 _) trodAll_mk0)) (fun sp hsp => ?_) (fun _ _ => rfl) rfl
    hg (ok_one (by kernel_rfl) rfl (okWide_bool_mk Tryd.underlying4 _))⟩
  have hT : ∀ t ∈ ([9, 5] : List TypeId), t < Tryd.prog.types.size := by
    intro t ht
    simp only [List.mem_cons, List.not_mem_nil, or_false] at ht
    rcases ht with rfl | rfl
    · exact row9
    · exact row5
  have hk := Sym.arg_kept kids full hg (sp := sp) hT hAk (fun x hx => hsp x (List.mem_append_left _ hx))
  rw [Tryd.params4]
  exact hk

theorem over : Rows.tokenNamesRow.holds Tryd.pinned (OpenSpec.ofChange Rows.tokenNamesSpec) :=
  OpenClaim.holds_of_wide 4 Tryd.f4 rfl rfl rfl rfl rfl rfl rfl ⟨rfl, rfl, rfl, rfl, rfl⟩ rfl rfl rfl rfl rfl (by kernel_rfl) Tryd.func4 (by kernel_rfl)
    (of_decide_eq_true (by kernel_rfl)) (by unfold Func.isWrapper; first | (rw [if_pos (by decide +kernel)]; kernel_rfl) | (rw [if_neg (by decide +kernel)]; exact ⟨rfl, rfl⟩))
    (fun os started H enc _ => lifted os started H enc)

theorem rowHolds : Rows.TokenNamesSaid := over

/-- ████ THE STATEMENT ████ -/
theorem proved : Rows.TokenNamesCardSaid :=
  Claim7.holds_tied_plain_at .later [] [.data, .data, .data, .sentinel, .sentinel, .listed, .data] true (true, "c02b8fe63bbfacac12f69b04820d7b81ffa07ec08d3e4fba51bc6a34f929eaaf") true
    rowHolds (fun _ h => by cases h) (by kernel_rfl) (fun _ h => by cases h) tokenNames_row_tie rfl ⟨rfl, rfl⟩ (by kernel_rfl) rfl
    (fun f fn hf hfn => by
      obtain rfl : f = 4 := Option.some.inj ((show Tryd.prog.funcNamed Rows.tokenNamesRow.func = some 4 by kernel_rfl).symm.trans hf) |>.symm
      obtain rfl : fn = Tryd.f4 := (Option.some.inj (Tryd.func4.symm.trans hfn)).symm
      exact ⟨by kernel_rfl, fun j t ht => by
        rw [Tryd.params4] at ht
        have hm : t ∈ [9, 5] := by simpa using Array.mem_of_getElem? ht
        have hall : ([9, 5].all fun u => !Tryd.prog.wantsStandIn u) = true := by kernel_rfl
        exact (show Tryd.prog.wantsStandIn t = false by simpa using List.all_eq_true.1 hall t hm)⟩)
    (by kernel_rfl)
#print axioms proved
end Go.Proofs.YtibjoemdkeimfaaDoor.tokenNames
