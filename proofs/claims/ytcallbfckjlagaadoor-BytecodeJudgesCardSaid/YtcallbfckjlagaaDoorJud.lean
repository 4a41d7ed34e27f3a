/-
  CLAIM: BytecodeJudges holds, as its tied card says it: for every input the law's call returns true and leaves its arguments as they were; the listed package variables (tables of the library) hold what the program's text lays.
-/
import Derived.Test.YtcallbfckjlagaaDoorRows
import Derived.Test.YtcallbfckjlagaaDoorTie
import Derived.Test.YtcallbfckjlagaaDoorCards
import Derived.WalkKit
import Derived.ProofKit
import Derived.OpenShut
import Derived.LaidMore
import Derived.Stop.Joined
import Derived.SevenTiedAt
import Derived.Lib.LaidTab
import Derived.Test.YtcallbfckjlagaaDoorJudg
noncomputable section
namespace Go.Proofs.YtcallbfckjlagaaDoor.bytecodeJudges
open Go.ChangeShapes Go.WideShapes Go.ChangeAt Go.RowKit
set_option linter.unusedVariables false
theorem own : ownKnob Tryd.prog.godebug = none := by kernel_rfl
theorem kids : Kids Tryd.prog (· < Tryd.prog.types.size) := kids_rows (by kernel_rfl) (by kernel_rfl)
theorem full : ∀ t e, t < Tryd.prog.types.size → Tryd.prog.underlying t = some (.slice e) → 0 < Tryd.prog.cellsOf e := slices_full_of Tryd.prog (by kernel_rfl)
theorem row : 22 < Tryd.prog.types.size := of_decide_eq_true (by kernel_rfl)
theorem row28 : 28 < Tryd.prog.types.size := of_decide_eq_true (by kernel_rfl)
theorem cellsB : Tryd.prog.cellsOf 5 = 1 := by kernel_rfl
theorem cellsC : [Tryd.prog.cellsOf 23, Tryd.prog.cellsOf 24, Tryd.prog.cellsOf 25, Tryd.prog.cellsOf 26, Tryd.prog.cellsOf 3, Tryd.prog.cellsOf 49, Tryd.prog.cellsOf 9, Tryd.prog.cellsOf 47] = [1, 1, 1, 1, 1, 2, 1, 4] := by kernel_rfl
theorem cellsA : Tryd.prog.cellsOf 28 = 7 := by kernel_rfl
def fI : Array Field := #[⟨"Op", 3, 0, false, "", "", 0⟩, ⟨"A", 3, 1, false, "", "", 8⟩]
def fE : Array Field := #[⟨"Mode", 3, 0, false, "", "", 0⟩, ⟨"Trigger", 3, 1, false, "", "", 8⟩, ⟨"Index", 3, 2, false, "", "", 16⟩, ⟨"At", 3, 3, false, "", "", 24⟩]
theorem nI (j : Nat) (f : Field) (h : fI[j]? = some f) : f.offset = j ∧ f.type = 3 := by
 match j, h with
 | 0, h => cases h; exact ⟨rfl, rfl⟩
 | 1, h => cases h; exact ⟨rfl, rfl⟩
 | _ + 2, h => simp [fI] at h
theorem nE (j : Nat) (f : Field) (h : fE[j]? = some f) : f.offset = j ∧ f.type = 3 := by
 match j, h with
 | 0, h => cases h; exact ⟨rfl, rfl⟩
 | 1, h => cases h; exact ⟨rfl, rfl⟩
 | 2, h => cases h; exact ⟨rfl, rfl⟩
 | 3, h => cases h; exact ⟨rfl, rfl⟩
 | _ + 4, h => simp [fE] at h
set_option maxRecDepth 100000 in
theorem okCode {w : World} {r : Reach} {b : Nat} {v : Value} (h : Value.okWide Tryd.prog w r b 28 v) : ∃ cs : Array Value, v = .agg cs ∧ cs.size = 7 := by
 simp only [Value.okWide, Tryd.underlying28] at h
 obtain ⟨cs, h1, h2, -⟩ := h
 exact ⟨cs, h1, by rw [h2, cellsA]⟩
theorem tabName : Tryd.prog.globalNamed "internal/strconv.uint64pow10" = some 0 := by kernel_rfl
theorem tabType : (Tryd.prog.globals[0]?).map (·.type) = some 130 := by kernel_rfl
theorem tabCells : Tryd.prog.cellsOf 130 = 20 := by kernel_rfl
theorem tabCell : Tryd.prog.cellsOf 87 = 1 := by kernel_rfl
theorem tabIs : (Rows.laid_internal_strconv_uint64pow10 : DataW Unit) = Lib.tabData .u64 Lib.pow10Tab := by kernel_rfl
theorem tabOk {W : World} (h : laidMetH Tryd.prog Rows.bytecodeJudgesRow.laid W) : Sym.TabOk W := by
 have h2 : laidMet Tryd.prog Rows.bytecodeJudgesRow.laid W := h
 obtain ⟨ps, ⟨_, _, _, _, _, _, _, _, _, _, ⟨_, _, _, _, _, _, _, _, _, _, ⟨g, t, cs, fuel, p, q, e1, e2, e3, e4, -, -⟩, -⟩, -⟩, -⟩ := h2
 rw [tabName] at e1
 cases e1
 rw [tabType] at e2
 cases e2
 rw [tabIs] at e4
 have hc := Lib.cells_of_tab Tryd.underlying130 Tryd.underlying87 tabCell tabCells e4
 unfold World.var? at e3
 rw [tabName, Option.bind_some] at e3
 intro x hx
 have hx2 : x = ((0 : Nat), (Lib.pow10Tab.map fun z => Value.int .u64 z).toArray) := by simpa [Sym.Tab.tab] using hx
 subst hx2
 show Sym.topF W 0 = some _
 unfold Sym.topF
 split at e3
 ·rename_i r ty fr hh
  cases e3
  rw [hh]
  refine congrArg some (Array.toList_inj.1 (hc.trans ?_))
  simp
 ·cases e3
theorem door_met (os : Os) (args : Array Value) : laidMetH Tryd.prog Rows.bytecodeJudgesRow.laid ((World.doorLaid Tryd.prog 400 os).forCall (fun _ _ => 0) ⟨#[], args, []⟩).memory :=
 laidMetH_of_parts3 (fuel := 8) (laidMet_of_run' 8 (by kernel_rfl) (by kernel_rfl)) (by kernel_rfl) (by kernel_rfl)
theorem walk (l0 : List UInt8) (hl0 : l0.length ≤ 9223372036854775807) (v0 : Value) (l1 : List UInt8) (hl1 : l1.length ≤ 9223372036854775807) (v1 : Value) (c2 : Pb.Prg) (n2 : ∀ i ∈ c2.instrs, Pb.I6 i.op ∧ Pb.I6 i.A) (v2 : Value) (w : World) (hT : Sym.TabOk w) (hr0 : Sym.VRel (Sym.topR w hT) (.lst (Pb.bytesC l0)) v0) (hr1 : Sym.VRel (Sym.topR w hT) (.lst (Pb.bytesC l1)) v1) (hr2 : Sym.VRel (Sym.topR w hT) c2.v v2) :
  Calls Tryd.prog 3 #[v0, v1, v2] w fun e w' => e = .returned (.bool true) ∧ Below w.heap.size w w' := by
 have h := Sym.AC.top (P := Tryd.prog) (f := 3) (c_judges l0 l1 c2 hl0 hl1 n2).ac w hT #[v0, v1, v2] ⟨rfl, fun i x y hx hy => ?_⟩
 ·refine h.mono ?_
  rintro e w' ⟨v, v', H', c', ρ', e1, q, hv, hb⟩
  subst q
  cases hv
  exact ⟨e1, hb⟩
 ·rcases i with _ | _ | _ | _
  ·cases hx; cases hy; exact hr0
  ·cases hx; cases hy; exact hr1
  ·cases hx; cases hy; exact hr2
  ·cases hx
set_option maxRecDepth 100000 in
theorem lifted (os : Os) (started : os.Started) (H : Type) (enc : TypeId × Value → H) :
  ReturnsInHanded {} Tryd.checked os 3 .any (fun w args => (Rows.bytecodeJudgesSpec.pre enc Tryd.prog Tryd.f3 [] false w args ∧ laidMetH Tryd.prog Rows.bytecodeJudgesRow.laid w) ∧ sizedMet enc Tryd.prog Tryd.f3 (OpenSpec.ofChange Rows.bytecodeJudgesSpec) false w args)
   (Rows.bytecodeJudgesSpec.post enc Tryd.prog Tryd.f3 false true false false) := by
 refine returnsInHanded_of_change_and (C := Tryd.checked) (X := fun w _ => laidMetH Tryd.prog Rows.bytecodeJudgesRow.laid w) (fun _ _ _ hh h => h.of_heap hh) own started (by kernel_rfl) Tryd.func3
  (ChangeSpec.witness_shaped (enc := enc) (C := Tryd.checked) (os := os) (X := fun w _ => laidMetH Tryd.prog Rows.bytecodeJudgesRow.laid w) false (World.doorLaid Tryd.prog 400 os) #[.slice none 0 0, .slice none 0 0, .agg #[.slice none 0 0, .slice none 0 0, .slice none 0 0, .slice none 0 0, .slice none 0 0, .int .i64 0, .int .i64 0]] 8 rfl (World.shaped_of_RefB (by kernel_rfl) (by kernel_rfl)) (by kernel_rfl) (by kernel_rfl) (by kernel_rfl) (door_met os _)) ?_
 intro W base args ds gs before hval0 hW _ _ hL _
 have hval : ∀ (j : Nat) t v, Tryd.f3.params[j]? = some t → args[j]? = some v → Value.okWide Tryd.prog W .any base t v := hval0
 have hW' := hW
 obtain ⟨p, q, hA0, hV, rfl, hfz, hnd⟩ := hW
 have hA : DataW.TrodAll enc Tryd.prog W 0 (fun _ => true) true Tryd.f3.params.toList args.toList ds p := hA0
 rw [Tryd.params3] at hA hval
 have hAk := hA
 obtain ⟨v0, vs0, d0, ds0, p0, q0, hargs, rfl, rfl, h0, r0⟩ := trodAll_cons hA
 obtain ⟨v1, vs1, d1, ds1, p1, q1, rfl, rfl, rfl, h1, r1⟩ := trodAll_cons r0
 obtain ⟨v2, vs2, d2, ds2, p2, q2, rfl, rfl, rfl, h2, r2⟩ := trodAll_cons r1
 obtain ⟨rfl, rfl, rfl⟩ := trodAll_nil r2
 obtain rfl : args = #[v0, v1, v2] := by cases args; simp_all
 obtain ⟨rfl, rfl⟩ := trodVars_none hV
 have hT := tabOk hL
 obtain ⟨l0, hl0, hr0⟩ := Sym.open_bytes (hT := hT) Tryd.underlying22 Tryd.underlying5 cellsB h0 (by obtain ⟨a, n, c, rfl⟩ := okWide_slice Tryd.underlying22 (hval 0 22 _ rfl rfl); rfl)
 obtain ⟨l1, hl1, hr1⟩ := Sym.open_bytes (hT := hT) Tryd.underlying22 Tryd.underlying5 cellsB h1 (by obtain ⟨a, n, c, rfl⟩ := okWide_slice Tryd.underlying22 (hval 1 22 _ rfl rfl); rfl)
 obtain ⟨c2, n2, hr2⟩ := Sym.open_code (hT := hT) Tryd.underlying28 h2 (okCode (hval 2 28 _ rfl rfl)) rfl rfl Tryd.underlying23 Tryd.underlying24 Tryd.underlying25 Tryd.underlying26 Tryd.underlying49 Tryd.underlying9 Tryd.underlying47 Tryd.underlying3 rfl rfl nI nE cellsC
 clear hA0 hval0
 refine (walk l0 hl0 v0 l1 hl1 v1 c2 n2 v2 W hT hr0 hr1 hr2).mono fun e W' ⟨he, hg⟩ => ?_
 subst he
 refine ⟨_, rfl, Go.Eng.post_of_below (pv := []) hW' (fun _ _ _ => (trodAll_cons_mk (shut_bool Tryd.underlying4 _) trodAll_mk0)) (fun sp hsp => ?_) (fun _ _ => rfl) rfl
  hg (ok_one (by kernel_rfl) rfl (okWide_bool_mk Tryd.underlying4 _))⟩
 have hT : ∀ t ∈ ([22, 22, 28] : List TypeId), t < Tryd.prog.types.size := by
  intro t ht
  simp only [List.mem_cons, List.not_mem_nil, or_false] at ht
  rcases ht with rfl | rfl | rfl
  ·exact row
  ·exact row
  ·exact row28
 have hk := Sym.arg_kept kids full hg (sp := sp) hT hAk (fun x hx => hsp x (List.mem_append_left _ hx))
 rw [Tryd.params3]
 exact hk
theorem over : Rows.bytecodeJudgesRow.holds Tryd.pinned (OpenSpec.ofChange Rows.bytecodeJudgesSpec) :=
 OpenClaim.holds_of_wide 3 Tryd.f3 rfl rfl rfl rfl rfl rfl rfl ⟨rfl, rfl, rfl, rfl, rfl⟩ rfl rfl rfl rfl rfl (by kernel_rfl) Tryd.func3 (by kernel_rfl)
  (of_decide_eq_true (by kernel_rfl)) (by unfold Func.isWrapper; first | (rw [if_pos (by decide +kernel)]; kernel_rfl) | (rw [if_neg (by decide +kernel)]; exact ⟨rfl, rfl⟩))
  (fun os started H enc _ => lifted os started H enc)
theorem rowHolds : Rows.BytecodeJudgesSaid := over
theorem proved : Rows.BytecodeJudgesCardSaid :=
 Claim7.holds_tied_plain_at .later [] [.data, .data, .data] true (true, "d4ba9963093d959c433b127b29dad56fa6b271a3f8e4f8b1b67b809d1221cb7b") false
  rowHolds (fun _ h => by cases h) (by kernel_rfl) (fun _ h => by cases h) bytecodeJudges_row_tie rfl ⟨rfl, rfl⟩ (by kernel_rfl) rfl
  (fun f fn hf hfn => by
   obtain rfl : f = 3 := Option.some.inj ((show Tryd.prog.funcNamed Rows.bytecodeJudgesRow.func = some 3 by kernel_rfl).symm.trans hf) |>.symm
   obtain rfl : fn = Tryd.f3 := (Option.some.inj (Tryd.func3.symm.trans hfn)).symm
   exact ⟨by kernel_rfl, fun j t ht => by
    rw [Tryd.params3] at ht
    have hm : t ∈ [22, 22, 28] := by simpa using Array.mem_of_getElem? ht
    have hall : ([22, 22, 28].all fun u => !Tryd.prog.wantsStandIn u) = true := by kernel_rfl
    exact (show Tryd.prog.wantsStandIn t = false by simpa using List.all_eq_true.1 hall t hm)⟩)
  (by kernel_rfl)
end Go.Proofs.YtcallbfckjlagaaDoor.bytecodeJudges
#print axioms Go.Proofs.YtcallbfckjlagaaDoor.bytecodeJudges.proved
end
