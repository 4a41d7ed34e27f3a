/-
  HELPERS of the claim: part 4 of its texts.
-/
import Derived.ReadAgain
import Derived.ChangeBears
import Derived.Deep.Slices
import Derived.Below
import Derived.OpenShut
import Derived.Test.YtcallbfckjlagaaDoorProg
import Derived.KernelRfl
import Derived.Test.YtcallbfckjlagaaDoorDecc
set_option linter.unusedVariables false
set_option linter.unusedSimpArgs false
namespace Go.Sym
open Go.RowKit Go.Pb Go.Deep
section
variable {H : Type} {enc : TypeId × Value → H} {P : Program} {T : TypeId → Prop} {W W' : World}
theorem arg_kept (K : Kids P T) (hz : ∀ t e, T t → P.underlying t = some (.slice e) → 0 < P.cellsOf e) (hb : Below W.heap.size W W') {sp : Nat → Bool} :
    ∀ {ts : List TypeId} {vs : List Value} {ds : List (DataW H)} {ps : List MemPlace}, (∀ t ∈ ts, T t) → DataW.TrodAll enc P W 0 (fun _ => true) true ts vs ds ps → (∀ p ∈ ps, sp p.block = true) → DataW.TrodAll enc P W' 0 sp true ts vs ds ps
  | [], [], [], _, _, h, _ => h
  | t :: ts, v :: vs, d :: ds, ps, hT, ⟨p, q, h1, h2, e⟩, hs => by
    have hlt := h1
    refine ⟨p, q, ?_, arg_kept K hz hb (fun t ht => hT t (List.mem_cons.2 (Or.inr ht))) h2 (fun x hx => hs x (by rw [e]; exact List.mem_append_right _ hx)), e⟩
    have h3 := h1.respare K hz (hT _ (List.mem_cons.2 (Or.inl rfl))) (spare' := sp) (fun x hx => hs x (by rw [e]; exact List.mem_append_left _ hx))
    obtain ⟨n, hn⟩ := h3
    obtain ⟨m, hm⟩ := h1
    exact ⟨n, DataW.trod_carry n _ _ _ hn fun x hx => hb.same (DataW.trod_lt m _ _ _ hm x hx)⟩
theorem u8_of {n : Int} (h : (Lit.int .u8 n).wf = true) : n = ((UInt8.ofNat n.toNat).toNat : Int) := by
  have := bounds_u8 h
  simp
  omega
theorem open_bytes {t e : TypeId} {v : Value} {d : DataW H} {ps : List MemPlace} (ht : P.underlying t = some (.slice e)) (he : P.underlying e = some (.int .u8)) (hc : P.cellsOf e = 1)
    (h : DataW.Trod enc P W 0 (fun _ => true) true t v d ps) (hv : v.cells = #[v]) : ∃ l : List UInt8, l.length ≤ 9223372036854775807 ∧ VRel (topR W) (.lst (bytesC l)) v := by
  obtain ⟨n, hn⟩ := h
  rcases open_slice1 ht hc hn with ⟨h1, -⟩ | ⟨a, len, cap, m, n', V, D, Pl, h1, h2, h3, h4, h5, h6, h7⟩
  · rw [hv] at h1
    have : v = .slice none 0 0 := by simpa using h1
    subst this
    exact ⟨[], by simp, .lnil0⟩
  · rw [hv] at h1
    have hva : v = .slice (some a) len cap := by simpa using h1
    subst hva
    simp only [if_true] at h5
    have hk : ∀ i, i < len → ∃ k : Int, V i = .int .u8 k ∧ (Lit.int .u8 k).wf = true := by
      intro i hi
      obtain ⟨k, q1, q2, q3⟩ := DataW.trod_int he (h7 i (by omega)).2
      exact ⟨k, by simpa using q1, q3⟩
    by_cases hl0 : len = 0
    · subst hl0
      exact ⟨[], by simp, .lnil a cap⟩
    have hcell := (h7 0 (by omega)).1
    have hadd0 : a.add 0 = a := by simp [Addr.add]
    rw [hadd0] at hcell
    obtain ⟨b, off, spot⟩ := a
    have hspot : spot = none := by
      simp only [World.cell?] at hcell
      split at hcell
      · split at hcell
        · cases hcell
        · rename_i h; cases spot with
          | none => rfl
          | some s => simp at h
      · cases hcell
    subst hspot
    have hrow : ∃ row ty fr, W.heap[b]? = some (.cells row ty fr) := by
      simp only [World.cell?] at hcell
      split at hcell
      · rename_i row ty fr h; exact ⟨row, ty, fr, h⟩
      · cases hcell
    obtain ⟨row, ty, fr, hb⟩ := hrow
    have hget : ∀ i, i < len → row[off + i]? = some (V i) := by
      intro i hi
      have h8 := (h7 i (by omega)).1
      have e1 : (⟨b, off, none⟩ : Addr).add i = ⟨b, off + i, none⟩ := by
        unfold Addr.add
        split
        · rename_i h0; subst h0; rfl
        · rfl
      rw [e1] at h8
      simp only [World.cell?, hb] at h8
      exact h8
    obtain ⟨F, hF⟩ : ∃ F : Nat → UInt8, ∀ i, i < len → V i = .int .u8 ((F i).toNat : Int) := by
      have : ∀ i, ∃ f : UInt8, i < len → V i = .int .u8 (f.toNat : Int) := fun i => by
        by_cases hi : i < len
        · obtain ⟨k, q1, q2⟩ := hk i hi
          exact ⟨UInt8.ofNat k.toNat, fun _ => by rw [q1, ← u8_of q2]⟩
        · exact ⟨0, fun h => absurd h hi⟩
      exact ⟨fun i => Classical.choose (this i), fun i hi => Classical.choose_spec (this i) hi⟩
    refine ⟨(List.range len).map F, by simp only [List.length_map, List.length_range]; simp only [maxLen] at h4; omega, ?_⟩
    have hcl : cellsL (bytesC ((List.range len).map F)) = bytesC ((List.range len).map F) := cellsL_map1 (fun _ => rfl) _
    have hlen : (bytesC ((List.range len).map F)).length = len := by rw [bytesC_len]; simp
    refine .lst _ _ 1 b off cap row (topR_cells hb) hlen.symm h3 h4 (fun x hx => by obtain ⟨y, -, rfl⟩ := List.mem_map.1 hx; rfl) ?_ ?_ ?_
    · rw [hcl, hlen]
      have := (Array.getElem?_eq_some_iff.1 (hget (len - 1) (by omega))).1
      omega
    · rw [hcl]; intro x hx; obtain ⟨y, -, rfl⟩ := List.mem_map.1 hx; rfl
    · rw [hcl]
      intro k x y hx hy
      have hkl : k < len := by have := (List.getElem?_eq_some_iff.1 hx).1; omega
      rw [hget k hkl, hF k hkl] at hy
      cases hy
      have hx2 : (bytesC ((List.range len).map F))[k]? = some (DV.int .u8 ((F k).toNat : Int)) := by simp [bytesC, hkl]
      rw [hx2] at hx
      cases hx
      exact .int _ _
end
end Go.Sym
set_option linter.unusedVariables false
set_option linter.unusedSimpArgs false
namespace Go.Sym
open Go.RowKit Go.Pb Go.Deep
section
variable {H : Type} {enc : TypeId × Value → H} {P : Program} {W W' : World}
theorem open_str {t : TypeId} {v : Value} {d : DataW H} {ps : List MemPlace} (ht : P.underlying t = some .string)
    (h : DataW.Trod enc P W 0 (fun _ => true) true t v d ps) (hv : v.cells = #[v]) : ∃ l : List UInt8, l.length ≤ 9223372036854775807 ∧ VRel (topR W) (.str l) v := by
  obtain ⟨n, hn⟩ := h
  obtain ⟨s, q1, q2, q3⟩ := DataW.trod_string ht hn
  rw [hv] at q1
  have : v = .string s := by simpa using q1
  subst this
  refine ⟨s.data.toList, ?_, .str s⟩
  have e : s.data.toList.length = s.size := Array.length_toList
  unfold maxLen at q3
  omega
theorem open_arr3 {t e : TypeId} {v : Value} {d : DataW H} {ps : List MemPlace} (ht : P.underlying t = some (.array 3 e)) (he : P.underlying e = some (.int .u8)) (hc : P.cellsOf e = 1)
    (h : DataW.Trod enc P W 0 (fun _ => true) true t v d ps) (hv : ∃ cs : Array Value, v = .agg cs ∧ cs.size = 3) :
    ∃ a0 a1 a2 : Nat, a0 < 256 ∧ a1 < 256 ∧ a2 < 256 ∧ VRel (topR W) (.agg [.int .u8 (a0 : Int), .int .u8 (a1 : Int), .int .u8 (a2 : Int)]) v := by
  obtain ⟨cs, rfl, hs⟩ := hv
  obtain ⟨n, hn⟩ := h
  obtain ⟨xs, m, -, -, -, h3, h4⟩ := DataW.trod_array ht hn
  obtain ⟨x0, x1, x2, hcs⟩ : ∃ x0 x1 x2, cs.toList = [x0, x1, x2] := by
    have : cs.toList.length = 3 := by simpa using hs
    match hl : cs.toList, this with
    | [x0, x1, x2], _ => exact ⟨x0, x1, x2, rfl⟩
  have hcell : (Value.agg cs).cells.toList = [x0, x1, x2] := by simpa [Value.cells] using hcs
  have one : ∀ i, i < 3 → ∃ k : Int, [x0, x1, x2][i]? = some (.int .u8 k) ∧ (Lit.int .u8 k).wf = true := by
    intro i hi
    have h5 := h4 i hi
    rw [hc, hcell, Nat.mul_one, List.getElem?_eq_getElem (by omega)] at h5
    obtain ⟨k, q1, q2, q3⟩ := DataW.trod_int he h5
    refine ⟨k, ?_, q3⟩
    match i, hi with
    | 0, _ => simpa using q1
    | 1, _ => simpa using q1
    | 2, _ => simpa using q1
  obtain ⟨k0, e0, f0⟩ := one 0 (by omega)
  obtain ⟨k1, e1, f1⟩ := one 1 (by omega)
  obtain ⟨k2, e2, f2⟩ := one 2 (by omega)
  have b0 := bounds_u8 f0
  have b1 := bounds_u8 f1
  have b2 := bounds_u8 f2
  simp at e0 e1 e2
  subst e0 e1 e2
  have ha : cs = #[.int .u8 k0, .int .u8 k1, .int .u8 k2] := by rw [← Array.toList_inj]; exact hcs
  subst ha
  refine ⟨k0.toNat, k1.toNat, k2.toNat, by omega, by omega, by omega, ?_⟩
  have c0 : ((k0.toNat : Nat) : Int) = k0 := by omega
  have c1 : ((k1.toNat : Nat) : Int) = k1 := by omega
  have c2 : ((k2.toNat : Nat) : Int) = k2 := by omega
  rw [c0, c1, c2]
  refine .agg _ _ rfl (fun i x y hx hy => ?_)
  rcases i with _ | _ | _ | i
  · cases hx; cases hy; exact .int _ _
  · cases hx; cases hy; exact .int _ _
  · cases hx; cases hy; exact .int _ _
  · cases hx
end
end Go.Sym
set_option maxHeartbeats 4000000
set_option maxRecDepth 100000
set_option linter.unusedVariables false
namespace Go.Proofs.YtcallbfckjlagaaDoor
open Go.Eng (IC IOper DReg IFn IsFn)
open Go.Sym
noncomputable section
def u67_2r : List IOper := [oP 7 (.mv (.t 0)), oP 8 (.mv (.t 1)), oP 9 (.bin .geq (.t 7) (.t 8)), oP 10 (.mv (.t 9)), oG 11 (.mv (.t 0)) 10, oG 12 (.mv (.t 2)) 10, oG 13 (.bin .leq (.t 11) (.t 12)) 10, oP 14 (.pick (.t 10) (.t 13) (.k (.bool false))), oP 6 (.mv (.t 14))]
def u67_2 : IC := .seq (.reg u67_2r) .ret
def u67_1r : List IOper := [oP 6 (.mv (.k (.bool false)))]
def u67_1 : IC := .seq (.reg u67_1r) u67_2
def u67 : IFn := ⟨15, u67_1, [.tmp 6]⟩
end
theorem isU67 : IsFn Tryd.prog 67 u67 := by unfold IsFn; kernel_rfl
instance i67_2 : WR Tryd.prog 15 u67_2 (rS u67_2r .ret [0, 1, 2]) := ⟨mkS⟩
instance i67_1 : WR Tryd.prog 15 u67_1 (rS u67_1r u67_2 [0, 1, 2]) := ⟨mkS⟩
attribute [go_sem] u67_2r u67_1r
noncomputable section
def u53_2r : List IOper := [oP 3 (.fad 0 (.t 1)), oP 4 (.ld 1 false (.t 3)), oP 5 (.len (.t 4)), oP 6 (.bin .leq (.t 5) (.k (.int .i64 4000))), oP 7 (.mv (.t 6)), oG 8 (.fad 1 (.t 1)) 7, oG 9 (.ld 1 false (.t 8)) 7, oG 10 (.len (.t 9)) 7, oG 11 (.bin .leq (.t 10) (.k (.int .i64 200))) 7, oP 12 (.pick (.t 7) (.t 11) (.k (.bool false))), oP 13 (.mv (.t 12)), oG 14 (.fad 2 (.t 1)) 13, oG 15 (.ld 1 false (.t 14)) 13, oG 16 (.len (.t 15)) 13, oG 17 (.bin .leq (.t 16) (.k (.int .i64 512))) 13, oP 18 (.pick (.t 13) (.t 17) (.k (.bool false))), oP 19 (.mv (.t 18)), oG 20 (.fad 3 (.t 1)) 19, oG 21 (.ld 1 false (.t 20)) 19, oG 22 (.len (.t 21)) 19, oG 23 (.bin .leq (.t 22) (.k (.int .i64 16))) 19, oP 24 (.pick (.t 19) (.t 23) (.k (.bool false))), oP 25 (.mv (.t 24)), oG 26 (.fad 4 (.t 1)) 25, oG 27 (.ld 1 false (.t 26)) 25, oG 28 (.len (.t 27)) 25, oG 29 (.bin .leq (.t 28) (.k (.int .i64 128))) 25, oP 30 (.pick (.t 25) (.t 29) (.k (.bool false))), oP 31 (.mv (.t 30)), oG 32 (.fad 5 (.t 1)) 31, oG 33 (.ld 1 false (.t 32)) 31, ⟨some 34, .call 67 [.t 33, .k (.int .i64 0), .k (.int .i64 128)], some (31, true)⟩, oP 35 (.pick (.t 31) (.t 34) (.k (.bool false))), oP 36 (.mv (.t 35)), oG 37 (.fad 6 (.t 1)) 36, oG 38 (.ld 1 false (.t 37)) 36, ⟨some 39, .call 67 [.t 38, .k (.int .i64 0), .k (.int .i64 128)], some (36, true)⟩, oP 40 (.pick (.t 36) (.t 39) (.k (.bool false))), oP 2 (.mv (.t 40))]
def u53_2 : IC := .seq (.reg u53_2r) .ret
def u53_1r : List IOper := [⟨some 1, .new (.box (.t 0)), none⟩, oP 2 (.mv (.k (.bool false)))]
def u53_1 : IC := .seq (.reg u53_1r) u53_2
def u53 : IFn := ⟨41, u53_1, [.tmp 2]⟩
end
theorem isU53 : IsFn Tryd.prog 53 u53 := by unfold IsFn; kernel_rfl
instance i53_2 : WR Tryd.prog 41 u53_2 (rS u53_2r .ret [1]) := ⟨mkS⟩
instance i53_1 : WR Tryd.prog 41 u53_1 (rS u53_1r u53_2 [0]) := ⟨mkS⟩
attribute [go_sem] u53_2r u53_1r
noncomputable section
def u70_7 : IC := .cond (.t 7) .skip (.exit 0)
def u70_6r : List IOper := [oP 4 (.mv (.t 3)), oP 5 (.mv (.t 0)), oP 6 (.lens (.t 5)), oP 7 (.bin .lss (.t 4) (.t 6))]
def u70_6 : IC := .seq (.reg u70_6r) u70_7
def u70_11r : List IOper := [oP 2 (.mv (.k (.bool false)))]
def u70_11 : IC := .seq (.reg u70_11r) .ret
def u70_10 : IC := .cond (.t 19) u70_11 .skip
def u70_9r : List IOper := [oP 10 (.mv (.t 0)), oP 11 (.mv (.t 3)), oP 12 (.idx (.t 10) (.t 11)), oP 13 (.bin .lss (.t 12) (.k (.int .u8 32))), oP 14 (.mv (.t 13)), ⟨some 15, .pur (.mv (.t 0)), some (14, false)⟩, ⟨some 16, .pur (.mv (.t 3)), some (14, false)⟩, ⟨some 17, .pur (.idx (.t 15) (.t 16)), some (14, false)⟩, ⟨some 18, .pur (.bin .gtr (.t 17) (.k (.int .u8 126))), some (14, false)⟩, oP 19 (.pick (.t 14) (.k (.bool true)) (.t 18))]
def u70_9 : IC := .seq (.reg u70_9r) u70_10
def u70_12r : List IOper := [oP 8 (.mv (.t 3)), oP 9 (.bin .add (.t 8) (.k (.int .i64 1))), oP 3 (.mv (.t 9))]
def u70_12 : IC := .reg u70_12r
def u70_8 : IC := .seq (.blk 1 u70_9) u70_12
def u70_5 : IC := .seq u70_6 u70_8
def u70_4 : IC := .blk 0 (.loop u70_5)
def u70_3r : List IOper := [oP 3 (.mv (.k (.int .i64 0)))]
def u70_3 : IC := .seq (.reg u70_3r) u70_4
def u70_13r : List IOper := [oP 20 (.mv (.t 0)), oP 21 (.lens (.t 20)), oP 22 (.bin .leq (.t 21) (.k (.int .i64 32))), oP 2 (.mv (.t 22))]
def u70_13 : IC := .seq (.reg u70_13r) .ret
def u70_2 : IC := .seq u70_3 u70_13
def u70_1r : List IOper := [oP 2 (.mv (.k (.bool false)))]
def u70_1 : IC := .seq (.reg u70_1r) u70_2
def u70 : IFn := ⟨23, u70_1, [.tmp 2]⟩
end
theorem isU70 : IsFn Tryd.prog 70 u70 := by unfold IsFn; kernel_rfl
instance i70_7 : WR Tryd.prog 23 u70_7 (rCE (.t 7) .skip (.exit 0) [0, 3, 7]) := ⟨mkCE⟩
instance i70_6 : WR Tryd.prog 23 u70_6 (rS u70_6r u70_7 [0, 3]) := ⟨mkS⟩
instance i70_11 : WR Tryd.prog 23 u70_11 (rS u70_11r .ret []) := ⟨mkS⟩
instance i70_10 : WR Tryd.prog 23 u70_10 (rCE (.t 19) u70_11 .skip [0, 3, 19]) := ⟨mkCE⟩
instance i70_9 : WR Tryd.prog 23 u70_9 (rS u70_9r u70_10 [0, 3]) := ⟨mkS⟩
instance i70_12 : WR Tryd.prog 23 u70_12 (rE u70_12r [0, 3]) := ⟨mkE⟩
instance i70_8 : WR Tryd.prog 23 u70_8 (rB 1 u70_9 u70_12 [0, 3]) := ⟨mkB⟩
instance i70_5 : WR Tryd.prog 23 u70_5 (rQ u70_6 u70_8 [0, 3]) := ⟨mkQ⟩
instance i70_4 : WR Tryd.prog 23 u70_4 (rBE 0 (.loop u70_5) [0, 3]) := ⟨mkBE⟩
instance i70_3 : WR Tryd.prog 23 u70_3 (rS u70_3r u70_4 [0]) := ⟨mkS⟩
instance i70_13 : WR Tryd.prog 23 u70_13 (rS u70_13r .ret [0]) := ⟨mkS⟩
instance i70_2 : WR Tryd.prog 23 u70_2 (rQ u70_3 u70_13 [0]) := ⟨mkQ⟩
instance i70_1 : WR Tryd.prog 23 u70_1 (rS u70_1r u70_2 [0]) := ⟨mkS⟩
attribute [go_sem] u70_6r u70_11r u70_9r u70_12r u70_3r u70_13r u70_1r
noncomputable section
def u76_5r : List IOper := [oP 4 (.mv (.k (.bool false)))]
def u76_5 : IC := .seq (.reg u76_5r) .ret
def u76_4 : IC := .cond (.t 12) u76_5 .skip
def u76_3r : List IOper := [oP 5 (.fad 0 (.t 3)), oP 6 (.ld 1 false (.t 5)), oP 7 (.fad 3 (.t 2)), oP 8 (.ld 1 false (.t 7)), oP 9 (.len (.t 8)), oP 10 (.bin .sub (.t 9) (.k (.int .i64 1))), ⟨some 11, .call 67 [.t 6, .k (.int .i64 0), .t 10], none⟩, oP 12 (.un .not (.t 11))]
def u76_3 : IC := .seq (.reg u76_3r) u76_4
def u76_12r : List IOper := [oP 17 (.bin .eql (.t 14) (.k (.int .i64 2))), oP 15 (.mv (.t 17))]
def u76_12 : IC := .reg u76_12r
def u76_11 : IC := .cond (.t 15) .skip u76_12
def u76_10r : List IOper := [oP 16 (.bin .eql (.t 14) (.k (.int .i64 1))), oP 15 (.mv (.t 16))]
def u76_10 : IC := .seq (.reg u76_10r) u76_11
def u76_14r : List IOper := [oP 18 (.fad 2 (.t 3)), oP 19 (.ld 1 false (.t 18)), oP 20 (.bin .eql (.t 19) (.k (.int .i64 0))), oP 4 (.mv (.t 20))]
def u76_14 : IC := .seq (.reg u76_14r) .ret
def u76_18r : List IOper := [oP 23 (.bin .eql (.t 14) (.k (.int .i64 4))), oP 21 (.mv (.t 23))]
def u76_18 : IC := .reg u76_18r
def u76_17 : IC := .cond (.t 21) .skip u76_18
def u76_16r : List IOper := [oP 22 (.bin .eql (.t 14) (.k (.int .i64 3))), oP 21 (.mv (.t 22))]
def u76_16 : IC := .seq (.reg u76_16r) u76_17
def u76_20r : List IOper := [oP 24 (.fad 2 (.t 3)), oP 25 (.ld 1 false (.t 24)), ⟨some 26, .call 67 [.t 25, .k (.int .i64 0), .k (.int .i64 63)], none⟩, oP 4 (.mv (.t 26))]
def u76_20 : IC := .seq (.reg u76_20r) .ret
def u76_23r : List IOper := [oP 29 (.fad 2 (.t 3)), oP 30 (.ld 1 false (.t 29)), oP 31 (.fad 5 (.t 2)), oP 32 (.ld 1 false (.t 31)), oP 33 (.bin .sub (.t 32) (.k (.int .i64 1))), ⟨some 34, .call 67 [.t 30, .k (.int .i64 0), .t 33], none⟩, oP 4 (.mv (.t 34))]
def u76_23 : IC := .seq (.reg u76_23r) .ret
def u76_26r : List IOper := [oP 37 (.fad 2 (.t 3)), oP 38 (.ld 1 false (.t 37)), oP 39 (.fad 6 (.t 2)), oP 40 (.ld 1 false (.t 39)), oP 41 (.bin .sub (.t 40) (.k (.int .i64 1))), ⟨some 42, .call 67 [.t 38, .k (.int .i64 0), .t 41], none⟩, oP 4 (.mv (.t 42))]
def u76_26 : IC := .seq (.reg u76_26r) .ret
def u76_25 : IC := .cond (.t 35) u76_26 .skip
def u76_24r : List IOper := [oP 36 (.bin .eql (.t 14) (.k (.int .i64 6))), oP 35 (.mv (.t 36))]
def u76_24 : IC := .seq (.reg u76_24r) u76_25
def u76_22 : IC := .cond (.t 27) u76_23 u76_24
def u76_21r : List IOper := [oP 28 (.bin .eql (.t 14) (.k (.int .i64 5))), oP 27 (.mv (.t 28))]
def u76_21 : IC := .seq (.reg u76_21r) u76_22
def u76_19 : IC := .cond (.t 21) u76_20 u76_21
def u76_15 : IC := .seq u76_16 u76_19
def u76_13 : IC := .cond (.t 15) u76_14 u76_15
def u76_9 : IC := .seq u76_10 u76_13
def u76_8 : IC := .blk 0 u76_9
def u76_7r : List IOper := [oP 13 (.fad 1 (.t 3)), oP 14 (.ld 1 false (.t 13))]
def u76_7 : IC := .seq (.reg u76_7r) u76_8
def u76_27r : List IOper := [oP 4 (.mv (.k (.bool false)))]
def u76_27 : IC := .seq (.reg u76_27r) .ret
def u76_6 : IC := .seq u76_7 u76_27
def u76_2 : IC := .seq u76_3 u76_6
def u76_1r : List IOper := [⟨some 2, .new (.box (.t 0)), none⟩, ⟨some 3, .new (.box (.t 1)), none⟩, oP 4 (.mv (.k (.bool false)))]
def u76_1 : IC := .seq (.reg u76_1r) u76_2
def u76 : IFn := ⟨43, u76_1, [.tmp 4]⟩
end
theorem isU76 : IsFn Tryd.prog 76 u76 := by unfold IsFn; kernel_rfl
instance i76_5 : WR Tryd.prog 43 u76_5 (rS u76_5r .ret []) := ⟨mkS⟩
instance i76_4 : WR Tryd.prog 43 u76_4 (rCE (.t 12) u76_5 .skip [2, 3, 12]) := ⟨mkCE⟩
instance i76_3 : WR Tryd.prog 43 u76_3 (rS u76_3r u76_4 [2, 3]) := ⟨mkS⟩
instance i76_12 : WR Tryd.prog 43 u76_12 (rE u76_12r [2, 3, 14]) := ⟨mkE⟩
instance i76_11 : WR Tryd.prog 43 u76_11 (rCE (.t 15) .skip u76_12 [2, 3, 14, 15]) := ⟨mkCE⟩
instance i76_10 : WR Tryd.prog 43 u76_10 (rS u76_10r u76_11 [2, 3, 14]) := ⟨mkS⟩
instance i76_14 : WR Tryd.prog 43 u76_14 (rS u76_14r .ret [3]) := ⟨mkS⟩
instance i76_18 : WR Tryd.prog 43 u76_18 (rE u76_18r [2, 3, 14]) := ⟨mkE⟩
instance i76_17 : WR Tryd.prog 43 u76_17 (rCE (.t 21) .skip u76_18 [2, 3, 14, 21]) := ⟨mkCE⟩
instance i76_16 : WR Tryd.prog 43 u76_16 (rS u76_16r u76_17 [2, 3, 14]) := ⟨mkS⟩
instance i76_20 : WR Tryd.prog 43 u76_20 (rS u76_20r .ret [3]) := ⟨mkS⟩
instance i76_23 : WR Tryd.prog 43 u76_23 (rS u76_23r .ret [2, 3]) := ⟨mkS⟩
instance i76_26 : WR Tryd.prog 43 u76_26 (rS u76_26r .ret [2, 3]) := ⟨mkS⟩
instance i76_25 : WR Tryd.prog 43 u76_25 (rCE (.t 35) u76_26 .skip [2, 3, 35]) := ⟨mkCE⟩
instance i76_24 : WR Tryd.prog 43 u76_24 (rS u76_24r u76_25 [2, 3, 14]) := ⟨mkS⟩
instance i76_22 : WR Tryd.prog 43 u76_22 (rCE (.t 27) u76_23 u76_24 [2, 3, 14, 27]) := ⟨mkCE⟩
instance i76_21 : WR Tryd.prog 43 u76_21 (rS u76_21r u76_22 [2, 3, 14]) := ⟨mkS⟩
instance i76_19 : WR Tryd.prog 43 u76_19 (rCE (.t 21) u76_20 u76_21 [2, 3, 14, 21]) := ⟨mkCE⟩
instance i76_15 : WR Tryd.prog 43 u76_15 (rQ u76_16 u76_19 [2, 3, 14]) := ⟨mkQ⟩
instance i76_13 : WR Tryd.prog 43 u76_13 (rCE (.t 15) u76_14 u76_15 [2, 3, 14, 15]) := ⟨mkCE⟩
instance i76_9 : WR Tryd.prog 43 u76_9 (rQ u76_10 u76_13 [2, 3, 14]) := ⟨mkQ⟩
instance i76_8 : WR Tryd.prog 43 u76_8 (rBE 0 u76_9 [2, 3, 14]) := ⟨mkBE⟩
instance i76_7 : WR Tryd.prog 43 u76_7 (rS u76_7r u76_8 [2, 3]) := ⟨mkS⟩
instance i76_27 : WR Tryd.prog 43 u76_27 (rS u76_27r .ret []) := ⟨mkS⟩
instance i76_6 : WR Tryd.prog 43 u76_6 (rQ u76_7 u76_27 [2, 3]) := ⟨mkQ⟩
instance i76_2 : WR Tryd.prog 43 u76_2 (rQ u76_3 u76_6 [2, 3]) := ⟨mkQ⟩
instance i76_1 : WR Tryd.prog 43 u76_1 (rS u76_1r u76_2 [0, 1]) := ⟨mkS⟩
attribute [go_sem] u76_5r u76_3r u76_12r u76_10r u76_14r u76_18r u76_16r u76_20r u76_23r u76_26r u76_24r u76_21r u76_7r u76_27r u76_1r
noncomputable section
def u78_2r : List IOper := [oP 3 (.mv (.t 0)), oP 4 (.bin .eql (.t 3) (.k (.int .i64 12))), oP 5 (.mv (.t 4)), ⟨some 6, .pur (.mv (.t 0)), some (5, false)⟩, ⟨some 7, .pur (.bin .eql (.t 6) (.k (.int .i64 13))), some (5, false)⟩, oP 8 (.pick (.t 5) (.k (.bool true)) (.t 7)), oP 9 (.mv (.t 8)), ⟨some 10, .pur (.mv (.t 0)), some (9, false)⟩, ⟨some 11, .pur (.bin .eql (.t 10) (.k (.int .i64 14))), some (9, false)⟩, oP 12 (.pick (.t 9) (.k (.bool true)) (.t 11)), oP 2 (.mv (.t 12))]
def u78_2 : IC := .seq (.reg u78_2r) .ret
def u78_1r : List IOper := [oP 2 (.mv (.k (.bool false)))]
def u78_1 : IC := .seq (.reg u78_1r) u78_2
def u78 : IFn := ⟨13, u78_1, [.tmp 2]⟩
end
theorem isU78 : IsFn Tryd.prog 78 u78 := by unfold IsFn; kernel_rfl
instance i78_2 : WR Tryd.prog 13 u78_2 (rS u78_2r .ret [0]) := ⟨mkS⟩
instance i78_1 : WR Tryd.prog 13 u78_1 (rS u78_1r u78_2 [0]) := ⟨mkS⟩
attribute [go_sem] u78_2r u78_1r
noncomputable section
def u77_7r : List IOper := [oP 4 (.mv (.k (.int .i64 (-2147483647)))), oP 5 (.mv (.k (.int .i64 2147483647)))]
def u77_7 : IC := .seq (.reg u77_7r) .ret
def u77_11r : List IOper := [oP 11 (.bin .eql (.t 6) (.k (.int .i64 3))), oP 9 (.mv (.t 11))]
def u77_11 : IC := .reg u77_11r
def u77_10 : IC := .cond (.t 9) .skip u77_11
def u77_9r : List IOper := [oP 10 (.bin .eql (.t 6) (.k (.int .i64 2))), oP 9 (.mv (.t 10))]
def u77_9 : IC := .seq (.reg u77_9r) u77_10
def u77_13r : DReg := ⟨[oP 12 (.fad 4 (.t 2)), oP 13 (.ld 1 false (.t 12)), oP 14 (.len (.t 13)), oP 15 (.bin .sub (.t 14) (.k (.int .i64 1))), oP 4 (.mv (.k (.int .i64 0))), oP 5 (.mv (.t 15))], [[], [0], [1, 0], [2, 1, 0], [], [3, 4, 0, 1, 2]], [(0, none), (1, none), (2, none), (3, none), (4, some [0, 1, 2, 3]), (5, some [])]⟩
def u77_13 : IC := .seq (.drw 6 u77_13r) .ret
def u77_16r : List IOper := [oP 4 (.mv (.k (.int .i64 0))), oP 5 (.mv (.k (.int .i64 63)))]
def u77_16 : IC := .seq (.reg u77_16r) .ret
def u77_22r : List IOper := [oP 21 (.bin .eql (.t 6) (.k (.int .i64 24))), oP 18 (.mv (.t 21))]
def u77_22 : IC := .reg u77_22r
def u77_21 : IC := .cond (.t 18) .skip u77_22
def u77_20r : List IOper := [oP 20 (.bin .eql (.t 6) (.k (.int .i64 23))), oP 18 (.mv (.t 20))]
def u77_20 : IC := .seq (.reg u77_20r) u77_21
def u77_19 : IC := .cond (.t 18) .skip u77_20
def u77_18r : List IOper := [oP 19 (.bin .eql (.t 6) (.k (.int .i64 5))), oP 18 (.mv (.t 19))]
def u77_18 : IC := .seq (.reg u77_18r) u77_19
def u77_24r : DReg := ⟨[oP 22 (.fad 3 (.t 2)), oP 23 (.ld 1 false (.t 22)), oP 24 (.len (.t 23)), oP 25 (.bin .sub (.t 24) (.k (.int .i64 1))), oP 4 (.mv (.k (.int .i64 0))), oP 5 (.mv (.t 25))], [[], [0], [1, 0], [2, 1, 0], [], [3, 4, 0, 1, 2]], [(0, none), (1, none), (2, none), (3, none), (4, some [0, 1, 2, 3]), (5, some [])]⟩
def u77_24 : IC := .seq (.drw 6 u77_24r) .ret
def u77_30r : List IOper := [oP 29 (.bin .eql (.t 6) (.k (.int .i64 22))), oP 26 (.mv (.t 29))]
def u77_30 : IC := .reg u77_30r
def u77_29 : IC := .cond (.t 26) .skip u77_30
def u77_28r : List IOper := [oP 28 (.bin .eql (.t 6) (.k (.int .i64 21))), oP 26 (.mv (.t 28))]
def u77_28 : IC := .seq (.reg u77_28r) u77_29
def u77_27 : IC := .cond (.t 26) .skip u77_28
def u77_26r : List IOper := [oP 27 (.bin .eql (.t 6) (.k (.int .i64 6))), oP 26 (.mv (.t 27))]
def u77_26 : IC := .seq (.reg u77_26r) u77_27
def u77_32r : DReg := ⟨[oP 30 (.fad 5 (.t 2)), oP 31 (.ld 1 false (.t 30)), oP 32 (.bin .sub (.t 31) (.k (.int .i64 1))), oP 4 (.mv (.k (.int .i64 0))), oP 5 (.mv (.t 32))], [[], [0], [1, 0], [], [2, 3, 0, 1]], [(0, none), (1, none), (2, none), (3, some [0, 1, 2]), (4, some [])]⟩
def u77_32 : IC := .seq (.drw 5 u77_32r) .ret
def u77_35r : List IOper := [oP 4 (.mv (.k (.int .i64 12))), oP 5 (.mv (.k (.int .i64 24)))]
def u77_35 : IC := .seq (.reg u77_35r) .ret
def u77_41r : List IOper := [oP 38 (.bin .eql (.t 6) (.k (.int .i64 18))), oP 35 (.mv (.t 38))]
def u77_41 : IC := .reg u77_41r
def u77_40 : IC := .cond (.t 35) .skip u77_41
def u77_39r : List IOper := [oP 37 (.bin .eql (.t 6) (.k (.int .i64 17))), oP 35 (.mv (.t 37))]
def u77_39 : IC := .seq (.reg u77_39r) u77_40
def u77_38 : IC := .cond (.t 35) .skip u77_39
def u77_37r : List IOper := [oP 36 (.bin .eql (.t 6) (.k (.int .i64 16))), oP 35 (.mv (.t 36))]
def u77_37 : IC := .seq (.reg u77_37r) u77_38
def u77_43r : List IOper := [oP 4 (.mv (.k (.int .i64 0))), oP 5 (.mv (.k (.int .i64 31)))]
def u77_43 : IC := .seq (.reg u77_43r) .ret
def u77_53r : List IOper := [oP 44 (.bin .eql (.t 6) (.k (.int .i64 28))), oP 39 (.mv (.t 44))]
def u77_53 : IC := .reg u77_53r
def u77_52 : IC := .cond (.t 39) .skip u77_53
def u77_51r : List IOper := [oP 43 (.bin .eql (.t 6) (.k (.int .i64 27))), oP 39 (.mv (.t 43))]
def u77_51 : IC := .seq (.reg u77_51r) u77_52
def u77_50 : IC := .cond (.t 39) .skip u77_51
def u77_49r : List IOper := [oP 42 (.bin .eql (.t 6) (.k (.int .i64 26))), oP 39 (.mv (.t 42))]
def u77_49 : IC := .seq (.reg u77_49r) u77_50
def u77_48 : IC := .cond (.t 39) .skip u77_49
def u77_47r : List IOper := [oP 41 (.bin .eql (.t 6) (.k (.int .i64 20))), oP 39 (.mv (.t 41))]
def u77_47 : IC := .seq (.reg u77_47r) u77_48
def u77_46 : IC := .cond (.t 39) .skip u77_47
def u77_45r : List IOper := [oP 40 (.bin .eql (.t 6) (.k (.int .i64 19))), oP 39 (.mv (.t 40))]
def u77_45 : IC := .seq (.reg u77_45r) u77_46
def u77_55r : List IOper := [oP 4 (.mv (.k (.int .i64 0))), oP 5 (.mv (.k (.int .i64 63)))]
def u77_55 : IC := .seq (.reg u77_55r) .ret
def u77_58r : DReg := ⟨[oP 47 (.fad 6 (.t 2)), oP 48 (.ld 1 false (.t 47)), oP 49 (.bin .sub (.t 48) (.k (.int .i64 1))), oP 4 (.mv (.k (.int .i64 0))), oP 5 (.mv (.t 49))], [[], [0], [1, 0], [], [2, 3, 0, 1]], [(0, none), (1, none), (2, none), (3, some [0, 1, 2]), (4, some [])]⟩
def u77_58 : IC := .seq (.drw 5 u77_58r) .ret
def u77_61r : DReg := ⟨[oP 52 (.fad 1 (.t 2)), oP 53 (.ld 1 false (.t 52)), oP 54 (.len (.t 53)), oP 55 (.bin .sub (.t 54) (.k (.int .i64 1))), oP 4 (.mv (.k (.int .i64 0))), oP 5 (.mv (.t 55))], [[], [0], [1, 0], [2, 1, 0], [], [3, 4, 0, 1, 2]], [(0, none), (1, none), (2, none), (3, none), (4, some [0, 1, 2, 3]), (5, some [])]⟩
def u77_61 : IC := .seq (.drw 6 u77_61r) .ret
def u77_75r : List IOper := [oP 63 (.bin .eql (.t 6) (.k (.int .i64 31))), oP 56 (.mv (.t 63))]
def u77_75 : IC := .reg u77_75r
def u77_74 : IC := .cond (.t 56) .skip u77_75
def u77_73r : List IOper := [oP 62 (.bin .eql (.t 6) (.k (.int .i64 30))), oP 56 (.mv (.t 62))]
def u77_73 : IC := .seq (.reg u77_73r) u77_74
def u77_72 : IC := .cond (.t 56) .skip u77_73
def u77_71r : List IOper := [oP 61 (.bin .eql (.t 6) (.k (.int .i64 15))), oP 56 (.mv (.t 61))]
def u77_71 : IC := .seq (.reg u77_71r) u77_72
def u77_70 : IC := .cond (.t 56) .skip u77_71
def u77_69r : List IOper := [oP 60 (.bin .eql (.t 6) (.k (.int .i64 10))), oP 56 (.mv (.t 60))]
def u77_69 : IC := .seq (.reg u77_69r) u77_70
def u77_68 : IC := .cond (.t 56) .skip u77_69
def u77_67r : List IOper := [oP 59 (.bin .eql (.t 6) (.k (.int .i64 9))), oP 56 (.mv (.t 59))]
def u77_67 : IC := .seq (.reg u77_67r) u77_68
def u77_66 : IC := .cond (.t 56) .skip u77_67
def u77_65r : List IOper := [oP 58 (.bin .eql (.t 6) (.k (.int .i64 8))), oP 56 (.mv (.t 58))]
def u77_65 : IC := .seq (.reg u77_65r) u77_66
def u77_64 : IC := .cond (.t 56) .skip u77_65
def u77_63r : List IOper := [oP 57 (.bin .eql (.t 6) (.k (.int .i64 7))), oP 56 (.mv (.t 57))]
def u77_63 : IC := .seq (.reg u77_63r) u77_64
def u77_77r : List IOper := [oP 4 (.mv (.k (.int .i64 0))), oP 5 (.mv (.k (.int .i64 0)))]
def u77_77 : IC := .seq (.reg u77_77r) .ret
def u77_76 : IC := .cond (.t 56) u77_77 .skip
def u77_62 : IC := .seq u77_63 u77_76
def u77_60 : IC := .cond (.t 50) u77_61 u77_62
def u77_59r : List IOper := [oP 51 (.bin .eql (.t 6) (.k (.int .i64 29))), oP 50 (.mv (.t 51))]
def u77_59 : IC := .seq (.reg u77_59r) u77_60
def u77_57 : IC := .cond (.t 45) u77_58 u77_59
def u77_56r : List IOper := [oP 46 (.bin .eql (.t 6) (.k (.int .i64 25))), oP 45 (.mv (.t 46))]
def u77_56 : IC := .seq (.reg u77_56r) u77_57
def u77_54 : IC := .cond (.t 39) u77_55 u77_56
def u77_44 : IC := .seq u77_45 u77_54
def u77_42 : IC := .cond (.t 35) u77_43 u77_44
def u77_36 : IC := .seq u77_37 u77_42
def u77_34 : IC := .cond (.t 33) u77_35 u77_36
def u77_33r : List IOper := [oP 34 (.bin .eql (.t 6) (.k (.int .i64 11))), oP 33 (.mv (.t 34))]
def u77_33 : IC := .seq (.reg u77_33r) u77_34
def u77_31 : IC := .cond (.t 26) u77_32 u77_33
def u77_25 : IC := .seq u77_26 u77_31
def u77_23 : IC := .cond (.t 18) u77_24 u77_25
def u77_17 : IC := .seq u77_18 u77_23
def u77_15 : IC := .cond (.t 16) u77_16 u77_17
def u77_14r : List IOper := [oP 17 (.bin .eql (.t 6) (.k (.int .i64 4))), oP 16 (.mv (.t 17))]
def u77_14 : IC := .seq (.reg u77_14r) u77_15
def u77_12 : IC := .cond (.t 9) u77_13 u77_14
def u77_8 : IC := .seq u77_9 u77_12
def u77_6 : IC := .cond (.t 7) u77_7 u77_8
def u77_5r : List IOper := [oP 8 (.bin .eql (.t 6) (.k (.int .i64 1))), oP 7 (.mv (.t 8))]
def u77_5 : IC := .seq (.reg u77_5r) u77_6
def u77_4 : IC := .blk 0 u77_5
def u77_3r : List IOper := [oP 6 (.mv (.t 1))]
def u77_3 : IC := .seq (.reg u77_3r) u77_4
def u77_78r : List IOper := [oP 4 (.mv (.k (.int .i64 1))), oP 5 (.mv (.k (.int .i64 0)))]
def u77_78 : IC := .seq (.reg u77_78r) .ret
def u77_2 : IC := .seq u77_3 u77_78
def u77_1r : List IOper := [⟨some 2, .new (.box (.t 0)), none⟩, oP 4 (.mv (.k (.int .i64 0))), oP 5 (.mv (.k (.int .i64 0)))]
def u77_1 : IC := .seq (.reg u77_1r) u77_2
def u77 : IFn := ⟨64, u77_1, [.tmp 4, .tmp 5]⟩
end
theorem isU77 : IsFn Tryd.prog 77 u77 := by unfold IsFn; kernel_rfl
instance i77_7 : WR Tryd.prog 64 u77_7 (rS u77_7r .ret []) := ⟨mkS⟩
instance i77_11 : WR Tryd.prog 64 u77_11 (rE u77_11r [2, 6]) := ⟨mkE⟩
instance i77_10 : WR Tryd.prog 64 u77_10 (rCE (.t 9) .skip u77_11 [2, 6, 9]) := ⟨mkCE⟩
instance i77_9 : WR Tryd.prog 64 u77_9 (rS u77_9r u77_10 [2, 6]) := ⟨mkS⟩
instance i77_13 : WR Tryd.prog 64 u77_13 (rD 6 u77_13r .ret [2]) := ⟨mkD⟩
instance i77_16 : WR Tryd.prog 64 u77_16 (rS u77_16r .ret []) := ⟨mkS⟩
instance i77_22 : WR Tryd.prog 64 u77_22 (rE u77_22r [2, 6]) := ⟨mkE⟩
instance i77_21 : WR Tryd.prog 64 u77_21 (rCE (.t 18) .skip u77_22 [2, 6, 18]) := ⟨mkCE⟩
instance i77_20 : WR Tryd.prog 64 u77_20 (rS u77_20r u77_21 [2, 6]) := ⟨mkS⟩
instance i77_19 : WR Tryd.prog 64 u77_19 (rCE (.t 18) .skip u77_20 [2, 6, 18]) := ⟨mkCE⟩
instance i77_18 : WR Tryd.prog 64 u77_18 (rS u77_18r u77_19 [2, 6]) := ⟨mkS⟩
instance i77_24 : WR Tryd.prog 64 u77_24 (rD 6 u77_24r .ret [2]) := ⟨mkD⟩
instance i77_30 : WR Tryd.prog 64 u77_30 (rE u77_30r [2, 6]) := ⟨mkE⟩
instance i77_29 : WR Tryd.prog 64 u77_29 (rCE (.t 26) .skip u77_30 [2, 6, 26]) := ⟨mkCE⟩
instance i77_28 : WR Tryd.prog 64 u77_28 (rS u77_28r u77_29 [2, 6]) := ⟨mkS⟩
instance i77_27 : WR Tryd.prog 64 u77_27 (rCE (.t 26) .skip u77_28 [2, 6, 26]) := ⟨mkCE⟩
instance i77_26 : WR Tryd.prog 64 u77_26 (rS u77_26r u77_27 [2, 6]) := ⟨mkS⟩
instance i77_32 : WR Tryd.prog 64 u77_32 (rD 5 u77_32r .ret [2]) := ⟨mkD⟩
instance i77_35 : WR Tryd.prog 64 u77_35 (rS u77_35r .ret []) := ⟨mkS⟩
instance i77_41 : WR Tryd.prog 64 u77_41 (rE u77_41r [2, 6]) := ⟨mkE⟩
instance i77_40 : WR Tryd.prog 64 u77_40 (rCE (.t 35) .skip u77_41 [2, 6, 35]) := ⟨mkCE⟩
instance i77_39 : WR Tryd.prog 64 u77_39 (rS u77_39r u77_40 [2, 6]) := ⟨mkS⟩
instance i77_38 : WR Tryd.prog 64 u77_38 (rCE (.t 35) .skip u77_39 [2, 6, 35]) := ⟨mkCE⟩
instance i77_37 : WR Tryd.prog 64 u77_37 (rS u77_37r u77_38 [2, 6]) := ⟨mkS⟩
instance i77_43 : WR Tryd.prog 64 u77_43 (rS u77_43r .ret []) := ⟨mkS⟩
instance i77_53 : WR Tryd.prog 64 u77_53 (rE u77_53r [2, 6]) := ⟨mkE⟩
instance i77_52 : WR Tryd.prog 64 u77_52 (rCE (.t 39) .skip u77_53 [2, 6, 39]) := ⟨mkCE⟩
instance i77_51 : WR Tryd.prog 64 u77_51 (rS u77_51r u77_52 [2, 6]) := ⟨mkS⟩
instance i77_50 : WR Tryd.prog 64 u77_50 (rCE (.t 39) .skip u77_51 [2, 6, 39]) := ⟨mkCE⟩
instance i77_49 : WR Tryd.prog 64 u77_49 (rS u77_49r u77_50 [2, 6]) := ⟨mkS⟩
instance i77_48 : WR Tryd.prog 64 u77_48 (rCE (.t 39) .skip u77_49 [2, 6, 39]) := ⟨mkCE⟩
instance i77_47 : WR Tryd.prog 64 u77_47 (rS u77_47r u77_48 [2, 6]) := ⟨mkS⟩
instance i77_46 : WR Tryd.prog 64 u77_46 (rCE (.t 39) .skip u77_47 [2, 6, 39]) := ⟨mkCE⟩
instance i77_45 : WR Tryd.prog 64 u77_45 (rS u77_45r u77_46 [2, 6]) := ⟨mkS⟩
instance i77_55 : WR Tryd.prog 64 u77_55 (rS u77_55r .ret []) := ⟨mkS⟩
instance i77_58 : WR Tryd.prog 64 u77_58 (rD 5 u77_58r .ret [2]) := ⟨mkD⟩
instance i77_61 : WR Tryd.prog 64 u77_61 (rD 6 u77_61r .ret [2]) := ⟨mkD⟩
instance i77_75 : WR Tryd.prog 64 u77_75 (rE u77_75r [6]) := ⟨mkE⟩
instance i77_74 : WR Tryd.prog 64 u77_74 (rCE (.t 56) .skip u77_75 [6, 56]) := ⟨mkCE⟩
instance i77_73 : WR Tryd.prog 64 u77_73 (rS u77_73r u77_74 [6]) := ⟨mkS⟩
instance i77_72 : WR Tryd.prog 64 u77_72 (rCE (.t 56) .skip u77_73 [6, 56]) := ⟨mkCE⟩
instance i77_71 : WR Tryd.prog 64 u77_71 (rS u77_71r u77_72 [6]) := ⟨mkS⟩
instance i77_70 : WR Tryd.prog 64 u77_70 (rCE (.t 56) .skip u77_71 [6, 56]) := ⟨mkCE⟩
instance i77_69 : WR Tryd.prog 64 u77_69 (rS u77_69r u77_70 [6]) := ⟨mkS⟩
instance i77_68 : WR Tryd.prog 64 u77_68 (rCE (.t 56) .skip u77_69 [6, 56]) := ⟨mkCE⟩
instance i77_67 : WR Tryd.prog 64 u77_67 (rS u77_67r u77_68 [6]) := ⟨mkS⟩
instance i77_66 : WR Tryd.prog 64 u77_66 (rCE (.t 56) .skip u77_67 [6, 56]) := ⟨mkCE⟩
instance i77_65 : WR Tryd.prog 64 u77_65 (rS u77_65r u77_66 [6]) := ⟨mkS⟩
instance i77_64 : WR Tryd.prog 64 u77_64 (rCE (.t 56) .skip u77_65 [6, 56]) := ⟨mkCE⟩
instance i77_63 : WR Tryd.prog 64 u77_63 (rS u77_63r u77_64 [6]) := ⟨mkS⟩
instance i77_77 : WR Tryd.prog 64 u77_77 (rS u77_77r .ret []) := ⟨mkS⟩
instance i77_76 : WR Tryd.prog 64 u77_76 (rCE (.t 56) u77_77 .skip [56]) := ⟨mkCE⟩
instance i77_62 : WR Tryd.prog 64 u77_62 (rQ u77_63 u77_76 [6]) := ⟨mkQ⟩
instance i77_60 : WR Tryd.prog 64 u77_60 (rCE (.t 50) u77_61 u77_62 [2, 6, 50]) := ⟨mkCE⟩
instance i77_59 : WR Tryd.prog 64 u77_59 (rS u77_59r u77_60 [2, 6]) := ⟨mkS⟩
instance i77_57 : WR Tryd.prog 64 u77_57 (rCE (.t 45) u77_58 u77_59 [2, 6, 45]) := ⟨mkCE⟩
instance i77_56 : WR Tryd.prog 64 u77_56 (rS u77_56r u77_57 [2, 6]) := ⟨mkS⟩
instance i77_54 : WR Tryd.prog 64 u77_54 (rCE (.t 39) u77_55 u77_56 [2, 6, 39]) := ⟨mkCE⟩
instance i77_44 : WR Tryd.prog 64 u77_44 (rQ u77_45 u77_54 [2, 6]) := ⟨mkQ⟩
instance i77_42 : WR Tryd.prog 64 u77_42 (rCE (.t 35) u77_43 u77_44 [2, 6, 35]) := ⟨mkCE⟩
instance i77_36 : WR Tryd.prog 64 u77_36 (rQ u77_37 u77_42 [2, 6]) := ⟨mkQ⟩
instance i77_34 : WR Tryd.prog 64 u77_34 (rCE (.t 33) u77_35 u77_36 [2, 6, 33]) := ⟨mkCE⟩
instance i77_33 : WR Tryd.prog 64 u77_33 (rS u77_33r u77_34 [2, 6]) := ⟨mkS⟩
instance i77_31 : WR Tryd.prog 64 u77_31 (rCE (.t 26) u77_32 u77_33 [2, 6, 26]) := ⟨mkCE⟩
instance i77_25 : WR Tryd.prog 64 u77_25 (rQ u77_26 u77_31 [2, 6]) := ⟨mkQ⟩
instance i77_23 : WR Tryd.prog 64 u77_23 (rCE (.t 18) u77_24 u77_25 [2, 6, 18]) := ⟨mkCE⟩
instance i77_17 : WR Tryd.prog 64 u77_17 (rQ u77_18 u77_23 [2, 6]) := ⟨mkQ⟩
instance i77_15 : WR Tryd.prog 64 u77_15 (rCE (.t 16) u77_16 u77_17 [2, 6, 16]) := ⟨mkCE⟩
instance i77_14 : WR Tryd.prog 64 u77_14 (rS u77_14r u77_15 [2, 6]) := ⟨mkS⟩
instance i77_12 : WR Tryd.prog 64 u77_12 (rCE (.t 9) u77_13 u77_14 [2, 6, 9]) := ⟨mkCE⟩
instance i77_8 : WR Tryd.prog 64 u77_8 (rQ u77_9 u77_12 [2, 6]) := ⟨mkQ⟩
instance i77_6 : WR Tryd.prog 64 u77_6 (rCE (.t 7) u77_7 u77_8 [2, 6, 7]) := ⟨mkCE⟩
instance i77_5 : WR Tryd.prog 64 u77_5 (rS u77_5r u77_6 [2, 6]) := ⟨mkS⟩
instance i77_4 : WR Tryd.prog 64 u77_4 (rBE 0 u77_5 [2, 6]) := ⟨mkBE⟩
instance i77_3 : WR Tryd.prog 64 u77_3 (rS u77_3r u77_4 [1, 2]) := ⟨mkS⟩
instance i77_78 : WR Tryd.prog 64 u77_78 (rS u77_78r .ret []) := ⟨mkS⟩
instance i77_2 : WR Tryd.prog 64 u77_2 (rQ u77_3 u77_78 [1, 2]) := ⟨mkQ⟩
instance i77_1 : WR Tryd.prog 64 u77_1 (rS u77_1r u77_2 [0, 1]) := ⟨mkS⟩
attribute [go_sem] u77_7r u77_11r u77_9r u77_13r u77_16r u77_22r u77_20r u77_18r u77_24r u77_30r u77_28r u77_26r u77_32r u77_35r u77_41r u77_39r u77_37r u77_43r u77_53r u77_51r u77_49r u77_47r u77_45r u77_55r u77_58r u77_61r u77_75r u77_73r u77_71r u77_69r u77_67r u77_65r u77_63r u77_77r u77_59r u77_56r u77_33r u77_14r u77_5r u77_3r u77_78r u77_1r
noncomputable section
def u81_18r : List IOper := [oP 12 (.bin .eql (.t 4) (.k (.int .i64 8))), oP 5 (.mv (.t 12))]
def u81_18 : IC := .reg u81_18r
def u81_17 : IC := .cond (.t 5) .skip u81_18
def u81_16r : List IOper := [oP 11 (.bin .eql (.t 4) (.k (.int .i64 7))), oP 5 (.mv (.t 11))]
def u81_16 : IC := .seq (.reg u81_16r) u81_17
def u81_15 : IC := .cond (.t 5) .skip u81_16
def u81_14r : List IOper := [oP 10 (.bin .eql (.t 4) (.k (.int .i64 6))), oP 5 (.mv (.t 10))]
def u81_14 : IC := .seq (.reg u81_14r) u81_15
def u81_13 : IC := .cond (.t 5) .skip u81_14
def u81_12r : List IOper := [oP 9 (.bin .eql (.t 4) (.k (.int .i64 5))), oP 5 (.mv (.t 9))]
def u81_12 : IC := .seq (.reg u81_12r) u81_13
def u81_11 : IC := .cond (.t 5) .skip u81_12
def u81_10r : List IOper := [oP 8 (.bin .eql (.t 4) (.k (.int .i64 4))), oP 5 (.mv (.t 8))]
def u81_10 : IC := .seq (.reg u81_10r) u81_11
def u81_9 : IC := .cond (.t 5) .skip u81_10
def u81_8r : List IOper := [oP 7 (.bin .eql (.t 4) (.k (.int .i64 2))), oP 5 (.mv (.t 7))]
def u81_8 : IC := .seq (.reg u81_8r) u81_9
def u81_7 : IC := .cond (.t 5) .skip u81_8
def u81_6r : List IOper := [oP 6 (.bin .eql (.t 4) (.k (.int .i64 1))), oP 5 (.mv (.t 6))]
def u81_6 : IC := .seq (.reg u81_6r) u81_7
def u81_20r : List IOper := [oP 2 (.mv (.k (.int .i64 0))), oP 3 (.mv (.k (.int .i64 1)))]
def u81_20 : IC := .seq (.reg u81_20r) .ret
def u81_26r : List IOper := [oP 16 (.bin .eql (.t 4) (.k (.int .i64 14))), oP 13 (.mv (.t 16))]
def u81_26 : IC := .reg u81_26r
def u81_25 : IC := .cond (.t 13) .skip u81_26
def u81_24r : List IOper := [oP 15 (.bin .eql (.t 4) (.k (.int .i64 10))), oP 13 (.mv (.t 15))]
def u81_24 : IC := .seq (.reg u81_24r) u81_25
def u81_23 : IC := .cond (.t 13) .skip u81_24
def u81_22r : List IOper := [oP 14 (.bin .eql (.t 4) (.k (.int .i64 9))), oP 13 (.mv (.t 14))]
def u81_22 : IC := .seq (.reg u81_22r) u81_23
def u81_28r : List IOper := [oP 2 (.mv (.k (.int .i64 1))), oP 3 (.mv (.k (.int .i64 1)))]
def u81_28 : IC := .seq (.reg u81_28r) .ret
def u81_31r : List IOper := [oP 2 (.mv (.k (.int .i64 2))), oP 3 (.mv (.k (.int .i64 1)))]
def u81_31 : IC := .seq (.reg u81_31r) .ret
def u81_34r : List IOper := [oP 2 (.mv (.k (.int .i64 2))), oP 3 (.mv (.k (.int .i64 0)))]
def u81_34 : IC := .seq (.reg u81_34r) .ret
def u81_46r : List IOper := [oP 27 (.bin .eql (.t 4) (.k (.int .i64 29))), oP 21 (.mv (.t 27))]
def u81_46 : IC := .reg u81_46r
def u81_45 : IC := .cond (.t 21) .skip u81_46
def u81_44r : List IOper := [oP 26 (.bin .eql (.t 4) (.k (.int .i64 21))), oP 21 (.mv (.t 26))]
def u81_44 : IC := .seq (.reg u81_44r) u81_45
def u81_43 : IC := .cond (.t 21) .skip u81_44
def u81_42r : List IOper := [oP 25 (.bin .eql (.t 4) (.k (.int .i64 19))), oP 21 (.mv (.t 25))]
def u81_42 : IC := .seq (.reg u81_42r) u81_43
def u81_41 : IC := .cond (.t 21) .skip u81_42
def u81_40r : List IOper := [oP 24 (.bin .eql (.t 4) (.k (.int .i64 15))), oP 21 (.mv (.t 24))]
def u81_40 : IC := .seq (.reg u81_40r) u81_41
def u81_39 : IC := .cond (.t 21) .skip u81_40
def u81_38r : List IOper := [oP 23 (.bin .eql (.t 4) (.k (.int .i64 13))), oP 21 (.mv (.t 23))]
def u81_38 : IC := .seq (.reg u81_38r) u81_39
def u81_37 : IC := .cond (.t 21) .skip u81_38
def u81_36r : List IOper := [oP 22 (.bin .eql (.t 4) (.k (.int .i64 3))), oP 21 (.mv (.t 22))]
def u81_36 : IC := .seq (.reg u81_36r) u81_37
def u81_48r : List IOper := [oP 2 (.mv (.k (.int .i64 1))), oP 3 (.mv (.k (.int .i64 0)))]
def u81_48 : IC := .seq (.reg u81_48r) .ret
def u81_47 : IC := .cond (.t 21) u81_48 .skip
def u81_35 : IC := .seq u81_36 u81_47
def u81_33 : IC := .cond (.t 19) u81_34 u81_35
def u81_32r : List IOper := [oP 20 (.bin .eql (.t 4) (.k (.int .i64 20))), oP 19 (.mv (.t 20))]
def u81_32 : IC := .seq (.reg u81_32r) u81_33
def u81_30 : IC := .cond (.t 17) u81_31 u81_32
def u81_29r : List IOper := [oP 18 (.bin .eql (.t 4) (.k (.int .i64 11))), oP 17 (.mv (.t 18))]
def u81_29 : IC := .seq (.reg u81_29r) u81_30
def u81_27 : IC := .cond (.t 13) u81_28 u81_29
def u81_21 : IC := .seq u81_22 u81_27
def u81_19 : IC := .cond (.t 5) u81_20 u81_21
def u81_5 : IC := .seq u81_6 u81_19
def u81_4 : IC := .blk 0 u81_5
def u81_3r : List IOper := [oP 4 (.mv (.t 0))]
def u81_3 : IC := .seq (.reg u81_3r) u81_4
def u81_49r : List IOper := [oP 2 (.mv (.k (.int .i64 0))), oP 3 (.mv (.k (.int .i64 0)))]
def u81_49 : IC := .seq (.reg u81_49r) .ret
def u81_2 : IC := .seq u81_3 u81_49
def u81_1r : List IOper := [oP 2 (.mv (.k (.int .i64 0))), oP 3 (.mv (.k (.int .i64 0)))]
def u81_1 : IC := .seq (.reg u81_1r) u81_2
def u81 : IFn := ⟨28, u81_1, [.tmp 2, .tmp 3]⟩
end
theorem isU81 : IsFn Tryd.prog 81 u81 := by unfold IsFn; kernel_rfl
instance i81_18 : WR Tryd.prog 28 u81_18 (rE u81_18r [4]) := ⟨mkE⟩
instance i81_17 : WR Tryd.prog 28 u81_17 (rCE (.t 5) .skip u81_18 [4, 5]) := ⟨mkCE⟩
instance i81_16 : WR Tryd.prog 28 u81_16 (rS u81_16r u81_17 [4]) := ⟨mkS⟩
instance i81_15 : WR Tryd.prog 28 u81_15 (rCE (.t 5) .skip u81_16 [4, 5]) := ⟨mkCE⟩
instance i81_14 : WR Tryd.prog 28 u81_14 (rS u81_14r u81_15 [4]) := ⟨mkS⟩
instance i81_13 : WR Tryd.prog 28 u81_13 (rCE (.t 5) .skip u81_14 [4, 5]) := ⟨mkCE⟩
instance i81_12 : WR Tryd.prog 28 u81_12 (rS u81_12r u81_13 [4]) := ⟨mkS⟩
instance i81_11 : WR Tryd.prog 28 u81_11 (rCE (.t 5) .skip u81_12 [4, 5]) := ⟨mkCE⟩
instance i81_10 : WR Tryd.prog 28 u81_10 (rS u81_10r u81_11 [4]) := ⟨mkS⟩
instance i81_9 : WR Tryd.prog 28 u81_9 (rCE (.t 5) .skip u81_10 [4, 5]) := ⟨mkCE⟩
instance i81_8 : WR Tryd.prog 28 u81_8 (rS u81_8r u81_9 [4]) := ⟨mkS⟩
instance i81_7 : WR Tryd.prog 28 u81_7 (rCE (.t 5) .skip u81_8 [4, 5]) := ⟨mkCE⟩
instance i81_6 : WR Tryd.prog 28 u81_6 (rS u81_6r u81_7 [4]) := ⟨mkS⟩
instance i81_20 : WR Tryd.prog 28 u81_20 (rS u81_20r .ret []) := ⟨mkS⟩
instance i81_26 : WR Tryd.prog 28 u81_26 (rE u81_26r [4]) := ⟨mkE⟩
instance i81_25 : WR Tryd.prog 28 u81_25 (rCE (.t 13) .skip u81_26 [4, 13]) := ⟨mkCE⟩
instance i81_24 : WR Tryd.prog 28 u81_24 (rS u81_24r u81_25 [4]) := ⟨mkS⟩
instance i81_23 : WR Tryd.prog 28 u81_23 (rCE (.t 13) .skip u81_24 [4, 13]) := ⟨mkCE⟩
instance i81_22 : WR Tryd.prog 28 u81_22 (rS u81_22r u81_23 [4]) := ⟨mkS⟩
instance i81_28 : WR Tryd.prog 28 u81_28 (rS u81_28r .ret []) := ⟨mkS⟩
instance i81_31 : WR Tryd.prog 28 u81_31 (rS u81_31r .ret []) := ⟨mkS⟩
instance i81_34 : WR Tryd.prog 28 u81_34 (rS u81_34r .ret []) := ⟨mkS⟩
instance i81_46 : WR Tryd.prog 28 u81_46 (rE u81_46r [4]) := ⟨mkE⟩
instance i81_45 : WR Tryd.prog 28 u81_45 (rCE (.t 21) .skip u81_46 [4, 21]) := ⟨mkCE⟩
instance i81_44 : WR Tryd.prog 28 u81_44 (rS u81_44r u81_45 [4]) := ⟨mkS⟩
instance i81_43 : WR Tryd.prog 28 u81_43 (rCE (.t 21) .skip u81_44 [4, 21]) := ⟨mkCE⟩
instance i81_42 : WR Tryd.prog 28 u81_42 (rS u81_42r u81_43 [4]) := ⟨mkS⟩
instance i81_41 : WR Tryd.prog 28 u81_41 (rCE (.t 21) .skip u81_42 [4, 21]) := ⟨mkCE⟩
instance i81_40 : WR Tryd.prog 28 u81_40 (rS u81_40r u81_41 [4]) := ⟨mkS⟩
instance i81_39 : WR Tryd.prog 28 u81_39 (rCE (.t 21) .skip u81_40 [4, 21]) := ⟨mkCE⟩
instance i81_38 : WR Tryd.prog 28 u81_38 (rS u81_38r u81_39 [4]) := ⟨mkS⟩
instance i81_37 : WR Tryd.prog 28 u81_37 (rCE (.t 21) .skip u81_38 [4, 21]) := ⟨mkCE⟩
instance i81_36 : WR Tryd.prog 28 u81_36 (rS u81_36r u81_37 [4]) := ⟨mkS⟩
instance i81_48 : WR Tryd.prog 28 u81_48 (rS u81_48r .ret []) := ⟨mkS⟩
instance i81_47 : WR Tryd.prog 28 u81_47 (rCE (.t 21) u81_48 .skip [21]) := ⟨mkCE⟩
instance i81_35 : WR Tryd.prog 28 u81_35 (rQ u81_36 u81_47 [4]) := ⟨mkQ⟩
instance i81_33 : WR Tryd.prog 28 u81_33 (rCE (.t 19) u81_34 u81_35 [4, 19]) := ⟨mkCE⟩
instance i81_32 : WR Tryd.prog 28 u81_32 (rS u81_32r u81_33 [4]) := ⟨mkS⟩
instance i81_30 : WR Tryd.prog 28 u81_30 (rCE (.t 17) u81_31 u81_32 [4, 17]) := ⟨mkCE⟩
instance i81_29 : WR Tryd.prog 28 u81_29 (rS u81_29r u81_30 [4]) := ⟨mkS⟩
instance i81_27 : WR Tryd.prog 28 u81_27 (rCE (.t 13) u81_28 u81_29 [4, 13]) := ⟨mkCE⟩
instance i81_21 : WR Tryd.prog 28 u81_21 (rQ u81_22 u81_27 [4]) := ⟨mkQ⟩
instance i81_19 : WR Tryd.prog 28 u81_19 (rCE (.t 5) u81_20 u81_21 [4, 5]) := ⟨mkCE⟩
instance i81_5 : WR Tryd.prog 28 u81_5 (rQ u81_6 u81_19 [4]) := ⟨mkQ⟩
instance i81_4 : WR Tryd.prog 28 u81_4 (rBE 0 u81_5 [4]) := ⟨mkBE⟩
instance i81_3 : WR Tryd.prog 28 u81_3 (rS u81_3r u81_4 [0]) := ⟨mkS⟩
instance i81_49 : WR Tryd.prog 28 u81_49 (rS u81_49r .ret []) := ⟨mkS⟩
instance i81_2 : WR Tryd.prog 28 u81_2 (rQ u81_3 u81_49 [0]) := ⟨mkQ⟩
instance i81_1 : WR Tryd.prog 28 u81_1 (rS u81_1r u81_2 [0]) := ⟨mkS⟩
attribute [go_sem] u81_18r u81_16r u81_14r u81_12r u81_10r u81_8r u81_6r u81_20r u81_26r u81_24r u81_22r u81_28r u81_31r u81_34r u81_46r u81_44r u81_42r u81_40r u81_38r u81_36r u81_48r u81_32r u81_29r u81_3r u81_49r u81_1r
noncomputable section
def u54_11r : List IOper := [oP 41 (.mv (.t 3)), oP 42 (.mv (.t 41)), ⟨some 43, .pur (.fad 0 (.t 5)), some (42, false)⟩, ⟨some 44, .pur (.ld 1 false (.t 43)), some (42, false)⟩, ⟨some 45, .call 78 [.t 44], some (42, false)⟩, ⟨some 46, .pur (.un .not (.t 45)), some (42, false)⟩, ⟨some 47, .pur (.mv (.t 46)), some (42, false)⟩, oG 48 (.fad 1 (.t 5)) 47, oG 49 (.ld 1 false (.t 48)) 47, oG 50 (.mv (.t 6)) 47, oG 51 (.mv (.t 7)) 47, ⟨some 52, .call 67 [.t 49, .t 50, .t 51], some (47, true)⟩, oG 53 (.un .not (.t 52)) 47, ⟨some 54, .pur (.pick (.t 47) (.t 53) (.k (.bool false))), some (42, false)⟩, oP 55 (.pick (.t 42) (.k (.bool true)) (.t 54)), oP 3 (.mv (.t 55))]
def u54_11 : IC := .reg u54_11r
def u54_10r : List IOper := [oP 35 (.ld 7 true (.t 1)), oP 36 (.fad 0 (.t 5)), oP 37 (.ld 1 false (.t 36)), ⟨some 38, .call 77 [.t 35, .t 37], none⟩, oP 34 (.mv (.t 38)), oP 39 (.ext (.t 34) 0), oP 40 (.ext (.t 34) 1), oP 6 (.mv (.t 39)), oP 7 (.mv (.t 40))]
def u54_10 : IC := .seq (.reg u54_10r) u54_11
def u54_9r : List IOper := [oP 32 (.iad 2 (.t 28) (.t 30)), oP 33 (.ld 2 true (.t 32)), ⟨some 5, .new (.box (.k (.agg #[.int .i64 0, .int .i64 0]))), none⟩, ⟨none, .eff (.st 2 (.t 5) (.t 33)), none⟩]
def u54_9 : IC := .seq (.reg u54_9r) u54_10
def u54_12r : List IOper := [oP 56 (.bin .add (.t 30) (.k (.int .i64 1))), oP 30 (.mv (.t 56))]
def u54_12 : IC := .reg u54_12r
def u54_8 : IC := .seq (.blk 1 u54_9) u54_12
def u54_7 : IC := .seq (.cond (.t 31) .skip (.exit 0)) u54_8
def u54_6r : List IOper := [oP 31 (.bin .lss (.t 30) (.t 29))]
def u54_6 : IC := .seq (.reg u54_6r) u54_7
def u54_5 : IC := .blk 0 (.loop u54_6)
def u54_4r : List IOper := [oP 27 (.fad 0 (.t 1)), oP 28 (.ld 1 false (.t 27)), oP 29 (.len (.t 28)), oP 30 (.mv (.k (.int .i64 0)))]
def u54_4 : IC := .seq (.reg u54_4r) u54_5
def u54_13r : List IOper := [oP 57 (.mv (.t 3)), oP 58 (.un .not (.t 57)), oP 2 (.mv (.t 58))]
def u54_13 : IC := .seq (.reg u54_13r) .ret
def u54_3 : IC := .seq u54_4 u54_13
def u54_2r : List IOper := [oP 8 (.fad 1 (.t 1)), oP 9 (.ld 1 false (.t 8)), ⟨some 10, .call 68 [.t 9, .f 69], none⟩, oP 11 (.mv (.t 10)), ⟨some 12, .pur (.fad 3 (.t 1)), some (11, false)⟩, ⟨some 13, .pur (.ld 1 false (.t 12)), some (11, false)⟩, ⟨some 14, .call 71 [.t 13, .f 72], some (11, false)⟩, oP 15 (.pick (.t 11) (.k (.bool true)) (.t 14)), oP 16 (.mv (.t 15)), ⟨some 17, .pur (.fad 4 (.t 1)), some (16, false)⟩, ⟨some 18, .pur (.ld 1 false (.t 17)), some (16, false)⟩, ⟨some 19, .call 71 [.t 18, .f 73], some (16, false)⟩, oP 20 (.pick (.t 16) (.k (.bool true)) (.t 19)), oP 21 (.mv (.t 20)), ⟨some 22, .pur (.fad 2 (.t 1)), some (21, false)⟩, ⟨some 23, .pur (.ld 1 false (.t 22)), some (21, false)⟩, ⟨some 24, .pur (.mkf 75 [] [.t 1]), some (21, false)⟩, ⟨some 25, .call 74 [.t 23, .t 24], some (21, false)⟩, oP 26 (.pick (.t 21) (.k (.bool true)) (.t 25)), oP 3 (.mv (.t 26))]
def u54_2 : IC := .seq (.reg u54_2r) u54_3
def u54_1r : List IOper := [⟨some 1, .new (.box (.t 0)), none⟩, oP 2 (.mv (.k (.bool false)))]
def u54_1 : IC := .seq (.reg u54_1r) u54_2
def u54 : IFn := ⟨59, u54_1, [.tmp 2]⟩
end
theorem isU54 : IsFn Tryd.prog 54 u54 := by unfold IsFn; kernel_rfl
instance i54_11 : WR Tryd.prog 59 u54_11 (rE u54_11r [1, 3, 5, 6, 7, 28, 29, 30]) := ⟨mkE⟩
instance i54_10 : WR Tryd.prog 59 u54_10 (rS u54_10r u54_11 [1, 3, 5, 28, 29, 30]) := ⟨mkS⟩
instance i54_9 : WR Tryd.prog 59 u54_9 (rS u54_9r u54_10 [1, 3, 28, 29, 30]) := ⟨mkS⟩
instance i54_12 : WR Tryd.prog 59 u54_12 (rE u54_12r [1, 3, 28, 29, 30]) := ⟨mkE⟩
instance i54_8 : WR Tryd.prog 59 u54_8 (rB 1 u54_9 u54_12 [1, 3, 28, 29, 30]) := ⟨mkB⟩
instance i54_7 : WR Tryd.prog 59 u54_7 (rC (.t 31) .skip (.exit 0) u54_8 [1, 3, 28, 29, 30, 31]) := ⟨mkC⟩
instance i54_6 : WR Tryd.prog 59 u54_6 (rS u54_6r u54_7 [1, 3, 28, 29, 30]) := ⟨mkS⟩
instance i54_5 : WR Tryd.prog 59 u54_5 (rBE 0 (.loop u54_6) [1, 3, 28, 29, 30]) := ⟨mkBE⟩
instance i54_4 : WR Tryd.prog 59 u54_4 (rS u54_4r u54_5 [1, 3]) := ⟨mkS⟩
instance i54_13 : WR Tryd.prog 59 u54_13 (rS u54_13r .ret [3]) := ⟨mkS⟩
instance i54_3 : WR Tryd.prog 59 u54_3 (rQ u54_4 u54_13 [1, 3]) := ⟨mkQ⟩
instance i54_2 : WR Tryd.prog 59 u54_2 (rS u54_2r u54_3 [1]) := ⟨mkS⟩
instance i54_1 : WR Tryd.prog 59 u54_1 (rS u54_1r u54_2 [0]) := ⟨mkS⟩
attribute [go_sem] u54_11r u54_10r u54_9r u54_12r u54_6r u54_4r u54_13r u54_2r u54_1r
noncomputable section
def u69_2r : List IOper := [oP 3 (.mv (.t 0)), ⟨some 4, .call 70 [.t 3], none⟩, oP 5 (.un .not (.t 4)), oP 2 (.mv (.t 5))]
def u69_2 : IC := .seq (.reg u69_2r) .ret
def u69_1r : List IOper := [oP 2 (.mv (.k (.bool false)))]
def u69_1 : IC := .seq (.reg u69_1r) u69_2
def u69 : IFn := ⟨6, u69_1, [.tmp 2]⟩
end
theorem isU69 : IsFn Tryd.prog 69 u69 := by unfold IsFn; kernel_rfl
instance i69_2 : WR Tryd.prog 6 u69_2 (rS u69_2r .ret [0]) := ⟨mkS⟩
instance i69_1 : WR Tryd.prog 6 u69_1 (rS u69_1r u69_2 [0]) := ⟨mkS⟩
attribute [go_sem] u69_2r u69_1r
noncomputable section
def u72_2r : List IOper := [oP 3 (.mv (.t 0)), ⟨some 4, .call 67 [.t 3, .k (.int .i64 0), .k (.int .i64 99)], none⟩, oP 5 (.un .not (.t 4)), oP 2 (.mv (.t 5))]
def u72_2 : IC := .seq (.reg u72_2r) .ret
def u72_1r : List IOper := [oP 2 (.mv (.k (.bool false)))]
def u72_1 : IC := .seq (.reg u72_1r) u72_2
def u72 : IFn := ⟨6, u72_1, [.tmp 2]⟩
end
theorem isU72 : IsFn Tryd.prog 72 u72 := by unfold IsFn; kernel_rfl
instance i72_2 : WR Tryd.prog 6 u72_2 (rS u72_2r .ret [0]) := ⟨mkS⟩
instance i72_1 : WR Tryd.prog 6 u72_1 (rS u72_1r u72_2 [0]) := ⟨mkS⟩
attribute [go_sem] u72_2r u72_1r
noncomputable section
def u73_2r : List IOper := [oP 3 (.mv (.t 0)), ⟨some 4, .call 67 [.t 3, .k (.int .i64 (-2147483647)), .k (.int .i64 2147483647)], none⟩, oP 5 (.un .not (.t 4)), oP 2 (.mv (.t 5))]
def u73_2 : IC := .seq (.reg u73_2r) .ret
def u73_1r : List IOper := [oP 2 (.mv (.k (.bool false)))]
def u73_1 : IC := .seq (.reg u73_1r) u73_2
def u73 : IFn := ⟨6, u73_1, [.tmp 2]⟩
end
theorem isU73 : IsFn Tryd.prog 73 u73 := by unfold IsFn; kernel_rfl
instance i73_2 : WR Tryd.prog 6 u73_2 (rS u73_2r .ret [0]) := ⟨mkS⟩
instance i73_1 : WR Tryd.prog 6 u73_1 (rS u73_1r u73_2 [0]) := ⟨mkS⟩
attribute [go_sem] u73_2r u73_1r
noncomputable section
def u75_2r : List IOper := [oP 4 (.ld 7 true (.t 1)), oP 5 (.ld 4 true (.t 2)), ⟨some 6, .call 76 [.t 4, .t 5], none⟩, oP 7 (.un .not (.t 6)), oP 3 (.mv (.t 7))]
def u75_2 : IC := .seq (.reg u75_2r) .ret
def u75_1r : List IOper := [⟨some 2, .new (.box (.t 0)), none⟩, oP 3 (.mv (.k (.bool false)))]
def u75_1 : IC := .seq (.reg u75_1r) u75_2
def u75 : IFn := ⟨8, u75_1, [.tmp 3]⟩
end
theorem isU75 : IsFn Tryd.prog 75 u75 := by unfold IsFn; kernel_rfl
instance i75_2 : WR Tryd.prog 8 u75_2 (rS u75_2r .ret [1, 2]) := ⟨mkS⟩
instance i75_1 : WR Tryd.prog 8 u75_1 (rS u75_1r u75_2 [0, 1]) := ⟨mkS⟩
attribute [go_sem] u75_2r u75_1r
noncomputable section
def u55_11r : List IOper := [oP 2 (.mv (.k (.bool false)))]
def u55_11 : IC := .seq (.reg u55_11r) .ret
def u55_10 : IC := .cond (.t 24) u55_11 .skip
def u55_9r : List IOper := [oP 12 (.fad 0 (.t 4)), oP 13 (.ld 1 false (.t 12)), ⟨some 14, .call 78 [.t 13], none⟩, oP 15 (.mv (.t 14)), oG 16 (.fad 1 (.t 4)) 15, oG 17 (.ld 1 false (.t 16)) 15, oG 18 (.fad 0 (.t 1)) 15, oG 19 (.ld 1 false (.t 18)) 15, oG 20 (.len (.t 19)) 15, oG 21 (.bin .sub (.t 20) (.k (.int .i64 1))) 15, ⟨some 22, .call 67 [.t 17, .k (.int .i64 0), .t 21], some (15, true)⟩, oG 23 (.un .not (.t 22)) 15, oP 24 (.pick (.t 15) (.t 23) (.k (.bool false)))]
def u55_9 : IC := .seq (.reg u55_9r) u55_10
def u55_8r : List IOper := [oP 10 (.iad 2 (.t 6) (.t 8)), oP 11 (.ld 2 true (.t 10)), ⟨some 4, .new (.box (.k (.agg #[.int .i64 0, .int .i64 0]))), none⟩, ⟨none, .eff (.st 2 (.t 4) (.t 11)), none⟩]
def u55_8 : IC := .seq (.reg u55_8r) u55_9
def u55_12r : List IOper := [oP 25 (.bin .add (.t 8) (.k (.int .i64 1))), oP 8 (.mv (.t 25))]
def u55_12 : IC := .reg u55_12r
def u55_7 : IC := .seq (.blk 1 u55_8) u55_12
def u55_6 : IC := .seq (.cond (.t 9) .skip (.exit 0)) u55_7
def u55_5r : List IOper := [oP 9 (.bin .lss (.t 8) (.t 7))]
def u55_5 : IC := .seq (.reg u55_5r) u55_6
def u55_4 : IC := .blk 0 (.loop u55_5)
def u55_3r : List IOper := [oP 5 (.fad 0 (.t 1)), oP 6 (.ld 1 false (.t 5)), oP 7 (.len (.t 6)), oP 8 (.mv (.k (.int .i64 0)))]
def u55_3 : IC := .seq (.reg u55_3r) u55_4
def u55_13r : List IOper := [oP 26 (.fad 2 (.t 1)), oP 27 (.ld 1 false (.t 26)), oP 28 (.mkf 79 [] [.t 1]), ⟨some 29, .call 74 [.t 27, .t 28], none⟩, oP 30 (.un .not (.t 29)), oP 2 (.mv (.t 30))]
def u55_13 : IC := .seq (.reg u55_13r) .ret
def u55_2 : IC := .seq u55_3 u55_13
def u55_1r : List IOper := [⟨some 1, .new (.box (.t 0)), none⟩, oP 2 (.mv (.k (.bool false)))]
def u55_1 : IC := .seq (.reg u55_1r) u55_2
def u55 : IFn := ⟨31, u55_1, [.tmp 2]⟩
end
theorem isU55 : IsFn Tryd.prog 55 u55 := by unfold IsFn; kernel_rfl
instance i55_11 : WR Tryd.prog 31 u55_11 (rS u55_11r .ret []) := ⟨mkS⟩
instance i55_10 : WR Tryd.prog 31 u55_10 (rCE (.t 24) u55_11 .skip [1, 6, 7, 8, 24]) := ⟨mkCE⟩
instance i55_9 : WR Tryd.prog 31 u55_9 (rS u55_9r u55_10 [1, 4, 6, 7, 8]) := ⟨mkS⟩
instance i55_8 : WR Tryd.prog 31 u55_8 (rS u55_8r u55_9 [1, 6, 7, 8]) := ⟨mkS⟩
instance i55_12 : WR Tryd.prog 31 u55_12 (rE u55_12r [1, 6, 7, 8]) := ⟨mkE⟩
instance i55_7 : WR Tryd.prog 31 u55_7 (rB 1 u55_8 u55_12 [1, 6, 7, 8]) := ⟨mkB⟩
instance i55_6 : WR Tryd.prog 31 u55_6 (rC (.t 9) .skip (.exit 0) u55_7 [1, 6, 7, 8, 9]) := ⟨mkC⟩
instance i55_5 : WR Tryd.prog 31 u55_5 (rS u55_5r u55_6 [1, 6, 7, 8]) := ⟨mkS⟩
instance i55_4 : WR Tryd.prog 31 u55_4 (rBE 0 (.loop u55_5) [1, 6, 7, 8]) := ⟨mkBE⟩
instance i55_3 : WR Tryd.prog 31 u55_3 (rS u55_3r u55_4 [1]) := ⟨mkS⟩
instance i55_13 : WR Tryd.prog 31 u55_13 (rS u55_13r .ret [1]) := ⟨mkS⟩
instance i55_2 : WR Tryd.prog 31 u55_2 (rQ u55_3 u55_13 [1]) := ⟨mkQ⟩
instance i55_1 : WR Tryd.prog 31 u55_1 (rS u55_1r u55_2 [0]) := ⟨mkS⟩
attribute [go_sem] u55_11r u55_9r u55_8r u55_12r u55_5r u55_3r u55_13r u55_1r
noncomputable section
def u79_2r : List IOper := [oP 4 (.fad 3 (.t 2)), oP 5 (.ld 1 false (.t 4)), oP 6 (.fad 0 (.t 1)), oP 7 (.ld 1 false (.t 6)), oP 8 (.len (.t 7)), oP 9 (.bin .sub (.t 8) (.k (.int .i64 1))), ⟨some 10, .call 67 [.t 5, .k (.int .i64 0), .t 9], none⟩, oP 11 (.un .not (.t 10)), oP 3 (.mv (.t 11))]
def u79_2 : IC := .seq (.reg u79_2r) .ret
def u79_1r : List IOper := [⟨some 2, .new (.box (.t 0)), none⟩, oP 3 (.mv (.k (.bool false)))]
def u79_1 : IC := .seq (.reg u79_1r) u79_2
def u79 : IFn := ⟨12, u79_1, [.tmp 3]⟩
end
theorem isU79 : IsFn Tryd.prog 79 u79 := by unfold IsFn; kernel_rfl
instance i79_2 : WR Tryd.prog 12 u79_2 (rS u79_2r .ret [1, 2]) := ⟨mkS⟩
instance i79_1 : WR Tryd.prog 12 u79_1 (rS u79_1r u79_2 [0, 1]) := ⟨mkS⟩
attribute [go_sem] u79_2r u79_1r
noncomputable section
def u56_5r : List IOper := [oP 10 (.fad 0 (.t 2)), oP 11 (.ld 1 false (.t 10)), oP 12 (.fad 0 (.t 3)), oP 13 (.ld 1 false (.t 12)), oP 14 (.bin .lss (.t 11) (.t 13)), oP 4 (.mv (.t 14))]
def u56_5 : IC := .seq (.reg u56_5r) .ret
def u56_4 : IC := .cond (.t 9) u56_5 .skip
def u56_3r : List IOper := [oP 5 (.fad 0 (.t 2)), oP 6 (.ld 1 false (.t 5)), oP 7 (.fad 0 (.t 3)), oP 8 (.ld 1 false (.t 7)), oP 9 (.bin .neq (.t 6) (.t 8))]
def u56_3 : IC := .seq (.reg u56_3r) u56_4
def u56_9r : List IOper := [oP 20 (.fad 1 (.t 2)), oP 21 (.ld 1 false (.t 20)), oP 22 (.fad 1 (.t 3)), oP 23 (.ld 1 false (.t 22)), oP 24 (.bin .lss (.t 21) (.t 23)), oP 4 (.mv (.t 24))]
def u56_9 : IC := .seq (.reg u56_9r) .ret
def u56_8 : IC := .cond (.t 19) u56_9 .skip
def u56_7r : List IOper := [oP 15 (.fad 1 (.t 2)), oP 16 (.ld 1 false (.t 15)), oP 17 (.fad 1 (.t 3)), oP 18 (.ld 1 false (.t 17)), oP 19 (.bin .neq (.t 16) (.t 18))]
def u56_7 : IC := .seq (.reg u56_7r) u56_8
def u56_10r : List IOper := [oP 25 (.fad 2 (.t 2)), oP 26 (.ld 1 false (.t 25)), oP 27 (.fad 2 (.t 3)), oP 28 (.ld 1 false (.t 27)), oP 29 (.bin .lss (.t 26) (.t 28)), oP 4 (.mv (.t 29))]
def u56_10 : IC := .seq (.reg u56_10r) .ret
def u56_6 : IC := .seq u56_7 u56_10
def u56_2 : IC := .seq u56_3 u56_6
def u56_1r : List IOper := [⟨some 2, .new (.box (.t 0)), none⟩, ⟨some 3, .new (.box (.t 1)), none⟩, oP 4 (.mv (.k (.bool false)))]
def u56_1 : IC := .seq (.reg u56_1r) u56_2
def u56 : IFn := ⟨30, u56_1, [.tmp 4]⟩
end
theorem isU56 : IsFn Tryd.prog 56 u56 := by unfold IsFn; kernel_rfl
instance i56_5 : WR Tryd.prog 30 u56_5 (rS u56_5r .ret [2, 3]) := ⟨mkS⟩
instance i56_4 : WR Tryd.prog 30 u56_4 (rCE (.t 9) u56_5 .skip [2, 3, 9]) := ⟨mkCE⟩
instance i56_3 : WR Tryd.prog 30 u56_3 (rS u56_3r u56_4 [2, 3]) := ⟨mkS⟩
instance i56_9 : WR Tryd.prog 30 u56_9 (rS u56_9r .ret [2, 3]) := ⟨mkS⟩
instance i56_8 : WR Tryd.prog 30 u56_8 (rCE (.t 19) u56_9 .skip [2, 3, 19]) := ⟨mkCE⟩
instance i56_7 : WR Tryd.prog 30 u56_7 (rS u56_7r u56_8 [2, 3]) := ⟨mkS⟩
instance i56_10 : WR Tryd.prog 30 u56_10 (rS u56_10r .ret [2, 3]) := ⟨mkS⟩
instance i56_6 : WR Tryd.prog 30 u56_6 (rQ u56_7 u56_10 [2, 3]) := ⟨mkQ⟩
instance i56_2 : WR Tryd.prog 30 u56_2 (rQ u56_3 u56_6 [2, 3]) := ⟨mkQ⟩
instance i56_1 : WR Tryd.prog 30 u56_1 (rS u56_1r u56_2 [0, 1]) := ⟨mkS⟩
attribute [go_sem] u56_5r u56_3r u56_9r u56_7r u56_10r u56_1r
noncomputable section
def u57_10r : List IOper := [oP 25 (.ld 1 false (.t 4)), oP 26 (.mv (.t 5)), oP 27 (.iad 1 (.t 25) (.t 26)), ⟨none, .eff (.st 1 (.t 27) (.k (.int .i64 (-1)))), none⟩]
def u57_10 : IC := .reg u57_10r
def u57_9r : List IOper := [oP 24 (.mv (.t 22)), oP 5 (.mv (.t 24))]
def u57_9 : IC := .seq (.reg u57_9r) u57_10
def u57_11r : List IOper := [oP 28 (.bin .add (.t 22) (.k (.int .i64 1))), oP 22 (.mv (.t 28))]
def u57_11 : IC := .reg u57_11r
def u57_8 : IC := .seq (.blk 1 u57_9) u57_11
def u57_7 : IC := .seq (.cond (.t 23) .skip (.exit 0)) u57_8
def u57_6r : List IOper := [oP 23 (.bin .lss (.t 22) (.t 21))]
def u57_6 : IC := .seq (.reg u57_6r) u57_7
def u57_5 : IC := .blk 0 (.loop u57_6)
def u57_4r : List IOper := [oP 20 (.ld 1 false (.t 4)), oP 21 (.len (.t 20)), oP 22 (.mv (.k (.int .i64 0)))]
def u57_4 : IC := .seq (.reg u57_4r) u57_5
def u57_23r : List IOper := [oP 2 (.mv (.k (.slice none 0 0))), oP 3 (.mv (.k (.bool false)))]
def u57_23 : IC := .seq (.reg u57_23r) .ret
def u57_22 : IC := .cond (.t 41) u57_23 .skip
def u57_21r : List IOper := [oP 37 (.mv (.t 7)), oP 38 (.fad 3 (.t 9)), oP 39 (.ld 1 false (.t 38)), ⟨some 40, .callv (.t 37) [.t 39, .k (.int .i64 0)], none⟩, oP 41 (.un .not (.t 40))]
def u57_21 : IC := .seq (.reg u57_21r) u57_22
def u57_20r : List IOper := [oP 35 (.iad 4 (.t 31) (.t 33)), oP 36 (.ld 4 true (.t 35)), ⟨some 9, .new (.box (.k (.agg #[.int .i64 0, .int .i64 0, .int .i64 0, .int .i64 0]))), none⟩, ⟨none, .eff (.st 4 (.t 9) (.t 36)), none⟩]
def u57_20 : IC := .seq (.reg u57_20r) u57_21
def u57_24r : List IOper := [oP 42 (.bin .add (.t 33) (.k (.int .i64 1))), oP 33 (.mv (.t 42))]
def u57_24 : IC := .reg u57_24r
def u57_19 : IC := .seq (.blk 3 u57_20) u57_24
def u57_18 : IC := .seq (.cond (.t 34) .skip (.exit 2)) u57_19
def u57_17r : List IOper := [oP 34 (.bin .lss (.t 33) (.t 32))]
def u57_17 : IC := .seq (.reg u57_17r) u57_18
def u57_16 : IC := .blk 2 (.loop u57_17)
def u57_15r : List IOper := [oP 30 (.fad 2 (.t 1)), oP 31 (.ld 1 false (.t 30)), oP 32 (.len (.t 31)), oP 33 (.mv (.k (.int .i64 0)))]
def u57_15 : IC := .seq (.reg u57_15r) u57_16
def u57_28 : IC := .cond (.t 45) .skip (.exit 4)
def u57_27r : List IOper := [oP 43 (.ld 1 false (.t 6)), oP 44 (.len (.t 43)), oP 45 (.bin .gtr (.t 44) (.k (.int .i64 0)))]
def u57_27 : IC := .seq (.reg u57_27r) u57_28
def u57_41r : List IOper := [oP 94 (.mv (.t 15)), oP 95 (.mv (.t 94)), oG 96 (.ld 1 false (.t 4)) 95, oG 97 (.mv (.t 10)) 95, oG 98 (.iad 1 (.t 96) (.t 97)) 95, oG 99 (.ld 1 false (.t 98)) 95, oG 100 (.bin .eql (.t 99) (.k (.int .i64 0))) 95, oP 101 (.pick (.t 95) (.t 100) (.k (.bool false))), oP 15 (.mv (.t 101))]
def u57_41 : IC := .reg u57_41r
def u57_44r : List IOper := [oP 104 (.mv (.t 15)), oP 105 (.mv (.t 104)), oG 106 (.mv (.t 7)) 105, oG 107 (.fad 1 (.t 11)) 105, oG 108 (.ld 1 false (.t 107)) 105, oG 109 (.mv (.t 14)) 105, ⟨some 110, .callv (.t 106) [.t 108, .t 109], some (105, true)⟩, oP 111 (.pick (.t 105) (.t 110) (.k (.bool false))), oP 15 (.mv (.t 111))]
def u57_44 : IC := .reg u57_44r
def u57_47r : List IOper := [oP 114 (.mv (.t 15)), oP 115 (.mv (.t 114)), oG 116 (.mv (.t 7)) 115, oG 117 (.mv (.t 10)) 115, oG 118 (.bin .add (.t 117) (.k (.int .i64 1))) 115, oG 119 (.mv (.t 14)) 115, ⟨some 120, .callv (.t 116) [.t 118, .t 119], some (115, true)⟩, oP 121 (.pick (.t 115) (.t 120) (.k (.bool false))), oP 122 (.mv (.t 121)), oG 123 (.mv (.t 7)) 122, oG 124 (.fad 1 (.t 11)) 122, oG 125 (.ld 1 false (.t 124)) 122, oG 126 (.mv (.t 14)) 122, ⟨some 127, .callv (.t 123) [.t 125, .t 126], some (122, true)⟩, oP 128 (.pick (.t 122) (.t 127) (.k (.bool false))), oP 15 (.mv (.t 128))]
def u57_47 : IC := .reg u57_47r
def u57_50r : List IOper := [oP 131 (.mv (.t 15)), oP 132 (.mv (.t 131)), oG 133 (.mv (.t 7)) 132, oG 134 (.mv (.t 10)) 132, oG 135 (.bin .add (.t 134) (.k (.int .i64 1))) 132, oG 136 (.mv (.t 14)) 132, ⟨some 137, .callv (.t 133) [.t 135, .t 136], some (132, true)⟩, oP 138 (.pick (.t 132) (.t 137) (.k (.bool false))), oP 139 (.mv (.t 138)), oG 140 (.mv (.t 7)) 139, oG 141 (.fad 1 (.t 11)) 139, oG 142 (.ld 1 false (.t 141)) 139, oG 143 (.mv (.t 14)) 139, oG 144 (.bin .sub (.t 143) (.k (.int .i64 1))) 139, ⟨some 145, .callv (.t 140) [.t 142, .t 144], some (139, true)⟩, oP 146 (.pick (.t 139) (.t 145) (.k (.bool false))), oP 15 (.mv (.t 146))]
def u57_50 : IC := .reg u57_50r
def u57_51r : List IOper := [oP 84 (.mv (.t 15)), oP 85 (.mv (.t 84)), oG 86 (.mv (.t 7)) 85, oG 87 (.mv (.t 10)) 85, oG 88 (.bin .add (.t 87) (.k (.int .i64 1))) 85, oG 89 (.mv (.t 14)) 85, ⟨some 90, .callv (.t 86) [.t 88, .t 89], some (85, true)⟩, oP 91 (.pick (.t 85) (.t 90) (.k (.bool false))), oP 15 (.mv (.t 91))]
def u57_51 : IC := .reg u57_51r
def u57_49 : IC := .cond (.t 129) u57_50 u57_51
def u57_48r : List IOper := [oP 130 (.bin .eql (.t 83) (.k (.int .i64 14))), oP 129 (.mv (.t 130))]
def u57_48 : IC := .seq (.reg u57_48r) u57_49
def u57_46 : IC := .cond (.t 112) u57_47 u57_48
def u57_45r : List IOper := [oP 113 (.bin .eql (.t 83) (.k (.int .i64 13))), oP 112 (.mv (.t 113))]
def u57_45 : IC := .seq (.reg u57_45r) u57_46
def u57_43 : IC := .cond (.t 102) u57_44 u57_45
def u57_42r : List IOper := [oP 103 (.bin .eql (.t 83) (.k (.int .i64 12))), oP 102 (.mv (.t 103))]
def u57_42 : IC := .seq (.reg u57_42r) u57_43
def u57_40 : IC := .cond (.t 92) u57_41 u57_42
def u57_39r : List IOper := [oP 93 (.bin .eql (.t 83) (.k (.int .i64 31))), oP 92 (.mv (.t 93))]
def u57_39 : IC := .seq (.reg u57_39r) u57_40
def u57_38 : IC := .blk 6 u57_39
def u57_37r : List IOper := [oP 82 (.fad 0 (.t 11)), oP 83 (.ld 1 false (.t 82))]
def u57_37 : IC := .seq (.reg u57_37r) u57_38
def u57_54r : List IOper := [oP 2 (.mv (.k (.slice none 0 0))), oP 3 (.mv (.k (.bool false)))]
def u57_54 : IC := .seq (.reg u57_54r) .ret
def u57_53 : IC := .cond (.t 148) u57_54 .skip
def u57_52r : List IOper := [oP 147 (.mv (.t 15)), oP 148 (.un .not (.t 147))]
def u57_52 : IC := .seq (.reg u57_52r) u57_53
def u57_36 : IC := .seq u57_37 u57_52
def u57_35r : List IOper := [oP 76 (.ld 1 false (.t 4)), oP 77 (.mv (.t 10)), oP 78 (.iad 1 (.t 76) (.t 77)), oP 79 (.ld 1 false (.t 78)), oP 80 (.mv (.t 12)), oP 81 (.bin .geq (.t 79) (.t 80)), oP 15 (.mv (.t 81))]
def u57_35 : IC := .seq (.reg u57_35r) u57_36
def u57_34r : List IOper := [oP 68 (.ld 1 false (.t 4)), oP 69 (.mv (.t 10)), oP 70 (.iad 1 (.t 68) (.t 69)), oP 71 (.ld 1 false (.t 70)), oP 72 (.mv (.t 12)), oP 73 (.bin .sub (.t 71) (.t 72)), oP 74 (.mv (.t 13)), oP 75 (.bin .add (.t 73) (.t 74)), oP 14 (.mv (.t 75))]
def u57_34 : IC := .seq (.reg u57_34r) u57_35
def u57_33r : List IOper := [oP 63 (.fad 0 (.t 11)), oP 64 (.ld 1 false (.t 63)), ⟨some 65, .call 81 [.t 64], none⟩, oP 62 (.mv (.t 65)), oP 66 (.ext (.t 62) 0), oP 67 (.ext (.t 62) 1), oP 12 (.mv (.t 66)), oP 13 (.mv (.t 67))]
def u57_33 : IC := .seq (.reg u57_33r) u57_34
def u57_32r : List IOper := [oP 57 (.fad 0 (.t 1)), oP 58 (.ld 1 false (.t 57)), oP 59 (.mv (.t 10)), oP 60 (.iad 2 (.t 58) (.t 59)), oP 61 (.ld 2 true (.t 60)), ⟨some 11, .new (.box (.k (.agg #[.int .i64 0, .int .i64 0]))), none⟩, ⟨none, .eff (.st 2 (.t 11) (.t 61)), none⟩]
def u57_32 : IC := .seq (.reg u57_32r) u57_33
def u57_31r : List IOper := [oP 52 (.ld 1 false (.t 6)), oP 53 (.ld 1 false (.t 6)), oP 54 (.len (.t 53)), oP 55 (.bin .sub (.t 54) (.k (.int .i64 1))), oP 56 (.slc 1 (.t 52) none (some (.t 55))), ⟨none, .eff (.st 1 (.t 6) (.t 56)), none⟩]
def u57_31 : IC := .seq (.reg u57_31r) u57_32
def u57_30r : List IOper := [oP 46 (.ld 1 false (.t 6)), oP 47 (.ld 1 false (.t 6)), oP 48 (.len (.t 47)), oP 49 (.bin .sub (.t 48) (.k (.int .i64 1))), oP 50 (.iad 1 (.t 46) (.t 49)), oP 51 (.ld 1 false (.t 50)), oP 10 (.mv (.t 51))]
def u57_30 : IC := .seq (.reg u57_30r) u57_31
def u57_29 : IC := .blk 5 u57_30
def u57_26 : IC := .seq u57_27 u57_29
def u57_55r : List IOper := [oP 149 (.ld 1 false (.t 4)), oP 2 (.mv (.t 149)), oP 3 (.mv (.k (.bool true)))]
def u57_55 : IC := .seq (.reg u57_55r) .ret
def u57_25 : IC := .seq (.blk 4 (.loop u57_26)) u57_55
def u57_14 : IC := .seq u57_15 u57_25
def u57_13r : List IOper := [oP 29 (.mkf 80 [] [.t 4, .t 6]), oP 7 (.mv (.t 29))]
def u57_13 : IC := .seq (.reg u57_13r) u57_14
def u57_12r : List IOper := [⟨some 6, .new (.box (.k (.slice none 0 0))), none⟩]
def u57_12 : IC := .seq (.reg u57_12r) u57_13
def u57_3 : IC := .seq u57_4 u57_12
def u57_2r : List IOper := [oP 16 (.fad 0 (.t 1)), oP 17 (.ld 1 false (.t 16)), oP 18 (.len (.t 17)), ⟨some 19, .new (.msl 1 8 #[.int .i64 0] (.t 18) (.t 18)), none⟩, ⟨some 4, .new (.box (.k (.slice none 0 0))), none⟩, ⟨none, .eff (.st 1 (.t 4) (.t 19)), none⟩]
def u57_2 : IC := .seq (.reg u57_2r) u57_3
def u57_1r : List IOper := [⟨some 1, .new (.box (.t 0)), none⟩, oP 2 (.mv (.k (.slice none 0 0))), oP 3 (.mv (.k (.bool false)))]
def u57_1 : IC := .seq (.reg u57_1r) u57_2
def u57 : IFn := ⟨150, u57_1, [.tmp 2, .tmp 3]⟩
end
theorem isU57 : IsFn Tryd.prog 57 u57 := by unfold IsFn; kernel_rfl
instance i57_10 : WR Tryd.prog 150 u57_10 (rE u57_10r [1, 4, 5, 21, 22]) := ⟨mkE⟩
instance i57_9 : WR Tryd.prog 150 u57_9 (rS u57_9r u57_10 [1, 4, 21, 22]) := ⟨mkS⟩
instance i57_11 : WR Tryd.prog 150 u57_11 (rE u57_11r [1, 4, 21, 22]) := ⟨mkE⟩
instance i57_8 : WR Tryd.prog 150 u57_8 (rB 1 u57_9 u57_11 [1, 4, 21, 22]) := ⟨mkB⟩
instance i57_7 : WR Tryd.prog 150 u57_7 (rC (.t 23) .skip (.exit 0) u57_8 [1, 4, 21, 22, 23]) := ⟨mkC⟩
instance i57_6 : WR Tryd.prog 150 u57_6 (rS u57_6r u57_7 [1, 4, 21, 22]) := ⟨mkS⟩
instance i57_5 : WR Tryd.prog 150 u57_5 (rBE 0 (.loop u57_6) [1, 4, 21, 22]) := ⟨mkBE⟩
instance i57_4 : WR Tryd.prog 150 u57_4 (rS u57_4r u57_5 [1, 4]) := ⟨mkS⟩
instance i57_23 : WR Tryd.prog 150 u57_23 (rS u57_23r .ret []) := ⟨mkS⟩
instance i57_22 : WR Tryd.prog 150 u57_22 (rCE (.t 41) u57_23 .skip [1, 4, 6, 7, 31, 32, 33, 41]) := ⟨mkCE⟩
instance i57_21 : WR Tryd.prog 150 u57_21 (rS u57_21r u57_22 [1, 4, 6, 7, 9, 31, 32, 33]) := ⟨mkS⟩
instance i57_20 : WR Tryd.prog 150 u57_20 (rS u57_20r u57_21 [1, 4, 6, 7, 31, 32, 33]) := ⟨mkS⟩
instance i57_24 : WR Tryd.prog 150 u57_24 (rE u57_24r [1, 4, 6, 7, 31, 32, 33]) := ⟨mkE⟩
instance i57_19 : WR Tryd.prog 150 u57_19 (rB 3 u57_20 u57_24 [1, 4, 6, 7, 31, 32, 33]) := ⟨mkB⟩
instance i57_18 : WR Tryd.prog 150 u57_18 (rC (.t 34) .skip (.exit 2) u57_19 [1, 4, 6, 7, 31, 32, 33, 34]) := ⟨mkC⟩
instance i57_17 : WR Tryd.prog 150 u57_17 (rS u57_17r u57_18 [1, 4, 6, 7, 31, 32, 33]) := ⟨mkS⟩
instance i57_16 : WR Tryd.prog 150 u57_16 (rBE 2 (.loop u57_17) [1, 4, 6, 7, 31, 32, 33]) := ⟨mkBE⟩
instance i57_15 : WR Tryd.prog 150 u57_15 (rS u57_15r u57_16 [1, 4, 6, 7]) := ⟨mkS⟩
instance i57_28 : WR Tryd.prog 150 u57_28 (rCE (.t 45) .skip (.exit 4) [1, 4, 6, 7, 45]) := ⟨mkCE⟩
instance i57_27 : WR Tryd.prog 150 u57_27 (rS u57_27r u57_28 [1, 4, 6, 7]) := ⟨mkS⟩
instance i57_41 : WR Tryd.prog 150 u57_41 (rE u57_41r [1, 4, 6, 7, 10, 15]) := ⟨mkE⟩
instance i57_44 : WR Tryd.prog 150 u57_44 (rE u57_44r [1, 4, 6, 7, 11, 14, 15]) := ⟨mkE⟩
instance i57_47 : WR Tryd.prog 150 u57_47 (rE u57_47r [1, 4, 6, 7, 10, 11, 14, 15]) := ⟨mkE⟩
instance i57_50 : WR Tryd.prog 150 u57_50 (rE u57_50r [1, 4, 6, 7, 10, 11, 14, 15]) := ⟨mkE⟩
instance i57_51 : WR Tryd.prog 150 u57_51 (rE u57_51r [1, 4, 6, 7, 10, 14, 15]) := ⟨mkE⟩
instance i57_49 : WR Tryd.prog 150 u57_49 (rCE (.t 129) u57_50 u57_51 [1, 4, 6, 7, 10, 11, 14, 15, 129]) := ⟨mkCE⟩
instance i57_48 : WR Tryd.prog 150 u57_48 (rS u57_48r u57_49 [1, 4, 6, 7, 10, 11, 14, 15, 83]) := ⟨mkS⟩
instance i57_46 : WR Tryd.prog 150 u57_46 (rCE (.t 112) u57_47 u57_48 [1, 4, 6, 7, 10, 11, 14, 15, 83, 112]) := ⟨mkCE⟩
instance i57_45 : WR Tryd.prog 150 u57_45 (rS u57_45r u57_46 [1, 4, 6, 7, 10, 11, 14, 15, 83]) := ⟨mkS⟩
instance i57_43 : WR Tryd.prog 150 u57_43 (rCE (.t 102) u57_44 u57_45 [1, 4, 6, 7, 10, 11, 14, 15, 83, 102]) := ⟨mkCE⟩
instance i57_42 : WR Tryd.prog 150 u57_42 (rS u57_42r u57_43 [1, 4, 6, 7, 10, 11, 14, 15, 83]) := ⟨mkS⟩
instance i57_40 : WR Tryd.prog 150 u57_40 (rCE (.t 92) u57_41 u57_42 [1, 4, 6, 7, 10, 11, 14, 15, 83, 92]) := ⟨mkCE⟩
instance i57_39 : WR Tryd.prog 150 u57_39 (rS u57_39r u57_40 [1, 4, 6, 7, 10, 11, 14, 15, 83]) := ⟨mkS⟩
instance i57_38 : WR Tryd.prog 150 u57_38 (rBE 6 u57_39 [1, 4, 6, 7, 10, 11, 14, 15, 83]) := ⟨mkBE⟩
instance i57_37 : WR Tryd.prog 150 u57_37 (rS u57_37r u57_38 [1, 4, 6, 7, 10, 11, 14, 15]) := ⟨mkS⟩
instance i57_54 : WR Tryd.prog 150 u57_54 (rS u57_54r .ret []) := ⟨mkS⟩
instance i57_53 : WR Tryd.prog 150 u57_53 (rCE (.t 148) u57_54 .skip [1, 4, 6, 7, 148]) := ⟨mkCE⟩
instance i57_52 : WR Tryd.prog 150 u57_52 (rS u57_52r u57_53 [1, 4, 6, 7, 15]) := ⟨mkS⟩
instance i57_36 : WR Tryd.prog 150 u57_36 (rQ u57_37 u57_52 [1, 4, 6, 7, 10, 11, 14, 15]) := ⟨mkQ⟩
instance i57_35 : WR Tryd.prog 150 u57_35 (rS u57_35r u57_36 [1, 4, 6, 7, 10, 11, 12, 14]) := ⟨mkS⟩
instance i57_34 : WR Tryd.prog 150 u57_34 (rS u57_34r u57_35 [1, 4, 6, 7, 10, 11, 12, 13]) := ⟨mkS⟩
instance i57_33 : WR Tryd.prog 150 u57_33 (rS u57_33r u57_34 [1, 4, 6, 7, 10, 11]) := ⟨mkS⟩
instance i57_32 : WR Tryd.prog 150 u57_32 (rS u57_32r u57_33 [1, 4, 6, 7, 10]) := ⟨mkS⟩
instance i57_31 : WR Tryd.prog 150 u57_31 (rS u57_31r u57_32 [1, 4, 6, 7, 10]) := ⟨mkS⟩
instance i57_30 : WR Tryd.prog 150 u57_30 (rS u57_30r u57_31 [1, 4, 6, 7]) := ⟨mkS⟩
instance i57_29 : WR Tryd.prog 150 u57_29 (rBE 5 u57_30 [1, 4, 6, 7]) := ⟨mkBE⟩
instance i57_26 : WR Tryd.prog 150 u57_26 (rQ u57_27 u57_29 [1, 4, 6, 7]) := ⟨mkQ⟩
instance i57_55 : WR Tryd.prog 150 u57_55 (rS u57_55r .ret [4]) := ⟨mkS⟩
instance i57_25 : WR Tryd.prog 150 u57_25 (rB 4 (.loop u57_26) u57_55 [1, 4, 6, 7]) := ⟨mkB⟩
instance i57_14 : WR Tryd.prog 150 u57_14 (rQ u57_15 u57_25 [1, 4, 6, 7]) := ⟨mkQ⟩
instance i57_13 : WR Tryd.prog 150 u57_13 (rS u57_13r u57_14 [1, 4, 6]) := ⟨mkS⟩
instance i57_12 : WR Tryd.prog 150 u57_12 (rS u57_12r u57_13 [1, 4]) := ⟨mkS⟩
instance i57_3 : WR Tryd.prog 150 u57_3 (rQ u57_4 u57_12 [1, 4]) := ⟨mkQ⟩
instance i57_2 : WR Tryd.prog 150 u57_2 (rS u57_2r u57_3 [1]) := ⟨mkS⟩
instance i57_1 : WR Tryd.prog 150 u57_1 (rS u57_1r u57_2 [0]) := ⟨mkS⟩
attribute [go_sem] u57_10r u57_9r u57_11r u57_6r u57_4r u57_23r u57_21r u57_20r u57_24r u57_17r u57_15r u57_27r u57_41r u57_44r u57_47r u57_50r u57_51r u57_48r u57_45r u57_42r u57_39r u57_37r u57_54r u57_52r u57_35r u57_34r u57_33r u57_32r u57_31r u57_30r u57_55r u57_13r u57_12r u57_2r u57_1r
noncomputable section
def u80_5r : List IOper := [oP 6 (.mv (.k (.bool false)))]
def u80_5 : IC := .seq (.reg u80_5r) .ret
def u80_4 : IC := .cond (.t 29) u80_5 .skip
def u80_3r : List IOper := [oP 7 (.mv (.t 0)), oP 8 (.ld 1 false (.t 2)), oP 9 (.len (.t 8)), oP 10 (.bin .geq (.t 7) (.t 9)), oP 11 (.mv (.t 10)), ⟨some 12, .pur (.mv (.t 1)), some (11, false)⟩, ⟨some 13, .pur (.bin .gtr (.t 12) (.k (.int .i64 48))), some (11, false)⟩, oP 14 (.pick (.t 11) (.k (.bool true)) (.t 13)), oP 15 (.mv (.t 14)), ⟨some 16, .pur (.ld 1 false (.t 2)), some (15, false)⟩, ⟨some 17, .pur (.mv (.t 0)), some (15, false)⟩, ⟨some 18, .pur (.iad 1 (.t 16) (.t 17)), some (15, false)⟩, ⟨some 19, .pur (.ld 1 false (.t 18)), some (15, false)⟩, ⟨some 20, .pur (.bin .geq (.t 19) (.k (.int .i64 0))), some (15, false)⟩, ⟨some 21, .pur (.mv (.t 20)), some (15, false)⟩, oG 22 (.ld 1 false (.t 2)) 21, oG 23 (.mv (.t 0)) 21, oG 24 (.iad 1 (.t 22) (.t 23)) 21, oG 25 (.ld 1 false (.t 24)) 21, oG 26 (.mv (.t 1)) 21, oG 27 (.bin .neq (.t 25) (.t 26)) 21, ⟨some 28, .pur (.pick (.t 21) (.t 27) (.k (.bool false))), some (15, false)⟩, oP 29 (.pick (.t 15) (.k (.bool true)) (.t 28))]
def u80_3 : IC := .seq (.reg u80_3r) u80_4
def u80_10r : List IOper := [oP 39 (.ld 1 false (.t 3)), oP 40 (.mv (.t 0)), ⟨some 41, .new (.bsl 1 1 #[.int .i64 0] [(0, .t 40)]), none⟩, ⟨some 42, .eff (.app 1 8 (.t 39) (.t 41)), none⟩, ⟨none, .eff (.st 1 (.t 3) (.t 42)), none⟩]
def u80_10 : IC := .reg u80_10r
def u80_9r : List IOper := [oP 35 (.ld 1 false (.t 2)), oP 36 (.mv (.t 0)), oP 37 (.mv (.t 1)), oP 38 (.iad 1 (.t 35) (.t 36)), ⟨none, .eff (.st 1 (.t 38) (.t 37)), none⟩]
def u80_9 : IC := .seq (.reg u80_9r) u80_10
def u80_8 : IC := .cond (.t 34) u80_9 .skip
def u80_7r : List IOper := [oP 30 (.ld 1 false (.t 2)), oP 31 (.mv (.t 0)), oP 32 (.iad 1 (.t 30) (.t 31)), oP 33 (.ld 1 false (.t 32)), oP 34 (.bin .lss (.t 33) (.k (.int .i64 0)))]
def u80_7 : IC := .seq (.reg u80_7r) u80_8
def u80_11r : List IOper := [oP 6 (.mv (.k (.bool true)))]
def u80_11 : IC := .seq (.reg u80_11r) .ret
def u80_6 : IC := .seq u80_7 u80_11
def u80_2 : IC := .seq u80_3 u80_6
def u80_1r : List IOper := [oP 6 (.mv (.k (.bool false)))]
def u80_1 : IC := .seq (.reg u80_1r) u80_2
def u80 : IFn := ⟨43, u80_1, [.tmp 6]⟩
end
theorem isU80 : IsFn Tryd.prog 80 u80 := by unfold IsFn; kernel_rfl
instance i80_5 : WR Tryd.prog 43 u80_5 (rS u80_5r .ret []) := ⟨mkS⟩
instance i80_4 : WR Tryd.prog 43 u80_4 (rCE (.t 29) u80_5 .skip [0, 1, 2, 3, 29]) := ⟨mkCE⟩
instance i80_3 : WR Tryd.prog 43 u80_3 (rS u80_3r u80_4 [0, 1, 2, 3]) := ⟨mkS⟩
instance i80_10 : WR Tryd.prog 43 u80_10 (rE u80_10r [0, 3]) := ⟨mkE⟩
instance i80_9 : WR Tryd.prog 43 u80_9 (rS u80_9r u80_10 [0, 1, 2, 3]) := ⟨mkS⟩
instance i80_8 : WR Tryd.prog 43 u80_8 (rCE (.t 34) u80_9 .skip [0, 1, 2, 3, 34]) := ⟨mkCE⟩
instance i80_7 : WR Tryd.prog 43 u80_7 (rS u80_7r u80_8 [0, 1, 2, 3]) := ⟨mkS⟩
instance i80_11 : WR Tryd.prog 43 u80_11 (rS u80_11r .ret []) := ⟨mkS⟩
instance i80_6 : WR Tryd.prog 43 u80_6 (rQ u80_7 u80_11 [0, 1, 2, 3]) := ⟨mkQ⟩
instance i80_2 : WR Tryd.prog 43 u80_2 (rQ u80_3 u80_6 [0, 1, 2, 3]) := ⟨mkQ⟩
instance i80_1 : WR Tryd.prog 43 u80_1 (rS u80_1r u80_2 [0, 1, 2, 3]) := ⟨mkS⟩
attribute [go_sem] u80_5r u80_3r u80_10r u80_9r u80_7r u80_11r u80_1r
noncomputable section
def u30_5r : List IOper := [oP 2 (.mv (.k (.slice none 0 0))), oP 3 (.mv (.k (.int .i64 9)))]
def u30_5 : IC := .seq (.reg u30_5r) .ret
def u30_8r : List IOper := [oP 2 (.mv (.k (.slice none 0 0))), oP 3 (.mv (.k (.int .i64 51)))]
def u30_8 : IC := .seq (.reg u30_8r) .ret
def u30_11r : List IOper := [oP 2 (.mv (.k (.slice none 0 0))), oP 3 (.mv (.k (.int .i64 54)))]
def u30_11 : IC := .seq (.reg u30_11r) .ret
def u30_10 : IC := .cond (.t 15) u30_11 .skip
def u30_9r : List IOper := [oP 16 (.ld 7 true (.t 1)), ⟨some 17, .call 55 [.t 16], none⟩, oP 18 (.un .not (.t 17)), oP 15 (.mv (.t 18))]
def u30_9 : IC := .seq (.reg u30_9r) u30_10
def u30_7 : IC := .cond (.t 11) u30_8 u30_9
def u30_6r : List IOper := [oP 12 (.ld 7 true (.t 1)), ⟨some 13, .call 54 [.t 12], none⟩, oP 14 (.un .not (.t 13)), oP 11 (.mv (.t 14))]
def u30_6 : IC := .seq (.reg u30_6r) u30_7
def u30_4 : IC := .cond (.t 7) u30_5 u30_6
def u30_3r : List IOper := [oP 8 (.ld 7 true (.t 1)), ⟨some 9, .call 53 [.t 8], none⟩, oP 10 (.un .not (.t 9)), oP 7 (.mv (.t 10))]
def u30_3 : IC := .seq (.reg u30_3r) u30_4
def u30_17 : IC := .cond (.t 23) .skip (.exit 1)
def u30_16r : List IOper := [oP 19 (.mv (.t 4)), oP 20 (.fad 2 (.t 1)), oP 21 (.ld 1 false (.t 20)), oP 22 (.len (.t 21)), oP 23 (.bin .lss (.t 19) (.t 22))]
def u30_16 : IC := .seq (.reg u30_16r) u30_17
def u30_21r : List IOper := [oP 2 (.mv (.k (.slice none 0 0))), oP 3 (.mv (.k (.int .i64 66)))]
def u30_21 : IC := .seq (.reg u30_21r) .ret
def u30_20 : IC := .cond (.t 38) u30_21 .skip
def u30_19r : DReg := ⟨[oP 26 (.fad 2 (.t 1)), oP 27 (.ld 1 false (.t 26)), oP 28 (.mv (.t 4)), oP 29 (.bin .sub (.t 28) (.k (.int .i64 1))), oP 30 (.iad 4 (.t 27) (.t 29)), oP 31 (.ld 4 true (.t 30)), oP 32 (.fad 2 (.t 1)), oP 33 (.ld 1 false (.t 32)), oP 34 (.mv (.t 4)), oP 35 (.iad 4 (.t 33) (.t 34)), oP 36 (.ld 4 true (.t 35)), ⟨some 37, .call 56 [.t 31, .t 36], none⟩, oP 38 (.un .not (.t 37))], [[], [0], [], [2], [1, 3, 0, 2], [4, 1, 3, 0, 2], [], [6], [], [7, 8, 6], [9, 7, 8, 6], [5, 10, 4, 1, 3, 0, 2, 9, 7, 8, 6], [11, 5, 10, 4, 1, 3, 0, 2, 9, 7, 8, 6]], [(0, none), (1, none), (2, none), (3, none), (4, none), (5, none), (6, none), (7, none), (8, none), (9, none), (10, none), (11, some []), (12, none)]⟩
def u30_19 : IC := .seq (.drw 13 u30_19r) u30_20
def u30_22r : List IOper := [oP 24 (.mv (.t 4)), oP 25 (.bin .add (.t 24) (.k (.int .i64 1))), oP 4 (.mv (.t 25))]
def u30_22 : IC := .reg u30_22r
def u30_18 : IC := .seq (.blk 2 u30_19) u30_22
def u30_15 : IC := .seq u30_16 u30_18
def u30_14 : IC := .blk 1 (.loop u30_15)
def u30_13r : List IOper := [oP 4 (.mv (.k (.int .i64 1)))]
def u30_13 : IC := .seq (.reg u30_13r) u30_14
def u30_27r : List IOper := [oP 2 (.mv (.k (.slice none 0 0))), oP 3 (.mv (.k (.int .i64 53)))]
def u30_27 : IC := .seq (.reg u30_27r) .ret
def u30_26 : IC := .cond (.t 45) u30_27 .skip
def u30_25r : List IOper := [oP 44 (.mv (.t 6)), oP 45 (.un .not (.t 44))]
def u30_25 : IC := .seq (.reg u30_25r) u30_26
def u30_28r : List IOper := [oP 46 (.mv (.t 5)), oP 2 (.mv (.t 46)), oP 3 (.mv (.k (.int .i64 0)))]
def u30_28 : IC := .seq (.reg u30_28r) .ret
def u30_24 : IC := .seq u30_25 u30_28
def u30_23r : List IOper := [oP 40 (.ld 7 true (.t 1)), ⟨some 41, .call 57 [.t 40], none⟩, oP 39 (.mv (.t 41)), oP 42 (.ext (.t 39) 0), oP 43 (.ext (.t 39) 1), oP 5 (.mv (.t 42)), oP 6 (.mv (.t 43))]
def u30_23 : IC := .seq (.reg u30_23r) u30_24
def u30_12 : IC := .seq u30_13 u30_23
def u30_2 : IC := .seq (.blk 0 u30_3) u30_12
def u30_1r : List IOper := [⟨some 1, .new (.box (.t 0)), none⟩, oP 2 (.mv (.k (.slice none 0 0))), oP 3 (.mv (.k (.int .i64 0)))]
def u30_1 : IC := .seq (.reg u30_1r) u30_2
def u30 : IFn := ⟨47, u30_1, [.tmp 2, .tmp 3]⟩
end
theorem isU30 : IsFn Tryd.prog 30 u30 := by unfold IsFn; kernel_rfl
instance i30_5 : WR Tryd.prog 47 u30_5 (rS u30_5r .ret []) := ⟨mkS⟩
instance i30_8 : WR Tryd.prog 47 u30_8 (rS u30_8r .ret []) := ⟨mkS⟩
instance i30_11 : WR Tryd.prog 47 u30_11 (rS u30_11r .ret []) := ⟨mkS⟩
instance i30_10 : WR Tryd.prog 47 u30_10 (rCE (.t 15) u30_11 .skip [1, 15]) := ⟨mkCE⟩
instance i30_9 : WR Tryd.prog 47 u30_9 (rS u30_9r u30_10 [1]) := ⟨mkS⟩
instance i30_7 : WR Tryd.prog 47 u30_7 (rCE (.t 11) u30_8 u30_9 [1, 11]) := ⟨mkCE⟩
instance i30_6 : WR Tryd.prog 47 u30_6 (rS u30_6r u30_7 [1]) := ⟨mkS⟩
instance i30_4 : WR Tryd.prog 47 u30_4 (rCE (.t 7) u30_5 u30_6 [1, 7]) := ⟨mkCE⟩
instance i30_3 : WR Tryd.prog 47 u30_3 (rS u30_3r u30_4 [1]) := ⟨mkS⟩
instance i30_17 : WR Tryd.prog 47 u30_17 (rCE (.t 23) .skip (.exit 1) [1, 4, 23]) := ⟨mkCE⟩
instance i30_16 : WR Tryd.prog 47 u30_16 (rS u30_16r u30_17 [1, 4]) := ⟨mkS⟩
instance i30_21 : WR Tryd.prog 47 u30_21 (rS u30_21r .ret []) := ⟨mkS⟩
instance i30_20 : WR Tryd.prog 47 u30_20 (rCE (.t 38) u30_21 .skip [1, 4, 38]) := ⟨mkCE⟩
instance i30_19 : WR Tryd.prog 47 u30_19 (rP 13 u30_19r u30_20 [1, 4]) := ⟨mkP rfl⟩
instance i30_22 : WR Tryd.prog 47 u30_22 (rE u30_22r [1, 4]) := ⟨mkE⟩
instance i30_18 : WR Tryd.prog 47 u30_18 (rB 2 u30_19 u30_22 [1, 4]) := ⟨mkB⟩
instance i30_15 : WR Tryd.prog 47 u30_15 (rQ u30_16 u30_18 [1, 4]) := ⟨mkQ⟩
instance i30_14 : WR Tryd.prog 47 u30_14 (rBE 1 (.loop u30_15) [1, 4]) := ⟨mkBE⟩
instance i30_13 : WR Tryd.prog 47 u30_13 (rS u30_13r u30_14 [1]) := ⟨mkS⟩
instance i30_27 : WR Tryd.prog 47 u30_27 (rS u30_27r .ret []) := ⟨mkS⟩
instance i30_26 : WR Tryd.prog 47 u30_26 (rCE (.t 45) u30_27 .skip [5, 45]) := ⟨mkCE⟩
instance i30_25 : WR Tryd.prog 47 u30_25 (rS u30_25r u30_26 [5, 6]) := ⟨mkS⟩
instance i30_28 : WR Tryd.prog 47 u30_28 (rS u30_28r .ret [5]) := ⟨mkS⟩
instance i30_24 : WR Tryd.prog 47 u30_24 (rQ u30_25 u30_28 [5, 6]) := ⟨mkQ⟩
instance i30_23 : WR Tryd.prog 47 u30_23 (rS u30_23r u30_24 [1]) := ⟨mkS⟩
instance i30_12 : WR Tryd.prog 47 u30_12 (rQ u30_13 u30_23 [1]) := ⟨mkQ⟩
instance i30_2 : WR Tryd.prog 47 u30_2 (rB 0 u30_3 u30_12 [1]) := ⟨mkB⟩
instance i30_1 : WR Tryd.prog 47 u30_1 (rS u30_1r u30_2 [0]) := ⟨mkS⟩
attribute [go_sem] u30_5r u30_8r u30_11r u30_9r u30_6r u30_3r u30_16r u30_21r u30_19r u30_22r u30_13r u30_27r u30_25r u30_28r u30_23r u30_1r
noncomputable section
def u14_3r : List IOper := [oP 10 (.mv (.t 4)), oP 2 (.mv (.t 10))]
def u14_3 : IC := .seq (.reg u14_3r) .ret
def u14_2r : List IOper := [oP 6 (.ld 7 true (.t 1)), ⟨some 7, .call 30 [.t 6], none⟩, oP 5 (.mv (.t 7)), oP 8 (.ext (.t 5) 0), oP 9 (.ext (.t 5) 1), oP 3 (.mv (.t 8)), oP 4 (.mv (.t 9))]
def u14_2 : IC := .seq (.reg u14_2r) u14_3
def u14_1r : List IOper := [⟨some 1, .new (.box (.t 0)), none⟩, oP 2 (.mv (.k (.int .i64 0)))]
def u14_1 : IC := .seq (.reg u14_1r) u14_2
def u14 : IFn := ⟨11, u14_1, [.tmp 2]⟩
end
theorem isU14 : IsFn Tryd.prog 14 u14 := by unfold IsFn; kernel_rfl
instance i14_3 : WR Tryd.prog 11 u14_3 (rS u14_3r .ret [4]) := ⟨mkS⟩
instance i14_2 : WR Tryd.prog 11 u14_2 (rS u14_2r u14_3 [1]) := ⟨mkS⟩
instance i14_1 : WR Tryd.prog 11 u14_1 (rS u14_1r u14_2 [0]) := ⟨mkS⟩
attribute [go_sem] u14_3r u14_2r u14_1r
noncomputable section
def u85_11r : List IOper := [oP 17 (.mv (.t 5)), oP 4 (.mv (.t 17))]
def u85_11 : IC := .seq (.reg u85_11r) .ret
def u85_10 : IC := .cond (.t 16) u85_11 .skip
def u85_9r : List IOper := [oP 11 (.mv (.t 1)), oP 12 (.mv (.t 0)), oP 13 (.mv (.t 5)), oP 14 (.iad 1 (.t 12) (.t 13)), oP 15 (.ld 1 false (.t 14)), ⟨some 16, .callv (.t 11) [.t 15], none⟩]
def u85_9 : IC := .seq (.reg u85_9r) u85_10
def u85_8r : List IOper := [oP 10 (.mv (.t 8)), oP 5 (.mv (.t 10))]
def u85_8 : IC := .seq (.reg u85_8r) u85_9
def u85_12r : List IOper := [oP 18 (.bin .add (.t 8) (.k (.int .i64 1))), oP 8 (.mv (.t 18))]
def u85_12 : IC := .reg u85_12r
def u85_7 : IC := .seq (.blk 1 u85_8) u85_12
def u85_6 : IC := .seq (.cond (.t 9) .skip (.exit 0)) u85_7
def u85_5r : List IOper := [oP 9 (.bin .lss (.t 8) (.t 7))]
def u85_5 : IC := .seq (.reg u85_5r) u85_6
def u85_4 : IC := .blk 0 (.loop u85_5)
def u85_3r : List IOper := [oP 6 (.mv (.t 0)), oP 7 (.len (.t 6)), oP 8 (.mv (.k (.int .i64 0)))]
def u85_3 : IC := .seq (.reg u85_3r) u85_4
def u85_13r : List IOper := [oP 4 (.mv (.k (.int .i64 (-1))))]
def u85_13 : IC := .seq (.reg u85_13r) .ret
def u85_2 : IC := .seq u85_3 u85_13
def u85_1r : List IOper := [oP 4 (.mv (.k (.int .i64 0)))]
def u85_1 : IC := .seq (.reg u85_1r) u85_2
def u85 : IFn := ⟨19, u85_1, [.tmp 4]⟩
end
theorem isU85 : IsFn Tryd.prog 85 u85 := by unfold IsFn; kernel_rfl
instance i85_11 : WR Tryd.prog 19 u85_11 (rS u85_11r .ret [5]) := ⟨mkS⟩
instance i85_10 : WR Tryd.prog 19 u85_10 (rCE (.t 16) u85_11 .skip [0, 1, 5, 7, 8, 16]) := ⟨mkCE⟩
instance i85_9 : WR Tryd.prog 19 u85_9 (rS u85_9r u85_10 [0, 1, 5, 7, 8]) := ⟨mkS⟩
instance i85_8 : WR Tryd.prog 19 u85_8 (rS u85_8r u85_9 [0, 1, 7, 8]) := ⟨mkS⟩
instance i85_12 : WR Tryd.prog 19 u85_12 (rE u85_12r [0, 1, 7, 8]) := ⟨mkE⟩
instance i85_7 : WR Tryd.prog 19 u85_7 (rB 1 u85_8 u85_12 [0, 1, 7, 8]) := ⟨mkB⟩
instance i85_6 : WR Tryd.prog 19 u85_6 (rC (.t 9) .skip (.exit 0) u85_7 [0, 1, 7, 8, 9]) := ⟨mkC⟩
instance i85_5 : WR Tryd.prog 19 u85_5 (rS u85_5r u85_6 [0, 1, 7, 8]) := ⟨mkS⟩
instance i85_4 : WR Tryd.prog 19 u85_4 (rBE 0 (.loop u85_5) [0, 1, 7, 8]) := ⟨mkBE⟩
instance i85_3 : WR Tryd.prog 19 u85_3 (rS u85_3r u85_4 [0, 1]) := ⟨mkS⟩
instance i85_13 : WR Tryd.prog 19 u85_13 (rS u85_13r .ret []) := ⟨mkS⟩
instance i85_2 : WR Tryd.prog 19 u85_2 (rQ u85_3 u85_13 [0, 1]) := ⟨mkQ⟩
instance i85_1 : WR Tryd.prog 19 u85_1 (rS u85_1r u85_2 [0, 1]) := ⟨mkS⟩
attribute [go_sem] u85_11r u85_9r u85_8r u85_12r u85_5r u85_3r u85_13r u85_1r
noncomputable section
def u86_11r : List IOper := [oP 17 (.mv (.t 5)), oP 4 (.mv (.t 17))]
def u86_11 : IC := .seq (.reg u86_11r) .ret
def u86_10 : IC := .cond (.t 16) u86_11 .skip
def u86_9r : List IOper := [oP 11 (.mv (.t 1)), oP 12 (.mv (.t 0)), oP 13 (.mv (.t 5)), oP 14 (.iad 1 (.t 12) (.t 13)), oP 15 (.ld 1 false (.t 14)), ⟨some 16, .callv (.t 11) [.t 15], none⟩]
def u86_9 : IC := .seq (.reg u86_9r) u86_10
def u86_8r : List IOper := [oP 10 (.mv (.t 8)), oP 5 (.mv (.t 10))]
def u86_8 : IC := .seq (.reg u86_8r) u86_9
def u86_12r : List IOper := [oP 18 (.bin .add (.t 8) (.k (.int .i64 1))), oP 8 (.mv (.t 18))]
def u86_12 : IC := .reg u86_12r
def u86_7 : IC := .seq (.blk 1 u86_8) u86_12
def u86_6 : IC := .seq (.cond (.t 9) .skip (.exit 0)) u86_7
def u86_5r : List IOper := [oP 9 (.bin .lss (.t 8) (.t 7))]
def u86_5 : IC := .seq (.reg u86_5r) u86_6
def u86_4 : IC := .blk 0 (.loop u86_5)
def u86_3r : List IOper := [oP 6 (.mv (.t 0)), oP 7 (.len (.t 6)), oP 8 (.mv (.k (.int .i64 0)))]
def u86_3 : IC := .seq (.reg u86_3r) u86_4
def u86_13r : List IOper := [oP 4 (.mv (.k (.int .i64 (-1))))]
def u86_13 : IC := .seq (.reg u86_13r) .ret
def u86_2 : IC := .seq u86_3 u86_13
def u86_1r : List IOper := [oP 4 (.mv (.k (.int .i64 0)))]
def u86_1 : IC := .seq (.reg u86_1r) u86_2
def u86 : IFn := ⟨19, u86_1, [.tmp 4]⟩
end
theorem isU86 : IsFn Tryd.prog 86 u86 := by unfold IsFn; kernel_rfl
instance i86_11 : WR Tryd.prog 19 u86_11 (rS u86_11r .ret [5]) := ⟨mkS⟩
instance i86_10 : WR Tryd.prog 19 u86_10 (rCE (.t 16) u86_11 .skip [0, 1, 5, 7, 8, 16]) := ⟨mkCE⟩
instance i86_9 : WR Tryd.prog 19 u86_9 (rS u86_9r u86_10 [0, 1, 5, 7, 8]) := ⟨mkS⟩
instance i86_8 : WR Tryd.prog 19 u86_8 (rS u86_8r u86_9 [0, 1, 7, 8]) := ⟨mkS⟩
instance i86_12 : WR Tryd.prog 19 u86_12 (rE u86_12r [0, 1, 7, 8]) := ⟨mkE⟩
instance i86_7 : WR Tryd.prog 19 u86_7 (rB 1 u86_8 u86_12 [0, 1, 7, 8]) := ⟨mkB⟩
instance i86_6 : WR Tryd.prog 19 u86_6 (rC (.t 9) .skip (.exit 0) u86_7 [0, 1, 7, 8, 9]) := ⟨mkC⟩
instance i86_5 : WR Tryd.prog 19 u86_5 (rS u86_5r u86_6 [0, 1, 7, 8]) := ⟨mkS⟩
instance i86_4 : WR Tryd.prog 19 u86_4 (rBE 0 (.loop u86_5) [0, 1, 7, 8]) := ⟨mkBE⟩
instance i86_3 : WR Tryd.prog 19 u86_3 (rS u86_3r u86_4 [0, 1]) := ⟨mkS⟩
instance i86_13 : WR Tryd.prog 19 u86_13 (rS u86_13r .ret []) := ⟨mkS⟩
instance i86_2 : WR Tryd.prog 19 u86_2 (rQ u86_3 u86_13 [0, 1]) := ⟨mkQ⟩
instance i86_1 : WR Tryd.prog 19 u86_1 (rS u86_1r u86_2 [0, 1]) := ⟨mkS⟩
attribute [go_sem] u86_11r u86_9r u86_8r u86_12r u86_5r u86_3r u86_13r u86_1r
noncomputable section
def u87_11r : List IOper := [oP 17 (.mv (.t 5)), oP 4 (.mv (.t 17))]
def u87_11 : IC := .seq (.reg u87_11r) .ret
def u87_10 : IC := .cond (.t 16) u87_11 .skip
def u87_9r : List IOper := [oP 11 (.mv (.t 1)), oP 12 (.mv (.t 0)), oP 13 (.mv (.t 5)), oP 14 (.iad 4 (.t 12) (.t 13)), oP 15 (.ld 4 true (.t 14)), ⟨some 16, .callv (.t 11) [.t 15], none⟩]
def u87_9 : IC := .seq (.reg u87_9r) u87_10
def u87_8r : List IOper := [oP 10 (.mv (.t 8)), oP 5 (.mv (.t 10))]
def u87_8 : IC := .seq (.reg u87_8r) u87_9
def u87_12r : List IOper := [oP 18 (.bin .add (.t 8) (.k (.int .i64 1))), oP 8 (.mv (.t 18))]
def u87_12 : IC := .reg u87_12r
def u87_7 : IC := .seq (.blk 1 u87_8) u87_12
def u87_6 : IC := .seq (.cond (.t 9) .skip (.exit 0)) u87_7
def u87_5r : List IOper := [oP 9 (.bin .lss (.t 8) (.t 7))]
def u87_5 : IC := .seq (.reg u87_5r) u87_6
def u87_4 : IC := .blk 0 (.loop u87_5)
def u87_3r : List IOper := [oP 6 (.mv (.t 0)), oP 7 (.len (.t 6)), oP 8 (.mv (.k (.int .i64 0)))]
def u87_3 : IC := .seq (.reg u87_3r) u87_4
def u87_13r : List IOper := [oP 4 (.mv (.k (.int .i64 (-1))))]
def u87_13 : IC := .seq (.reg u87_13r) .ret
def u87_2 : IC := .seq u87_3 u87_13
def u87_1r : List IOper := [oP 4 (.mv (.k (.int .i64 0)))]
def u87_1 : IC := .seq (.reg u87_1r) u87_2
def u87 : IFn := ⟨19, u87_1, [.tmp 4]⟩
end
theorem isU87 : IsFn Tryd.prog 87 u87 := by unfold IsFn; kernel_rfl
instance i87_11 : WR Tryd.prog 19 u87_11 (rS u87_11r .ret [5]) := ⟨mkS⟩
instance i87_10 : WR Tryd.prog 19 u87_10 (rCE (.t 16) u87_11 .skip [0, 1, 5, 7, 8, 16]) := ⟨mkCE⟩
instance i87_9 : WR Tryd.prog 19 u87_9 (rS u87_9r u87_10 [0, 1, 5, 7, 8]) := ⟨mkS⟩
instance i87_8 : WR Tryd.prog 19 u87_8 (rS u87_8r u87_9 [0, 1, 7, 8]) := ⟨mkS⟩
instance i87_12 : WR Tryd.prog 19 u87_12 (rE u87_12r [0, 1, 7, 8]) := ⟨mkE⟩
instance i87_7 : WR Tryd.prog 19 u87_7 (rB 1 u87_8 u87_12 [0, 1, 7, 8]) := ⟨mkB⟩
instance i87_6 : WR Tryd.prog 19 u87_6 (rC (.t 9) .skip (.exit 0) u87_7 [0, 1, 7, 8, 9]) := ⟨mkC⟩
instance i87_5 : WR Tryd.prog 19 u87_5 (rS u87_5r u87_6 [0, 1, 7, 8]) := ⟨mkS⟩
instance i87_4 : WR Tryd.prog 19 u87_4 (rBE 0 (.loop u87_5) [0, 1, 7, 8]) := ⟨mkBE⟩
instance i87_3 : WR Tryd.prog 19 u87_3 (rS u87_3r u87_4 [0, 1]) := ⟨mkS⟩
instance i87_13 : WR Tryd.prog 19 u87_13 (rS u87_13r .ret []) := ⟨mkS⟩
instance i87_2 : WR Tryd.prog 19 u87_2 (rQ u87_3 u87_13 [0, 1]) := ⟨mkQ⟩
instance i87_1 : WR Tryd.prog 19 u87_1 (rS u87_1r u87_2 [0, 1]) := ⟨mkS⟩
attribute [go_sem] u87_11r u87_9r u87_8r u87_12r u87_5r u87_3r u87_13r u87_1r
noncomputable section
def u68_2r : List IOper := [oP 5 (.mv (.t 0)), oP 6 (.mv (.t 1)), ⟨some 7, .call 85 [.t 5, .t 6], none⟩, oP 8 (.bin .geq (.t 7) (.k (.int .i64 0))), oP 4 (.mv (.t 8))]
def u68_2 : IC := .seq (.reg u68_2r) .ret
def u68_1r : List IOper := [oP 4 (.mv (.k (.bool false)))]
def u68_1 : IC := .seq (.reg u68_1r) u68_2
def u68 : IFn := ⟨9, u68_1, [.tmp 4]⟩
end
theorem isU68 : IsFn Tryd.prog 68 u68 := by unfold IsFn; kernel_rfl
instance i68_2 : WR Tryd.prog 9 u68_2 (rS u68_2r .ret [0, 1]) := ⟨mkS⟩
instance i68_1 : WR Tryd.prog 9 u68_1 (rS u68_1r u68_2 [0, 1]) := ⟨mkS⟩
attribute [go_sem] u68_2r u68_1r
noncomputable section
def u71_2r : List IOper := [oP 5 (.mv (.t 0)), oP 6 (.mv (.t 1)), ⟨some 7, .call 86 [.t 5, .t 6], none⟩, oP 8 (.bin .geq (.t 7) (.k (.int .i64 0))), oP 4 (.mv (.t 8))]
def u71_2 : IC := .seq (.reg u71_2r) .ret
def u71_1r : List IOper := [oP 4 (.mv (.k (.bool false)))]
def u71_1 : IC := .seq (.reg u71_1r) u71_2
def u71 : IFn := ⟨9, u71_1, [.tmp 4]⟩
end
theorem isU71 : IsFn Tryd.prog 71 u71 := by unfold IsFn; kernel_rfl
instance i71_2 : WR Tryd.prog 9 u71_2 (rS u71_2r .ret [0, 1]) := ⟨mkS⟩
instance i71_1 : WR Tryd.prog 9 u71_1 (rS u71_1r u71_2 [0, 1]) := ⟨mkS⟩
attribute [go_sem] u71_2r u71_1r
noncomputable section
def u74_2r : List IOper := [oP 5 (.mv (.t 0)), oP 6 (.mv (.t 1)), ⟨some 7, .call 87 [.t 5, .t 6], none⟩, oP 8 (.bin .geq (.t 7) (.k (.int .i64 0))), oP 4 (.mv (.t 8))]
def u74_2 : IC := .seq (.reg u74_2r) .ret
def u74_1r : List IOper := [oP 4 (.mv (.k (.bool false)))]
def u74_1 : IC := .seq (.reg u74_1r) u74_2
def u74 : IFn := ⟨9, u74_1, [.tmp 4]⟩
end
theorem isU74 : IsFn Tryd.prog 74 u74 := by unfold IsFn; kernel_rfl
instance i74_2 : WR Tryd.prog 9 u74_2 (rS u74_2r .ret [0, 1]) := ⟨mkS⟩
instance i74_1 : WR Tryd.prog 9 u74_1 (rS u74_1r u74_2 [0, 1]) := ⟨mkS⟩
attribute [go_sem] u74_2r u74_1r
end Go.Proofs.YtcallbfckjlagaaDoor
set_option maxHeartbeats 4000000
set_option maxRecDepth 100000
set_option linter.unusedVariables false
namespace Go.Proofs.YtcallbfckjlagaaDoor
open Go.Eng (IC IOper DReg IFn IsFn)
open Go.Sym
theorem mixedU : Tryd.prog.follows .mixedOrders = true := by kernel_rfl
noncomputable section
def u45_2r : List IOper := [oP 7 (.mv (.t 0)), oP 8 (.mv (.t 1)), oP 9 (.bin .geq (.t 7) (.t 8)), oP 10 (.mv (.t 9)), oG 11 (.mv (.t 0)) 10, oG 12 (.mv (.t 2)) 10, oG 13 (.bin .leq (.t 11) (.t 12)) 10, oP 14 (.pick (.t 10) (.t 13) (.k (.bool false))), oP 6 (.mv (.t 14))]
def u45_2 : IC := .seq (.reg u45_2r) .ret
def u45_1r : List IOper := [oP 6 (.mv (.k (.bool false)))]
def u45_1 : IC := .seq (.reg u45_1r) u45_2
def u45 : IFn := ⟨15, u45_1, [.tmp 6]⟩
end
theorem isU45 : IsFn Tryd.prog 45 u45 := by unfold IsFn; kernel_rfl
instance i45_2 : WR Tryd.prog 15 u45_2 (rS u45_2r .ret [0, 1, 2]) := ⟨mkS⟩
instance i45_1 : WR Tryd.prog 15 u45_1 (rS u45_1r u45_2 [0, 1, 2]) := ⟨mkS⟩
attribute [go_sem] u45_2r u45_1r
noncomputable section
def u48_5r : List IOper := [oP 10 (.fad 0 (.t 2)), oP 11 (.ld 1 false (.t 10)), oP 12 (.fad 0 (.t 3)), oP 13 (.ld 1 false (.t 12)), oP 14 (.bin .lss (.t 11) (.t 13)), oP 4 (.mv (.t 14))]
def u48_5 : IC := .seq (.reg u48_5r) .ret
def u48_4 : IC := .cond (.t 9) u48_5 .skip
def u48_3r : List IOper := [oP 5 (.fad 0 (.t 2)), oP 6 (.ld 1 false (.t 5)), oP 7 (.fad 0 (.t 3)), oP 8 (.ld 1 false (.t 7)), oP 9 (.bin .neq (.t 6) (.t 8))]
def u48_3 : IC := .seq (.reg u48_3r) u48_4
def u48_9r : List IOper := [oP 20 (.fad 1 (.t 2)), oP 21 (.ld 1 false (.t 20)), oP 22 (.fad 1 (.t 3)), oP 23 (.ld 1 false (.t 22)), oP 24 (.bin .lss (.t 21) (.t 23)), oP 4 (.mv (.t 24))]
def u48_9 : IC := .seq (.reg u48_9r) .ret
def u48_8 : IC := .cond (.t 19) u48_9 .skip
def u48_7r : List IOper := [oP 15 (.fad 1 (.t 2)), oP 16 (.ld 1 false (.t 15)), oP 17 (.fad 1 (.t 3)), oP 18 (.ld 1 false (.t 17)), oP 19 (.bin .neq (.t 16) (.t 18))]
def u48_7 : IC := .seq (.reg u48_7r) u48_8
def u48_10r : List IOper := [oP 25 (.fad 2 (.t 2)), oP 26 (.ld 1 false (.t 25)), oP 27 (.fad 2 (.t 3)), oP 28 (.ld 1 false (.t 27)), oP 29 (.bin .lss (.t 26) (.t 28)), oP 4 (.mv (.t 29))]
def u48_10 : IC := .seq (.reg u48_10r) .ret
def u48_6 : IC := .seq u48_7 u48_10
def u48_2 : IC := .seq u48_3 u48_6
def u48_1r : List IOper := [⟨some 2, .new (.box (.t 0)), none⟩, ⟨some 3, .new (.box (.t 1)), none⟩, oP 4 (.mv (.k (.bool false)))]
def u48_1 : IC := .seq (.reg u48_1r) u48_2
def u48 : IFn := ⟨30, u48_1, [.tmp 4]⟩
end
theorem isU48 : IsFn Tryd.prog 48 u48 := by unfold IsFn; kernel_rfl
instance i48_5 : WR Tryd.prog 30 u48_5 (rS u48_5r .ret [2, 3]) := ⟨mkS⟩
instance i48_4 : WR Tryd.prog 30 u48_4 (rCE (.t 9) u48_5 .skip [2, 3, 9]) := ⟨mkCE⟩
instance i48_3 : WR Tryd.prog 30 u48_3 (rS u48_3r u48_4 [2, 3]) := ⟨mkS⟩
instance i48_9 : WR Tryd.prog 30 u48_9 (rS u48_9r .ret [2, 3]) := ⟨mkS⟩
instance i48_8 : WR Tryd.prog 30 u48_8 (rCE (.t 19) u48_9 .skip [2, 3, 19]) := ⟨mkCE⟩
instance i48_7 : WR Tryd.prog 30 u48_7 (rS u48_7r u48_8 [2, 3]) := ⟨mkS⟩
instance i48_10 : WR Tryd.prog 30 u48_10 (rS u48_10r .ret [2, 3]) := ⟨mkS⟩
instance i48_6 : WR Tryd.prog 30 u48_6 (rQ u48_7 u48_10 [2, 3]) := ⟨mkQ⟩
instance i48_2 : WR Tryd.prog 30 u48_2 (rQ u48_3 u48_6 [2, 3]) := ⟨mkQ⟩
instance i48_1 : WR Tryd.prog 30 u48_1 (rS u48_1r u48_2 [0, 1]) := ⟨mkS⟩
attribute [go_sem] u48_5r u48_3r u48_9r u48_7r u48_10r u48_1r
noncomputable section
def u58_7r : List IOper := [oP 2 (.mv (.k (.int .i64 0))), oP 3 (.mv (.k (.int .i64 1))), oP 4 (.mv (.k (.int .i64 1)))]
def u58_7 : IC := .seq (.reg u58_7r) .ret
def u58_10r : List IOper := [oP 2 (.mv (.k (.int .i64 0))), oP 3 (.mv (.k (.int .i64 1))), oP 4 (.mv (.k (.int .i64 2)))]
def u58_10 : IC := .seq (.reg u58_10r) .ret
def u58_13r : List IOper := [oP 2 (.mv (.k (.int .i64 1))), oP 3 (.mv (.k (.int .i64 0))), oP 4 (.mv (.k (.int .i64 2)))]
def u58_13 : IC := .seq (.reg u58_13r) .ret
def u58_16r : List IOper := [oP 2 (.mv (.k (.int .i64 0))), oP 3 (.mv (.k (.int .i64 1))), oP 4 (.mv (.k (.int .i64 3)))]
def u58_16 : IC := .seq (.reg u58_16r) .ret
def u58_19r : List IOper := [oP 2 (.mv (.k (.int .i64 0))), oP 3 (.mv (.k (.int .i64 1))), oP 4 (.mv (.k (.int .i64 4)))]
def u58_19 : IC := .seq (.reg u58_19r) .ret
def u58_22r : List IOper := [oP 2 (.mv (.k (.int .i64 0))), oP 3 (.mv (.k (.int .i64 1))), oP 4 (.mv (.k (.int .i64 5)))]
def u58_22 : IC := .seq (.reg u58_22r) .ret
def u58_26r : List IOper := [oP 20 (.bin .eql (.t 5) (.k (.int .i64 8))), oP 18 (.mv (.t 20))]
def u58_26 : IC := .reg u58_26r
def u58_25 : IC := .cond (.t 18) .skip u58_26
def u58_24r : List IOper := [oP 19 (.bin .eql (.t 5) (.k (.int .i64 7))), oP 18 (.mv (.t 19))]
def u58_24 : IC := .seq (.reg u58_24r) u58_25
def u58_28r : List IOper := [oP 2 (.mv (.k (.int .i64 0))), oP 3 (.mv (.k (.int .i64 1))), oP 4 (.mv (.k (.int .i64 0)))]
def u58_28 : IC := .seq (.reg u58_28r) .ret
def u58_32r : List IOper := [oP 23 (.bin .eql (.t 5) (.k (.int .i64 10))), oP 21 (.mv (.t 23))]
def u58_32 : IC := .reg u58_32r
def u58_31 : IC := .cond (.t 21) .skip u58_32
def u58_30r : List IOper := [oP 22 (.bin .eql (.t 5) (.k (.int .i64 9))), oP 21 (.mv (.t 22))]
def u58_30 : IC := .seq (.reg u58_30r) u58_31
def u58_34r : List IOper := [oP 2 (.mv (.k (.int .i64 1))), oP 3 (.mv (.k (.int .i64 1))), oP 4 (.mv (.k (.int .i64 0)))]
def u58_34 : IC := .seq (.reg u58_34r) .ret
def u58_37r : List IOper := [oP 2 (.mv (.k (.int .i64 2))), oP 3 (.mv (.k (.int .i64 1))), oP 4 (.mv (.k (.int .i64 6)))]
def u58_37 : IC := .seq (.reg u58_37r) .ret
def u58_40r : List IOper := [oP 2 (.mv (.k (.int .i64 0))), oP 3 (.mv (.k (.int .i64 0))), oP 4 (.mv (.k (.int .i64 7)))]
def u58_40 : IC := .seq (.reg u58_40r) .ret
def u58_43r : List IOper := [oP 2 (.mv (.k (.int .i64 1))), oP 3 (.mv (.k (.int .i64 0))), oP 4 (.mv (.k (.int .i64 7)))]
def u58_43 : IC := .seq (.reg u58_43r) .ret
def u58_46r : List IOper := [oP 2 (.mv (.k (.int .i64 1))), oP 3 (.mv (.k (.int .i64 1))), oP 4 (.mv (.k (.int .i64 7)))]
def u58_46 : IC := .seq (.reg u58_46r) .ret
def u58_49r : List IOper := [oP 2 (.mv (.k (.int .i64 1))), oP 3 (.mv (.k (.int .i64 0))), oP 4 (.mv (.k (.int .i64 0)))]
def u58_49 : IC := .seq (.reg u58_49r) .ret
def u58_55r : List IOper := [oP 37 (.bin .eql (.t 5) (.k (.int .i64 18))), oP 34 (.mv (.t 37))]
def u58_55 : IC := .reg u58_55r
def u58_54 : IC := .cond (.t 34) .skip u58_55
def u58_53r : List IOper := [oP 36 (.bin .eql (.t 5) (.k (.int .i64 17))), oP 34 (.mv (.t 36))]
def u58_53 : IC := .seq (.reg u58_53r) u58_54
def u58_52 : IC := .cond (.t 34) .skip u58_53
def u58_51r : List IOper := [oP 35 (.bin .eql (.t 5) (.k (.int .i64 16))), oP 34 (.mv (.t 35))]
def u58_51 : IC := .seq (.reg u58_51r) u58_52
def u58_57r : List IOper := [oP 2 (.mv (.k (.int .i64 0))), oP 3 (.mv (.k (.int .i64 0))), oP 4 (.mv (.k (.int .i64 8)))]
def u58_57 : IC := .seq (.reg u58_57r) .ret
def u58_60r : List IOper := [oP 2 (.mv (.k (.int .i64 1))), oP 3 (.mv (.k (.int .i64 0))), oP 4 (.mv (.k (.int .i64 9)))]
def u58_60 : IC := .seq (.reg u58_60r) .ret
def u58_63r : List IOper := [oP 2 (.mv (.k (.int .i64 2))), oP 3 (.mv (.k (.int .i64 0))), oP 4 (.mv (.k (.int .i64 9)))]
def u58_63 : IC := .seq (.reg u58_63r) .ret
def u58_66r : List IOper := [oP 2 (.mv (.k (.int .i64 1))), oP 3 (.mv (.k (.int .i64 0))), oP 4 (.mv (.k (.int .i64 5)))]
def u58_66 : IC := .seq (.reg u58_66r) .ret
def u58_69r : List IOper := [oP 2 (.mv (.k (.int .i64 0))), oP 3 (.mv (.k (.int .i64 0))), oP 4 (.mv (.k (.int .i64 5)))]
def u58_69 : IC := .seq (.reg u58_69r) .ret
def u58_73r : List IOper := [oP 48 (.bin .eql (.t 5) (.k (.int .i64 24))), oP 46 (.mv (.t 48))]
def u58_73 : IC := .reg u58_73r
def u58_72 : IC := .cond (.t 46) .skip u58_73
def u58_71r : List IOper := [oP 47 (.bin .eql (.t 5) (.k (.int .i64 23))), oP 46 (.mv (.t 47))]
def u58_71 : IC := .seq (.reg u58_71r) u58_72
def u58_75r : List IOper := [oP 2 (.mv (.k (.int .i64 0))), oP 3 (.mv (.k (.int .i64 0))), oP 4 (.mv (.k (.int .i64 4)))]
def u58_75 : IC := .seq (.reg u58_75r) .ret
def u58_78r : List IOper := [oP 2 (.mv (.k (.int .i64 0))), oP 3 (.mv (.k (.int .i64 0))), oP 4 (.mv (.k (.int .i64 10)))]
def u58_78 : IC := .seq (.reg u58_78r) .ret
def u58_84r : List IOper := [oP 54 (.bin .eql (.t 5) (.k (.int .i64 28))), oP 51 (.mv (.t 54))]
def u58_84 : IC := .reg u58_84r
def u58_83 : IC := .cond (.t 51) .skip u58_84
def u58_82r : List IOper := [oP 53 (.bin .eql (.t 5) (.k (.int .i64 27))), oP 51 (.mv (.t 53))]
def u58_82 : IC := .seq (.reg u58_82r) u58_83
def u58_81 : IC := .cond (.t 51) .skip u58_82
def u58_80r : List IOper := [oP 52 (.bin .eql (.t 5) (.k (.int .i64 26))), oP 51 (.mv (.t 52))]
def u58_80 : IC := .seq (.reg u58_80r) u58_81
def u58_86r : List IOper := [oP 2 (.mv (.k (.int .i64 0))), oP 3 (.mv (.k (.int .i64 0))), oP 4 (.mv (.k (.int .i64 9)))]
def u58_86 : IC := .seq (.reg u58_86r) .ret
def u58_89r : List IOper := [oP 2 (.mv (.k (.int .i64 1))), oP 3 (.mv (.k (.int .i64 0))), oP 4 (.mv (.k (.int .i64 11)))]
def u58_89 : IC := .seq (.reg u58_89r) .ret
def u58_93r : List IOper := [oP 59 (.bin .eql (.t 5) (.k (.int .i64 31))), oP 57 (.mv (.t 59))]
def u58_93 : IC := .reg u58_93r
def u58_92 : IC := .cond (.t 57) .skip u58_93
def u58_91r : List IOper := [oP 58 (.bin .eql (.t 5) (.k (.int .i64 30))), oP 57 (.mv (.t 58))]
def u58_91 : IC := .seq (.reg u58_91r) u58_92
def u58_95r : List IOper := [oP 2 (.mv (.k (.int .i64 0))), oP 3 (.mv (.k (.int .i64 0))), oP 4 (.mv (.k (.int .i64 0)))]
def u58_95 : IC := .seq (.reg u58_95r) .ret
def u58_94 : IC := .cond (.t 57) u58_95 .skip
def u58_90 : IC := .seq u58_91 u58_94
def u58_88 : IC := .cond (.t 55) u58_89 u58_90
def u58_87r : List IOper := [oP 56 (.bin .eql (.t 5) (.k (.int .i64 29))), oP 55 (.mv (.t 56))]
def u58_87 : IC := .seq (.reg u58_87r) u58_88
def u58_85 : IC := .cond (.t 51) u58_86 u58_87
def u58_79 : IC := .seq u58_80 u58_85
def u58_77 : IC := .cond (.t 49) u58_78 u58_79
def u58_76r : List IOper := [oP 50 (.bin .eql (.t 5) (.k (.int .i64 25))), oP 49 (.mv (.t 50))]
def u58_76 : IC := .seq (.reg u58_76r) u58_77
def u58_74 : IC := .cond (.t 46) u58_75 u58_76
def u58_70 : IC := .seq u58_71 u58_74
def u58_68 : IC := .cond (.t 44) u58_69 u58_70
def u58_67r : List IOper := [oP 45 (.bin .eql (.t 5) (.k (.int .i64 22))), oP 44 (.mv (.t 45))]
def u58_67 : IC := .seq (.reg u58_67r) u58_68
def u58_65 : IC := .cond (.t 42) u58_66 u58_67
def u58_64r : List IOper := [oP 43 (.bin .eql (.t 5) (.k (.int .i64 21))), oP 42 (.mv (.t 43))]
def u58_64 : IC := .seq (.reg u58_64r) u58_65
def u58_62 : IC := .cond (.t 40) u58_63 u58_64
def u58_61r : List IOper := [oP 41 (.bin .eql (.t 5) (.k (.int .i64 20))), oP 40 (.mv (.t 41))]
def u58_61 : IC := .seq (.reg u58_61r) u58_62
def u58_59 : IC := .cond (.t 38) u58_60 u58_61
def u58_58r : List IOper := [oP 39 (.bin .eql (.t 5) (.k (.int .i64 19))), oP 38 (.mv (.t 39))]
def u58_58 : IC := .seq (.reg u58_58r) u58_59
def u58_56 : IC := .cond (.t 34) u58_57 u58_58
def u58_50 : IC := .seq u58_51 u58_56
def u58_48 : IC := .cond (.t 32) u58_49 u58_50
def u58_47r : List IOper := [oP 33 (.bin .eql (.t 5) (.k (.int .i64 15))), oP 32 (.mv (.t 33))]
def u58_47 : IC := .seq (.reg u58_47r) u58_48
def u58_45 : IC := .cond (.t 30) u58_46 u58_47
def u58_44r : List IOper := [oP 31 (.bin .eql (.t 5) (.k (.int .i64 14))), oP 30 (.mv (.t 31))]
def u58_44 : IC := .seq (.reg u58_44r) u58_45
def u58_42 : IC := .cond (.t 28) u58_43 u58_44
def u58_41r : List IOper := [oP 29 (.bin .eql (.t 5) (.k (.int .i64 13))), oP 28 (.mv (.t 29))]
def u58_41 : IC := .seq (.reg u58_41r) u58_42
def u58_39 : IC := .cond (.t 26) u58_40 u58_41
def u58_38r : List IOper := [oP 27 (.bin .eql (.t 5) (.k (.int .i64 12))), oP 26 (.mv (.t 27))]
def u58_38 : IC := .seq (.reg u58_38r) u58_39
def u58_36 : IC := .cond (.t 24) u58_37 u58_38
def u58_35r : List IOper := [oP 25 (.bin .eql (.t 5) (.k (.int .i64 11))), oP 24 (.mv (.t 25))]
def u58_35 : IC := .seq (.reg u58_35r) u58_36
def u58_33 : IC := .cond (.t 21) u58_34 u58_35
def u58_29 : IC := .seq u58_30 u58_33
def u58_27 : IC := .cond (.t 18) u58_28 u58_29
def u58_23 : IC := .seq u58_24 u58_27
def u58_21 : IC := .cond (.t 16) u58_22 u58_23
def u58_20r : List IOper := [oP 17 (.bin .eql (.t 5) (.k (.int .i64 6))), oP 16 (.mv (.t 17))]
def u58_20 : IC := .seq (.reg u58_20r) u58_21
def u58_18 : IC := .cond (.t 14) u58_19 u58_20
def u58_17r : List IOper := [oP 15 (.bin .eql (.t 5) (.k (.int .i64 5))), oP 14 (.mv (.t 15))]
def u58_17 : IC := .seq (.reg u58_17r) u58_18
def u58_15 : IC := .cond (.t 12) u58_16 u58_17
def u58_14r : List IOper := [oP 13 (.bin .eql (.t 5) (.k (.int .i64 4))), oP 12 (.mv (.t 13))]
def u58_14 : IC := .seq (.reg u58_14r) u58_15
def u58_12 : IC := .cond (.t 10) u58_13 u58_14
def u58_11r : List IOper := [oP 11 (.bin .eql (.t 5) (.k (.int .i64 3))), oP 10 (.mv (.t 11))]
def u58_11 : IC := .seq (.reg u58_11r) u58_12
def u58_9 : IC := .cond (.t 8) u58_10 u58_11
def u58_8r : List IOper := [oP 9 (.bin .eql (.t 5) (.k (.int .i64 2))), oP 8 (.mv (.t 9))]
def u58_8 : IC := .seq (.reg u58_8r) u58_9
def u58_6 : IC := .cond (.t 6) u58_7 u58_8
def u58_5r : List IOper := [oP 7 (.bin .eql (.t 5) (.k (.int .i64 1))), oP 6 (.mv (.t 7))]
def u58_5 : IC := .seq (.reg u58_5r) u58_6
def u58_4 : IC := .blk 0 u58_5
def u58_3r : List IOper := [oP 5 (.mv (.t 0))]
def u58_3 : IC := .seq (.reg u58_3r) u58_4
def u58_96r : List IOper := [oP 2 (.mv (.k (.int .i64 0))), oP 3 (.mv (.k (.int .i64 0))), oP 4 (.mv (.k (.int .i64 (-1))))]
def u58_96 : IC := .seq (.reg u58_96r) .ret
def u58_2 : IC := .seq u58_3 u58_96
def u58_1r : List IOper := [oP 2 (.mv (.k (.int .i64 0))), oP 3 (.mv (.k (.int .i64 0))), oP 4 (.mv (.k (.int .i64 0)))]
def u58_1 : IC := .seq (.reg u58_1r) u58_2
def u58 : IFn := ⟨60, u58_1, [.tmp 2, .tmp 3, .tmp 4]⟩
end
theorem isU58 : IsFn Tryd.prog 58 u58 := by unfold IsFn; kernel_rfl
instance i58_7 : WR Tryd.prog 60 u58_7 (rS u58_7r .ret []) := ⟨mkS⟩
instance i58_10 : WR Tryd.prog 60 u58_10 (rS u58_10r .ret []) := ⟨mkS⟩
instance i58_13 : WR Tryd.prog 60 u58_13 (rS u58_13r .ret []) := ⟨mkS⟩
instance i58_16 : WR Tryd.prog 60 u58_16 (rS u58_16r .ret []) := ⟨mkS⟩
instance i58_19 : WR Tryd.prog 60 u58_19 (rS u58_19r .ret []) := ⟨mkS⟩
instance i58_22 : WR Tryd.prog 60 u58_22 (rS u58_22r .ret []) := ⟨mkS⟩
instance i58_26 : WR Tryd.prog 60 u58_26 (rE u58_26r [5]) := ⟨mkE⟩
instance i58_25 : WR Tryd.prog 60 u58_25 (rCE (.t 18) .skip u58_26 [5, 18]) := ⟨mkCE⟩
instance i58_24 : WR Tryd.prog 60 u58_24 (rS u58_24r u58_25 [5]) := ⟨mkS⟩
instance i58_28 : WR Tryd.prog 60 u58_28 (rS u58_28r .ret []) := ⟨mkS⟩
instance i58_32 : WR Tryd.prog 60 u58_32 (rE u58_32r [5]) := ⟨mkE⟩
instance i58_31 : WR Tryd.prog 60 u58_31 (rCE (.t 21) .skip u58_32 [5, 21]) := ⟨mkCE⟩
instance i58_30 : WR Tryd.prog 60 u58_30 (rS u58_30r u58_31 [5]) := ⟨mkS⟩
instance i58_34 : WR Tryd.prog 60 u58_34 (rS u58_34r .ret []) := ⟨mkS⟩
instance i58_37 : WR Tryd.prog 60 u58_37 (rS u58_37r .ret []) := ⟨mkS⟩
instance i58_40 : WR Tryd.prog 60 u58_40 (rS u58_40r .ret []) := ⟨mkS⟩
instance i58_43 : WR Tryd.prog 60 u58_43 (rS u58_43r .ret []) := ⟨mkS⟩
instance i58_46 : WR Tryd.prog 60 u58_46 (rS u58_46r .ret []) := ⟨mkS⟩
instance i58_49 : WR Tryd.prog 60 u58_49 (rS u58_49r .ret []) := ⟨mkS⟩
instance i58_55 : WR Tryd.prog 60 u58_55 (rE u58_55r [5]) := ⟨mkE⟩
instance i58_54 : WR Tryd.prog 60 u58_54 (rCE (.t 34) .skip u58_55 [5, 34]) := ⟨mkCE⟩
instance i58_53 : WR Tryd.prog 60 u58_53 (rS u58_53r u58_54 [5]) := ⟨mkS⟩
instance i58_52 : WR Tryd.prog 60 u58_52 (rCE (.t 34) .skip u58_53 [5, 34]) := ⟨mkCE⟩
instance i58_51 : WR Tryd.prog 60 u58_51 (rS u58_51r u58_52 [5]) := ⟨mkS⟩
instance i58_57 : WR Tryd.prog 60 u58_57 (rS u58_57r .ret []) := ⟨mkS⟩
instance i58_60 : WR Tryd.prog 60 u58_60 (rS u58_60r .ret []) := ⟨mkS⟩
instance i58_63 : WR Tryd.prog 60 u58_63 (rS u58_63r .ret []) := ⟨mkS⟩
instance i58_66 : WR Tryd.prog 60 u58_66 (rS u58_66r .ret []) := ⟨mkS⟩
instance i58_69 : WR Tryd.prog 60 u58_69 (rS u58_69r .ret []) := ⟨mkS⟩
instance i58_73 : WR Tryd.prog 60 u58_73 (rE u58_73r [5]) := ⟨mkE⟩
instance i58_72 : WR Tryd.prog 60 u58_72 (rCE (.t 46) .skip u58_73 [5, 46]) := ⟨mkCE⟩
instance i58_71 : WR Tryd.prog 60 u58_71 (rS u58_71r u58_72 [5]) := ⟨mkS⟩
instance i58_75 : WR Tryd.prog 60 u58_75 (rS u58_75r .ret []) := ⟨mkS⟩
instance i58_78 : WR Tryd.prog 60 u58_78 (rS u58_78r .ret []) := ⟨mkS⟩
instance i58_84 : WR Tryd.prog 60 u58_84 (rE u58_84r [5]) := ⟨mkE⟩
instance i58_83 : WR Tryd.prog 60 u58_83 (rCE (.t 51) .skip u58_84 [5, 51]) := ⟨mkCE⟩
instance i58_82 : WR Tryd.prog 60 u58_82 (rS u58_82r u58_83 [5]) := ⟨mkS⟩
instance i58_81 : WR Tryd.prog 60 u58_81 (rCE (.t 51) .skip u58_82 [5, 51]) := ⟨mkCE⟩
instance i58_80 : WR Tryd.prog 60 u58_80 (rS u58_80r u58_81 [5]) := ⟨mkS⟩
instance i58_86 : WR Tryd.prog 60 u58_86 (rS u58_86r .ret []) := ⟨mkS⟩
instance i58_89 : WR Tryd.prog 60 u58_89 (rS u58_89r .ret []) := ⟨mkS⟩
instance i58_93 : WR Tryd.prog 60 u58_93 (rE u58_93r [5]) := ⟨mkE⟩
instance i58_92 : WR Tryd.prog 60 u58_92 (rCE (.t 57) .skip u58_93 [5, 57]) := ⟨mkCE⟩
instance i58_91 : WR Tryd.prog 60 u58_91 (rS u58_91r u58_92 [5]) := ⟨mkS⟩
instance i58_95 : WR Tryd.prog 60 u58_95 (rS u58_95r .ret []) := ⟨mkS⟩
instance i58_94 : WR Tryd.prog 60 u58_94 (rCE (.t 57) u58_95 .skip [57]) := ⟨mkCE⟩
instance i58_90 : WR Tryd.prog 60 u58_90 (rQ u58_91 u58_94 [5]) := ⟨mkQ⟩
instance i58_88 : WR Tryd.prog 60 u58_88 (rCE (.t 55) u58_89 u58_90 [5, 55]) := ⟨mkCE⟩
instance i58_87 : WR Tryd.prog 60 u58_87 (rS u58_87r u58_88 [5]) := ⟨mkS⟩
instance i58_85 : WR Tryd.prog 60 u58_85 (rCE (.t 51) u58_86 u58_87 [5, 51]) := ⟨mkCE⟩
instance i58_79 : WR Tryd.prog 60 u58_79 (rQ u58_80 u58_85 [5]) := ⟨mkQ⟩
instance i58_77 : WR Tryd.prog 60 u58_77 (rCE (.t 49) u58_78 u58_79 [5, 49]) := ⟨mkCE⟩
instance i58_76 : WR Tryd.prog 60 u58_76 (rS u58_76r u58_77 [5]) := ⟨mkS⟩
instance i58_74 : WR Tryd.prog 60 u58_74 (rCE (.t 46) u58_75 u58_76 [5, 46]) := ⟨mkCE⟩
instance i58_70 : WR Tryd.prog 60 u58_70 (rQ u58_71 u58_74 [5]) := ⟨mkQ⟩
instance i58_68 : WR Tryd.prog 60 u58_68 (rCE (.t 44) u58_69 u58_70 [5, 44]) := ⟨mkCE⟩
instance i58_67 : WR Tryd.prog 60 u58_67 (rS u58_67r u58_68 [5]) := ⟨mkS⟩
instance i58_65 : WR Tryd.prog 60 u58_65 (rCE (.t 42) u58_66 u58_67 [5, 42]) := ⟨mkCE⟩
instance i58_64 : WR Tryd.prog 60 u58_64 (rS u58_64r u58_65 [5]) := ⟨mkS⟩
instance i58_62 : WR Tryd.prog 60 u58_62 (rCE (.t 40) u58_63 u58_64 [5, 40]) := ⟨mkCE⟩
instance i58_61 : WR Tryd.prog 60 u58_61 (rS u58_61r u58_62 [5]) := ⟨mkS⟩
instance i58_59 : WR Tryd.prog 60 u58_59 (rCE (.t 38) u58_60 u58_61 [5, 38]) := ⟨mkCE⟩
instance i58_58 : WR Tryd.prog 60 u58_58 (rS u58_58r u58_59 [5]) := ⟨mkS⟩
instance i58_56 : WR Tryd.prog 60 u58_56 (rCE (.t 34) u58_57 u58_58 [5, 34]) := ⟨mkCE⟩
instance i58_50 : WR Tryd.prog 60 u58_50 (rQ u58_51 u58_56 [5]) := ⟨mkQ⟩
instance i58_48 : WR Tryd.prog 60 u58_48 (rCE (.t 32) u58_49 u58_50 [5, 32]) := ⟨mkCE⟩
instance i58_47 : WR Tryd.prog 60 u58_47 (rS u58_47r u58_48 [5]) := ⟨mkS⟩
instance i58_45 : WR Tryd.prog 60 u58_45 (rCE (.t 30) u58_46 u58_47 [5, 30]) := ⟨mkCE⟩
instance i58_44 : WR Tryd.prog 60 u58_44 (rS u58_44r u58_45 [5]) := ⟨mkS⟩
instance i58_42 : WR Tryd.prog 60 u58_42 (rCE (.t 28) u58_43 u58_44 [5, 28]) := ⟨mkCE⟩
instance i58_41 : WR Tryd.prog 60 u58_41 (rS u58_41r u58_42 [5]) := ⟨mkS⟩
instance i58_39 : WR Tryd.prog 60 u58_39 (rCE (.t 26) u58_40 u58_41 [5, 26]) := ⟨mkCE⟩
instance i58_38 : WR Tryd.prog 60 u58_38 (rS u58_38r u58_39 [5]) := ⟨mkS⟩
instance i58_36 : WR Tryd.prog 60 u58_36 (rCE (.t 24) u58_37 u58_38 [5, 24]) := ⟨mkCE⟩
instance i58_35 : WR Tryd.prog 60 u58_35 (rS u58_35r u58_36 [5]) := ⟨mkS⟩
instance i58_33 : WR Tryd.prog 60 u58_33 (rCE (.t 21) u58_34 u58_35 [5, 21]) := ⟨mkCE⟩
instance i58_29 : WR Tryd.prog 60 u58_29 (rQ u58_30 u58_33 [5]) := ⟨mkQ⟩
instance i58_27 : WR Tryd.prog 60 u58_27 (rCE (.t 18) u58_28 u58_29 [5, 18]) := ⟨mkCE⟩
instance i58_23 : WR Tryd.prog 60 u58_23 (rQ u58_24 u58_27 [5]) := ⟨mkQ⟩
instance i58_21 : WR Tryd.prog 60 u58_21 (rCE (.t 16) u58_22 u58_23 [5, 16]) := ⟨mkCE⟩
instance i58_20 : WR Tryd.prog 60 u58_20 (rS u58_20r u58_21 [5]) := ⟨mkS⟩
instance i58_18 : WR Tryd.prog 60 u58_18 (rCE (.t 14) u58_19 u58_20 [5, 14]) := ⟨mkCE⟩
instance i58_17 : WR Tryd.prog 60 u58_17 (rS u58_17r u58_18 [5]) := ⟨mkS⟩
instance i58_15 : WR Tryd.prog 60 u58_15 (rCE (.t 12) u58_16 u58_17 [5, 12]) := ⟨mkCE⟩
instance i58_14 : WR Tryd.prog 60 u58_14 (rS u58_14r u58_15 [5]) := ⟨mkS⟩
instance i58_12 : WR Tryd.prog 60 u58_12 (rCE (.t 10) u58_13 u58_14 [5, 10]) := ⟨mkCE⟩
instance i58_11 : WR Tryd.prog 60 u58_11 (rS u58_11r u58_12 [5]) := ⟨mkS⟩
instance i58_9 : WR Tryd.prog 60 u58_9 (rCE (.t 8) u58_10 u58_11 [5, 8]) := ⟨mkCE⟩
instance i58_8 : WR Tryd.prog 60 u58_8 (rS u58_8r u58_9 [5]) := ⟨mkS⟩
instance i58_6 : WR Tryd.prog 60 u58_6 (rCE (.t 6) u58_7 u58_8 [5, 6]) := ⟨mkCE⟩
instance i58_5 : WR Tryd.prog 60 u58_5 (rS u58_5r u58_6 [5]) := ⟨mkS⟩
instance i58_4 : WR Tryd.prog 60 u58_4 (rBE 0 u58_5 [5]) := ⟨mkBE⟩
instance i58_3 : WR Tryd.prog 60 u58_3 (rS u58_3r u58_4 [0]) := ⟨mkS⟩
instance i58_96 : WR Tryd.prog 60 u58_96 (rS u58_96r .ret []) := ⟨mkS⟩
instance i58_2 : WR Tryd.prog 60 u58_2 (rQ u58_3 u58_96 [0]) := ⟨mkQ⟩
instance i58_1 : WR Tryd.prog 60 u58_1 (rS u58_1r u58_2 [0]) := ⟨mkS⟩
attribute [go_sem] u58_7r u58_10r u58_13r u58_16r u58_19r u58_22r u58_26r u58_24r u58_28r u58_32r u58_30r u58_34r u58_37r u58_40r u58_43r u58_46r u58_49r u58_55r u58_53r u58_51r u58_57r u58_60r u58_63r u58_66r u58_69r u58_73r u58_71r u58_75r u58_78r u58_84r u58_82r u58_80r u58_86r u58_89r u58_93r u58_91r u58_95r u58_87r u58_76r u58_67r u58_64r u58_61r u58_58r u58_47r u58_44r u58_41r u58_38r u58_35r u58_20r u58_17r u58_14r u58_11r u58_8r u58_5r u58_3r u58_96r u58_1r
noncomputable section
def u60_7 : IC := .cond (.t 7) .skip (.exit 0)
def u60_6r : List IOper := [oP 4 (.mv (.t 3)), oP 5 (.mv (.t 0)), oP 6 (.lens (.t 5)), oP 7 (.bin .lss (.t 4) (.t 6))]
def u60_6 : IC := .seq (.reg u60_6r) u60_7
def u60_11r : List IOper := [oP 2 (.mv (.k (.bool false)))]
def u60_11 : IC := .seq (.reg u60_11r) .ret
def u60_10 : IC := .cond (.t 19) u60_11 .skip
def u60_9r : List IOper := [oP 10 (.mv (.t 0)), oP 11 (.mv (.t 3)), oP 12 (.idx (.t 10) (.t 11)), oP 13 (.bin .lss (.t 12) (.k (.int .u8 32))), oP 14 (.mv (.t 13)), ⟨some 15, .pur (.mv (.t 0)), some (14, false)⟩, ⟨some 16, .pur (.mv (.t 3)), some (14, false)⟩, ⟨some 17, .pur (.idx (.t 15) (.t 16)), some (14, false)⟩, ⟨some 18, .pur (.bin .gtr (.t 17) (.k (.int .u8 126))), some (14, false)⟩, oP 19 (.pick (.t 14) (.k (.bool true)) (.t 18))]
def u60_9 : IC := .seq (.reg u60_9r) u60_10
def u60_12r : List IOper := [oP 8 (.mv (.t 3)), oP 9 (.bin .add (.t 8) (.k (.int .i64 1))), oP 3 (.mv (.t 9))]
def u60_12 : IC := .reg u60_12r
def u60_8 : IC := .seq (.blk 1 u60_9) u60_12
def u60_5 : IC := .seq u60_6 u60_8
def u60_4 : IC := .blk 0 (.loop u60_5)
def u60_3r : List IOper := [oP 3 (.mv (.k (.int .i64 0)))]
def u60_3 : IC := .seq (.reg u60_3r) u60_4
def u60_13r : List IOper := [oP 20 (.mv (.t 0)), oP 21 (.lens (.t 20)), oP 22 (.bin .leq (.t 21) (.k (.int .i64 32))), oP 2 (.mv (.t 22))]
def u60_13 : IC := .seq (.reg u60_13r) .ret
def u60_2 : IC := .seq u60_3 u60_13
def u60_1r : List IOper := [oP 2 (.mv (.k (.bool false)))]
def u60_1 : IC := .seq (.reg u60_1r) u60_2
def u60 : IFn := ⟨23, u60_1, [.tmp 2]⟩
end
theorem isU60 : IsFn Tryd.prog 60 u60 := by unfold IsFn; kernel_rfl
instance i60_7 : WR Tryd.prog 23 u60_7 (rCE (.t 7) .skip (.exit 0) [0, 3, 7]) := ⟨mkCE⟩
instance i60_6 : WR Tryd.prog 23 u60_6 (rS u60_6r u60_7 [0, 3]) := ⟨mkS⟩
instance i60_11 : WR Tryd.prog 23 u60_11 (rS u60_11r .ret []) := ⟨mkS⟩
instance i60_10 : WR Tryd.prog 23 u60_10 (rCE (.t 19) u60_11 .skip [0, 3, 19]) := ⟨mkCE⟩
instance i60_9 : WR Tryd.prog 23 u60_9 (rS u60_9r u60_10 [0, 3]) := ⟨mkS⟩
instance i60_12 : WR Tryd.prog 23 u60_12 (rE u60_12r [0, 3]) := ⟨mkE⟩
instance i60_8 : WR Tryd.prog 23 u60_8 (rB 1 u60_9 u60_12 [0, 3]) := ⟨mkB⟩
instance i60_5 : WR Tryd.prog 23 u60_5 (rQ u60_6 u60_8 [0, 3]) := ⟨mkQ⟩
instance i60_4 : WR Tryd.prog 23 u60_4 (rBE 0 (.loop u60_5) [0, 3]) := ⟨mkBE⟩
instance i60_3 : WR Tryd.prog 23 u60_3 (rS u60_3r u60_4 [0]) := ⟨mkS⟩
instance i60_13 : WR Tryd.prog 23 u60_13 (rS u60_13r .ret [0]) := ⟨mkS⟩
instance i60_2 : WR Tryd.prog 23 u60_2 (rQ u60_3 u60_13 [0]) := ⟨mkQ⟩
instance i60_1 : WR Tryd.prog 23 u60_1 (rS u60_1r u60_2 [0]) := ⟨mkS⟩
attribute [go_sem] u60_6r u60_11r u60_9r u60_12r u60_3r u60_13r u60_1r
noncomputable section
def u61_5r : List IOper := [oP 4 (.mv (.k (.bool false)))]
def u61_5 : IC := .seq (.reg u61_5r) .ret
def u61_4 : IC := .cond (.t 12) u61_5 .skip
def u61_3r : List IOper := [oP 5 (.fad 0 (.t 3)), oP 6 (.ld 1 false (.t 5)), oP 7 (.fad 3 (.t 2)), oP 8 (.ld 1 false (.t 7)), oP 9 (.len (.t 8)), oP 10 (.bin .sub (.t 9) (.k (.int .i64 1))), ⟨some 11, .call 45 [.t 6, .k (.int .i64 0), .t 10], none⟩, oP 12 (.un .not (.t 11))]
def u61_3 : IC := .seq (.reg u61_3r) u61_4
def u61_12r : List IOper := [oP 17 (.bin .eql (.t 14) (.k (.int .i64 2))), oP 15 (.mv (.t 17))]
def u61_12 : IC := .reg u61_12r
def u61_11 : IC := .cond (.t 15) .skip u61_12
def u61_10r : List IOper := [oP 16 (.bin .eql (.t 14) (.k (.int .i64 1))), oP 15 (.mv (.t 16))]
def u61_10 : IC := .seq (.reg u61_10r) u61_11
def u61_14r : List IOper := [oP 18 (.fad 2 (.t 3)), oP 19 (.ld 1 false (.t 18)), oP 20 (.bin .eql (.t 19) (.k (.int .i64 0))), oP 4 (.mv (.t 20))]
def u61_14 : IC := .seq (.reg u61_14r) .ret
def u61_18r : List IOper := [oP 23 (.bin .eql (.t 14) (.k (.int .i64 4))), oP 21 (.mv (.t 23))]
def u61_18 : IC := .reg u61_18r
def u61_17 : IC := .cond (.t 21) .skip u61_18
def u61_16r : List IOper := [oP 22 (.bin .eql (.t 14) (.k (.int .i64 3))), oP 21 (.mv (.t 22))]
def u61_16 : IC := .seq (.reg u61_16r) u61_17
def u61_20r : List IOper := [oP 24 (.fad 2 (.t 3)), oP 25 (.ld 1 false (.t 24)), ⟨some 26, .call 45 [.t 25, .k (.int .i64 0), .k (.int .i64 63)], none⟩, oP 4 (.mv (.t 26))]
def u61_20 : IC := .seq (.reg u61_20r) .ret
def u61_23r : List IOper := [oP 29 (.fad 2 (.t 3)), oP 30 (.ld 1 false (.t 29)), oP 31 (.fad 5 (.t 2)), oP 32 (.ld 1 false (.t 31)), oP 33 (.bin .sub (.t 32) (.k (.int .i64 1))), ⟨some 34, .call 45 [.t 30, .k (.int .i64 0), .t 33], none⟩, oP 4 (.mv (.t 34))]
def u61_23 : IC := .seq (.reg u61_23r) .ret
def u61_26r : List IOper := [oP 37 (.fad 2 (.t 3)), oP 38 (.ld 1 false (.t 37)), oP 39 (.fad 6 (.t 2)), oP 40 (.ld 1 false (.t 39)), oP 41 (.bin .sub (.t 40) (.k (.int .i64 1))), ⟨some 42, .call 45 [.t 38, .k (.int .i64 0), .t 41], none⟩, oP 4 (.mv (.t 42))]
def u61_26 : IC := .seq (.reg u61_26r) .ret
def u61_25 : IC := .cond (.t 35) u61_26 .skip
def u61_24r : List IOper := [oP 36 (.bin .eql (.t 14) (.k (.int .i64 6))), oP 35 (.mv (.t 36))]
def u61_24 : IC := .seq (.reg u61_24r) u61_25
def u61_22 : IC := .cond (.t 27) u61_23 u61_24
def u61_21r : List IOper := [oP 28 (.bin .eql (.t 14) (.k (.int .i64 5))), oP 27 (.mv (.t 28))]
def u61_21 : IC := .seq (.reg u61_21r) u61_22
def u61_19 : IC := .cond (.t 21) u61_20 u61_21
def u61_15 : IC := .seq u61_16 u61_19
def u61_13 : IC := .cond (.t 15) u61_14 u61_15
def u61_9 : IC := .seq u61_10 u61_13
def u61_8 : IC := .blk 0 u61_9
def u61_7r : List IOper := [oP 13 (.fad 1 (.t 3)), oP 14 (.ld 1 false (.t 13))]
def u61_7 : IC := .seq (.reg u61_7r) u61_8
def u61_27r : List IOper := [oP 4 (.mv (.k (.bool false)))]
def u61_27 : IC := .seq (.reg u61_27r) .ret
def u61_6 : IC := .seq u61_7 u61_27
def u61_2 : IC := .seq u61_3 u61_6
def u61_1r : List IOper := [⟨some 2, .new (.box (.t 0)), none⟩, ⟨some 3, .new (.box (.t 1)), none⟩, oP 4 (.mv (.k (.bool false)))]
def u61_1 : IC := .seq (.reg u61_1r) u61_2
def u61 : IFn := ⟨43, u61_1, [.tmp 4]⟩
end
theorem isU61 : IsFn Tryd.prog 61 u61 := by unfold IsFn; kernel_rfl
instance i61_5 : WR Tryd.prog 43 u61_5 (rS u61_5r .ret []) := ⟨mkS⟩
instance i61_4 : WR Tryd.prog 43 u61_4 (rCE (.t 12) u61_5 .skip [2, 3, 12]) := ⟨mkCE⟩
instance i61_3 : WR Tryd.prog 43 u61_3 (rS u61_3r u61_4 [2, 3]) := ⟨mkS⟩
instance i61_12 : WR Tryd.prog 43 u61_12 (rE u61_12r [2, 3, 14]) := ⟨mkE⟩
instance i61_11 : WR Tryd.prog 43 u61_11 (rCE (.t 15) .skip u61_12 [2, 3, 14, 15]) := ⟨mkCE⟩
instance i61_10 : WR Tryd.prog 43 u61_10 (rS u61_10r u61_11 [2, 3, 14]) := ⟨mkS⟩
instance i61_14 : WR Tryd.prog 43 u61_14 (rS u61_14r .ret [3]) := ⟨mkS⟩
instance i61_18 : WR Tryd.prog 43 u61_18 (rE u61_18r [2, 3, 14]) := ⟨mkE⟩
instance i61_17 : WR Tryd.prog 43 u61_17 (rCE (.t 21) .skip u61_18 [2, 3, 14, 21]) := ⟨mkCE⟩
instance i61_16 : WR Tryd.prog 43 u61_16 (rS u61_16r u61_17 [2, 3, 14]) := ⟨mkS⟩
instance i61_20 : WR Tryd.prog 43 u61_20 (rS u61_20r .ret [3]) := ⟨mkS⟩
instance i61_23 : WR Tryd.prog 43 u61_23 (rS u61_23r .ret [2, 3]) := ⟨mkS⟩
instance i61_26 : WR Tryd.prog 43 u61_26 (rS u61_26r .ret [2, 3]) := ⟨mkS⟩
instance i61_25 : WR Tryd.prog 43 u61_25 (rCE (.t 35) u61_26 .skip [2, 3, 35]) := ⟨mkCE⟩
instance i61_24 : WR Tryd.prog 43 u61_24 (rS u61_24r u61_25 [2, 3, 14]) := ⟨mkS⟩
instance i61_22 : WR Tryd.prog 43 u61_22 (rCE (.t 27) u61_23 u61_24 [2, 3, 14, 27]) := ⟨mkCE⟩
instance i61_21 : WR Tryd.prog 43 u61_21 (rS u61_21r u61_22 [2, 3, 14]) := ⟨mkS⟩
instance i61_19 : WR Tryd.prog 43 u61_19 (rCE (.t 21) u61_20 u61_21 [2, 3, 14, 21]) := ⟨mkCE⟩
instance i61_15 : WR Tryd.prog 43 u61_15 (rQ u61_16 u61_19 [2, 3, 14]) := ⟨mkQ⟩
instance i61_13 : WR Tryd.prog 43 u61_13 (rCE (.t 15) u61_14 u61_15 [2, 3, 14, 15]) := ⟨mkCE⟩
instance i61_9 : WR Tryd.prog 43 u61_9 (rQ u61_10 u61_13 [2, 3, 14]) := ⟨mkQ⟩
instance i61_8 : WR Tryd.prog 43 u61_8 (rBE 0 u61_9 [2, 3, 14]) := ⟨mkBE⟩
instance i61_7 : WR Tryd.prog 43 u61_7 (rS u61_7r u61_8 [2, 3]) := ⟨mkS⟩
instance i61_27 : WR Tryd.prog 43 u61_27 (rS u61_27r .ret []) := ⟨mkS⟩
instance i61_6 : WR Tryd.prog 43 u61_6 (rQ u61_7 u61_27 [2, 3]) := ⟨mkQ⟩
instance i61_2 : WR Tryd.prog 43 u61_2 (rQ u61_3 u61_6 [2, 3]) := ⟨mkQ⟩
instance i61_1 : WR Tryd.prog 43 u61_1 (rS u61_1r u61_2 [0, 1]) := ⟨mkS⟩
attribute [go_sem] u61_5r u61_3r u61_12r u61_10r u61_14r u61_18r u61_16r u61_20r u61_23r u61_26r u61_24r u61_21r u61_7r u61_27r u61_1r
noncomputable section
def u62_8r : List IOper := [oP 18 (.fad 1 (.t 3)), oP 19 (.ld 1 false (.t 18)), oP 20 (.bin .eql (.t 19) (.k (.int .i64 0))), oP 4 (.mv (.t 20))]
def u62_8 : IC := .seq (.reg u62_8r) .ret
def u62_11r : List IOper := [oP 23 (.fad 1 (.t 3)), oP 24 (.ld 1 false (.t 23)), ⟨some 25, .call 45 [.t 24, .k (.int .i64 (-2147483647)), .k (.int .i64 2147483647)], none⟩, oP 4 (.mv (.t 25))]
def u62_11 : IC := .seq (.reg u62_11r) .ret
def u62_14r : List IOper := [oP 28 (.fad 1 (.t 3)), oP 29 (.ld 1 false (.t 28)), oP 30 (.fad 4 (.t 2)), oP 31 (.ld 1 false (.t 30)), oP 32 (.len (.t 31)), oP 33 (.bin .sub (.t 32) (.k (.int .i64 1))), ⟨some 34, .call 45 [.t 29, .k (.int .i64 0), .t 33], none⟩, oP 4 (.mv (.t 34))]
def u62_14 : IC := .seq (.reg u62_14r) .ret
def u62_18r : List IOper := [oP 37 (.bin .eql (.t 15) (.k (.int .i64 9))), oP 35 (.mv (.t 37))]
def u62_18 : IC := .reg u62_18r
def u62_17 : IC := .cond (.t 35) .skip u62_18
def u62_16r : List IOper := [oP 36 (.bin .eql (.t 15) (.k (.int .i64 3))), oP 35 (.mv (.t 36))]
def u62_16 : IC := .seq (.reg u62_16r) u62_17
def u62_20r : List IOper := [oP 38 (.fad 1 (.t 3)), oP 39 (.ld 1 false (.t 38)), ⟨some 40, .call 45 [.t 39, .k (.int .i64 0), .k (.int .i64 63)], none⟩, oP 4 (.mv (.t 40))]
def u62_20 : IC := .seq (.reg u62_20r) .ret
def u62_23r : List IOper := [oP 43 (.fad 1 (.t 3)), oP 44 (.ld 1 false (.t 43)), oP 45 (.fad 3 (.t 2)), oP 46 (.ld 1 false (.t 45)), oP 47 (.len (.t 46)), oP 48 (.bin .sub (.t 47) (.k (.int .i64 1))), ⟨some 49, .call 45 [.t 44, .k (.int .i64 0), .t 48], none⟩, oP 4 (.mv (.t 49))]
def u62_23 : IC := .seq (.reg u62_23r) .ret
def u62_26r : List IOper := [oP 52 (.fad 1 (.t 3)), oP 53 (.ld 1 false (.t 52)), oP 54 (.fad 5 (.t 2)), oP 55 (.ld 1 false (.t 54)), oP 56 (.bin .sub (.t 55) (.k (.int .i64 1))), ⟨some 57, .call 45 [.t 53, .k (.int .i64 0), .t 56], none⟩, oP 4 (.mv (.t 57))]
def u62_26 : IC := .seq (.reg u62_26r) .ret
def u62_29r : List IOper := [oP 60 (.fad 1 (.t 3)), oP 61 (.ld 1 false (.t 60)), ⟨some 62, .call 45 [.t 61, .k (.int .i64 12), .k (.int .i64 24)], none⟩, oP 4 (.mv (.t 62))]
def u62_29 : IC := .seq (.reg u62_29r) .ret
def u62_32r : List IOper := [oP 4 (.mv (.k (.bool true)))]
def u62_32 : IC := .seq (.reg u62_32r) .ret
def u62_35r : List IOper := [oP 67 (.fad 1 (.t 3)), oP 68 (.ld 1 false (.t 67)), ⟨some 69, .call 45 [.t 68, .k (.int .i64 0), .k (.int .i64 31)], none⟩, oP 4 (.mv (.t 69))]
def u62_35 : IC := .seq (.reg u62_35r) .ret
def u62_38r : List IOper := [oP 72 (.fad 1 (.t 3)), oP 73 (.ld 1 false (.t 72)), oP 74 (.fad 6 (.t 2)), oP 75 (.ld 1 false (.t 74)), oP 76 (.bin .sub (.t 75) (.k (.int .i64 1))), ⟨some 77, .call 45 [.t 73, .k (.int .i64 0), .t 76], none⟩, oP 4 (.mv (.t 77))]
def u62_38 : IC := .seq (.reg u62_38r) .ret
def u62_41r : List IOper := [oP 80 (.fad 1 (.t 3)), oP 81 (.ld 1 false (.t 80)), oP 82 (.fad 1 (.t 2)), oP 83 (.ld 1 false (.t 82)), oP 84 (.len (.t 83)), oP 85 (.bin .sub (.t 84) (.k (.int .i64 1))), ⟨some 86, .call 45 [.t 81, .k (.int .i64 0), .t 85], none⟩, oP 4 (.mv (.t 86))]
def u62_41 : IC := .seq (.reg u62_41r) .ret
def u62_40 : IC := .cond (.t 78) u62_41 .skip
def u62_39r : List IOper := [oP 79 (.bin .eql (.t 15) (.k (.int .i64 11))), oP 78 (.mv (.t 79))]
def u62_39 : IC := .seq (.reg u62_39r) u62_40
def u62_37 : IC := .cond (.t 70) u62_38 u62_39
def u62_36r : List IOper := [oP 71 (.bin .eql (.t 15) (.k (.int .i64 10))), oP 70 (.mv (.t 71))]
def u62_36 : IC := .seq (.reg u62_36r) u62_37
def u62_34 : IC := .cond (.t 65) u62_35 u62_36
def u62_33r : List IOper := [oP 66 (.bin .eql (.t 15) (.k (.int .i64 8))), oP 65 (.mv (.t 66))]
def u62_33 : IC := .seq (.reg u62_33r) u62_34
def u62_31 : IC := .cond (.t 63) u62_32 u62_33
def u62_30r : List IOper := [oP 64 (.bin .eql (.t 15) (.k (.int .i64 7))), oP 63 (.mv (.t 64))]
def u62_30 : IC := .seq (.reg u62_30r) u62_31
def u62_28 : IC := .cond (.t 58) u62_29 u62_30
def u62_27r : List IOper := [oP 59 (.bin .eql (.t 15) (.k (.int .i64 6))), oP 58 (.mv (.t 59))]
def u62_27 : IC := .seq (.reg u62_27r) u62_28
def u62_25 : IC := .cond (.t 50) u62_26 u62_27
def u62_24r : List IOper := [oP 51 (.bin .eql (.t 15) (.k (.int .i64 5))), oP 50 (.mv (.t 51))]
def u62_24 : IC := .seq (.reg u62_24r) u62_25
def u62_22 : IC := .cond (.t 41) u62_23 u62_24
def u62_21r : List IOper := [oP 42 (.bin .eql (.t 15) (.k (.int .i64 4))), oP 41 (.mv (.t 42))]
def u62_21 : IC := .seq (.reg u62_21r) u62_22
def u62_19 : IC := .cond (.t 35) u62_20 u62_21
def u62_15 : IC := .seq u62_16 u62_19
def u62_13 : IC := .cond (.t 26) u62_14 u62_15
def u62_12r : List IOper := [oP 27 (.bin .eql (.t 15) (.k (.int .i64 2))), oP 26 (.mv (.t 27))]
def u62_12 : IC := .seq (.reg u62_12r) u62_13
def u62_10 : IC := .cond (.t 21) u62_11 u62_12
def u62_9r : List IOper := [oP 22 (.bin .eql (.t 15) (.k (.int .i64 1))), oP 21 (.mv (.t 22))]
def u62_9 : IC := .seq (.reg u62_9r) u62_10
def u62_7 : IC := .cond (.t 16) u62_8 u62_9
def u62_6r : List IOper := [oP 17 (.bin .eql (.t 15) (.k (.int .i64 0))), oP 16 (.mv (.t 17))]
def u62_6 : IC := .seq (.reg u62_6r) u62_7
def u62_5 : IC := .blk 0 u62_6
def u62_4r : List IOper := [oP 15 (.mv (.t 7))]
def u62_4 : IC := .seq (.reg u62_4r) u62_5
def u62_42r : List IOper := [oP 4 (.mv (.k (.bool false)))]
def u62_42 : IC := .seq (.reg u62_42r) .ret
def u62_3 : IC := .seq u62_4 u62_42
def u62_2r : List IOper := [oP 9 (.fad 0 (.t 3)), oP 10 (.ld 1 false (.t 9)), ⟨some 11, .call 58 [.t 10], none⟩, oP 8 (.mv (.t 11)), oP 12 (.ext (.t 8) 0), oP 13 (.ext (.t 8) 1), oP 14 (.ext (.t 8) 2), oP 5 (.mv (.t 12)), oP 6 (.mv (.t 13)), oP 7 (.mv (.t 14))]
def u62_2 : IC := .seq (.reg u62_2r) u62_3
def u62_1r : List IOper := [⟨some 2, .new (.box (.t 0)), none⟩, ⟨some 3, .new (.box (.t 1)), none⟩, oP 4 (.mv (.k (.bool false)))]
def u62_1 : IC := .seq (.reg u62_1r) u62_2
def u62 : IFn := ⟨87, u62_1, [.tmp 4]⟩
end
theorem isU62 : IsFn Tryd.prog 62 u62 := by unfold IsFn; kernel_rfl
instance i62_8 : WR Tryd.prog 87 u62_8 (rS u62_8r .ret [3]) := ⟨mkS⟩
instance i62_11 : WR Tryd.prog 87 u62_11 (rS u62_11r .ret [3]) := ⟨mkS⟩
instance i62_14 : WR Tryd.prog 87 u62_14 (rS u62_14r .ret [2, 3]) := ⟨mkS⟩
instance i62_18 : WR Tryd.prog 87 u62_18 (rE u62_18r [2, 3, 15]) := ⟨mkE⟩
instance i62_17 : WR Tryd.prog 87 u62_17 (rCE (.t 35) .skip u62_18 [2, 3, 15, 35]) := ⟨mkCE⟩
instance i62_16 : WR Tryd.prog 87 u62_16 (rS u62_16r u62_17 [2, 3, 15]) := ⟨mkS⟩
instance i62_20 : WR Tryd.prog 87 u62_20 (rS u62_20r .ret [3]) := ⟨mkS⟩
instance i62_23 : WR Tryd.prog 87 u62_23 (rS u62_23r .ret [2, 3]) := ⟨mkS⟩
instance i62_26 : WR Tryd.prog 87 u62_26 (rS u62_26r .ret [2, 3]) := ⟨mkS⟩
instance i62_29 : WR Tryd.prog 87 u62_29 (rS u62_29r .ret [3]) := ⟨mkS⟩
instance i62_32 : WR Tryd.prog 87 u62_32 (rS u62_32r .ret []) := ⟨mkS⟩
instance i62_35 : WR Tryd.prog 87 u62_35 (rS u62_35r .ret [3]) := ⟨mkS⟩
instance i62_38 : WR Tryd.prog 87 u62_38 (rS u62_38r .ret [2, 3]) := ⟨mkS⟩
instance i62_41 : WR Tryd.prog 87 u62_41 (rS u62_41r .ret [2, 3]) := ⟨mkS⟩
instance i62_40 : WR Tryd.prog 87 u62_40 (rCE (.t 78) u62_41 .skip [2, 3, 78]) := ⟨mkCE⟩
instance i62_39 : WR Tryd.prog 87 u62_39 (rS u62_39r u62_40 [2, 3, 15]) := ⟨mkS⟩
instance i62_37 : WR Tryd.prog 87 u62_37 (rCE (.t 70) u62_38 u62_39 [2, 3, 15, 70]) := ⟨mkCE⟩
instance i62_36 : WR Tryd.prog 87 u62_36 (rS u62_36r u62_37 [2, 3, 15]) := ⟨mkS⟩
instance i62_34 : WR Tryd.prog 87 u62_34 (rCE (.t 65) u62_35 u62_36 [2, 3, 15, 65]) := ⟨mkCE⟩
instance i62_33 : WR Tryd.prog 87 u62_33 (rS u62_33r u62_34 [2, 3, 15]) := ⟨mkS⟩
instance i62_31 : WR Tryd.prog 87 u62_31 (rCE (.t 63) u62_32 u62_33 [2, 3, 15, 63]) := ⟨mkCE⟩
instance i62_30 : WR Tryd.prog 87 u62_30 (rS u62_30r u62_31 [2, 3, 15]) := ⟨mkS⟩
instance i62_28 : WR Tryd.prog 87 u62_28 (rCE (.t 58) u62_29 u62_30 [2, 3, 15, 58]) := ⟨mkCE⟩
instance i62_27 : WR Tryd.prog 87 u62_27 (rS u62_27r u62_28 [2, 3, 15]) := ⟨mkS⟩
instance i62_25 : WR Tryd.prog 87 u62_25 (rCE (.t 50) u62_26 u62_27 [2, 3, 15, 50]) := ⟨mkCE⟩
instance i62_24 : WR Tryd.prog 87 u62_24 (rS u62_24r u62_25 [2, 3, 15]) := ⟨mkS⟩
instance i62_22 : WR Tryd.prog 87 u62_22 (rCE (.t 41) u62_23 u62_24 [2, 3, 15, 41]) := ⟨mkCE⟩
instance i62_21 : WR Tryd.prog 87 u62_21 (rS u62_21r u62_22 [2, 3, 15]) := ⟨mkS⟩
instance i62_19 : WR Tryd.prog 87 u62_19 (rCE (.t 35) u62_20 u62_21 [2, 3, 15, 35]) := ⟨mkCE⟩
instance i62_15 : WR Tryd.prog 87 u62_15 (rQ u62_16 u62_19 [2, 3, 15]) := ⟨mkQ⟩
instance i62_13 : WR Tryd.prog 87 u62_13 (rCE (.t 26) u62_14 u62_15 [2, 3, 15, 26]) := ⟨mkCE⟩
instance i62_12 : WR Tryd.prog 87 u62_12 (rS u62_12r u62_13 [2, 3, 15]) := ⟨mkS⟩
instance i62_10 : WR Tryd.prog 87 u62_10 (rCE (.t 21) u62_11 u62_12 [2, 3, 15, 21]) := ⟨mkCE⟩
instance i62_9 : WR Tryd.prog 87 u62_9 (rS u62_9r u62_10 [2, 3, 15]) := ⟨mkS⟩
instance i62_7 : WR Tryd.prog 87 u62_7 (rCE (.t 16) u62_8 u62_9 [2, 3, 15, 16]) := ⟨mkCE⟩
instance i62_6 : WR Tryd.prog 87 u62_6 (rS u62_6r u62_7 [2, 3, 15]) := ⟨mkS⟩
instance i62_5 : WR Tryd.prog 87 u62_5 (rBE 0 u62_6 [2, 3, 15]) := ⟨mkBE⟩
instance i62_4 : WR Tryd.prog 87 u62_4 (rS u62_4r u62_5 [2, 3, 7]) := ⟨mkS⟩
instance i62_42 : WR Tryd.prog 87 u62_42 (rS u62_42r .ret []) := ⟨mkS⟩
instance i62_3 : WR Tryd.prog 87 u62_3 (rQ u62_4 u62_42 [2, 3, 7]) := ⟨mkQ⟩
instance i62_2 : WR Tryd.prog 87 u62_2 (rS u62_2r u62_3 [2, 3]) := ⟨mkS⟩
instance i62_1 : WR Tryd.prog 87 u62_1 (rS u62_1r u62_2 [0, 1]) := ⟨mkS⟩
attribute [go_sem] u62_8r u62_11r u62_14r u62_18r u62_16r u62_20r u62_23r u62_26r u62_29r u62_32r u62_35r u62_38r u62_41r u62_39r u62_36r u62_33r u62_30r u62_27r u62_24r u62_21r u62_12r u62_9r u62_6r u62_4r u62_42r u62_2r u62_1r
noncomputable section
def u46_7 : IC := .cond (.t 12) .skip (.exit 0)
def u46_6r : List IOper := [oP 8 (.mv (.t 3)), oP 9 (.fad 1 (.t 1)), oP 10 (.ld 1 false (.t 9)), oP 11 (.len (.t 10)), oP 12 (.bin .lss (.t 8) (.t 11))]
def u46_6 : IC := .seq (.reg u46_6r) u46_7
def u46_11r : List IOper := [oP 2 (.mv (.k (.bool false)))]
def u46_11 : IC := .seq (.reg u46_11r) .ret
def u46_10 : IC := .cond (.t 21) u46_11 .skip
def u46_9r : List IOper := [oP 15 (.fad 1 (.t 1)), oP 16 (.ld 1 false (.t 15)), oP 17 (.mv (.t 3)), oP 18 (.iad 1 (.t 16) (.t 17)), oP 19 (.ld 1 false (.t 18)), ⟨some 20, .call 60 [.t 19], none⟩, oP 21 (.un .not (.t 20))]
def u46_9 : IC := .seq (.reg u46_9r) u46_10
def u46_12r : List IOper := [oP 13 (.mv (.t 3)), oP 14 (.bin .add (.t 13) (.k (.int .i64 1))), oP 3 (.mv (.t 14))]
def u46_12 : IC := .reg u46_12r
def u46_8 : IC := .seq (.blk 1 u46_9) u46_12
def u46_5 : IC := .seq u46_6 u46_8
def u46_4 : IC := .blk 0 (.loop u46_5)
def u46_3r : List IOper := [oP 3 (.mv (.k (.int .i64 0)))]
def u46_3 : IC := .seq (.reg u46_3r) u46_4
def u46_18 : IC := .cond (.t 26) .skip (.exit 2)
def u46_17r : List IOper := [oP 22 (.mv (.t 4)), oP 23 (.fad 3 (.t 1)), oP 24 (.ld 1 false (.t 23)), oP 25 (.len (.t 24)), oP 26 (.bin .lss (.t 22) (.t 25))]
def u46_17 : IC := .seq (.reg u46_17r) u46_18
def u46_22r : List IOper := [oP 2 (.mv (.k (.bool false)))]
def u46_22 : IC := .seq (.reg u46_22r) .ret
def u46_21 : IC := .cond (.t 35) u46_22 .skip
def u46_20r : List IOper := [oP 29 (.fad 3 (.t 1)), oP 30 (.ld 1 false (.t 29)), oP 31 (.mv (.t 4)), oP 32 (.iad 1 (.t 30) (.t 31)), oP 33 (.ld 1 false (.t 32)), ⟨some 34, .call 45 [.t 33, .k (.int .i64 0), .k (.int .i64 99)], none⟩, oP 35 (.un .not (.t 34))]
def u46_20 : IC := .seq (.reg u46_20r) u46_21
def u46_23r : List IOper := [oP 27 (.mv (.t 4)), oP 28 (.bin .add (.t 27) (.k (.int .i64 1))), oP 4 (.mv (.t 28))]
def u46_23 : IC := .reg u46_23r
def u46_19 : IC := .seq (.blk 3 u46_20) u46_23
def u46_16 : IC := .seq u46_17 u46_19
def u46_15 : IC := .blk 2 (.loop u46_16)
def u46_14r : List IOper := [oP 4 (.mv (.k (.int .i64 0)))]
def u46_14 : IC := .seq (.reg u46_14r) u46_15
def u46_29 : IC := .cond (.t 40) .skip (.exit 4)
def u46_28r : List IOper := [oP 36 (.mv (.t 5)), oP 37 (.fad 4 (.t 1)), oP 38 (.ld 1 false (.t 37)), oP 39 (.len (.t 38)), oP 40 (.bin .lss (.t 36) (.t 39))]
def u46_28 : IC := .seq (.reg u46_28r) u46_29
def u46_33r : List IOper := [oP 2 (.mv (.k (.bool false)))]
def u46_33 : IC := .seq (.reg u46_33r) .ret
def u46_32 : IC := .cond (.t 49) u46_33 .skip
def u46_31r : List IOper := [oP 43 (.fad 4 (.t 1)), oP 44 (.ld 1 false (.t 43)), oP 45 (.mv (.t 5)), oP 46 (.iad 1 (.t 44) (.t 45)), oP 47 (.ld 1 false (.t 46)), ⟨some 48, .call 45 [.t 47, .k (.int .i64 (-2147483647)), .k (.int .i64 2147483647)], none⟩, oP 49 (.un .not (.t 48))]
def u46_31 : IC := .seq (.reg u46_31r) u46_32
def u46_34r : List IOper := [oP 41 (.mv (.t 5)), oP 42 (.bin .add (.t 41) (.k (.int .i64 1))), oP 5 (.mv (.t 42))]
def u46_34 : IC := .reg u46_34r
def u46_30 : IC := .seq (.blk 5 u46_31) u46_34
def u46_27 : IC := .seq u46_28 u46_30
def u46_26 : IC := .blk 4 (.loop u46_27)
def u46_25r : List IOper := [oP 5 (.mv (.k (.int .i64 0)))]
def u46_25 : IC := .seq (.reg u46_25r) u46_26
def u46_40 : IC := .cond (.t 54) .skip (.exit 6)
def u46_39r : List IOper := [oP 50 (.mv (.t 6)), oP 51 (.fad 2 (.t 1)), oP 52 (.ld 1 false (.t 51)), oP 53 (.len (.t 52)), oP 54 (.bin .lss (.t 50) (.t 53))]
def u46_39 : IC := .seq (.reg u46_39r) u46_40
def u46_44r : List IOper := [oP 2 (.mv (.k (.bool false)))]
def u46_44 : IC := .seq (.reg u46_44r) .ret
def u46_43 : IC := .cond (.t 64) u46_44 .skip
def u46_42r : DReg := ⟨[oP 57 (.ld 7 true (.t 1)), oP 58 (.fad 2 (.t 1)), oP 59 (.ld 1 false (.t 58)), oP 60 (.mv (.t 6)), oP 61 (.iad 4 (.t 59) (.t 60)), oP 62 (.ld 4 true (.t 61)), ⟨some 63, .call 61 [.t 57, .t 62], none⟩, oP 64 (.un .not (.t 63))], [[], [], [1], [], [2, 3, 1], [4, 2, 3, 1], [0, 5, 4, 2, 3, 1], [6, 0, 5, 4, 2, 3, 1]], [(0, none), (1, none), (2, none), (3, none), (4, none), (5, none), (6, some []), (7, none)]⟩
def u46_42 : IC := .seq (.drw 8 u46_42r) u46_43
def u46_45r : List IOper := [oP 55 (.mv (.t 6)), oP 56 (.bin .add (.t 55) (.k (.int .i64 1))), oP 6 (.mv (.t 56))]
def u46_45 : IC := .reg u46_45r
def u46_41 : IC := .seq (.blk 7 u46_42) u46_45
def u46_38 : IC := .seq u46_39 u46_41
def u46_37 : IC := .blk 6 (.loop u46_38)
def u46_36r : List IOper := [oP 6 (.mv (.k (.int .i64 0)))]
def u46_36 : IC := .seq (.reg u46_36r) u46_37
def u46_51 : IC := .cond (.t 69) .skip (.exit 8)
def u46_50r : List IOper := [oP 65 (.mv (.t 7)), oP 66 (.fad 0 (.t 1)), oP 67 (.ld 1 false (.t 66)), oP 68 (.len (.t 67)), oP 69 (.bin .lss (.t 65) (.t 68))]
def u46_50 : IC := .seq (.reg u46_50r) u46_51
def u46_55r : List IOper := [oP 2 (.mv (.k (.bool false)))]
def u46_55 : IC := .seq (.reg u46_55r) .ret
def u46_54 : IC := .cond (.t 79) u46_55 .skip
def u46_53r : DReg := ⟨[oP 72 (.ld 7 true (.t 1)), oP 73 (.fad 0 (.t 1)), oP 74 (.ld 1 false (.t 73)), oP 75 (.mv (.t 7)), oP 76 (.iad 2 (.t 74) (.t 75)), oP 77 (.ld 2 true (.t 76)), ⟨some 78, .call 62 [.t 72, .t 77], none⟩, oP 79 (.un .not (.t 78))], [[], [], [1], [], [2, 3, 1], [4, 2, 3, 1], [0, 5, 4, 2, 3, 1], [6, 0, 5, 4, 2, 3, 1]], [(0, none), (1, none), (2, none), (3, none), (4, none), (5, none), (6, some []), (7, none)]⟩
def u46_53 : IC := .seq (.drw 8 u46_53r) u46_54
def u46_56r : List IOper := [oP 70 (.mv (.t 7)), oP 71 (.bin .add (.t 70) (.k (.int .i64 1))), oP 7 (.mv (.t 71))]
def u46_56 : IC := .reg u46_56r
def u46_52 : IC := .seq (.blk 9 u46_53) u46_56
def u46_49 : IC := .seq u46_50 u46_52
def u46_48 : IC := .blk 8 (.loop u46_49)
def u46_47r : List IOper := [oP 7 (.mv (.k (.int .i64 0)))]
def u46_47 : IC := .seq (.reg u46_47r) u46_48
def u46_57r : List IOper := [oP 2 (.mv (.k (.bool true)))]
def u46_57 : IC := .seq (.reg u46_57r) .ret
def u46_46 : IC := .seq u46_47 u46_57
def u46_35 : IC := .seq u46_36 u46_46
def u46_24 : IC := .seq u46_25 u46_35
def u46_13 : IC := .seq u46_14 u46_24
def u46_2 : IC := .seq u46_3 u46_13
def u46_1r : List IOper := [⟨some 1, .new (.box (.t 0)), none⟩, oP 2 (.mv (.k (.bool false)))]
def u46_1 : IC := .seq (.reg u46_1r) u46_2
def u46 : IFn := ⟨80, u46_1, [.tmp 2]⟩
end
theorem isU46 : IsFn Tryd.prog 46 u46 := by unfold IsFn; kernel_rfl
instance i46_7 : WR Tryd.prog 80 u46_7 (rCE (.t 12) .skip (.exit 0) [1, 3, 12]) := ⟨mkCE⟩
instance i46_6 : WR Tryd.prog 80 u46_6 (rS u46_6r u46_7 [1, 3]) := ⟨mkS⟩
instance i46_11 : WR Tryd.prog 80 u46_11 (rS u46_11r .ret []) := ⟨mkS⟩
instance i46_10 : WR Tryd.prog 80 u46_10 (rCE (.t 21) u46_11 .skip [1, 3, 21]) := ⟨mkCE⟩
instance i46_9 : WR Tryd.prog 80 u46_9 (rS u46_9r u46_10 [1, 3]) := ⟨mkS⟩
instance i46_12 : WR Tryd.prog 80 u46_12 (rE u46_12r [1, 3]) := ⟨mkE⟩
instance i46_8 : WR Tryd.prog 80 u46_8 (rB 1 u46_9 u46_12 [1, 3]) := ⟨mkB⟩
instance i46_5 : WR Tryd.prog 80 u46_5 (rQ u46_6 u46_8 [1, 3]) := ⟨mkQ⟩
instance i46_4 : WR Tryd.prog 80 u46_4 (rBE 0 (.loop u46_5) [1, 3]) := ⟨mkBE⟩
instance i46_3 : WR Tryd.prog 80 u46_3 (rS u46_3r u46_4 [1]) := ⟨mkS⟩
instance i46_18 : WR Tryd.prog 80 u46_18 (rCE (.t 26) .skip (.exit 2) [1, 4, 26]) := ⟨mkCE⟩
instance i46_17 : WR Tryd.prog 80 u46_17 (rS u46_17r u46_18 [1, 4]) := ⟨mkS⟩
instance i46_22 : WR Tryd.prog 80 u46_22 (rS u46_22r .ret []) := ⟨mkS⟩
instance i46_21 : WR Tryd.prog 80 u46_21 (rCE (.t 35) u46_22 .skip [1, 4, 35]) := ⟨mkCE⟩
instance i46_20 : WR Tryd.prog 80 u46_20 (rS u46_20r u46_21 [1, 4]) := ⟨mkS⟩
instance i46_23 : WR Tryd.prog 80 u46_23 (rE u46_23r [1, 4]) := ⟨mkE⟩
instance i46_19 : WR Tryd.prog 80 u46_19 (rB 3 u46_20 u46_23 [1, 4]) := ⟨mkB⟩
instance i46_16 : WR Tryd.prog 80 u46_16 (rQ u46_17 u46_19 [1, 4]) := ⟨mkQ⟩
instance i46_15 : WR Tryd.prog 80 u46_15 (rBE 2 (.loop u46_16) [1, 4]) := ⟨mkBE⟩
instance i46_14 : WR Tryd.prog 80 u46_14 (rS u46_14r u46_15 [1]) := ⟨mkS⟩
instance i46_29 : WR Tryd.prog 80 u46_29 (rCE (.t 40) .skip (.exit 4) [1, 5, 40]) := ⟨mkCE⟩
instance i46_28 : WR Tryd.prog 80 u46_28 (rS u46_28r u46_29 [1, 5]) := ⟨mkS⟩
instance i46_33 : WR Tryd.prog 80 u46_33 (rS u46_33r .ret []) := ⟨mkS⟩
instance i46_32 : WR Tryd.prog 80 u46_32 (rCE (.t 49) u46_33 .skip [1, 5, 49]) := ⟨mkCE⟩
instance i46_31 : WR Tryd.prog 80 u46_31 (rS u46_31r u46_32 [1, 5]) := ⟨mkS⟩
instance i46_34 : WR Tryd.prog 80 u46_34 (rE u46_34r [1, 5]) := ⟨mkE⟩
instance i46_30 : WR Tryd.prog 80 u46_30 (rB 5 u46_31 u46_34 [1, 5]) := ⟨mkB⟩
instance i46_27 : WR Tryd.prog 80 u46_27 (rQ u46_28 u46_30 [1, 5]) := ⟨mkQ⟩
instance i46_26 : WR Tryd.prog 80 u46_26 (rBE 4 (.loop u46_27) [1, 5]) := ⟨mkBE⟩
instance i46_25 : WR Tryd.prog 80 u46_25 (rS u46_25r u46_26 [1]) := ⟨mkS⟩
instance i46_40 : WR Tryd.prog 80 u46_40 (rCE (.t 54) .skip (.exit 6) [1, 6, 54]) := ⟨mkCE⟩
instance i46_39 : WR Tryd.prog 80 u46_39 (rS u46_39r u46_40 [1, 6]) := ⟨mkS⟩
instance i46_44 : WR Tryd.prog 80 u46_44 (rS u46_44r .ret []) := ⟨mkS⟩
instance i46_43 : WR Tryd.prog 80 u46_43 (rCE (.t 64) u46_44 .skip [1, 6, 64]) := ⟨mkCE⟩
instance i46_42 : WR Tryd.prog 80 u46_42 (rP 8 u46_42r u46_43 [1, 6]) := ⟨mkP rfl⟩
instance i46_45 : WR Tryd.prog 80 u46_45 (rE u46_45r [1, 6]) := ⟨mkE⟩
instance i46_41 : WR Tryd.prog 80 u46_41 (rB 7 u46_42 u46_45 [1, 6]) := ⟨mkB⟩
instance i46_38 : WR Tryd.prog 80 u46_38 (rQ u46_39 u46_41 [1, 6]) := ⟨mkQ⟩
instance i46_37 : WR Tryd.prog 80 u46_37 (rBE 6 (.loop u46_38) [1, 6]) := ⟨mkBE⟩
instance i46_36 : WR Tryd.prog 80 u46_36 (rS u46_36r u46_37 [1]) := ⟨mkS⟩
instance i46_51 : WR Tryd.prog 80 u46_51 (rCE (.t 69) .skip (.exit 8) [1, 7, 69]) := ⟨mkCE⟩
instance i46_50 : WR Tryd.prog 80 u46_50 (rS u46_50r u46_51 [1, 7]) := ⟨mkS⟩
instance i46_55 : WR Tryd.prog 80 u46_55 (rS u46_55r .ret []) := ⟨mkS⟩
instance i46_54 : WR Tryd.prog 80 u46_54 (rCE (.t 79) u46_55 .skip [1, 7, 79]) := ⟨mkCE⟩
instance i46_53 : WR Tryd.prog 80 u46_53 (rP 8 u46_53r u46_54 [1, 7]) := ⟨mkP rfl⟩
instance i46_56 : WR Tryd.prog 80 u46_56 (rE u46_56r [1, 7]) := ⟨mkE⟩
instance i46_52 : WR Tryd.prog 80 u46_52 (rB 9 u46_53 u46_56 [1, 7]) := ⟨mkB⟩
instance i46_49 : WR Tryd.prog 80 u46_49 (rQ u46_50 u46_52 [1, 7]) := ⟨mkQ⟩
instance i46_48 : WR Tryd.prog 80 u46_48 (rBE 8 (.loop u46_49) [1, 7]) := ⟨mkBE⟩
instance i46_47 : WR Tryd.prog 80 u46_47 (rS u46_47r u46_48 [1]) := ⟨mkS⟩
instance i46_57 : WR Tryd.prog 80 u46_57 (rS u46_57r .ret []) := ⟨mkS⟩
instance i46_46 : WR Tryd.prog 80 u46_46 (rQ u46_47 u46_57 [1]) := ⟨mkQ⟩
instance i46_35 : WR Tryd.prog 80 u46_35 (rQ u46_36 u46_46 [1]) := ⟨mkQ⟩
instance i46_24 : WR Tryd.prog 80 u46_24 (rQ u46_25 u46_35 [1]) := ⟨mkQ⟩
instance i46_13 : WR Tryd.prog 80 u46_13 (rQ u46_14 u46_24 [1]) := ⟨mkQ⟩
instance i46_2 : WR Tryd.prog 80 u46_2 (rQ u46_3 u46_13 [1]) := ⟨mkQ⟩
instance i46_1 : WR Tryd.prog 80 u46_1 (rS u46_1r u46_2 [0]) := ⟨mkS⟩
attribute [go_sem] u46_6r u46_11r u46_9r u46_12r u46_3r u46_17r u46_22r u46_20r u46_23r u46_14r u46_28r u46_33r u46_31r u46_34r u46_25r u46_39r u46_44r u46_42r u46_45r u46_36r u46_50r u46_55r u46_53r u46_56r u46_47r u46_57r u46_1r
noncomputable section
def u47_7 : IC := .cond (.t 12) .skip (.exit 0)
def u47_6r : List IOper := [oP 8 (.mv (.t 3)), oP 9 (.fad 0 (.t 1)), oP 10 (.ld 1 false (.t 9)), oP 11 (.len (.t 10)), oP 12 (.bin .lss (.t 8) (.t 11))]
def u47_6 : IC := .seq (.reg u47_6r) u47_7
def u47_12r : List IOper := [oP 2 (.mv (.k (.bool false)))]
def u47_12 : IC := .seq (.reg u47_12r) .ret
def u47_11 : IC := .cond (.t 41) u47_12 .skip
def u47_10r : DReg := ⟨[oP 26 (.mv (.t 6)), oP 27 (.bin .eql (.t 26) (.k (.int .i64 7))), oP 28 (.mv (.t 27)), oG 29 (.fad 0 (.t 1)) 28, oG 30 (.ld 1 false (.t 29)) 28, oG 31 (.mv (.t 3)) 28, oG 32 (.iad 2 (.t 30) (.t 31)) 28, oG 33 (.fad 1 (.t 32)) 28, oG 34 (.ld 1 false (.t 33)) 28, oG 35 (.fad 0 (.t 1)) 28, oG 36 (.ld 1 false (.t 35)) 28, oG 37 (.len (.t 36)) 28, oG 38 (.bin .sub (.t 37) (.k (.int .i64 1))) 28, ⟨some 39, .call 45 [.t 34, .k (.int .i64 0), .t 38], some (28, true)⟩, oG 40 (.un .not (.t 39)) 28, oP 41 (.pick (.t 28) (.t 40) (.k (.bool false)))], [[], [0], [1, 0], [2, 1, 0], [3, 2, 1, 0], [2, 1, 0], [4, 5, 2, 3, 1, 0], [6, 2, 4, 5, 3, 1, 0], [7, 2, 6, 4, 5, 3, 1, 0], [2, 1, 0], [9, 2, 1, 0], [10, 2, 9, 1, 0], [11, 2, 10, 9, 1, 0], [8, 12, 2, 7, 6, 4, 5, 3, 1, 0, 11, 10, 9], [13, 2, 8, 12, 7, 6, 4, 5, 3, 1, 0, 11, 10, 9], [2, 14, 1, 0, 13, 8, 12, 7, 6, 4, 5, 3, 11, 10, 9]], [(0, none), (1, none), (2, none), (3, none), (4, none), (5, none), (6, none), (7, none), (8, none), (9, none), (10, none), (11, none), (12, none), (13, some []), (14, none), (15, none)]⟩
def u47_10 : IC := .seq (.drw 16 u47_10r) u47_11
def u47_9r : List IOper := [oP 16 (.fad 0 (.t 1)), oP 17 (.ld 1 false (.t 16)), oP 18 (.mv (.t 3)), oP 19 (.iad 2 (.t 17) (.t 18)), oP 20 (.fad 0 (.t 19)), oP 21 (.ld 1 false (.t 20)), ⟨some 22, .call 58 [.t 21], none⟩, oP 15 (.mv (.t 22)), oP 23 (.ext (.t 15) 0), oP 24 (.ext (.t 15) 1), oP 25 (.ext (.t 15) 2), oP 4 (.mv (.t 23)), oP 5 (.mv (.t 24)), oP 6 (.mv (.t 25))]
def u47_9 : IC := .seq (.reg u47_9r) u47_10
def u47_13r : List IOper := [oP 13 (.mv (.t 3)), oP 14 (.bin .add (.t 13) (.k (.int .i64 1))), oP 3 (.mv (.t 14))]
def u47_13 : IC := .reg u47_13r
def u47_8 : IC := .seq (.blk 1 u47_9) u47_13
def u47_5 : IC := .seq u47_6 u47_8
def u47_4 : IC := .blk 0 (.loop u47_5)
def u47_3r : List IOper := [oP 3 (.mv (.k (.int .i64 0)))]
def u47_3 : IC := .seq (.reg u47_3r) u47_4
def u47_19 : IC := .cond (.t 46) .skip (.exit 2)
def u47_18r : List IOper := [oP 42 (.mv (.t 7)), oP 43 (.fad 2 (.t 1)), oP 44 (.ld 1 false (.t 43)), oP 45 (.len (.t 44)), oP 46 (.bin .lss (.t 42) (.t 45))]
def u47_18 : IC := .seq (.reg u47_18r) u47_19
def u47_23r : List IOper := [oP 2 (.mv (.k (.bool false)))]
def u47_23 : IC := .seq (.reg u47_23r) .ret
def u47_22 : IC := .cond (.t 60) u47_23 .skip
def u47_21r : DReg := ⟨[oP 49 (.fad 2 (.t 1)), oP 50 (.ld 1 false (.t 49)), oP 51 (.mv (.t 7)), oP 52 (.iad 4 (.t 50) (.t 51)), oP 53 (.fad 3 (.t 52)), oP 54 (.ld 1 false (.t 53)), oP 55 (.fad 0 (.t 1)), oP 56 (.ld 1 false (.t 55)), oP 57 (.len (.t 56)), oP 58 (.bin .sub (.t 57) (.k (.int .i64 1))), ⟨some 59, .call 45 [.t 54, .k (.int .i64 0), .t 58], none⟩, oP 60 (.un .not (.t 59))], [[], [0], [], [1, 2, 0], [3, 1, 2, 0], [4, 3, 1, 2, 0], [], [6], [7, 6], [8, 7, 6], [5, 9, 4, 3, 1, 2, 0, 8, 7, 6], [10, 5, 9, 4, 3, 1, 2, 0, 8, 7, 6]], [(0, none), (1, none), (2, none), (3, none), (4, none), (5, none), (6, none), (7, none), (8, none), (9, none), (10, some []), (11, none)]⟩
def u47_21 : IC := .seq (.drw 12 u47_21r) u47_22
def u47_24r : List IOper := [oP 47 (.mv (.t 7)), oP 48 (.bin .add (.t 47) (.k (.int .i64 1))), oP 7 (.mv (.t 48))]
def u47_24 : IC := .reg u47_24r
def u47_20 : IC := .seq (.blk 3 u47_21) u47_24
def u47_17 : IC := .seq u47_18 u47_20
def u47_16 : IC := .blk 2 (.loop u47_17)
def u47_15r : List IOper := [oP 7 (.mv (.k (.int .i64 0)))]
def u47_15 : IC := .seq (.reg u47_15r) u47_16
def u47_25r : List IOper := [oP 2 (.mv (.k (.bool true)))]
def u47_25 : IC := .seq (.reg u47_25r) .ret
def u47_14 : IC := .seq u47_15 u47_25
def u47_2 : IC := .seq u47_3 u47_14
def u47_1r : List IOper := [⟨some 1, .new (.box (.t 0)), none⟩, oP 2 (.mv (.k (.bool false)))]
def u47_1 : IC := .seq (.reg u47_1r) u47_2
def u47 : IFn := ⟨61, u47_1, [.tmp 2]⟩
end
theorem isU47 : IsFn Tryd.prog 47 u47 := by unfold IsFn; kernel_rfl
instance i47_7 : WR Tryd.prog 61 u47_7 (rCE (.t 12) .skip (.exit 0) [1, 3, 12]) := ⟨mkCE⟩
instance i47_6 : WR Tryd.prog 61 u47_6 (rS u47_6r u47_7 [1, 3]) := ⟨mkS⟩
instance i47_12 : WR Tryd.prog 61 u47_12 (rS u47_12r .ret []) := ⟨mkS⟩
instance i47_11 : WR Tryd.prog 61 u47_11 (rCE (.t 41) u47_12 .skip [1, 3, 41]) := ⟨mkCE⟩
instance i47_10 : WR Tryd.prog 61 u47_10 (rP 16 u47_10r u47_11 [1, 3, 6]) := ⟨mkP rfl⟩
instance i47_9 : WR Tryd.prog 61 u47_9 (rS u47_9r u47_10 [1, 3]) := ⟨mkS⟩
instance i47_13 : WR Tryd.prog 61 u47_13 (rE u47_13r [1, 3]) := ⟨mkE⟩
instance i47_8 : WR Tryd.prog 61 u47_8 (rB 1 u47_9 u47_13 [1, 3]) := ⟨mkB⟩
instance i47_5 : WR Tryd.prog 61 u47_5 (rQ u47_6 u47_8 [1, 3]) := ⟨mkQ⟩
instance i47_4 : WR Tryd.prog 61 u47_4 (rBE 0 (.loop u47_5) [1, 3]) := ⟨mkBE⟩
instance i47_3 : WR Tryd.prog 61 u47_3 (rS u47_3r u47_4 [1]) := ⟨mkS⟩
instance i47_19 : WR Tryd.prog 61 u47_19 (rCE (.t 46) .skip (.exit 2) [1, 7, 46]) := ⟨mkCE⟩
instance i47_18 : WR Tryd.prog 61 u47_18 (rS u47_18r u47_19 [1, 7]) := ⟨mkS⟩
instance i47_23 : WR Tryd.prog 61 u47_23 (rS u47_23r .ret []) := ⟨mkS⟩
instance i47_22 : WR Tryd.prog 61 u47_22 (rCE (.t 60) u47_23 .skip [1, 7, 60]) := ⟨mkCE⟩
instance i47_21 : WR Tryd.prog 61 u47_21 (rP 12 u47_21r u47_22 [1, 7]) := ⟨mkP rfl⟩
instance i47_24 : WR Tryd.prog 61 u47_24 (rE u47_24r [1, 7]) := ⟨mkE⟩
instance i47_20 : WR Tryd.prog 61 u47_20 (rB 3 u47_21 u47_24 [1, 7]) := ⟨mkB⟩
instance i47_17 : WR Tryd.prog 61 u47_17 (rQ u47_18 u47_20 [1, 7]) := ⟨mkQ⟩
instance i47_16 : WR Tryd.prog 61 u47_16 (rBE 2 (.loop u47_17) [1, 7]) := ⟨mkBE⟩
instance i47_15 : WR Tryd.prog 61 u47_15 (rS u47_15r u47_16 [1]) := ⟨mkS⟩
instance i47_25 : WR Tryd.prog 61 u47_25 (rS u47_25r .ret []) := ⟨mkS⟩
instance i47_14 : WR Tryd.prog 61 u47_14 (rQ u47_15 u47_25 [1]) := ⟨mkQ⟩
instance i47_2 : WR Tryd.prog 61 u47_2 (rQ u47_3 u47_14 [1]) := ⟨mkQ⟩
instance i47_1 : WR Tryd.prog 61 u47_1 (rS u47_1r u47_2 [0]) := ⟨mkS⟩
attribute [go_sem] u47_6r u47_12r u47_10r u47_9r u47_13r u47_3r u47_18r u47_23r u47_21r u47_24r u47_15r u47_25r u47_1r
noncomputable section
def u59_8r : List IOper := [oP 6 (.mv (.k (.slice none 0 0)))]
def u59_8 : IC := .seq (.reg u59_8r) .ret
def u59_11r : List IOper := [oP 23 (.fad 1 (.t 3)), oP 24 (.ld 1 false (.t 23)), oP 25 (.mv (.t 2)), oP 26 (.bld #[.int .i64 0, .int .i64 0] [(0, 1), (1, 1)] [(0, .t 24), (1, .t 25)]), ⟨some 27, .new (.bsl 2 1 #[.int .i64 0, .int .i64 0] [(0, .t 26)]), none⟩, oP 6 (.mv (.t 27))]
def u59_11 : IC := .seq (.reg u59_11r) .ret
def u59_14r : List IOper := [oP 30 (.mv (.t 1)), oP 31 (.bin .add (.t 30) (.k (.int .i64 1))), oP 32 (.mv (.t 2)), oP 33 (.bin .sub (.t 32) (.k (.int .i64 1))), oP 34 (.bld #[.int .i64 0, .int .i64 0] [(0, 1), (1, 1)] [(0, .t 31), (1, .t 33)]), oP 35 (.fad 1 (.t 3)), oP 36 (.ld 1 false (.t 35)), oP 37 (.mv (.t 2)), oP 38 (.bin .sub (.t 37) (.k (.int .i64 1))), oP 39 (.bld #[.int .i64 0, .int .i64 0] [(0, 1), (1, 1)] [(0, .t 36), (1, .t 38)]), ⟨some 40, .new (.bsl 2 2 #[.int .i64 0, .int .i64 0] [(0, .t 34), (1, .t 39)]), none⟩, oP 6 (.mv (.t 40))]
def u59_14 : IC := .seq (.reg u59_14r) .ret
def u59_17r : List IOper := [oP 43 (.mv (.t 1)), oP 44 (.bin .add (.t 43) (.k (.int .i64 1))), oP 45 (.mv (.t 2)), oP 46 (.bld #[.int .i64 0, .int .i64 0] [(0, 1), (1, 1)] [(0, .t 44), (1, .t 45)]), oP 47 (.fad 1 (.t 3)), oP 48 (.ld 1 false (.t 47)), oP 49 (.mv (.t 2)), oP 50 (.bin .sub (.t 49) (.k (.int .i64 1))), oP 51 (.bld #[.int .i64 0, .int .i64 0] [(0, 1), (1, 1)] [(0, .t 48), (1, .t 50)]), ⟨some 52, .new (.bsl 2 2 #[.int .i64 0, .int .i64 0] [(0, .t 46), (1, .t 51)]), none⟩, oP 6 (.mv (.t 52))]
def u59_17 : IC := .seq (.reg u59_17r) .ret
def u59_16 : IC := .cond (.t 41) u59_17 .skip
def u59_15r : List IOper := [oP 42 (.bin .eql (.t 18) (.k (.int .i64 14))), oP 41 (.mv (.t 42))]
def u59_15 : IC := .seq (.reg u59_15r) u59_16
def u59_13 : IC := .cond (.t 28) u59_14 u59_15
def u59_12r : List IOper := [oP 29 (.bin .eql (.t 18) (.k (.int .i64 13))), oP 28 (.mv (.t 29))]
def u59_12 : IC := .seq (.reg u59_12r) u59_13
def u59_10 : IC := .cond (.t 21) u59_11 u59_12
def u59_9r : List IOper := [oP 22 (.bin .eql (.t 18) (.k (.int .i64 12))), oP 21 (.mv (.t 22))]
def u59_9 : IC := .seq (.reg u59_9r) u59_10
def u59_7 : IC := .cond (.t 19) u59_8 u59_9
def u59_6r : List IOper := [oP 20 (.bin .eql (.t 18) (.k (.int .i64 31))), oP 19 (.mv (.t 20))]
def u59_6 : IC := .seq (.reg u59_6r) u59_7
def u59_5 : IC := .blk 0 u59_6
def u59_4r : List IOper := [oP 17 (.fad 0 (.t 3)), oP 18 (.ld 1 false (.t 17))]
def u59_4 : IC := .seq (.reg u59_4r) u59_5
def u59_18r : List IOper := [oP 53 (.mv (.t 1)), oP 54 (.bin .add (.t 53) (.k (.int .i64 1))), oP 55 (.mv (.t 2)), oP 56 (.mv (.t 7)), oP 57 (.bin .sub (.t 55) (.t 56)), oP 58 (.mv (.t 8)), oP 59 (.bin .add (.t 57) (.t 58)), oP 60 (.bld #[.int .i64 0, .int .i64 0] [(0, 1), (1, 1)] [(0, .t 54), (1, .t 59)]), ⟨some 61, .new (.bsl 2 1 #[.int .i64 0, .int .i64 0] [(0, .t 60)]), none⟩, oP 6 (.mv (.t 61))]
def u59_18 : IC := .seq (.reg u59_18r) .ret
def u59_3 : IC := .seq u59_4 u59_18
def u59_2r : List IOper := [oP 11 (.fad 0 (.t 3)), oP 12 (.ld 1 false (.t 11)), ⟨some 13, .call 58 [.t 12], none⟩, oP 10 (.mv (.t 13)), oP 14 (.ext (.t 10) 0), oP 15 (.ext (.t 10) 1), oP 16 (.ext (.t 10) 2), oP 7 (.mv (.t 14)), oP 8 (.mv (.t 15)), oP 9 (.mv (.t 16))]
def u59_2 : IC := .seq (.reg u59_2r) u59_3
def u59_1r : List IOper := [⟨some 3, .new (.box (.t 0)), none⟩, oP 6 (.mv (.k (.slice none 0 0)))]
def u59_1 : IC := .seq (.reg u59_1r) u59_2
def u59 : IFn := ⟨62, u59_1, [.tmp 6]⟩
end
theorem isU59 : IsFn Tryd.prog 59 u59 := by unfold IsFn; kernel_rfl
instance i59_8 : WR Tryd.prog 62 u59_8 (rS u59_8r .ret []) := ⟨mkS⟩
instance i59_11 : WR Tryd.prog 62 u59_11 (rS u59_11r .ret [2, 3]) := ⟨mkS⟩
instance i59_14 : WR Tryd.prog 62 u59_14 (rS u59_14r .ret [1, 2, 3]) := ⟨mkS⟩
instance i59_17 : WR Tryd.prog 62 u59_17 (rS u59_17r .ret [1, 2, 3]) := ⟨mkS⟩
instance i59_16 : WR Tryd.prog 62 u59_16 (rCE (.t 41) u59_17 .skip [1, 2, 3, 7, 8, 41]) := ⟨mkCE⟩
instance i59_15 : WR Tryd.prog 62 u59_15 (rS u59_15r u59_16 [1, 2, 3, 7, 8, 18]) := ⟨mkS⟩
instance i59_13 : WR Tryd.prog 62 u59_13 (rCE (.t 28) u59_14 u59_15 [1, 2, 3, 7, 8, 18, 28]) := ⟨mkCE⟩
instance i59_12 : WR Tryd.prog 62 u59_12 (rS u59_12r u59_13 [1, 2, 3, 7, 8, 18]) := ⟨mkS⟩
instance i59_10 : WR Tryd.prog 62 u59_10 (rCE (.t 21) u59_11 u59_12 [1, 2, 3, 7, 8, 18, 21]) := ⟨mkCE⟩
instance i59_9 : WR Tryd.prog 62 u59_9 (rS u59_9r u59_10 [1, 2, 3, 7, 8, 18]) := ⟨mkS⟩
instance i59_7 : WR Tryd.prog 62 u59_7 (rCE (.t 19) u59_8 u59_9 [1, 2, 3, 7, 8, 18, 19]) := ⟨mkCE⟩
instance i59_6 : WR Tryd.prog 62 u59_6 (rS u59_6r u59_7 [1, 2, 3, 7, 8, 18]) := ⟨mkS⟩
instance i59_5 : WR Tryd.prog 62 u59_5 (rBE 0 u59_6 [1, 2, 3, 7, 8, 18]) := ⟨mkBE⟩
instance i59_4 : WR Tryd.prog 62 u59_4 (rS u59_4r u59_5 [1, 2, 3, 7, 8]) := ⟨mkS⟩
instance i59_18 : WR Tryd.prog 62 u59_18 (rS u59_18r .ret [1, 2, 7, 8]) := ⟨mkS⟩
instance i59_3 : WR Tryd.prog 62 u59_3 (rQ u59_4 u59_18 [1, 2, 3, 7, 8]) := ⟨mkQ⟩
instance i59_2 : WR Tryd.prog 62 u59_2 (rS u59_2r u59_3 [1, 2, 3]) := ⟨mkS⟩
instance i59_1 : WR Tryd.prog 62 u59_1 (rS u59_1r u59_2 [0, 1, 2]) := ⟨mkS⟩
attribute [go_sem] u59_8r u59_11r u59_14r u59_17r u59_15r u59_12r u59_9r u59_6r u59_4r u59_18r u59_2r u59_1r
noncomputable section
def u44_8 : IC := .cond (.t 20) .skip (.exit 0)
def u44_7r : List IOper := [oP 17 (.mv (.t 5)), oP 18 (.mv (.t 4)), oP 19 (.len (.t 18)), oP 20 (.bin .lss (.t 17) (.t 19))]
def u44_7 : IC := .seq (.reg u44_7r) u44_8
def u44_10r : List IOper := [oP 23 (.mv (.t 4)), oP 24 (.mv (.t 5)), oP 25 (.iad 1 (.t 23) (.t 24)), ⟨none, .eff (.st 1 (.t 25) (.k (.int .i64 (-1)))), none⟩]
def u44_10 : IC := .reg u44_10r
def u44_11r : List IOper := [oP 21 (.mv (.t 5)), oP 22 (.bin .add (.t 21) (.k (.int .i64 1))), oP 5 (.mv (.t 22))]
def u44_11 : IC := .reg u44_11r
def u44_9 : IC := .seq (.blk 1 u44_10) u44_11
def u44_6 : IC := .seq u44_7 u44_9
def u44_5 : IC := .blk 0 (.loop u44_6)
def u44_4r : List IOper := [oP 5 (.mv (.k (.int .i64 0)))]
def u44_4 : IC := .seq (.reg u44_4r) u44_5
def u44_18 : IC := .cond (.t 30) .skip (.exit 2)
def u44_17r : List IOper := [oP 26 (.mv (.t 7)), oP 27 (.fad 2 (.t 1)), oP 28 (.ld 1 false (.t 27)), oP 29 (.len (.t 28)), oP 30 (.bin .lss (.t 26) (.t 29))]
def u44_17 : IC := .seq (.reg u44_17r) u44_18
def u44_20r : List IOper := [oP 33 (.mv (.t 6)), oP 34 (.fad 2 (.t 1)), oP 35 (.ld 1 false (.t 34)), oP 36 (.mv (.t 7)), oP 37 (.iad 4 (.t 35) (.t 36)), oP 38 (.fad 3 (.t 37)), oP 39 (.ld 1 false (.t 38)), oP 40 (.bld #[.int .i64 0, .int .i64 0] [(0, 1), (1, 1)] [(0, .t 39), (1, .k (.int .i64 0))]), ⟨some 41, .new (.bsl 2 1 #[.int .i64 0, .int .i64 0] [(0, .t 40)]), none⟩, ⟨some 42, .eff (.app 2 16 (.t 33) (.t 41)), none⟩, oP 6 (.mv (.t 42))]
def u44_20 : IC := .reg u44_20r
def u44_21r : List IOper := [oP 31 (.mv (.t 7)), oP 32 (.bin .add (.t 31) (.k (.int .i64 1))), oP 7 (.mv (.t 32))]
def u44_21 : IC := .reg u44_21r
def u44_19 : IC := .seq (.blk 3 u44_20) u44_21
def u44_16 : IC := .seq u44_17 u44_19
def u44_15 : IC := .blk 2 (.loop u44_16)
def u44_14r : List IOper := [oP 7 (.mv (.k (.int .i64 0)))]
def u44_14 : IC := .seq (.reg u44_14r) u44_15
def u44_25 : IC := .cond (.t 45) .skip (.exit 4)
def u44_24r : List IOper := [oP 43 (.mv (.t 6)), oP 44 (.len (.t 43)), oP 45 (.bin .gtr (.t 44) (.k (.int .i64 0)))]
def u44_24 : IC := .seq (.reg u44_24r) u44_25
def u44_32r : List IOper := [oP 2 (.mv (.k (.slice none 0 0))), oP 3 (.mv (.k (.bool false)))]
def u44_32 : IC := .seq (.reg u44_32r) .ret
def u44_31 : IC := .cond (.t 66) u44_32 .skip
def u44_30r : List IOper := [oP 57 (.fad 0 (.t 8)), oP 58 (.ld 1 false (.t 57)), oP 59 (.mv (.t 4)), oP 60 (.len (.t 59)), oP 61 (.bin .geq (.t 58) (.t 60)), oP 62 (.mv (.t 61)), ⟨some 63, .pur (.fad 1 (.t 8)), some (62, false)⟩, ⟨some 64, .pur (.ld 1 false (.t 63)), some (62, false)⟩, ⟨some 65, .pur (.bin .gtr (.t 64) (.k (.int .i64 48))), some (62, false)⟩, oP 66 (.pick (.t 62) (.k (.bool true)) (.t 65))]
def u44_30 : IC := .seq (.reg u44_30r) u44_31
def u44_39r : List IOper := [oP 2 (.mv (.k (.slice none 0 0))), oP 3 (.mv (.k (.bool false)))]
def u44_39 : IC := .seq (.reg u44_39r) .ret
def u44_38 : IC := .cond (.t 80) u44_39 .skip
def u44_37r : DReg := ⟨[oP 73 (.mv (.t 4)), oP 74 (.fad 0 (.t 8)), oP 75 (.ld 1 false (.t 74)), oP 76 (.iad 1 (.t 73) (.t 75)), oP 77 (.ld 1 false (.t 76)), oP 78 (.fad 1 (.t 8)), oP 79 (.ld 1 false (.t 78)), oP 80 (.bin .neq (.t 77) (.t 79))], [[], [], [1], [0, 2, 1], [3, 0, 2, 1], [], [5], [4, 6, 3, 0, 2, 1, 5]], [(0, none), (1, none), (2, none), (3, none), (4, none), (5, none), (6, none), (7, none)]⟩
def u44_37 : IC := .seq (.drw 8 u44_37r) u44_38
def u44_36 : IC := .seq u44_37 (.exit 5)
def u44_35 : IC := .cond (.t 72) u44_36 .skip
def u44_34r : List IOper := [oP 67 (.mv (.t 4)), oP 68 (.fad 0 (.t 8)), oP 69 (.ld 1 false (.t 68)), oP 70 (.iad 1 (.t 67) (.t 69)), oP 71 (.ld 1 false (.t 70)), oP 72 (.bin .geq (.t 71) (.k (.int .i64 0)))]
def u44_34 : IC := .seq (.reg u44_34r) u44_35
def u44_46r : List IOper := [oP 2 (.mv (.k (.slice none 0 0))), oP 3 (.mv (.k (.bool false)))]
def u44_46 : IC := .seq (.reg u44_46r) .ret
def u44_45 : IC := .cond (.t 113) u44_46 .skip
def u44_44r : List IOper := [oP 100 (.mv (.t 10)), oP 101 (.fad 1 (.t 8)), oP 102 (.ld 1 false (.t 101)), oP 103 (.bin .gtr (.t 100) (.t 102)), oP 104 (.mv (.t 103)), ⟨some 105, .pur (.fad 0 (.t 9)), some (104, false)⟩, ⟨some 106, .pur (.ld 1 false (.t 105)), some (104, false)⟩, ⟨some 107, .pur (.bin .eql (.t 106) (.k (.int .i64 31))), some (104, false)⟩, ⟨some 108, .pur (.mv (.t 107)), some (104, false)⟩, oG 109 (.fad 1 (.t 8)) 108, oG 110 (.ld 1 false (.t 109)) 108, oG 111 (.bin .neq (.t 110) (.k (.int .i64 0))) 108, ⟨some 112, .pur (.pick (.t 108) (.t 111) (.k (.bool false))), some (104, false)⟩, oP 113 (.pick (.t 104) (.k (.bool true)) (.t 112))]
def u44_44 : IC := .seq (.reg u44_44r) u44_45
def u44_43r : List IOper := [oP 94 (.fad 0 (.t 9)), oP 95 (.ld 1 false (.t 94)), ⟨some 96, .call 58 [.t 95], none⟩, oP 93 (.mv (.t 96)), oP 97 (.ext (.t 93) 0), oP 98 (.ext (.t 93) 1), oP 99 (.ext (.t 93) 2), oP 10 (.mv (.t 97)), oP 11 (.mv (.t 98)), oP 12 (.mv (.t 99))]
def u44_43 : IC := .seq (.reg u44_43r) u44_44
def u44_47r : List IOper := [oP 114 (.mv (.t 6)), oP 115 (.ld 2 true (.t 9)), oP 116 (.fad 0 (.t 8)), oP 117 (.ld 1 false (.t 116)), oP 118 (.fad 1 (.t 8)), oP 119 (.ld 1 false (.t 118)), ⟨some 120, .call 59 [.t 115, .t 117, .t 119], none⟩, ⟨some 121, .eff (.app 2 16 (.t 114) (.t 120)), none⟩, oP 6 (.mv (.t 121))]
def u44_47 : IC := .reg u44_47r
def u44_42 : IC := .seq u44_43 u44_47
def u44_41r : List IOper := [oP 87 (.fad 0 (.t 1)), oP 88 (.ld 1 false (.t 87)), oP 89 (.fad 0 (.t 8)), oP 90 (.ld 1 false (.t 89)), oP 91 (.iad 2 (.t 88) (.t 90)), oP 92 (.ld 2 true (.t 91)), ⟨some 9, .new (.box (.k (.agg #[.int .i64 0, .int .i64 0]))), none⟩, ⟨none, .eff (.st 2 (.t 9) (.t 92)), none⟩]
def u44_41 : IC := .seq (.reg u44_41r) u44_42
def u44_40r : List IOper := [oP 81 (.mv (.t 4)), oP 82 (.fad 0 (.t 8)), oP 83 (.ld 1 false (.t 82)), oP 84 (.fad 1 (.t 8)), oP 85 (.ld 1 false (.t 84)), oP 86 (.iad 1 (.t 81) (.t 83)), ⟨none, .eff (.st 1 (.t 86) (.t 85)), none⟩]
def u44_40 : IC := .seq (.reg u44_40r) u44_41
def u44_33 : IC := .seq u44_34 u44_40
def u44_29 : IC := .seq u44_30 u44_33
def u44_28r : List IOper := [oP 52 (.mv (.t 6)), oP 53 (.mv (.t 6)), oP 54 (.len (.t 53)), oP 55 (.bin .sub (.t 54) (.k (.int .i64 1))), oP 56 (.slc 2 (.t 52) none (some (.t 55))), oP 6 (.mv (.t 56))]
def u44_28 : IC := .seq (.reg u44_28r) u44_29
def u44_27r : List IOper := [oP 46 (.mv (.t 6)), oP 47 (.mv (.t 6)), oP 48 (.len (.t 47)), oP 49 (.bin .sub (.t 48) (.k (.int .i64 1))), oP 50 (.iad 2 (.t 46) (.t 49)), oP 51 (.ld 2 true (.t 50)), ⟨some 8, .new (.box (.k (.agg #[.int .i64 0, .int .i64 0]))), none⟩, ⟨none, .eff (.st 2 (.t 8) (.t 51)), none⟩]
def u44_27 : IC := .seq (.reg u44_27r) u44_28
def u44_26 : IC := .blk 5 u44_27
def u44_23 : IC := .seq u44_24 u44_26
def u44_48r : List IOper := [oP 122 (.mv (.t 4)), oP 2 (.mv (.t 122)), oP 3 (.mv (.k (.bool true)))]
def u44_48 : IC := .seq (.reg u44_48r) .ret
def u44_22 : IC := .seq (.blk 4 (.loop u44_23)) u44_48
def u44_13 : IC := .seq u44_14 u44_22
def u44_12r : List IOper := [oP 6 (.mv (.k (.slice none 0 0)))]
def u44_12 : IC := .seq (.reg u44_12r) u44_13
def u44_3 : IC := .seq u44_4 u44_12
def u44_2r : List IOper := [oP 13 (.fad 0 (.t 1)), oP 14 (.ld 1 false (.t 13)), oP 15 (.len (.t 14)), ⟨some 16, .new (.msl 1 8 #[.int .i64 0] (.t 15) (.t 15)), none⟩, oP 4 (.mv (.t 16))]
def u44_2 : IC := .seq (.reg u44_2r) u44_3
def u44_1r : List IOper := [⟨some 1, .new (.box (.t 0)), none⟩, oP 2 (.mv (.k (.slice none 0 0))), oP 3 (.mv (.k (.bool false)))]
def u44_1 : IC := .seq (.reg u44_1r) u44_2
def u44 : IFn := ⟨123, u44_1, [.tmp 2, .tmp 3]⟩
end
theorem isU44 : IsFn Tryd.prog 44 u44 := by unfold IsFn; kernel_rfl
instance i44_8 : WR Tryd.prog 123 u44_8 (rCE (.t 20) .skip (.exit 0) [1, 4, 5, 20]) := ⟨mkCE⟩
instance i44_7 : WR Tryd.prog 123 u44_7 (rS u44_7r u44_8 [1, 4, 5]) := ⟨mkS⟩
instance i44_10 : WR Tryd.prog 123 u44_10 (rE u44_10r [1, 4, 5]) := ⟨mkE⟩
instance i44_11 : WR Tryd.prog 123 u44_11 (rE u44_11r [1, 4, 5]) := ⟨mkE⟩
instance i44_9 : WR Tryd.prog 123 u44_9 (rB 1 u44_10 u44_11 [1, 4, 5]) := ⟨mkB⟩
instance i44_6 : WR Tryd.prog 123 u44_6 (rQ u44_7 u44_9 [1, 4, 5]) := ⟨mkQ⟩
instance i44_5 : WR Tryd.prog 123 u44_5 (rBE 0 (.loop u44_6) [1, 4, 5]) := ⟨mkBE⟩
instance i44_4 : WR Tryd.prog 123 u44_4 (rS u44_4r u44_5 [1, 4]) := ⟨mkS⟩
instance i44_18 : WR Tryd.prog 123 u44_18 (rCE (.t 30) .skip (.exit 2) [1, 4, 6, 7, 30]) := ⟨mkCE⟩
instance i44_17 : WR Tryd.prog 123 u44_17 (rS u44_17r u44_18 [1, 4, 6, 7]) := ⟨mkS⟩
instance i44_20 : WR Tryd.prog 123 u44_20 (rE u44_20r [1, 4, 6, 7]) := ⟨mkE⟩
instance i44_21 : WR Tryd.prog 123 u44_21 (rE u44_21r [1, 4, 6, 7]) := ⟨mkE⟩
instance i44_19 : WR Tryd.prog 123 u44_19 (rB 3 u44_20 u44_21 [1, 4, 6, 7]) := ⟨mkB⟩
instance i44_16 : WR Tryd.prog 123 u44_16 (rQ u44_17 u44_19 [1, 4, 6, 7]) := ⟨mkQ⟩
instance i44_15 : WR Tryd.prog 123 u44_15 (rBE 2 (.loop u44_16) [1, 4, 6, 7]) := ⟨mkBE⟩
instance i44_14 : WR Tryd.prog 123 u44_14 (rS u44_14r u44_15 [1, 4, 6]) := ⟨mkS⟩
instance i44_25 : WR Tryd.prog 123 u44_25 (rCE (.t 45) .skip (.exit 4) [1, 4, 6, 45]) := ⟨mkCE⟩
instance i44_24 : WR Tryd.prog 123 u44_24 (rS u44_24r u44_25 [1, 4, 6]) := ⟨mkS⟩
instance i44_32 : WR Tryd.prog 123 u44_32 (rS u44_32r .ret []) := ⟨mkS⟩
instance i44_31 : WR Tryd.prog 123 u44_31 (rCE (.t 66) u44_32 .skip [1, 4, 6, 8, 66]) := ⟨mkCE⟩
instance i44_30 : WR Tryd.prog 123 u44_30 (rS u44_30r u44_31 [1, 4, 6, 8]) := ⟨mkS⟩
instance i44_39 : WR Tryd.prog 123 u44_39 (rS u44_39r .ret []) := ⟨mkS⟩
instance i44_38 : WR Tryd.prog 123 u44_38 (rCE (.t 80) u44_39 .skip [1, 4, 6, 80]) := ⟨mkCE⟩
instance i44_37 : WR Tryd.prog 123 u44_37 (rP 8 u44_37r u44_38 [1, 4, 6, 8]) := ⟨mkP rfl⟩
instance i44_36 : WR Tryd.prog 123 u44_36 (rQ u44_37 (.exit 5) [1, 4, 6, 8]) := ⟨mkQ⟩
instance i44_35 : WR Tryd.prog 123 u44_35 (rCE (.t 72) u44_36 .skip [1, 4, 6, 8, 72]) := ⟨mkCE⟩
instance i44_34 : WR Tryd.prog 123 u44_34 (rS u44_34r u44_35 [1, 4, 6, 8]) := ⟨mkS⟩
instance i44_46 : WR Tryd.prog 123 u44_46 (rS u44_46r .ret []) := ⟨mkS⟩
instance i44_45 : WR Tryd.prog 123 u44_45 (rCE (.t 113) u44_46 .skip [1, 4, 6, 8, 9, 113]) := ⟨mkCE⟩
instance i44_44 : WR Tryd.prog 123 u44_44 (rS u44_44r u44_45 [1, 4, 6, 8, 9, 10]) := ⟨mkS⟩
instance i44_43 : WR Tryd.prog 123 u44_43 (rS u44_43r u44_44 [1, 4, 6, 8, 9]) := ⟨mkS⟩
instance i44_47 : WR Tryd.prog 123 u44_47 (rE u44_47r [1, 4, 6, 8, 9]) := ⟨mkE⟩
instance i44_42 : WR Tryd.prog 123 u44_42 (rQ u44_43 u44_47 [1, 4, 6, 8, 9]) := ⟨mkQ⟩
instance i44_41 : WR Tryd.prog 123 u44_41 (rS u44_41r u44_42 [1, 4, 6, 8]) := ⟨mkS⟩
instance i44_40 : WR Tryd.prog 123 u44_40 (rS u44_40r u44_41 [1, 4, 6, 8]) := ⟨mkS⟩
instance i44_33 : WR Tryd.prog 123 u44_33 (rQ u44_34 u44_40 [1, 4, 6, 8]) := ⟨mkQ⟩
instance i44_29 : WR Tryd.prog 123 u44_29 (rQ u44_30 u44_33 [1, 4, 6, 8]) := ⟨mkQ⟩
instance i44_28 : WR Tryd.prog 123 u44_28 (rS u44_28r u44_29 [1, 4, 6, 8]) := ⟨mkS⟩
instance i44_27 : WR Tryd.prog 123 u44_27 (rS u44_27r u44_28 [1, 4, 6]) := ⟨mkS⟩
instance i44_26 : WR Tryd.prog 123 u44_26 (rBE 5 u44_27 [1, 4, 6]) := ⟨mkBE⟩
instance i44_23 : WR Tryd.prog 123 u44_23 (rQ u44_24 u44_26 [1, 4, 6]) := ⟨mkQ⟩
instance i44_48 : WR Tryd.prog 123 u44_48 (rS u44_48r .ret [4]) := ⟨mkS⟩
instance i44_22 : WR Tryd.prog 123 u44_22 (rB 4 (.loop u44_23) u44_48 [1, 4, 6]) := ⟨mkB⟩
instance i44_13 : WR Tryd.prog 123 u44_13 (rQ u44_14 u44_22 [1, 4, 6]) := ⟨mkQ⟩
instance i44_12 : WR Tryd.prog 123 u44_12 (rS u44_12r u44_13 [1, 4]) := ⟨mkS⟩
instance i44_3 : WR Tryd.prog 123 u44_3 (rQ u44_4 u44_12 [1, 4]) := ⟨mkQ⟩
instance i44_2 : WR Tryd.prog 123 u44_2 (rS u44_2r u44_3 [1]) := ⟨mkS⟩
instance i44_1 : WR Tryd.prog 123 u44_1 (rS u44_1r u44_2 [0]) := ⟨mkS⟩
attribute [go_sem] u44_7r u44_10r u44_11r u44_4r u44_17r u44_20r u44_21r u44_14r u44_24r u44_32r u44_30r u44_39r u44_37r u44_34r u44_46r u44_44r u44_43r u44_47r u44_41r u44_40r u44_28r u44_27r u44_48r u44_12r u44_2r u44_1r
noncomputable section
def u23_5r : List IOper := [oP 2 (.mv (.k (.int .i64 9)))]
def u23_5 : IC := .seq (.reg u23_5r) .ret
def u23_4 : IC := .cond (.t 45) u23_5 .skip
def u23_3r : List IOper := [oP 6 (.fad 0 (.t 1)), oP 7 (.ld 1 false (.t 6)), oP 8 (.len (.t 7)), oP 9 (.bin .gtr (.t 8) (.k (.int .i64 4000))), oP 10 (.mv (.t 9)), ⟨some 11, .pur (.fad 1 (.t 1)), some (10, false)⟩, ⟨some 12, .pur (.ld 1 false (.t 11)), some (10, false)⟩, ⟨some 13, .pur (.len (.t 12)), some (10, false)⟩, ⟨some 14, .pur (.bin .gtr (.t 13) (.k (.int .i64 200))), some (10, false)⟩, oP 15 (.pick (.t 10) (.k (.bool true)) (.t 14)), oP 16 (.mv (.t 15)), ⟨some 17, .pur (.fad 2 (.t 1)), some (16, false)⟩, ⟨some 18, .pur (.ld 1 false (.t 17)), some (16, false)⟩, ⟨some 19, .pur (.len (.t 18)), some (16, false)⟩, ⟨some 20, .pur (.bin .gtr (.t 19) (.k (.int .i64 512))), some (16, false)⟩, oP 21 (.pick (.t 16) (.k (.bool true)) (.t 20)), oP 22 (.mv (.t 21)), ⟨some 23, .pur (.fad 3 (.t 1)), some (22, false)⟩, ⟨some 24, .pur (.ld 1 false (.t 23)), some (22, false)⟩, ⟨some 25, .pur (.len (.t 24)), some (22, false)⟩, ⟨some 26, .pur (.bin .gtr (.t 25) (.k (.int .i64 16))), some (22, false)⟩, oP 27 (.pick (.t 22) (.k (.bool true)) (.t 26)), oP 28 (.mv (.t 27)), ⟨some 29, .pur (.fad 4 (.t 1)), some (28, false)⟩, ⟨some 30, .pur (.ld 1 false (.t 29)), some (28, false)⟩, ⟨some 31, .pur (.len (.t 30)), some (28, false)⟩, ⟨some 32, .pur (.bin .gtr (.t 31) (.k (.int .i64 128))), some (28, false)⟩, oP 33 (.pick (.t 28) (.k (.bool true)) (.t 32)), oP 34 (.mv (.t 33)), ⟨some 35, .pur (.fad 5 (.t 1)), some (34, false)⟩, ⟨some 36, .pur (.ld 1 false (.t 35)), some (34, false)⟩, ⟨some 37, .call 45 [.t 36, .k (.int .i64 0), .k (.int .i64 128)], some (34, false)⟩, ⟨some 38, .pur (.un .not (.t 37)), some (34, false)⟩, oP 39 (.pick (.t 34) (.k (.bool true)) (.t 38)), oP 40 (.mv (.t 39)), ⟨some 41, .pur (.fad 6 (.t 1)), some (40, false)⟩, ⟨some 42, .pur (.ld 1 false (.t 41)), some (40, false)⟩, ⟨some 43, .call 45 [.t 42, .k (.int .i64 0), .k (.int .i64 128)], some (40, false)⟩, ⟨some 44, .pur (.un .not (.t 43)), some (40, false)⟩, oP 45 (.pick (.t 40) (.k (.bool true)) (.t 44))]
def u23_3 : IC := .seq (.reg u23_3r) u23_4
def u23_9r : List IOper := [oP 2 (.mv (.k (.int .i64 51)))]
def u23_9 : IC := .seq (.reg u23_9r) .ret
def u23_8 : IC := .cond (.t 48) u23_9 .skip
def u23_7r : List IOper := [oP 46 (.ld 7 true (.t 1)), ⟨some 47, .call 46 [.t 46], none⟩, oP 48 (.un .not (.t 47))]
def u23_7 : IC := .seq (.reg u23_7r) u23_8
def u23_13r : List IOper := [oP 2 (.mv (.k (.int .i64 54)))]
def u23_13 : IC := .seq (.reg u23_13r) .ret
def u23_12 : IC := .cond (.t 51) u23_13 .skip
def u23_11r : List IOper := [oP 49 (.ld 7 true (.t 1)), ⟨some 50, .call 47 [.t 49], none⟩, oP 51 (.un .not (.t 50))]
def u23_11 : IC := .seq (.reg u23_11r) u23_12
def u23_19 : IC := .cond (.t 56) .skip (.exit 0)
def u23_18r : List IOper := [oP 52 (.mv (.t 3)), oP 53 (.fad 2 (.t 1)), oP 54 (.ld 1 false (.t 53)), oP 55 (.len (.t 54)), oP 56 (.bin .lss (.t 52) (.t 55))]
def u23_18 : IC := .seq (.reg u23_18r) u23_19
def u23_23r : List IOper := [oP 2 (.mv (.k (.int .i64 66)))]
def u23_23 : IC := .seq (.reg u23_23r) .ret
def u23_22 : IC := .cond (.t 71) u23_23 .skip
def u23_21r : DReg := ⟨[oP 59 (.fad 2 (.t 1)), oP 60 (.ld 1 false (.t 59)), oP 61 (.mv (.t 3)), oP 62 (.bin .sub (.t 61) (.k (.int .i64 1))), oP 63 (.iad 4 (.t 60) (.t 62)), oP 64 (.ld 4 true (.t 63)), oP 65 (.fad 2 (.t 1)), oP 66 (.ld 1 false (.t 65)), oP 67 (.mv (.t 3)), oP 68 (.iad 4 (.t 66) (.t 67)), oP 69 (.ld 4 true (.t 68)), ⟨some 70, .call 48 [.t 64, .t 69], none⟩, oP 71 (.un .not (.t 70))], [[], [0], [], [2], [1, 3, 0, 2], [4, 1, 3, 0, 2], [], [6], [], [7, 8, 6], [9, 7, 8, 6], [5, 10, 4, 1, 3, 0, 2, 9, 7, 8, 6], [11, 5, 10, 4, 1, 3, 0, 2, 9, 7, 8, 6]], [(0, none), (1, none), (2, none), (3, none), (4, none), (5, none), (6, none), (7, none), (8, none), (9, none), (10, none), (11, some []), (12, none)]⟩
def u23_21 : IC := .seq (.drw 13 u23_21r) u23_22
def u23_24r : List IOper := [oP 57 (.mv (.t 3)), oP 58 (.bin .add (.t 57) (.k (.int .i64 1))), oP 3 (.mv (.t 58))]
def u23_24 : IC := .reg u23_24r
def u23_20 : IC := .seq (.blk 1 u23_21) u23_24
def u23_17 : IC := .seq u23_18 u23_20
def u23_16 : IC := .blk 0 (.loop u23_17)
def u23_15r : List IOper := [oP 3 (.mv (.k (.int .i64 1)))]
def u23_15 : IC := .seq (.reg u23_15r) u23_16
def u23_29r : List IOper := [oP 2 (.mv (.k (.int .i64 53)))]
def u23_29 : IC := .seq (.reg u23_29r) .ret
def u23_28 : IC := .cond (.t 78) u23_29 .skip
def u23_27r : List IOper := [oP 77 (.mv (.t 5)), oP 78 (.un .not (.t 77))]
def u23_27 : IC := .seq (.reg u23_27r) u23_28
def u23_26r : List IOper := [oP 73 (.ld 7 true (.t 1)), ⟨some 74, .call 44 [.t 73], none⟩, oP 72 (.mv (.t 74)), oP 75 (.ext (.t 72) 0), oP 76 (.ext (.t 72) 1), oP 4 (.mv (.t 75)), oP 5 (.mv (.t 76))]
def u23_26 : IC := .seq (.reg u23_26r) u23_27
def u23_30r : List IOper := [oP 2 (.mv (.k (.int .i64 0)))]
def u23_30 : IC := .seq (.reg u23_30r) .ret
def u23_25 : IC := .seq u23_26 u23_30
def u23_14 : IC := .seq u23_15 u23_25
def u23_10 : IC := .seq u23_11 u23_14
def u23_6 : IC := .seq u23_7 u23_10
def u23_2 : IC := .seq u23_3 u23_6
def u23_1r : List IOper := [⟨some 1, .new (.box (.t 0)), none⟩, oP 2 (.mv (.k (.int .i64 0)))]
def u23_1 : IC := .seq (.reg u23_1r) u23_2
def u23 : IFn := ⟨79, u23_1, [.tmp 2]⟩
end
theorem isU23 : IsFn Tryd.prog 23 u23 := by unfold IsFn; kernel_rfl
instance i23_5 : WR Tryd.prog 79 u23_5 (rS u23_5r .ret []) := ⟨mkS⟩
instance i23_4 : WR Tryd.prog 79 u23_4 (rCE (.t 45) u23_5 .skip [1, 45]) := ⟨mkCE⟩
instance i23_3 : WR Tryd.prog 79 u23_3 (rS u23_3r u23_4 [1]) := ⟨mkS⟩
instance i23_9 : WR Tryd.prog 79 u23_9 (rS u23_9r .ret []) := ⟨mkS⟩
instance i23_8 : WR Tryd.prog 79 u23_8 (rCE (.t 48) u23_9 .skip [1, 48]) := ⟨mkCE⟩
instance i23_7 : WR Tryd.prog 79 u23_7 (rS u23_7r u23_8 [1]) := ⟨mkS⟩
instance i23_13 : WR Tryd.prog 79 u23_13 (rS u23_13r .ret []) := ⟨mkS⟩
instance i23_12 : WR Tryd.prog 79 u23_12 (rCE (.t 51) u23_13 .skip [1, 51]) := ⟨mkCE⟩
instance i23_11 : WR Tryd.prog 79 u23_11 (rS u23_11r u23_12 [1]) := ⟨mkS⟩
instance i23_19 : WR Tryd.prog 79 u23_19 (rCE (.t 56) .skip (.exit 0) [1, 3, 56]) := ⟨mkCE⟩
instance i23_18 : WR Tryd.prog 79 u23_18 (rS u23_18r u23_19 [1, 3]) := ⟨mkS⟩
instance i23_23 : WR Tryd.prog 79 u23_23 (rS u23_23r .ret []) := ⟨mkS⟩
instance i23_22 : WR Tryd.prog 79 u23_22 (rCE (.t 71) u23_23 .skip [1, 3, 71]) := ⟨mkCE⟩
instance i23_21 : WR Tryd.prog 79 u23_21 (rP 13 u23_21r u23_22 [1, 3]) := ⟨mkP rfl⟩
instance i23_24 : WR Tryd.prog 79 u23_24 (rE u23_24r [1, 3]) := ⟨mkE⟩
instance i23_20 : WR Tryd.prog 79 u23_20 (rB 1 u23_21 u23_24 [1, 3]) := ⟨mkB⟩
instance i23_17 : WR Tryd.prog 79 u23_17 (rQ u23_18 u23_20 [1, 3]) := ⟨mkQ⟩
instance i23_16 : WR Tryd.prog 79 u23_16 (rBE 0 (.loop u23_17) [1, 3]) := ⟨mkBE⟩
instance i23_15 : WR Tryd.prog 79 u23_15 (rS u23_15r u23_16 [1]) := ⟨mkS⟩
instance i23_29 : WR Tryd.prog 79 u23_29 (rS u23_29r .ret []) := ⟨mkS⟩
instance i23_28 : WR Tryd.prog 79 u23_28 (rCE (.t 78) u23_29 .skip [78]) := ⟨mkCE⟩
instance i23_27 : WR Tryd.prog 79 u23_27 (rS u23_27r u23_28 [5]) := ⟨mkS⟩
instance i23_26 : WR Tryd.prog 79 u23_26 (rS u23_26r u23_27 [1]) := ⟨mkS⟩
instance i23_30 : WR Tryd.prog 79 u23_30 (rS u23_30r .ret []) := ⟨mkS⟩
instance i23_25 : WR Tryd.prog 79 u23_25 (rQ u23_26 u23_30 [1]) := ⟨mkQ⟩
instance i23_14 : WR Tryd.prog 79 u23_14 (rQ u23_15 u23_25 [1]) := ⟨mkQ⟩
instance i23_10 : WR Tryd.prog 79 u23_10 (rQ u23_11 u23_14 [1]) := ⟨mkQ⟩
instance i23_6 : WR Tryd.prog 79 u23_6 (rQ u23_7 u23_10 [1]) := ⟨mkQ⟩
instance i23_2 : WR Tryd.prog 79 u23_2 (rQ u23_3 u23_6 [1]) := ⟨mkQ⟩
instance i23_1 : WR Tryd.prog 79 u23_1 (rS u23_1r u23_2 [0]) := ⟨mkS⟩
attribute [go_sem] u23_5r u23_3r u23_9r u23_7r u23_13r u23_11r u23_18r u23_23r u23_21r u23_24r u23_15r u23_29r u23_27r u23_26r u23_30r u23_1r
noncomputable section
def u24_5r : List IOper := [oP 4 (.mv (.k (.bool false)))]
def u24_5 : IC := .seq (.reg u24_5r) .ret
def u24_4 : IC := .cond (.t 10) u24_5 .skip
def u24_3r : List IOper := [oP 6 (.mv (.t 0)), oP 7 (.len (.t 6)), oP 8 (.mv (.t 1)), oP 9 (.len (.t 8)), oP 10 (.bin .neq (.t 7) (.t 9))]
def u24_3 : IC := .seq (.reg u24_3r) u24_4
def u24_11 : IC := .cond (.t 14) .skip (.exit 0)
def u24_10r : List IOper := [oP 11 (.mv (.t 5)), oP 12 (.mv (.t 0)), oP 13 (.len (.t 12)), oP 14 (.bin .lss (.t 11) (.t 13))]
def u24_10 : IC := .seq (.reg u24_10r) u24_11
def u24_15r : List IOper := [oP 4 (.mv (.k (.bool false)))]
def u24_15 : IC := .seq (.reg u24_15r) .ret
def u24_14 : IC := .cond (.t 25) u24_15 .skip
def u24_13r : DReg := ⟨[oP 17 (.mv (.t 0)), oP 18 (.mv (.t 5)), oP 19 (.iad 1 (.t 17) (.t 18)), oP 20 (.ld 1 false (.t 19)), oP 21 (.mv (.t 1)), oP 22 (.mv (.t 5)), oP 23 (.iad 1 (.t 21) (.t 22)), oP 24 (.ld 1 false (.t 23)), oP 25 (.bin .neq (.t 20) (.t 24))], [[], [], [0, 1], [2, 0, 1], [], [], [4, 5], [6, 4, 5], [3, 7, 2, 0, 1, 6, 4, 5]], [(0, none), (1, none), (2, none), (3, none), (4, none), (5, none), (6, none), (7, none), (8, none)]⟩
def u24_13 : IC := .seq (.drw 9 u24_13r) u24_14
def u24_16r : List IOper := [oP 15 (.mv (.t 5)), oP 16 (.bin .add (.t 15) (.k (.int .i64 1))), oP 5 (.mv (.t 16))]
def u24_16 : IC := .reg u24_16r
def u24_12 : IC := .seq (.blk 1 u24_13) u24_16
def u24_9 : IC := .seq u24_10 u24_12
def u24_8 : IC := .blk 0 (.loop u24_9)
def u24_7r : List IOper := [oP 5 (.mv (.k (.int .i64 0)))]
def u24_7 : IC := .seq (.reg u24_7r) u24_8
def u24_17r : List IOper := [oP 4 (.mv (.k (.bool true)))]
def u24_17 : IC := .seq (.reg u24_17r) .ret
def u24_6 : IC := .seq u24_7 u24_17
def u24_2 : IC := .seq u24_3 u24_6
def u24_1r : List IOper := [oP 4 (.mv (.k (.bool false)))]
def u24_1 : IC := .seq (.reg u24_1r) u24_2
def u24 : IFn := ⟨26, u24_1, [.tmp 4]⟩
end
theorem isU24 : IsFn Tryd.prog 24 u24 := by unfold IsFn; kernel_rfl
instance i24_5 : WR Tryd.prog 26 u24_5 (rS u24_5r .ret []) := ⟨mkS⟩
instance i24_4 : WR Tryd.prog 26 u24_4 (rCE (.t 10) u24_5 .skip [0, 1, 10]) := ⟨mkCE⟩
instance i24_3 : WR Tryd.prog 26 u24_3 (rS u24_3r u24_4 [0, 1]) := ⟨mkS⟩
instance i24_11 : WR Tryd.prog 26 u24_11 (rCE (.t 14) .skip (.exit 0) [0, 1, 5, 14]) := ⟨mkCE⟩
instance i24_10 : WR Tryd.prog 26 u24_10 (rS u24_10r u24_11 [0, 1, 5]) := ⟨mkS⟩
instance i24_15 : WR Tryd.prog 26 u24_15 (rS u24_15r .ret []) := ⟨mkS⟩
instance i24_14 : WR Tryd.prog 26 u24_14 (rCE (.t 25) u24_15 .skip [0, 1, 5, 25]) := ⟨mkCE⟩
instance i24_13 : WR Tryd.prog 26 u24_13 (rP 9 u24_13r u24_14 [0, 1, 5]) := ⟨mkP rfl⟩
instance i24_16 : WR Tryd.prog 26 u24_16 (rE u24_16r [0, 1, 5]) := ⟨mkE⟩
instance i24_12 : WR Tryd.prog 26 u24_12 (rB 1 u24_13 u24_16 [0, 1, 5]) := ⟨mkB⟩
instance i24_9 : WR Tryd.prog 26 u24_9 (rQ u24_10 u24_12 [0, 1, 5]) := ⟨mkQ⟩
instance i24_8 : WR Tryd.prog 26 u24_8 (rBE 0 (.loop u24_9) [0, 1, 5]) := ⟨mkBE⟩
instance i24_7 : WR Tryd.prog 26 u24_7 (rS u24_7r u24_8 [0, 1]) := ⟨mkS⟩
instance i24_17 : WR Tryd.prog 26 u24_17 (rS u24_17r .ret []) := ⟨mkS⟩
instance i24_6 : WR Tryd.prog 26 u24_6 (rQ u24_7 u24_17 [0, 1]) := ⟨mkQ⟩
instance i24_2 : WR Tryd.prog 26 u24_2 (rQ u24_3 u24_6 [0, 1]) := ⟨mkQ⟩
instance i24_1 : WR Tryd.prog 26 u24_1 (rS u24_1r u24_2 [0, 1]) := ⟨mkS⟩
attribute [go_sem] u24_5r u24_3r u24_10r u24_15r u24_13r u24_16r u24_7r u24_17r u24_1r
end Go.Proofs.YtcallbfckjlagaaDoor
set_option maxHeartbeats 4000000
set_option maxRecDepth 100000
set_option linter.unusedSimpArgs false
set_option linter.unusedVariables false
namespace Go.Proofs.YtcallbfckjlagaaDoor
open Go.Eng (IC IOper DReg IFn IsFn)
open Go.Sym Go.Pb
theorem c_in (n lo hi : Int) : PC Tryd.prog 45 [I64 n, I64 lo, I64 hi] (.bool (inM n lo hi)) := by
  refine PC.of mixedU isU45 (Nat.le_of_ble_eq_true rfl) (by simp [DV.nlL, DV.nl, nlL_ints, nlL_strs, nlL_instrs, nlL_entries, nlL_stp]) (by simp [DV.nlL, DV.nl, nlL_ints, nlL_strs, nlL_instrs, nlL_entries, nlL_stp]) ?_
  show IW Tryd.prog 15 u45_1 ⟨argT _, _, _⟩ (rt [.tmp 6] _)
  repeat' ((first | with_reducible refine wr ?_ | ((with_reducible refine wb2 ?_ ?_) <;> (intro hb; try simp only [hb])) | fail) <;> try simp only [go_sem, seval])
  all_goals (refine pc_ret ?_; simp_all [inM] <;> omega)
theorem c_less (a b : Ent) : PC Tryd.prog 48 [a.v, b.v] (.bool (lessM a b)) := by
  refine PC.of mixedU isU48 (Nat.le_of_ble_eq_true rfl) (by simp [DV.nlL, DV.nl, nlL_ints, nlL_strs, nlL_instrs, nlL_entries, nlL_stp]) (by simp [DV.nlL, DV.nl, nlL_ints, nlL_strs, nlL_instrs, nlL_entries, nlL_stp]) ?_
  show IW Tryd.prog 30 u48_1 ⟨argT _, _, _⟩ (rt [.tmp 4] _)
  repeat' ((first | with_reducible refine wr ?_ | ((with_reducible refine wb2 ?_ ?_) <;> (intro hb; try simp only [hb])) | fail) <;> try simp only [go_sem, seval])
  all_goals (refine pc_ret ?_; simp_all [lessM])
theorem c_eff (op : Int) : PC Tryd.prog 58 [I64 op] (.tup [I64 (effM op).1, I64 (effM op).2.1, I64 (effM op).2.2]) := by
  refine PC.of mixedU isU58 (Nat.le_of_ble_eq_true rfl) (by simp [DV.nlL, DV.nl, nlL_ints, nlL_strs, nlL_instrs, nlL_entries, nlL_stp]) (by simp [DV.nlL, DV.nl, nlL_ints, nlL_strs, nlL_instrs, nlL_entries, nlL_stp]) ?_
  show IW Tryd.prog 60 u58_1 ⟨argT _, _, _⟩ (rt [.tmp 2, .tmp 3, .tmp 4] _)
  repeat' ((first | with_reducible refine wr ?_ | ((with_reducible refine wb2 ?_ ?_) <;> (intro hb; try simp only [hb])) | fail) <;> try simp only [go_sem, seval])
  all_goals (refine pc_ret ?_; simp_all [effM])
theorem c_printable (s : List UInt8) (hs : s.length ≤ 140737488355328) : PC Tryd.prog 60 [.str s] (.bool (printM s)) := by
  refine PC.of mixedU isU60 (Nat.le_of_ble_eq_true rfl) (by simp [DV.nlL, DV.nl, nlL_ints, nlL_strs, nlL_instrs, nlL_entries, nlL_stp]) (by simp [DV.nlL, DV.nl, nlL_ints, nlL_strs, nlL_instrs, nlL_entries, nlL_stp]) ?_
  show IW Tryd.prog 23 u60_1 ⟨argT _, _, _⟩ (rt [.tmp 2] _)
  repeat' ((first | with_reducible refine wr ?_ | ((with_reducible refine wb2 ?_ ?_) <;> (intro hb; try simp only [hb])) | fail) <;> try simp only [go_sem, seval])
  refine i_loop (fun k : Nat => [(0, .str s), (3, I64 k)]) (fun _ => nil) (fun k _ => k ≤ s.length ∧ (s.take k).all printB = true) (fun k => s.length - k) 0 (by simp [tmLe, tm, Tm.upd]) (Sub.nil _) (by simp) ?_
  rintro k c ⟨hk, he⟩
  by_cases hlt : k < s.length
  · have hd : decide ((k : Int) < s.length) = true := by simpa using hlt
    have hg := List.getElem?_eq_getElem hlt
    have hw := w64 (n := (k : Int) + 1) (by omega) (by omega)
    repeat' ((first | with_reducible refine wr ?_ | ((with_reducible refine wb2 ?_ ?_) <;> (intro hb; try simp only [hb])) | fail) <;> try simp only [go_sem, seval, hd, hg, hw])
    · refine pc_ret ?_
      rw [printM, all_fail printB s k _ hg (by simp_all [printB]; omega)]; rfl
    · refine pc_ret ?_
      rw [printM, all_fail printB s k _ hg (by simp_all [printB]; omega)]; rfl
    · exact ⟨k + 1, rfl, Sub.refl _, inv ⟨by omega, by rw [all_take printB s k _ hg he]; simp_all [printB]; omega⟩, by omega⟩
  · have hd : decide ((k : Int) < s.length) = false := by simpa using hlt
    repeat' ((first | with_reducible refine wr ?_ | ((with_reducible refine wb2 ?_ ?_) <;> (intro hb; try simp only [hb])) | fail) <;> try simp only [go_sem, seval, hd])
    refine pc_ret ?_
    rw [printM, all_done printB s k (by omega) he, Bool.true_and]; simp; omega
theorem c_entry (c : Prg) (hl : Lim c) (e : Ent) : PC Tryd.prog 61 [c.v, e.v] (.bool (entryM c e)) := by
  obtain ⟨wp, wv, ws, wi, wt, we, -, -, -, -, -⟩ := hl
  refine PC.of mixedU isU61 (Nat.le_of_ble_eq_true rfl) (by simp [DV.nlL, DV.nl, nlL_ints, nlL_strs, nlL_instrs, nlL_entries, nlL_stp]) (by simp [DV.nlL, DV.nl, nlL_ints, nlL_strs, nlL_instrs, nlL_entries, nlL_stp]) ?_
  show IW Tryd.prog 43 u61_1 ⟨argT _, _, _⟩ (rt [.tmp 4] _)
  repeat' ((first | with_reducible refine wr ?_ | ((with_reducible refine wb2 ?_ ?_) <;> (intro hb; try simp only [hb])) | ((with_reducible refine AC.call ((c_in _ _ _).at _ _) ?_); rintro _ _ _ ⟨rfl, rfl, rfl⟩ -) | fail) <;> try simp only [go_sem, seval, wp, wt, we])
  all_goals (refine pc_ret ?_; simp_all [entryM] <;> rfl)
theorem c_number (c : Prg) (hl : Lim c) (i : Ins) : PC Tryd.prog 62 [c.v, i.v] (.bool (numberM c i)) := by
  obtain ⟨wp, wv, ws, wi, wt, we, -, -, -, -, -⟩ := hl
  refine PC.of mixedU isU62 (Nat.le_of_ble_eq_true rfl) (by simp [DV.nlL, DV.nl, nlL_ints, nlL_strs, nlL_instrs, nlL_entries, nlL_stp]) (by simp [DV.nlL, DV.nl, nlL_ints, nlL_strs, nlL_instrs, nlL_entries, nlL_stp]) ?_
  show IW Tryd.prog 87 u62_1 ⟨argT _, _, _⟩ (rt [.tmp 4] _)
  repeat' ((first | with_reducible refine wr ?_ | ((with_reducible refine wb2 ?_ ?_) <;> (intro hb; try simp only [hb])) | ((with_reducible refine AC.call ((c_in _ _ _).at _ _) ?_); rintro _ _ _ ⟨rfl, rfl, rfl⟩ -) | ((with_reducible refine AC.call ((c_eff _).at _ _) ?_); rintro _ _ _ ⟨rfl, rfl, rfl⟩ -) | fail) <;> try simp only [go_sem, seval, wp, wv, ws, wt, we])
  all_goals (refine pc_ret ?_; simp_all [numberM, kindM] <;> rfl)
theorem c_jumps (c : Prg) (hl : Lim c) : PC Tryd.prog 47 [c.v] (.bool (jumpsM c)) := by
  obtain ⟨wp, wv, ws, wi, wt, we, li, ls, le, lp, lv⟩ := hl
  refine PC.of mixedU isU47 (Nat.le_of_ble_eq_true rfl) (by simp [DV.nlL, DV.nl, nlL_ints, nlL_strs, nlL_instrs, nlL_entries, nlL_stp]) (by simp [DV.nlL, DV.nl, nlL_ints, nlL_strs, nlL_instrs, nlL_entries, nlL_stp]) ?_
  show IW Tryd.prog 61 u47_1 ⟨argT _, _, _⟩ (rt [.tmp 2] _)
  repeat' ((first | with_reducible refine wr ?_ | ((with_reducible refine wb2 ?_ ?_) <;> (intro hb; try simp only [hb])) | fail) <;> try simp only [go_sem, seval])
  refine i_loop (fun k : Nat => [(1, .ptr 0 0), (3, I64 k)]) (fun _ => nil.upd 0 ⟨0, true, c.cs⟩) (fun k cc => 1 ≤ cc ∧ k ≤ c.instrs.length ∧ (c.instrs.take k).all (jumpI c) = true) (fun k => c.instrs.length - k) 0 (by simp [tmLe, tm, Tm.upd]) (Sub.refl _) (by simp <;> omega) ?_
  rintro k cc ⟨h1c, hk, he⟩
  by_cases hlt : k < c.instrs.length
  · have hd : decide ((k : Int) < c.instrs.length) = true := by simpa using hlt
    have hg := List.getElem?_eq_getElem hlt
    have hw := w64 (n := (k : Int) + 1) (by omega) (by omega)
    repeat' ((first | with_reducible refine wr ?_ | ((with_reducible refine wb2 ?_ ?_) <;> (intro hb; try simp only [hb])) | ((with_reducible refine AC.call ((c_eff _).at _ _) ?_); rintro _ _ _ ⟨rfl, rfl, rfl⟩ -) | ((with_reducible refine AC.call ((c_in _ _ _).at _ _) ?_); rintro _ _ _ ⟨rfl, rfl, rfl⟩ -) | fail) <;> try simp only [go_sem, seval, hd, hg, hw, wi])
    all_goals first
      | (refine pc_ret ?_; have hf := all_fail (jumpI c) c.instrs k _ hg (by simp_all [jumpI]); simp [jumpsM, hf])
      | exact ⟨k + 1, rfl, by first | exact Sub.refl _ | (intro j b hj; simp only [Hp.upd, nil] at hj ⊢; split at hj <;> simp_all <;> omega), inv ⟨by omega, by omega, by rw [all_take (jumpI c) c.instrs k _ hg he]; simp_all [jumpI]⟩, by omega⟩
  have hd : decide ((k : Int) < c.instrs.length) = false := by simpa using hlt
  have hall := all_done (jumpI c) c.instrs k (by omega) he
  clear he hk
  repeat' ((first | with_reducible refine wr ?_ | ((with_reducible refine wb2 ?_ ?_) <;> (intro hb; try simp only [hb])) | ((with_reducible refine AC.call ((c_eff _).at _ _) ?_); rintro _ _ _ ⟨rfl, rfl, rfl⟩ -) | ((with_reducible refine AC.call ((c_in _ _ _).at _ _) ?_); rintro _ _ _ ⟨rfl, rfl, rfl⟩ -) | fail) <;> try simp only [go_sem, seval, hd, wi])
  clear hlt hd
  refine i_loop (fun k : Nat => [(1, .ptr 0 0), (7, I64 k)]) (fun _ => nil.upd 0 ⟨0, true, c.cs⟩) (fun k cc => 1 ≤ cc ∧ k ≤ c.entries.length ∧ (c.entries.take k).all (jumpE c) = true) (fun k => c.entries.length - k) 0 (by simp [tmLe, tm, Tm.upd]) (Sub.refl _) (by simp <;> omega) ?_
  rintro k cc ⟨h1c, hk, he⟩
  by_cases hlt : k < c.entries.length
  · have hd : decide ((k : Int) < c.entries.length) = true := by simpa using hlt
    have hg := List.getElem?_eq_getElem hlt
    have hw := w64 (n := (k : Int) + 1) (by omega) (by omega)
    repeat' ((first | with_reducible refine wr ?_ | ((with_reducible refine wb2 ?_ ?_) <;> (intro hb; try simp only [hb])) | ((with_reducible refine AC.call ((c_eff _).at _ _) ?_); rintro _ _ _ ⟨rfl, rfl, rfl⟩ -) | ((with_reducible refine AC.call ((c_in _ _ _).at _ _) ?_); rintro _ _ _ ⟨rfl, rfl, rfl⟩ -) | fail) <;> try simp only [go_sem, seval, hd, hg, hw, wi])
    all_goals first
      | (refine pc_ret ?_; have hf := all_fail (jumpE c) c.entries k _ hg (by simp_all [jumpE]); simp [jumpsM, hf])
      | exact ⟨k + 1, rfl, by first | exact Sub.refl _ | (intro j b hj; simp only [Hp.upd, nil] at hj ⊢; split at hj <;> simp_all <;> omega), inv ⟨by omega, by omega, by rw [all_take (jumpE c) c.entries k _ hg he]; simp_all [jumpE]⟩, by omega⟩
  have hd : decide ((k : Int) < c.entries.length) = false := by simpa using hlt
  have hall := all_done (jumpE c) c.entries k (by omega) he
  clear he hk
  repeat' ((first | with_reducible refine wr ?_ | ((with_reducible refine wb2 ?_ ?_) <;> (intro hb; try simp only [hb])) | ((with_reducible refine AC.call ((c_eff _).at _ _) ?_); rintro _ _ _ ⟨rfl, rfl, rfl⟩ -) | ((with_reducible refine AC.call ((c_in _ _ _).at _ _) ?_); rintro _ _ _ ⟨rfl, rfl, rfl⟩ -) | fail) <;> try simp only [go_sem, seval, hd, wi])
  clear hlt hd
  refine pc_ret ?_
  simp_all [jumpsM]
theorem c_parts (c : Prg) (hl : Lim c) (hs : ∀ s ∈ c.strings, s.length ≤ 140737488355328) : PC Tryd.prog 46 [c.v] (.bool (partsM c)) := by
  have hl0 := hl
  obtain ⟨wp, wv, ws, wi, wt, we, li, ls, le, lp, lv⟩ := hl
  refine PC.of mixedU isU46 (Nat.le_of_ble_eq_true rfl) (by simp [DV.nlL, DV.nl, nlL_ints, nlL_strs, nlL_instrs, nlL_entries, nlL_stp]) (by simp [DV.nlL, DV.nl, nlL_ints, nlL_strs, nlL_instrs, nlL_entries, nlL_stp]) ?_
  show IW Tryd.prog 80 u46_1 ⟨argT _, _, _⟩ (rt [.tmp 2] _)
  repeat' ((first | with_reducible refine wr ?_ | ((with_reducible refine wb2 ?_ ?_) <;> (intro hb; try simp only [hb])) | fail) <;> try simp only [go_sem, seval])
  refine i_loop (fun k : Nat => [(1, .ptr 0 0), (3, I64 k)]) (fun _ => nil.upd 0 ⟨0, true, c.cs⟩) (fun k cc => 1 ≤ cc ∧ k ≤ c.strings.length ∧ (c.strings.take k).all printM = true) (fun k => c.strings.length - k) 0 (by simp [tmLe, tm, Tm.upd]) (Sub.refl _) (by simp <;> omega) ?_
  rintro k cc ⟨h1c, hk, he⟩
  by_cases hlt : k < c.strings.length
  · have hd : decide ((k : Int) < c.strings.length) = true := by simpa using hlt
    have hg := List.getElem?_eq_getElem hlt
    have hw := w64 (n := (k : Int) + 1) (by omega) (by omega)
    repeat' ((first | with_reducible refine wr ?_ | ((with_reducible refine wb2 ?_ ?_) <;> (intro hb; try simp only [hb])) | ((with_reducible refine AC.call ((c_printable _ (hs _ (List.getElem_mem _))).at _ _) ?_); rintro _ _ _ ⟨rfl, rfl, rfl⟩ -) | fail) <;> try simp only [go_sem, seval, hd, hg, hw])
    all_goals first
      | (refine pc_ret ?_; have hf := all_fail printM c.strings k _ hg (by simp_all []); simp [partsM, hf])
      | exact ⟨k + 1, rfl, by first | exact Sub.refl _ | (intro j b hj; simp only [Hp.upd, nil] at hj ⊢; split at hj <;> simp_all <;> omega), inv ⟨by omega, by omega, by rw [all_take printM c.strings k _ hg he]; simp_all []⟩, by omega⟩
  have hd : decide ((k : Int) < c.strings.length) = false := by simpa using hlt
  have hall := all_done printM c.strings k (by omega) he
  clear he hk
  repeat' ((first | with_reducible refine wr ?_ | ((with_reducible refine wb2 ?_ ?_) <;> (intro hb; try simp only [hb])) | ((with_reducible refine AC.call ((c_printable _ (hs _ (List.getElem_mem _))).at _ _) ?_); rintro _ _ _ ⟨rfl, rfl, rfl⟩ -) | fail) <;> try simp only [go_sem, seval, hd])
  clear hlt hd
  refine i_loop (fun k : Nat => [(1, .ptr 0 0), (4, I64 k)]) (fun _ => nil.upd 0 ⟨0, true, c.cs⟩) (fun k cc => 1 ≤ cc ∧ k ≤ c.prios.length ∧ (c.prios.take k).all (fun n => inM n 0 99) = true) (fun k => c.prios.length - k) 0 (by simp [tmLe, tm, Tm.upd]) (Sub.refl _) (by simp <;> omega) ?_
  rintro k cc ⟨h1c, hk, he⟩
  by_cases hlt : k < c.prios.length
  · have hd : decide ((k : Int) < c.prios.length) = true := by simpa using hlt
    have hg := List.getElem?_eq_getElem hlt
    have hw := w64 (n := (k : Int) + 1) (by omega) (by omega)
    repeat' ((first | with_reducible refine wr ?_ | ((with_reducible refine wb2 ?_ ?_) <;> (intro hb; try simp only [hb])) | ((with_reducible refine AC.call ((c_in _ _ _).at _ _) ?_); rintro _ _ _ ⟨rfl, rfl, rfl⟩ -) | fail) <;> try simp only [go_sem, seval, hd, hg, hw])
    all_goals first
      | (refine pc_ret ?_; have hf := all_fail (fun n => inM n 0 99) c.prios k _ hg (by simp_all []); simp [partsM, hf])
      | exact ⟨k + 1, rfl, by first | exact Sub.refl _ | (intro j b hj; simp only [Hp.upd, nil] at hj ⊢; split at hj <;> simp_all <;> omega), inv ⟨by omega, by omega, by rw [all_take (fun n => inM n 0 99) c.prios k _ hg he]; simp_all []⟩, by omega⟩
  have hd : decide ((k : Int) < c.prios.length) = false := by simpa using hlt
  have hall := all_done (fun n => inM n 0 99) c.prios k (by omega) he
  clear he hk
  repeat' ((first | with_reducible refine wr ?_ | ((with_reducible refine wb2 ?_ ?_) <;> (intro hb; try simp only [hb])) | ((with_reducible refine AC.call ((c_in _ _ _).at _ _) ?_); rintro _ _ _ ⟨rfl, rfl, rfl⟩ -) | fail) <;> try simp only [go_sem, seval, hd])
  clear hlt hd
  refine i_loop (fun k : Nat => [(1, .ptr 0 0), (5, I64 k)]) (fun _ => nil.upd 0 ⟨0, true, c.cs⟩) (fun k cc => 1 ≤ cc ∧ k ≤ c.vars.length ∧ (c.vars.take k).all (fun n => inM n (-2147483647) 2147483647) = true) (fun k => c.vars.length - k) 0 (by simp [tmLe, tm, Tm.upd]) (Sub.refl _) (by simp <;> omega) ?_
  rintro k cc ⟨h1c, hk, he⟩
  by_cases hlt : k < c.vars.length
  · have hd : decide ((k : Int) < c.vars.length) = true := by simpa using hlt
    have hg := List.getElem?_eq_getElem hlt
    have hw := w64 (n := (k : Int) + 1) (by omega) (by omega)
    repeat' ((first | with_reducible refine wr ?_ | ((with_reducible refine wb2 ?_ ?_) <;> (intro hb; try simp only [hb])) | ((with_reducible refine AC.call ((c_in _ _ _).at _ _) ?_); rintro _ _ _ ⟨rfl, rfl, rfl⟩ -) | fail) <;> try simp only [go_sem, seval, hd, hg, hw])
    all_goals first
      | (refine pc_ret ?_; have hf := all_fail (fun n => inM n (-2147483647) 2147483647) c.vars k _ hg (by simp_all []); simp [partsM, hf])
      | exact ⟨k + 1, rfl, by first | exact Sub.refl _ | (intro j b hj; simp only [Hp.upd, nil] at hj ⊢; split at hj <;> simp_all <;> omega), inv ⟨by omega, by omega, by rw [all_take (fun n => inM n (-2147483647) 2147483647) c.vars k _ hg he]; simp_all []⟩, by omega⟩
  have hd : decide ((k : Int) < c.vars.length) = false := by simpa using hlt
  have hall := all_done (fun n => inM n (-2147483647) 2147483647) c.vars k (by omega) he
  clear he hk
  repeat' ((first | with_reducible refine wr ?_ | ((with_reducible refine wb2 ?_ ?_) <;> (intro hb; try simp only [hb])) | ((with_reducible refine AC.call ((c_in _ _ _).at _ _) ?_); rintro _ _ _ ⟨rfl, rfl, rfl⟩ -) | fail) <;> try simp only [go_sem, seval, hd])
  clear hlt hd
  refine i_loop (fun k : Nat => [(1, .ptr 0 0), (6, I64 k)]) (fun _ => nil.upd 0 ⟨0, true, c.cs⟩) (fun k cc => 1 ≤ cc ∧ k ≤ c.entries.length ∧ (c.entries.take k).all (entryM c) = true) (fun k => c.entries.length - k) 0 (by simp [tmLe, tm, Tm.upd]) (Sub.refl _) (by simp <;> omega) ?_
  rintro k cc ⟨h1c, hk, he⟩
  by_cases hlt : k < c.entries.length
  · have hd : decide ((k : Int) < c.entries.length) = true := by simpa using hlt
    have hg := List.getElem?_eq_getElem hlt
    have hw := w64 (n := (k : Int) + 1) (by omega) (by omega)
    repeat' ((first | with_reducible refine wr ?_ | ((with_reducible refine wb2 ?_ ?_) <;> (intro hb; try simp only [hb])) | ((with_reducible refine AC.call ((c_entry c hl0 _).at _ _) ?_); rintro _ _ _ ⟨rfl, rfl, rfl⟩ -) | fail) <;> try simp only [go_sem, seval, hd, hg, hw])
    all_goals first
      | (refine pc_ret ?_; have hf := all_fail (entryM c) c.entries k _ hg (by simp_all []); simp [partsM, hf])
      | exact ⟨k + 1, rfl, by first | exact Sub.refl _ | (intro j b hj; simp only [Hp.upd, nil] at hj ⊢; split at hj <;> simp_all <;> omega), inv ⟨by omega, by omega, by rw [all_take (entryM c) c.entries k _ hg he]; simp_all []⟩, by omega⟩
  have hd : decide ((k : Int) < c.entries.length) = false := by simpa using hlt
  have hall := all_done (entryM c) c.entries k (by omega) he
  clear he hk
  repeat' ((first | with_reducible refine wr ?_ | ((with_reducible refine wb2 ?_ ?_) <;> (intro hb; try simp only [hb])) | ((with_reducible refine AC.call ((c_entry c hl0 _).at _ _) ?_); rintro _ _ _ ⟨rfl, rfl, rfl⟩ -) | fail) <;> try simp only [go_sem, seval, hd])
  clear hlt hd
  refine i_loop (fun k : Nat => [(1, .ptr 0 0), (7, I64 k)]) (fun _ => nil.upd 0 ⟨0, true, c.cs⟩) (fun k cc => 1 ≤ cc ∧ k ≤ c.instrs.length ∧ (c.instrs.take k).all (numberM c) = true) (fun k => c.instrs.length - k) 0 (by simp [tmLe, tm, Tm.upd]) (Sub.refl _) (by simp <;> omega) ?_
  rintro k cc ⟨h1c, hk, he⟩
  by_cases hlt : k < c.instrs.length
  · have hd : decide ((k : Int) < c.instrs.length) = true := by simpa using hlt
    have hg := List.getElem?_eq_getElem hlt
    have hw := w64 (n := (k : Int) + 1) (by omega) (by omega)
    repeat' ((first | with_reducible refine wr ?_ | ((with_reducible refine wb2 ?_ ?_) <;> (intro hb; try simp only [hb])) | ((with_reducible refine AC.call ((c_number c hl0 _).at _ _) ?_); rintro _ _ _ ⟨rfl, rfl, rfl⟩ -) | fail) <;> try simp only [go_sem, seval, hd, hg, hw])
    all_goals first
      | (refine pc_ret ?_; have hf := all_fail (numberM c) c.instrs k _ hg (by simp_all []); simp [partsM, hf])
      | exact ⟨k + 1, rfl, by first | exact Sub.refl _ | (intro j b hj; simp only [Hp.upd, nil] at hj ⊢; split at hj <;> simp_all <;> omega), inv ⟨by omega, by omega, by rw [all_take (numberM c) c.instrs k _ hg he]; simp_all []⟩, by omega⟩
  have hd : decide ((k : Int) < c.instrs.length) = false := by simpa using hlt
  have hall := all_done (numberM c) c.instrs k (by omega) he
  clear he hk
  repeat' ((first | with_reducible refine wr ?_ | ((with_reducible refine wb2 ?_ ?_) <;> (intro hb; try simp only [hb])) | ((with_reducible refine AC.call ((c_number c hl0 _).at _ _) ?_); rintro _ _ _ ⟨rfl, rfl, rfl⟩ -) | fail) <;> try simp only [go_sem, seval, hd])
  clear hlt hd
  refine pc_ret ?_
  simp_all [partsM]
end Go.Proofs.YtcallbfckjlagaaDoor
set_option maxHeartbeats 4000000
set_option maxRecDepth 100000
set_option linter.unusedSimpArgs false
set_option linter.unusedVariables false
namespace Go.Proofs.YtcallbfckjlagaaDoor
open Go.Eng (IC IOper DReg IFn IsFn)
open Go.Sym Go.Pb
theorem c_within (n lo hi : Int) : PC Tryd.prog 67 [I64 n, I64 lo, I64 hi] (.bool (inM n lo hi)) := by
  refine PC.of mixedU isU67 (Nat.le_of_ble_eq_true rfl) (by simp [DV.nlL, DV.nl, nlL_ints, nlL_strs, nlL_instrs, nlL_entries, nlL_stp]) (by simp [DV.nlL, DV.nl, nlL_ints, nlL_strs, nlL_instrs, nlL_entries, nlL_stp]) ?_
  show IW Tryd.prog 15 u67_1 ⟨argT _, _, _⟩ (rt [.tmp 6] _)
  repeat' ((first | with_reducible refine wr ?_ | ((with_reducible refine wb2 ?_ ?_) <;> (intro hb; try simp only [hb])) | fail) <;> try simp only [go_sem, seval])
  all_goals (refine pc_ret ?_; simp_all [inM] <;> omega)
theorem c_bless (a b : Ent) : PC Tryd.prog 56 [a.v, b.v] (.bool (lessM a b)) := by
  refine PC.of mixedU isU56 (Nat.le_of_ble_eq_true rfl) (by simp [DV.nlL, DV.nl, nlL_ints, nlL_strs, nlL_instrs, nlL_entries, nlL_stp]) (by simp [DV.nlL, DV.nl, nlL_ints, nlL_strs, nlL_instrs, nlL_entries, nlL_stp]) ?_
  show IW Tryd.prog 30 u56_1 ⟨argT _, _, _⟩ (rt [.tmp 4] _)
  repeat' ((first | with_reducible refine wr ?_ | ((with_reducible refine wb2 ?_ ?_) <;> (intro hb; try simp only [hb])) | fail) <;> try simp only [go_sem, seval])
  all_goals (refine pc_ret ?_; simp_all [lessM])
theorem c_isText (s : List UInt8) (hs : s.length ≤ 140737488355328) : PC Tryd.prog 70 [.str s] (.bool (printM s)) := by
  refine PC.of mixedU isU70 (Nat.le_of_ble_eq_true rfl) (by simp [DV.nlL, DV.nl, nlL_ints, nlL_strs, nlL_instrs, nlL_entries, nlL_stp]) (by simp [DV.nlL, DV.nl, nlL_ints, nlL_strs, nlL_instrs, nlL_entries, nlL_stp]) ?_
  show IW Tryd.prog 23 u70_1 ⟨argT _, _, _⟩ (rt [.tmp 2] _)
  repeat' ((first | with_reducible refine wr ?_ | ((with_reducible refine wb2 ?_ ?_) <;> (intro hb; try simp only [hb])) | fail) <;> try simp only [go_sem, seval])
  refine i_loop (fun k : Nat => [(0, .str s), (3, I64 k)]) (fun _ => nil) (fun k _ => k ≤ s.length ∧ (s.take k).all printB = true) (fun k => s.length - k) 0 (by simp [tmLe, tm, Tm.upd]) (Sub.nil _) (by simp) ?_
  rintro k c ⟨hk, he⟩
  by_cases hlt : k < s.length
  · have hd : decide ((k : Int) < s.length) = true := by simpa using hlt
    have hg := List.getElem?_eq_getElem hlt
    have hw := w64 (n := (k : Int) + 1) (by omega) (by omega)
    repeat' ((first | with_reducible refine wr ?_ | ((with_reducible refine wb2 ?_ ?_) <;> (intro hb; try simp only [hb])) | fail) <;> try simp only [go_sem, seval, hd, hg, hw])
    · refine pc_ret ?_
      rw [printM, all_fail printB s k _ hg (by simp_all [printB]; omega)]; rfl
    · refine pc_ret ?_
      rw [printM, all_fail printB s k _ hg (by simp_all [printB]; omega)]; rfl
    · exact ⟨k + 1, rfl, Sub.refl _, inv ⟨by omega, by rw [all_take printB s k _ hg he]; simp_all [printB]; omega⟩, by omega⟩
  · have hd : decide ((k : Int) < s.length) = false := by simpa using hlt
    repeat' ((first | with_reducible refine wr ?_ | ((with_reducible refine wb2 ?_ ?_) <;> (intro hb; try simp only [hb])) | fail) <;> try simp only [go_sem, seval, hd])
    refine pc_ret ?_
    rw [printM, all_done printB s k (by omega) he, Bool.true_and]; simp; omega
theorem c_goodEntry (c : Prg) (hl : Lim c) (e : Ent) : PC Tryd.prog 76 [c.v, e.v] (.bool (entryM c e)) := by
  obtain ⟨wp, wv, ws, wi, wt, we, -, -, -, -, -⟩ := hl
  refine PC.of mixedU isU76 (Nat.le_of_ble_eq_true rfl) (by simp [DV.nlL, DV.nl, nlL_ints, nlL_strs, nlL_instrs, nlL_entries, nlL_stp]) (by simp [DV.nlL, DV.nl, nlL_ints, nlL_strs, nlL_instrs, nlL_entries, nlL_stp]) ?_
  show IW Tryd.prog 43 u76_1 ⟨argT _, _, _⟩ (rt [.tmp 4] _)
  repeat' ((first | with_reducible refine wr ?_ | ((with_reducible refine wb2 ?_ ?_) <;> (intro hb; try simp only [hb])) | ((with_reducible refine AC.call ((c_within _ _ _).at _ _) ?_); rintro _ _ _ ⟨rfl, rfl, rfl⟩ -) | fail) <;> try simp only [go_sem, seval, wp, wt, we])
  all_goals (refine pc_ret ?_; simp_all [entryM] <;> rfl)
theorem c_isJ (op : Int) : PC Tryd.prog 78 [I64 op] (.bool (isJ op)) := by
  refine PC.of mixedU isU78 (Nat.le_of_ble_eq_true rfl) (by simp [DV.nlL, DV.nl, nlL_ints, nlL_strs, nlL_instrs, nlL_entries, nlL_stp]) (by simp [DV.nlL, DV.nl, nlL_ints, nlL_strs, nlL_instrs, nlL_entries, nlL_stp]) ?_
  show IW Tryd.prog 13 u78_1 ⟨argT _, _, _⟩ (rt [.tmp 2] _)
  repeat' ((first | with_reducible refine wr ?_ | ((with_reducible refine wb2 ?_ ?_) <;> (intro hb; try simp only [hb])) | fail) <;> try simp only [go_sem, seval])
  all_goals (refine pc_ret ?_; simp_all [isJ] <;> rfl)
theorem c_stack (op : Int) : PC Tryd.prog 81 [I64 op] (.tup [I64 (effM op).1, I64 (effM op).2.1]) := by
  refine PC.of mixedU isU81 (Nat.le_of_ble_eq_true rfl) (by simp [DV.nlL, DV.nl, nlL_ints, nlL_strs, nlL_instrs, nlL_entries, nlL_stp]) (by simp [DV.nlL, DV.nl, nlL_ints, nlL_strs, nlL_instrs, nlL_entries, nlL_stp]) ?_
  show IW Tryd.prog 28 u81_1 ⟨argT _, _, _⟩ (rt [.tmp 2, .tmp 3] _)
  repeat' ((first | with_reducible refine wr ?_ | ((with_reducible refine wb2 ?_ ?_) <;> (intro hb; try simp only [hb])) | fail) <;> try simp only [go_sem, seval])
  all_goals first
    | (simp only [beq_iff_eq] at hb; subst hb; exact pc_ret rfl)
    | (simp only [beq_eq_false_iff_ne, ne_eq] at *; refine pc_ret ?_; rw [(eff0 ‹_› ‹_› ‹_› ‹_› ‹_› ‹_› ‹_› ‹_› ‹_› ‹_› ‹_› ‹_› ‹_› ‹_› ‹_› ‹_› ‹_› ‹_›).1, (eff0 ‹_› ‹_› ‹_› ‹_› ‹_› ‹_› ‹_› ‹_› ‹_› ‹_› ‹_› ‹_› ‹_› ‹_› ‹_› ‹_› ‹_› ‹_›).2])
theorem c_span (c : Prg) (hl : Lim c) (op : Int) : PC Tryd.prog 77 [c.v, I64 op] (.tup [I64 (spanM c op).1, I64 (spanM c op).2]) := by
  obtain ⟨wp, wv, ws, wi, wt, we, -, -, -, -, -⟩ := hl
  refine PC.of mixedU isU77 (Nat.le_of_ble_eq_true rfl) (by simp [DV.nlL, DV.nl, nlL_ints, nlL_strs, nlL_instrs, nlL_entries, nlL_stp]) (by simp [DV.nlL, DV.nl, nlL_ints, nlL_strs, nlL_instrs, nlL_entries, nlL_stp]) ?_
  show IW Tryd.prog 64 u77_1 ⟨argT _, _, _⟩ (rt [.tmp 4, .tmp 5] _)
  repeat' ((first | with_reducible refine wr ?_ | ((with_reducible refine wb2 ?_ ?_) <;> (intro hb; try simp only [hb])) | fail) <;> try simp only [go_sem, seval, wp, wv, ws, wt, we])
  all_goals first
    | (simp only [beq_iff_eq] at hb; subst hb; refine pc_ret ?_; simp [spanM]; done)
    | (refine pc_ret ?_; simp_all [spanM])
theorem c_IF_str {g : (List UInt8) → Bool} {f : Nat} {a cs : List DV} (xs : List (List UInt8)) (hx : xs.length ≤ 9223372036854775807) (na : DV.nlL a = true) (ncs : DV.nlL cs = true) (hf : ∀ x ∈ xs, PC Tryd.prog f (a ++ [DV.str x] ++ cs) (.bool (g x))) :
    PC Tryd.prog 85 [.lst (xs.map DV.str), .func f a cs] (I64 (idxM g xs 0)) := by
  refine PC.of mixedU isU85 (Nat.le_of_ble_eq_true rfl) (by simp [DV.nlL, DV.nl, nlL_strs, nlL_ints, nlL_entries, na, ncs]) rfl ?_
  show IW Tryd.prog 19 u85_1 ⟨argT _, _, _⟩ (rt [.tmp 4] _)
  repeat' ((first | with_reducible refine wr ?_ | ((with_reducible refine wb2 ?_ ?_) <;> (intro hb; try simp only [hb])) | fail) <;> try simp only [go_sem, seval])
  refine i_loop (fun k : Nat => [(0, .lst (xs.map DV.str)), (1, .func f a cs), (7, I64 xs.length), (8, I64 k)]) (fun _ => nil) (fun k _ => k ≤ xs.length ∧ idxM g xs 0 = idxM g (xs.drop k) k) (fun k => xs.length - k) 0 (by simp [tmLe, tm, Tm.upd]) (Sub.nil _) (by simp) ?_
  rintro k c ⟨hk, he⟩
  by_cases hlt : k < xs.length
  · have hd : decide ((k : Int) < xs.length) = true := by simpa using hlt
    have hg := List.getElem?_eq_getElem hlt
    have hw := w64 (n := (k : Int) + 1) (by omega) (by omega)
    have hst := idxM_step (g := g) hg
    have hc := hf xs[k] (List.getElem_mem hlt)
    repeat' ((first | with_reducible refine wr ?_ | ((with_reducible refine wb2 ?_ ?_) <;> (intro hb; try simp only [hb])) | ((with_reducible refine AC.call ((hc).at _ _) ?_); rintro _ _ _ ⟨rfl, rfl, rfl⟩ -) | fail) <;> try simp only [go_sem, seval, hd, hg, hw])
    · refine pc_ret ?_
      rw [he, hst, hb]; rfl
    · exact ⟨k + 1, rfl, Sub.refl _, inv ⟨by omega, by rw [he, hst, hb]; rfl⟩, by omega⟩
  · have hd : decide ((k : Int) < xs.length) = false := by simpa using hlt
    repeat' ((first | with_reducible refine wr ?_ | ((with_reducible refine wb2 ?_ ?_) <;> (intro hb; try simp only [hb])) | fail) <;> try simp only [go_sem, seval, hd])
    refine pc_ret ?_
    rw [he, idxM_end (by omega)]
theorem c_CF_str {g : (List UInt8) → Bool} {f : Nat} {a cs : List DV} (xs : List (List UInt8)) (hx : xs.length ≤ 9223372036854775807) (na : DV.nlL a = true) (ncs : DV.nlL cs = true) (hf : ∀ x ∈ xs, PC Tryd.prog f (a ++ [DV.str x] ++ cs) (.bool (g x))) :
    PC Tryd.prog 68 [.lst (xs.map DV.str), .func f a cs] (.bool (xs.any g)) := by
  refine PC.of mixedU isU68 (Nat.le_of_ble_eq_true rfl) (by simp [DV.nlL, DV.nl, nlL_strs, nlL_ints, nlL_entries, na, ncs]) rfl ?_
  show IW Tryd.prog 9 u68_1 ⟨argT _, _, _⟩ (rt [.tmp 4] _)
  have hc := c_IF_str xs hx na ncs hf
  repeat' ((first | with_reducible refine wr ?_ | ((with_reducible refine wb2 ?_ ?_) <;> (intro hb; try simp only [hb])) | ((with_reducible refine AC.call ((hc).at _ _) ?_); rintro _ _ _ ⟨rfl, rfl, rfl⟩ -) | fail) <;> try simp only [go_sem, seval])
  refine pc_ret ?_
  rw [idxM_any]
theorem c_IF_int {g : Int → Bool} {f : Nat} {a cs : List DV} (xs : List Int) (hx : xs.length ≤ 9223372036854775807) (na : DV.nlL a = true) (ncs : DV.nlL cs = true) (hf : ∀ x ∈ xs, PC Tryd.prog f (a ++ [I64 x] ++ cs) (.bool (g x))) :
    PC Tryd.prog 86 [.lst (xs.map I64), .func f a cs] (I64 (idxM g xs 0)) := by
  refine PC.of mixedU isU86 (Nat.le_of_ble_eq_true rfl) (by simp [DV.nlL, DV.nl, nlL_strs, nlL_ints, nlL_entries, na, ncs]) rfl ?_
  show IW Tryd.prog 19 u86_1 ⟨argT _, _, _⟩ (rt [.tmp 4] _)
  repeat' ((first | with_reducible refine wr ?_ | ((with_reducible refine wb2 ?_ ?_) <;> (intro hb; try simp only [hb])) | fail) <;> try simp only [go_sem, seval])
  refine i_loop (fun k : Nat => [(0, .lst (xs.map I64)), (1, .func f a cs), (7, I64 xs.length), (8, I64 k)]) (fun _ => nil) (fun k _ => k ≤ xs.length ∧ idxM g xs 0 = idxM g (xs.drop k) k) (fun k => xs.length - k) 0 (by simp [tmLe, tm, Tm.upd]) (Sub.nil _) (by simp) ?_
  rintro k c ⟨hk, he⟩
  by_cases hlt : k < xs.length
  · have hd : decide ((k : Int) < xs.length) = true := by simpa using hlt
    have hg := List.getElem?_eq_getElem hlt
    have hw := w64 (n := (k : Int) + 1) (by omega) (by omega)
    have hst := idxM_step (g := g) hg
    have hc := hf xs[k] (List.getElem_mem hlt)
    repeat' ((first | with_reducible refine wr ?_ | ((with_reducible refine wb2 ?_ ?_) <;> (intro hb; try simp only [hb])) | ((with_reducible refine AC.call ((hc).at _ _) ?_); rintro _ _ _ ⟨rfl, rfl, rfl⟩ -) | fail) <;> try simp only [go_sem, seval, hd, hg, hw])
    · refine pc_ret ?_
      rw [he, hst, hb]; rfl
    · exact ⟨k + 1, rfl, Sub.refl _, inv ⟨by omega, by rw [he, hst, hb]; rfl⟩, by omega⟩
  · have hd : decide ((k : Int) < xs.length) = false := by simpa using hlt
    repeat' ((first | with_reducible refine wr ?_ | ((with_reducible refine wb2 ?_ ?_) <;> (intro hb; try simp only [hb])) | fail) <;> try simp only [go_sem, seval, hd])
    refine pc_ret ?_
    rw [he, idxM_end (by omega)]
theorem c_CF_int {g : Int → Bool} {f : Nat} {a cs : List DV} (xs : List Int) (hx : xs.length ≤ 9223372036854775807) (na : DV.nlL a = true) (ncs : DV.nlL cs = true) (hf : ∀ x ∈ xs, PC Tryd.prog f (a ++ [I64 x] ++ cs) (.bool (g x))) :
    PC Tryd.prog 71 [.lst (xs.map I64), .func f a cs] (.bool (xs.any g)) := by
  refine PC.of mixedU isU71 (Nat.le_of_ble_eq_true rfl) (by simp [DV.nlL, DV.nl, nlL_strs, nlL_ints, nlL_entries, na, ncs]) rfl ?_
  show IW Tryd.prog 9 u71_1 ⟨argT _, _, _⟩ (rt [.tmp 4] _)
  have hc := c_IF_int xs hx na ncs hf
  repeat' ((first | with_reducible refine wr ?_ | ((with_reducible refine wb2 ?_ ?_) <;> (intro hb; try simp only [hb])) | ((with_reducible refine AC.call ((hc).at _ _) ?_); rintro _ _ _ ⟨rfl, rfl, rfl⟩ -) | fail) <;> try simp only [go_sem, seval])
  refine pc_ret ?_
  rw [idxM_any]
theorem c_IF_ent {g : Ent → Bool} {f : Nat} {a cs : List DV} (xs : List Ent) (hx : xs.length ≤ 9223372036854775807) (na : DV.nlL a = true) (ncs : DV.nlL cs = true) (hf : ∀ x ∈ xs, PC Tryd.prog f (a ++ [Ent.v x] ++ cs) (.bool (g x))) :
    PC Tryd.prog 87 [.lst (xs.map Ent.v), .func f a cs] (I64 (idxM g xs 0)) := by
  refine PC.of mixedU isU87 (Nat.le_of_ble_eq_true rfl) (by simp [DV.nlL, DV.nl, nlL_strs, nlL_ints, nlL_entries, na, ncs]) rfl ?_
  show IW Tryd.prog 19 u87_1 ⟨argT _, _, _⟩ (rt [.tmp 4] _)
  repeat' ((first | with_reducible refine wr ?_ | ((with_reducible refine wb2 ?_ ?_) <;> (intro hb; try simp only [hb])) | fail) <;> try simp only [go_sem, seval])
  refine i_loop (fun k : Nat => [(0, .lst (xs.map Ent.v)), (1, .func f a cs), (7, I64 xs.length), (8, I64 k)]) (fun _ => nil) (fun k _ => k ≤ xs.length ∧ idxM g xs 0 = idxM g (xs.drop k) k) (fun k => xs.length - k) 0 (by simp [tmLe, tm, Tm.upd]) (Sub.nil _) (by simp) ?_
  rintro k c ⟨hk, he⟩
  by_cases hlt : k < xs.length
  · have hd : decide ((k : Int) < xs.length) = true := by simpa using hlt
    have hg := List.getElem?_eq_getElem hlt
    have hw := w64 (n := (k : Int) + 1) (by omega) (by omega)
    have hst := idxM_step (g := g) hg
    have hc := hf xs[k] (List.getElem_mem hlt)
    repeat' ((first | with_reducible refine wr ?_ | ((with_reducible refine wb2 ?_ ?_) <;> (intro hb; try simp only [hb])) | ((with_reducible refine AC.call ((hc).at _ _) ?_); rintro _ _ _ ⟨rfl, rfl, rfl⟩ -) | fail) <;> try simp only [go_sem, seval, hd, hg, hw])
    · refine pc_ret ?_
      rw [he, hst, hb]; rfl
    · exact ⟨k + 1, rfl, Sub.refl _, inv ⟨by omega, by rw [he, hst, hb]; rfl⟩, by omega⟩
  · have hd : decide ((k : Int) < xs.length) = false := by simpa using hlt
    repeat' ((first | with_reducible refine wr ?_ | ((with_reducible refine wb2 ?_ ?_) <;> (intro hb; try simp only [hb])) | fail) <;> try simp only [go_sem, seval, hd])
    refine pc_ret ?_
    rw [he, idxM_end (by omega)]
theorem c_CF_ent {g : Ent → Bool} {f : Nat} {a cs : List DV} (xs : List Ent) (hx : xs.length ≤ 9223372036854775807) (na : DV.nlL a = true) (ncs : DV.nlL cs = true) (hf : ∀ x ∈ xs, PC Tryd.prog f (a ++ [Ent.v x] ++ cs) (.bool (g x))) :
    PC Tryd.prog 74 [.lst (xs.map Ent.v), .func f a cs] (.bool (xs.any g)) := by
  refine PC.of mixedU isU74 (Nat.le_of_ble_eq_true rfl) (by simp [DV.nlL, DV.nl, nlL_strs, nlL_ints, nlL_entries, na, ncs]) rfl ?_
  show IW Tryd.prog 9 u74_1 ⟨argT _, _, _⟩ (rt [.tmp 4] _)
  have hc := c_IF_ent xs hx na ncs hf
  repeat' ((first | with_reducible refine wr ?_ | ((with_reducible refine wb2 ?_ ?_) <;> (intro hb; try simp only [hb])) | ((with_reducible refine AC.call ((hc).at _ _) ?_); rintro _ _ _ ⟨rfl, rfl, rfl⟩ -) | fail) <;> try simp only [go_sem, seval])
  refine pc_ret ?_
  rw [idxM_any]
end Go.Proofs.YtcallbfckjlagaaDoor
set_option maxHeartbeats 4000000
set_option maxRecDepth 100000
set_option linter.unusedSimpArgs false
set_option linter.unusedVariables false
namespace Go.Proofs.YtcallbfckjlagaaDoor
open Go.Eng (IC IOper DReg IFn IsFn)
open Go.Sym Go.Pb
theorem c_limits (c : Prg) : PC Tryd.prog 53 [c.v] (.bool (limitsM c)) := by
  refine PC.of mixedU isU53 (Nat.le_of_ble_eq_true rfl) (by simp [DV.nlL, DV.nl, nlL_ints, nlL_strs, nlL_instrs, nlL_entries, nlL_stp]) (by simp [DV.nlL, DV.nl, nlL_ints, nlL_strs, nlL_instrs, nlL_entries, nlL_stp]) ?_
  show IW Tryd.prog 41 u53_1 ⟨argT _, _, _⟩ (rt [.tmp 2] _)
  repeat' ((first | with_reducible refine wr ?_ | ((with_reducible refine wb2 ?_ ?_) <;> (intro hb; try simp only [hb])) | ((with_reducible refine AC.call ((c_within _ _ _).at _ _) ?_); rintro _ _ _ ⟨rfl, rfl, rfl⟩ -) | fail) <;> try simp only [go_sem, seval])
  all_goals (refine pc_ret ?_; simp_all [limitsM] <;> omega)
theorem c_p1 (s : List UInt8) (hs : s.length ≤ 140737488355328) : PC Tryd.prog 69 [.str s] (.bool (!printM s)) := by
  refine PC.of mixedU isU69 (Nat.le_of_ble_eq_true rfl) (by simp [DV.nlL, DV.nl, nlL_ints, nlL_strs, nlL_instrs, nlL_entries, nlL_stp]) (by simp [DV.nlL, DV.nl, nlL_ints, nlL_strs, nlL_instrs, nlL_entries, nlL_stp]) ?_
  show IW Tryd.prog 6 u69_1 ⟨argT _, _, _⟩ (rt [.tmp 2] _)
  repeat' ((first | with_reducible refine wr ?_ | ((with_reducible refine wb2 ?_ ?_) <;> (intro hb; try simp only [hb])) | ((with_reducible refine AC.call ((c_isText s hs).at _ _) ?_); rintro _ _ _ ⟨rfl, rfl, rfl⟩ -) | fail) <;> try simp only [go_sem, seval])
  exact pc_ret rfl
theorem c_p2 (n : Int) : PC Tryd.prog 72 [I64 n] (.bool (!inM n 0 99)) := by
  refine PC.of mixedU isU72 (Nat.le_of_ble_eq_true rfl) (by simp [DV.nlL, DV.nl, nlL_ints, nlL_strs, nlL_instrs, nlL_entries, nlL_stp]) (by simp [DV.nlL, DV.nl, nlL_ints, nlL_strs, nlL_instrs, nlL_entries, nlL_stp]) ?_
  show IW Tryd.prog 6 u72_1 ⟨argT _, _, _⟩ (rt [.tmp 2] _)
  repeat' ((first | with_reducible refine wr ?_ | ((with_reducible refine wb2 ?_ ?_) <;> (intro hb; try simp only [hb])) | ((with_reducible refine AC.call ((c_within _ _ _).at _ _) ?_); rintro _ _ _ ⟨rfl, rfl, rfl⟩ -) | fail) <;> try simp only [go_sem, seval])
  exact pc_ret rfl
theorem c_p3 (n : Int) : PC Tryd.prog 73 [I64 n] (.bool (!inM n (-2147483647) 2147483647)) := by
  refine PC.of mixedU isU73 (Nat.le_of_ble_eq_true rfl) (by simp [DV.nlL, DV.nl, nlL_ints, nlL_strs, nlL_instrs, nlL_entries, nlL_stp]) (by simp [DV.nlL, DV.nl, nlL_ints, nlL_strs, nlL_instrs, nlL_entries, nlL_stp]) ?_
  show IW Tryd.prog 6 u73_1 ⟨argT _, _, _⟩ (rt [.tmp 2] _)
  repeat' ((first | with_reducible refine wr ?_ | ((with_reducible refine wb2 ?_ ?_) <;> (intro hb; try simp only [hb])) | ((with_reducible refine AC.call ((c_within _ _ _).at _ _) ?_); rintro _ _ _ ⟨rfl, rfl, rfl⟩ -) | fail) <;> try simp only [go_sem, seval])
  exact pc_ret rfl
theorem c_p4 (c : Prg) (hl : Lim c) (e : Ent) : PC Tryd.prog 75 [e.v, .fptr c.cs] (.bool (!entryM c e)) := by
  refine PC.of mixedU isU75 (Nat.le_of_ble_eq_true rfl) (by simp [DV.nlL, DV.nl, nlL_ints, nlL_strs, nlL_instrs, nlL_entries, nlL_stp]) (by simp [DV.nlL, DV.nl, nlL_ints, nlL_strs, nlL_instrs, nlL_entries, nlL_stp]) ?_
  show IW Tryd.prog 8 u75_1 ⟨argT _, _, _⟩ (rt [.tmp 3] _)
  repeat' ((first | with_reducible refine wr ?_ | ((with_reducible refine wb2 ?_ ?_) <;> (intro hb; try simp only [hb])) | ((with_reducible refine AC.call ((c_goodEntry c hl e).at _ _) ?_); rintro _ _ _ ⟨rfl, rfl, rfl⟩ -) | fail) <;> try simp only [go_sem, seval])
  exact pc_ret rfl
theorem c_t1 (c : Prg) (hl : Lim c) (e : Ent) : PC Tryd.prog 79 [e.v, .fptr c.cs] (.bool (!jumpE c e)) := by
  obtain ⟨wp, wv, ws, wi, wt, we, li, ls, le, lp, lv⟩ := hl
  refine PC.of mixedU isU79 (Nat.le_of_ble_eq_true rfl) (by simp [DV.nlL, DV.nl, nlL_ints, nlL_strs, nlL_instrs, nlL_entries, nlL_stp]) (by simp [DV.nlL, DV.nl, nlL_ints, nlL_strs, nlL_instrs, nlL_entries, nlL_stp]) ?_
  show IW Tryd.prog 12 u79_1 ⟨argT _, _, _⟩ (rt [.tmp 3] _)
  repeat' ((first | with_reducible refine wr ?_ | ((with_reducible refine wb2 ?_ ?_) <;> (intro hb; try simp only [hb])) | ((with_reducible refine AC.call ((c_within _ _ _).at _ _) ?_); rintro _ _ _ ⟨rfl, rfl, rfl⟩ -) | fail) <;> try simp only [go_sem, seval, wi])
  exact pc_ret rfl
theorem g_cap (c : Prg) (fn : Nat) (l : List DV) : GL (nil.upd 0 ⟨0, true, c.cs⟩) [.lst l, .func fn [] [.ptr 0 0]] nil [.lst l, .func fn [] [.fptr c.cs]] :=
  GL.one (b := ⟨0, true, c.cs⟩) rfl rfl (.cons _ _ _ _ (.same _) (.cons _ _ _ _ (.func _ _ _ _ _ .nil (.cons _ _ _ _ (.ptr 0 c.cs (Nat.zero_le _) rfl) .nil)) .nil))
theorem c_targets (c : Prg) (hl : Lim c) : PC Tryd.prog 55 [c.v] (.bool (jumpsM c)) := by
  have hl0 := hl
  obtain ⟨wp, wv, ws, wi, wt, we, li, ls, le, lp, lv⟩ := hl
  have cf := c_CF_ent (a := []) (cs := [.fptr c.cs]) c.entries (by omega) rfl (by simp [DV.nlL, DV.nl, nlL_ints, nlL_strs, nlL_instrs, nlL_entries]) (fun e _ => c_t1 c hl0 e)
  rw [any_not] at cf
  refine PC.of mixedU isU55 (Nat.le_of_ble_eq_true rfl) (by simp [DV.nlL, DV.nl, nlL_ints, nlL_strs, nlL_instrs, nlL_entries, nlL_stp]) (by simp [DV.nlL, DV.nl, nlL_ints, nlL_strs, nlL_instrs, nlL_entries, nlL_stp]) ?_
  show IW Tryd.prog 31 u55_1 ⟨argT _, _, _⟩ (rt [.tmp 2] _)
  repeat' ((first | with_reducible refine wr ?_ | ((with_reducible refine wb2 ?_ ?_) <;> (intro hb; try simp only [hb])) | fail) <;> try simp only [go_sem, seval])
  refine i_loop (fun k : Nat => [(1, .ptr 0 0), (6, inssV c.instrs), (7, I64 c.instrs.length), (8, I64 k)]) (fun _ => nil.upd 0 ⟨0, true, c.cs⟩) (fun k cc => 1 ≤ cc ∧ k ≤ c.instrs.length ∧ (c.instrs.take k).all (jumpI c) = true) (fun k => c.instrs.length - k) 0 (by simp [tmLe, tm, Tm.upd]) (Sub.refl _) (by simp) ?_
  rintro k cc ⟨h1c, hk, he⟩
  have ne0 : ¬ 0 = cc := by omega
  have ne1 : ¬ cc = 0 := by omega
  by_cases hlt : k < c.instrs.length
  · have hd : decide ((k : Int) < c.instrs.length) = true := by simpa using hlt
    have hg := List.getElem?_eq_getElem hlt
    have hw := w64 (n := (k : Int) + 1) (by omega) (by omega)
    repeat' ((first | with_reducible refine wr ?_ | ((with_reducible refine wb2 ?_ ?_) <;> (intro hb; try simp only [hb])) | ((with_reducible refine AC.call ((c_isJ _).at _ _) ?_); rintro _ _ _ ⟨rfl, rfl, rfl⟩ -) | ((with_reducible refine AC.call ((c_within _ _ _).at _ _) ?_); rintro _ _ _ ⟨rfl, rfl, rfl⟩ -) | fail) <;> try simp only [go_sem, seval, hd, hg, hw, wi, ne0, ne1])
    · refine pc_ret ?_
      have hf := all_fail (jumpI c) c.instrs k _ hg (by rw [jumpI, ← isJ_kind]; simp_all)
      simp [jumpsM, hf]
    all_goals exact ⟨k + 1, rfl, by (intro j b hj; simp only [Hp.upd, Hp.del, Sym.nil, baseH, optH] at hj ⊢; (repeat' split at hj) <;> (repeat' split) <;> first | exact hj | (exfalso; omega) | cases hj), inv ⟨by omega, by omega, by rw [all_take (jumpI c) _ k _ hg he, jumpI, ← isJ_kind]; simp_all⟩, by omega⟩
  · have hd : decide ((k : Int) < c.instrs.length) = false := by simpa using hlt
    have hall := all_done (jumpI c) c.instrs k (by omega) he
    repeat' ((first | with_reducible refine wr ?_ | ((with_reducible refine wb2 ?_ ?_) <;> (intro hb; try simp only [hb])) | ((with_reducible refine AC.call (PC.lend cf rfl (g_cap c _ _)) ?_); rintro _ _ _ ⟨rfl, rfl, rfl⟩ -) | fail) <;> try simp only [go_sem, seval, hd])
    refine pc_ret ?_
    simp [jumpsM, hall]
theorem c_bparts (c : Prg) (hl : Lim c) (hs : ∀ s ∈ c.strings, s.length ≤ 140737488355328) : PC Tryd.prog 54 [c.v] (.bool (partsM c)) := by
  have hl0 := hl
  obtain ⟨wp, wv, ws, wi, wt, we, li, ls, le, lp, lv⟩ := hl
  have cf1 := c_CF_str (g := fun s => !printM s) (a := []) (cs := []) c.strings (by omega) rfl rfl (fun s h => c_p1 s (hs s h))
  have cf2 := c_CF_int (g := fun n => !inM n 0 99) (a := []) (cs := []) c.prios (by omega) rfl rfl (fun n _ => c_p2 n)
  have cf3 := c_CF_int (g := fun n => !inM n (-2147483647) 2147483647) (a := []) (cs := []) c.vars (by omega) rfl rfl (fun n _ => c_p3 n)
  have cf4 := c_CF_ent (g := fun e => !entryM c e) (a := []) (cs := [.fptr c.cs]) c.entries (by omega) rfl (by simp [DV.nlL, DV.nl, nlL_ints, nlL_strs, nlL_instrs, nlL_entries]) (fun e _ => c_p4 c hl0 e)
  rw [any_not] at cf1 cf2 cf3 cf4
  have main : ∀ (b : Bool) (cc : Nat), 1 ≤ cc → b = !(c.strings.all printM && c.prios.all (fun n => inM n 0 99) && c.vars.all (fun n => inM n (-2147483647) 2147483647) && c.entries.all (entryM c)) →
      IW Tryd.prog 59 (.loop u54_6) ⟨tm [(1, .ptr 0 0), (3, .bool b), (28, inssV c.instrs), (29, I64 c.instrs.length), (30, I64 0)], nil.upd 0 ⟨0, true, c.cs⟩, cc⟩ (bk 0 (sq Tryd.prog 59 u54_13 (rt [.tmp 2] fun v H' x => ∃ H2, GL H' [v] H2 [.bool (partsM c)]))) := by
    intro b cc h1c hbG
    refine i_loop (fun k : Nat => [(1, .ptr 0 0), (3, .bool (b || !(c.instrs.take k).all (numberM c))), (28, inssV c.instrs), (29, I64 c.instrs.length), (30, I64 k)]) (fun _ => nil.upd 0 ⟨0, true, c.cs⟩) (fun k cc => 1 ≤ cc ∧ k ≤ c.instrs.length) (fun k => c.instrs.length - k) 0 (by simp [tmLe, tm, Tm.upd]) (Sub.refl _) (by simp; omega) ?_
    rintro k cc ⟨h1c, hk⟩
    have ne0 : ¬ 0 = cc := by omega
    have ne1 : ¬ cc = 0 := by omega
    by_cases hlt : k < c.instrs.length
    · have hd : decide ((k : Int) < c.instrs.length) = true := by simpa using hlt
      have hg := List.getElem?_eq_getElem hlt
      have hw := w64 (n := (k : Int) + 1) (by omega) (by omega)
      have hta := all_take' (numberM c) c.instrs k _ hg
      rw [number_span] at hta
      clear hbG
      generalize hB : (b || !(c.instrs.take k).all (numberM c)) = B
      repeat' ((first | with_reducible refine wr ?_ | ((with_reducible refine wb2 ?_ ?_) <;> (intro hb; try simp only [hb])) | ((with_reducible refine AC.call ((c_isJ _).at _ _) ?_); rintro _ _ _ ⟨rfl, rfl, rfl⟩ -) | ((with_reducible refine AC.call ((c_within _ _ _).at _ _) ?_); rintro _ _ _ ⟨rfl, rfl, rfl⟩ -) | ((with_reducible refine AC.call ((c_span c hl0 _).at _ _) ?_); rintro _ _ _ ⟨rfl, rfl, rfl⟩ -) | fail) <;> try simp only [go_sem, seval, hd, hg, hw, ne0, ne1])
      all_goals exact ⟨k + 1, by rw [hta, step_bad, hB]; simp_all, by (intro j b hj; simp only [Hp.upd, Hp.del, Sym.nil, baseH, optH] at hj ⊢; (repeat' split at hj) <;> (repeat' split) <;> first | exact hj | (exfalso; omega) | cases hj), inv ⟨by omega, hlt⟩, by omega⟩
    · have hd : decide ((k : Int) < c.instrs.length) = false := by simpa using hlt
      repeat' ((first | with_reducible refine wr ?_ | ((with_reducible refine wb2 ?_ ?_) <;> (intro hb; try simp only [hb])) | fail) <;> try simp only [go_sem, seval, hd])
      refine pc_ret ?_
      rw [List.take_of_length_le (by omega)]
      simp only [partsM, hbG]
      simp only [Bool.not_or, Bool.not_not]
  refine PC.of mixedU isU54 (Nat.le_of_ble_eq_true rfl) (by simp [DV.nlL, DV.nl, nlL_ints, nlL_strs, nlL_instrs, nlL_entries, nlL_stp]) (by simp [DV.nlL, DV.nl, nlL_ints, nlL_strs, nlL_instrs, nlL_entries, nlL_stp]) ?_
  show IW Tryd.prog 59 u54_1 ⟨argT _, _, _⟩ (rt [.tmp 2] _)
  repeat' ((first | with_reducible refine wr ?_ | ((with_reducible refine wb2 ?_ ?_) <;> (intro hb; try simp only [hb])) | ((with_reducible refine AC.call ((cf1).at _ _) ?_); rintro _ _ _ ⟨rfl, rfl, rfl⟩ -) | ((with_reducible refine AC.call ((cf2).at _ _) ?_); rintro _ _ _ ⟨rfl, rfl, rfl⟩ -) | ((with_reducible refine AC.call ((cf3).at _ _) ?_); rintro _ _ _ ⟨rfl, rfl, rfl⟩ -) | ((with_reducible refine AC.call (PC.lend cf4 rfl (g_cap c _ _)) ?_); rintro _ _ _ ⟨rfl, rfl, rfl⟩ -) | fail) <;> try simp only [go_sem, seval])
  all_goals (refine main _ _ (by omega) ?_; simp only [Bool.not_eq_true', Bool.not_eq_false'] at *; simp only [*, Bool.and_true, Bool.true_and, Bool.false_and, Bool.and_false, Bool.not_true, Bool.not_false])
end Go.Proofs.YtcallbfckjlagaaDoor
set_option maxHeartbeats 4000000
set_option maxRecDepth 100000
set_option linter.unusedSimpArgs false
set_option linter.unusedVariables false
namespace Go.Proofs.YtcallbfckjlagaaDoor
open Go.Eng (IC IOper DReg IFn IsFn)
open Go.Sym Go.Pb
theorem c_reach (c : Prg) (h : List Int) (wk : List Nat) (o : Option Nat) (junk : List DV) (H : Hp) (cc : Nat) (p : Nat) (x : Int) (hS : WkS c h wk o junk H cc) (hw : wk.length ≤ 100000) :
    AC Tryd.prog 80 [I64 (p : Int), I64 x, .ptr 2 0, .ptr 3 0] H cc (fun v H' c' => match reachM h wk p x with
      | none => v = .bool false
      | some (h', wk') => v = .bool true ∧ ∃ o' junk', WkS c h' wk' o' junk' H' c' ∧ ∀ j, 4 ≤ j → j < cc → o ≠ some j → H' j = H j) := by
  obtain ⟨h0, h1, h2, h3, hn, hs, hc⟩ := hS
  refine AC.body mixedU isU80 (Nat.le_of_ble_eq_true rfl) fun hfr => ?_
  show IW Tryd.prog 43 u80_1 ⟨argT _, _, _⟩ (rt [.tmp 6] _)
  by_cases hp : h.length ≤ p
  · have hd : decide ((p : Int) ≥ h.length) = true := by simp; omega
    have hr : reachM h wk p x = none := by rw [reachM, if_pos (.inl hp)]
    repeat' ((first | with_reducible refine wr ?_ | ((with_reducible refine wb2 ?_ ?_) <;> (intro hb; try simp only [hb])) | fail) <;> try simp only [go_sem, seval, h1, h2, h3, hd])
    exact ⟨_, _, GL.refl _ _, by rw [hr]⟩
  have hp' : p < h.length := by omega
  have hd : decide ((p : Int) ≥ h.length) = false := by simp; omega
  have hg := List.getElem?_eq_getElem hp'
  have hgd : h.getD p 0 = h[p] := by simp [List.getD, hg]
  have hput := put_map (f := I64) (l := h) (n := p) (a := x) hp'
  have hle : p + 1 ≤ h.length := hp'
  rcases o with _ | id
  · obtain rfl := hn rfl
    have ne0 : ¬ 0 = cc := by omega
    have ne1 : ¬ 0 = cc + 1 := by omega
    have ne2 : ¬ 1 = cc := by omega
    have ne3 : ¬ 1 = cc + 1 := by omega
    have ne4 : ¬ 2 = cc := by omega
    have ne5 : ¬ 2 = cc + 1 := by omega
    have ne6 : ¬ 3 = cc := by omega
    have ne7 : ¬ 3 = cc + 1 := by omega
    have ne8 : ¬ cc = 0 := by omega
    have ne9 : ¬ cc = 1 := by omega
    have ne10 : ¬ cc = 2 := by omega
    have ne11 : ¬ cc = 3 := by omega
    have ne12 : ¬ cc = cc + 1 := by omega
    have ne13 : ¬ cc + 1 = 0 := by omega
    have ne14 : ¬ cc + 1 = 1 := by omega
    have ne15 : ¬ cc + 1 = 2 := by omega
    have ne16 : ¬ cc + 1 = 3 := by omega
    have ne17 : ¬ cc + 1 = cc := by omega
    repeat' ((first | with_reducible refine wr ?_ | ((with_reducible refine wb2 ?_ ?_) <;> (intro hb; try simp only [hb])) | ((with_reducible refine k_eval (r_appn' (by decide) (by decide) (by decide)) ?_)) | fail) <;> try simp only [go_sem, seval, h1, h2, h3, hd, hp', hg, hput, hle, List.length_nil, ne0, ne1, ne2, ne3, ne4, ne5, ne6, ne7, ne8, ne9, ne10, ne11, ne12, ne13, ne14, ne15, ne16, ne17])
    · have hr : reachM h [] p x = none := by simp_all [reachM]
      exact ⟨_, _, GL.refl _ _, by rw [hr]⟩
    · have hr : reachM h [] p x = none := by simp_all [reachM]
      exact ⟨_, _, GL.refl _ _, by rw [hr]⟩
    · exfalso; simp at *; omega
    · have hr : reachM h [] p x = some (h, []) := by simp_all [reachM] <;> omega
      refine ⟨_, _, GL.refl _ _, ?_⟩
      rw [hr]
      exact ⟨rfl, none, junk, ⟨h0, h1, h2, h3, hn, hs, hc⟩, fun _ _ _ _ => rfl⟩
    · have hr : reachM h [] p x = some (h.set p x, p :: []) := by simp_all [reachM] <;> omega
      refine ⟨_, _, GL.refl _ _, ?_⟩
      rw [hr]
      refine ⟨rfl, some (cc + 1), [], ⟨?_, ?_, ?_, ?_, by simp, fun i hi => ?_, by omega⟩, fun j hj1 hj2 hj3 => ?_⟩
      · simp only [go_sem, seval, ne0, ne1, ne2, ne3, ne4, ne5, ne6, ne7, ne8, ne9, ne10, ne11, ne12, ne13, ne14, ne15, ne16, ne17, h0]
      · simp only [go_sem, seval, ne0, ne1, ne2, ne3, ne4, ne5, ne6, ne7, ne8, ne9, ne10, ne11, ne12, ne13, ne14, ne15, ne16, ne17]
      · simp only [go_sem, seval, ne0, ne1, ne2, ne3, ne4, ne5, ne6, ne7, ne8, ne9, ne10, ne11, ne12, ne13, ne14, ne15, ne16, ne17, h2, List.length_set]
      · simp only [go_sem, seval, ne0, ne1, ne2, ne3, ne4, ne5, ne6, ne7, ne8, ne9, ne10, ne11, ne12, ne13, ne14, ne15, ne16, ne17]
      · cases hi
        refine ⟨by omega, by omega, ?_⟩
        simp only [go_sem, seval, ne0, ne1, ne2, ne3, ne4, ne5, ne6, ne7, ne8, ne9, ne10, ne11, ne12, ne13, ne14, ne15, ne16, ne17, wkC_cons]
        try rfl
      · have k1 : ¬ j = 1 := by omega
        have k2 : ¬ j = 3 := by omega
        have k3 : ¬ j = cc := by omega
        have k4 : ¬ j = cc + 1 := by omega
        simp only [go_sem, seval, k1, k2, k3, k4]
    · exfalso; simp at *; omega
  · obtain ⟨i2, i3, hi4⟩ := hs id rfl
    have ne0 : ¬ 0 = id := by omega
    have ne1 : ¬ 0 = cc := by omega
    have ne2 : ¬ 0 = cc + 1 := by omega
    have ne3 : ¬ 1 = id := by omega
    have ne4 : ¬ 1 = cc := by omega
    have ne5 : ¬ 1 = cc + 1 := by omega
    have ne6 : ¬ 2 = id := by omega
    have ne7 : ¬ 2 = cc := by omega
    have ne8 : ¬ 2 = cc + 1 := by omega
    have ne9 : ¬ 3 = id := by omega
    have ne10 : ¬ 3 = cc := by omega
    have ne11 : ¬ 3 = cc + 1 := by omega
    have ne12 : ¬ id = 0 := by omega
    have ne13 : ¬ id = 1 := by omega
    have ne14 : ¬ id = 2 := by omega
    have ne15 : ¬ id = 3 := by omega
    have ne16 : ¬ id = cc := by omega
    have ne17 : ¬ id = cc + 1 := by omega
    have ne18 : ¬ cc = 0 := by omega
    have ne19 : ¬ cc = 1 := by omega
    have ne20 : ¬ cc = 2 := by omega
    have ne21 : ¬ cc = 3 := by omega
    have ne22 : ¬ cc = id := by omega
    have ne23 : ¬ cc = cc + 1 := by omega
    have ne24 : ¬ cc + 1 = 0 := by omega
    have ne25 : ¬ cc + 1 = 1 := by omega
    have ne26 : ¬ cc + 1 = 2 := by omega
    have ne27 : ¬ cc + 1 = 3 := by omega
    have ne28 : ¬ cc + 1 = id := by omega
    have ne29 : ¬ cc + 1 = cc := by omega
    have hmx : wk.length + 1 ≤ maxLen := by simp only [maxLen]; omega
    have hcl : wk.length * 1 ≤ (wkC wk ++ junk).length := by simp [wkC_len]
    have htake : (wkC wk ++ junk).take (wk.length) = wkC wk := List.take_left' (wkC_len wk)
    repeat' ((first | with_reducible refine wr ?_ | ((with_reducible refine wb2 ?_ ?_) <;> (intro hb; try simp only [hb])) | ((with_reducible refine k_eval (b_app hcl (by omega) hmx) ?_)) | fail) <;> try simp only [go_sem, seval, h1, h2, h3, hi4, hd, hp', hg, hput, hle, htake, ne0, ne1, ne2, ne3, ne4, ne5, ne6, ne7, ne8, ne9, ne10, ne11, ne12, ne13, ne14, ne15, ne16, ne17, ne18, ne19, ne20, ne21, ne22, ne23, ne24, ne25, ne26, ne27, ne28, ne29])
    · have hr : reachM h wk p x = none := by simp_all [reachM]
      exact ⟨_, _, GL.refl _ _, by rw [hr]⟩
    · have hr : reachM h wk p x = none := by simp_all [reachM]
      exact ⟨_, _, GL.refl _ _, by rw [hr]⟩
    · exfalso; simp at *; omega
    · have hr : reachM h wk p x = some (h, wk) := by simp_all [reachM] <;> omega
      refine ⟨_, _, GL.refl _ _, ?_⟩
      rw [hr]
      exact ⟨rfl, some id, junk, ⟨h0, h1, h2, h3, hn, hs, hc⟩, fun _ _ _ _ => rfl⟩
    · have hr : reachM h wk p x = some (h.set p x, p :: wk) := by simp_all [reachM] <;> omega
      refine ⟨_, _, GL.refl _ _, ?_⟩
      rw [hr]
      refine ⟨rfl, some (cc + 1), [], ⟨?_, ?_, ?_, ?_, by simp, fun i hi => ?_, by omega⟩, fun j hj1 hj2 hj3 => ?_⟩
      · simp only [go_sem, seval, ne0, ne1, ne2, ne3, ne4, ne5, ne6, ne7, ne8, ne9, ne10, ne11, ne12, ne13, ne14, ne15, ne16, ne17, ne18, ne19, ne20, ne21, ne22, ne23, ne24, ne25, ne26, ne27, ne28, ne29, h0]
      · simp only [go_sem, seval, ne0, ne1, ne2, ne3, ne4, ne5, ne6, ne7, ne8, ne9, ne10, ne11, ne12, ne13, ne14, ne15, ne16, ne17, ne18, ne19, ne20, ne21, ne22, ne23, ne24, ne25, ne26, ne27, ne28, ne29]
      · simp only [go_sem, seval, ne0, ne1, ne2, ne3, ne4, ne5, ne6, ne7, ne8, ne9, ne10, ne11, ne12, ne13, ne14, ne15, ne16, ne17, ne18, ne19, ne20, ne21, ne22, ne23, ne24, ne25, ne26, ne27, ne28, ne29, h2, List.length_set]
      · simp only [go_sem, seval, ne0, ne1, ne2, ne3, ne4, ne5, ne6, ne7, ne8, ne9, ne10, ne11, ne12, ne13, ne14, ne15, ne16, ne17, ne18, ne19, ne20, ne21, ne22, ne23, ne24, ne25, ne26, ne27, ne28, ne29]
      · cases hi
        refine ⟨by omega, by omega, ?_⟩
        simp only [go_sem, seval, ne0, ne1, ne2, ne3, ne4, ne5, ne6, ne7, ne8, ne9, ne10, ne11, ne12, ne13, ne14, ne15, ne16, ne17, ne18, ne19, ne20, ne21, ne22, ne23, ne24, ne25, ne26, ne27, ne28, ne29, wkC_cons]
        try rfl
      · have hj4 : ¬ j = id := fun e => hj3 (by rw [e])
        have k1 : ¬ j = 1 := by omega
        have k2 : ¬ j = 3 := by omega
        have k3 : ¬ j = cc := by omega
        have k4 : ¬ j = cc + 1 := by omega
        simp only [go_sem, seval, hj4, k1, k2, k3, k4]
    · exfalso; simp at *; omega
theorem c_reach' (c : Prg) (h : List Int) (wk : List Nat) (o : Option Nat) (junk : List DV) (H : Hp) (cc : Nat) (p : Int) (x : Int) (hp : 0 ≤ p) (hS : WkS c h wk o junk H cc) (hw : wk.length ≤ 100000) :
    AC Tryd.prog 80 [I64 p, I64 x, .ptr 2 0, .ptr 3 0] H cc (fun v H' c' => (reachM h wk p.toNat x = none ∧ v = .bool false) ∨
      ∃ h' wk' o' junk', reachM h wk p.toNat x = some (h', wk') ∧ v = .bool true ∧ WkS c h' wk' o' junk' H' c' ∧ ∀ j, 4 ≤ j → j < cc → o ≠ some j → H' j = H j) := by
  have hpp : (p.toNat : Int) = p := by omega
  have key := c_reach c h wk o junk H cc p.toNat x hS hw
  rw [hpp] at key
  refine key.mono fun v H' c' hq => ?_
  cases hr : reachM h wk p.toNat x with
  | none => rw [hr] at hq; exact .inl ⟨rfl, hq⟩
  | some q =>
    obtain ⟨h', wk'⟩ := q
    rw [hr] at hq
    obtain ⟨e, o', junk', s1, s2⟩ := hq
    exact .inr ⟨h', wk', o', junk', rfl, e, s1, s2⟩
end Go.Proofs.YtcallbfckjlagaaDoor
set_option maxHeartbeats 4000000
set_option maxRecDepth 100000
set_option linter.unusedSimpArgs false
set_option linter.unusedVariables false
namespace Go.Proofs.YtcallbfckjlagaaDoor
open Go.Eng (IC IOper DReg IFn IsFn)
open Go.Sym Go.Pb
abbrev clo : DV := .func 80 [] [.ptr 2 0, .ptr 3 0]
theorem l_heightsP (c : Prg) (hl : Lim c) (hj : jumpsM c = true) (r : Option (List Int)) (n : Nat) (h : List Int) (wk : List Nat) (o : Option Nat) (junk : List DV) (cc : Nat) (hc4 : 4 ≤ cc) (hn : o = none → wk = []) (hs : ∀ i, o = some i → 4 ≤ i ∧ i < cc)
    (hI : WkI c.instrs.length h wk) (hb : wk.length + 2 * n ≤ 60000) (hr : hgtP c n h wk = some r) :
    IW Tryd.prog 150 (.loop u57_26) ⟨tm [(1, .ptr 0 0), (4, .ptr 2 0), (6, .ptr 3 0), (7, clo)], WH c h wk o junk, cc⟩ (bk 4 (sq Tryd.prog 150 u57_55 (rt [.tmp 2, .tmp 3] fun v H' x => ∃ H2, GL H' [v] H2 [hgtV r]))) := by
  have hjI : ∀ i ∈ c.instrs, i.op = 12 ∨ i.op = 13 ∨ i.op = 14 → 0 ≤ i.A ∧ i.A ≤ (c.instrs.length : Int) - 1 := by
    intro i hi hop
    simp only [jumpsM, Bool.and_eq_true, List.all_eq_true] at hj
    have := hj.1 i hi
    have hk : (effM i.op).2.2 = 7 := by rcases hop with e | e | e <;> rw [e] <;> decide
    simpa [jumpI, hk, inM] using this
  obtain ⟨wp, wv, ws, wi, wt, we, li, ls, le, lp, lv⟩ := hl
  refine i_loop (fun q : Nat × List Int × List Nat × Option Nat × List DV => [(1, .ptr 0 0), (4, .ptr 2 0), (6, .ptr 3 0), (7, clo)])
    (fun q => WH c q.2.1 q.2.2.1 q.2.2.2.1 q.2.2.2.2)
    (fun q cc => 4 ≤ cc ∧ (q.2.2.2.1 = none → q.2.2.1 = []) ∧ (∀ i, q.2.2.2.1 = some i → 4 ≤ i ∧ i < cc) ∧ WkI c.instrs.length q.2.1 q.2.2.1 ∧ q.2.2.1.length + 2 * q.1 ≤ 60000 ∧ hgtP c q.1 q.2.1 q.2.2.1 = some r)
    (fun q => q.1) (n, h, wk, o, junk) ⟨rfl, rfl, rfl, rfl, trivial⟩ (Sub.refl _) ⟨hc4, hn, hs, hI, hb, hr⟩ ?_
  clear hc4 hn hs hI hb hr
  rintro ⟨n, h, wk, o, junk⟩ cc ⟨hc4, hn, hs, hI, hb, hr⟩
  simp only at hn hs hI hb hr
  obtain ⟨m, rfl⟩ : ∃ m, n = m + 1 := by
    cases n with
    | zero => cases hr
    | succ m => exact ⟨m, rfl⟩
  have hS := WkS.mk' (c := c) (h := h) (junk := junk) hn hs hc4
  rcases wk with _ | ⟨p, wk⟩
  · simp only [hgtP, Option.some.injEq] at hr
    subst hr
    have hlen : lenR (todoV o 0) = some (I64 0) := by cases o <;> rfl
    repeat' ((first | with_reducible refine wr ?_ | ((with_reducible refine wb2 ?_ ?_) <;> (intro hb; try simp only [hb])) | fail) <;> try simp only [go_sem, seval, hS.h0, hS.h1, hS.h2, hS.h3, hlen, List.length_nil])
    exact pc_slc2 (u := 1) hS.h1 rfl (by simp) (ints_unit h) ⟨[], by rw [cells_ints, List.append_nil]⟩
  rcases o with _ | id
  · exact absurd (hn rfl) (by simp)
  obtain ⟨i2, i3⟩ := hs id rfl
  have hbl := (hS.hs id rfl).2.2
  rw [List.length_cons] at hb
  have hpos : decide (((wk.length + 1 : Nat) : Int) > 0) = true := by simp
  have hw := w64 (n := (((wk.length + 1 : Nat) : Int) - 1)) (by omega) (by omega)
  have hw1 : (((wk.length + 1 : Nat) : Int) - 1) = (wk.length : Int) := by omega
  rw [hw1] at hw
  obtain ⟨s1, s2, s3⟩ := hI.mem p List.mem_cons_self
  have hIt : WkI c.instrs.length h wk := ⟨hI.hl, fun q hq => hI.mem q (List.mem_cons_of_mem _ hq)⟩
  have hlen := hI.hl
  have hp' : p < h.length := by omega
  have hgh := List.getElem?_eq_getElem hp'
  have hgi := List.getElem?_eq_getElem s1
  have eh : h.getD p 0 = h[p] := by simp [List.getD, hgh]
  have ei : c.instrs.getD p ⟨0, 0⟩ = c.instrs[p] := by simp [List.getD, hgi]
  simp only [hgtP] at hr
  rw [eh] at s2 s3
  rw [eh, ei] at hr
  obtain ⟨b1, b2, b3, b4⟩ := eff_bd c.instrs[p].op
  have w2 := w64 (n := h[p] - (effM c.instrs[p].op).1) (by omega) (by omega)
  have w3 := w64 (n := h[p] - (effM c.instrs[p].op).1 + (effM c.instrs[p].op).2.1) (by omega) (by omega)
  have hcell : (wkC (p :: wk) ++ junk)[wk.length]? = some (I64 (p : Int)) := by
    rw [wkC_cons, List.append_assoc, List.getElem?_append_right (by simp [wkC_len]), wkC_len]; simp
  have hblen : wk.length + 1 ≤ (wkC (p :: wk) ++ junk).length := by simp [wkC_len]
  have ne0 : ¬ 0 = id := by omega
  have ne1 : ¬ 0 = cc := by omega
  have ne2 : ¬ 0 = cc + 1 := by omega
  have ne3 : ¬ 1 = id := by omega
  have ne4 : ¬ 1 = cc := by omega
  have ne5 : ¬ 1 = cc + 1 := by omega
  have ne6 : ¬ 2 = id := by omega
  have ne7 : ¬ 2 = cc := by omega
  have ne8 : ¬ 2 = cc + 1 := by omega
  have ne9 : ¬ 3 = id := by omega
  have ne10 : ¬ 3 = cc := by omega
  have ne11 : ¬ 3 = cc + 1 := by omega
  have ne12 : ¬ id = 0 := by omega
  have ne13 : ¬ id = 1 := by omega
  have ne14 : ¬ id = 2 := by omega
  have ne15 : ¬ id = 3 := by omega
  have ne16 : ¬ id = cc := by omega
  have ne17 : ¬ id = cc + 1 := by omega
  have ne18 : ¬ cc = 0 := by omega
  have ne19 : ¬ cc = 1 := by omega
  have ne20 : ¬ cc = 2 := by omega
  have ne21 : ¬ cc = 3 := by omega
  have ne22 : ¬ cc = id := by omega
  have ne23 : ¬ cc = cc + 1 := by omega
  have ne24 : ¬ cc + 1 = 0 := by omega
  have ne25 : ¬ cc + 1 = 1 := by omega
  have ne26 : ¬ cc + 1 = 2 := by omega
  have ne27 : ¬ cc + 1 = 3 := by omega
  have ne28 : ¬ cc + 1 = id := by omega
  have ne29 : ¬ cc + 1 = cc := by omega
  by_cases hok : ¬ h[p] ≥ (effM c.instrs[p].op).1
  · rw [if_pos (.inl (by omega))] at hr
    cases hr
    have hok' : decide (h[p] ≥ (effM c.instrs[p].op).1) = false := by simpa using hok
    repeat' ((first | with_reducible refine wr ?_ | ((with_reducible refine wb2 ?_ ?_) <;> (intro hb; try simp only [hb])) | ((with_reducible refine AC.call ((c_stack _).at _ _) ?_); rintro _ _ _ ⟨rfl, rfl, rfl⟩ -) | fail) <;> try simp only [go_sem, seval, hS.h0, hS.h1, hS.h2, hS.h3, hbl, List.length_cons, hw1, hw, hpos, hcell, hblen, hgh, hgi, s1, hp', hlen, w2, w3, hok', Nat.lt_add_one, Nat.le_add_right, ne0, ne1, ne2, ne3, ne4, ne5, ne6, ne7, ne8, ne9, ne10, ne11, ne12, ne13, ne14, ne15, ne16, ne17, ne18, ne19, ne20, ne21, ne22, ne23, ne24, ne25, ne26, ne27, ne28, ne29])
    all_goals exact pc_snil2
  have hok1 : h[p] ≥ (effM c.instrs[p].op).1 := by omega
  have hok' : decide (h[p] ≥ (effM c.instrs[p].op).1) = true := by simpa using hok1
  have hwp := w64 (n := (p : Int) + 1) (by omega) (by omega)
  have hpp : ((p : Int) + 1).toNat = p + 1 := by omega
  by_cases e31 : c.instrs[p].op = 31
  · have o31 : (c.instrs[p].op == 31) = true := by simpa using e31
    by_cases hz : h[p] = 0
    · have hz' : (h[p] == 0) = true := by simpa using hz
      rw [if_neg (by omega)] at hr
      have hA : afterM c.instrs[p] p h[p] = [] := by simp [afterM, e31]
      rw [hA] at hr
      simp only [reachL] at hr
      repeat' ((first | with_reducible refine wr ?_ | ((with_reducible refine wb2 ?_ ?_) <;> (intro hb; try simp only [hb])) | ((with_reducible refine AC.call ((c_stack _).at _ _) ?_); rintro _ _ _ ⟨rfl, rfl, rfl⟩ -) | fail) <;> try simp only [go_sem, seval, hS.h0, hS.h1, hS.h2, hS.h3, hbl, List.length_cons, hw1, hw, hpos, hcell, hblen, hgh, hgi, s1, hp', hlen, w2, w3, hok', Nat.lt_add_one, Nat.le_add_right, ne0, ne1, ne2, ne3, ne4, ne5, ne6, ne7, ne8, ne9, ne10, ne11, ne12, ne13, ne14, ne15, ne16, ne17, ne18, ne19, ne20, ne21, ne22, ne23, ne24, ne25, ne26, ne27, ne28, ne29, o31, hz'])
      have hS' := (hS.pop.upd ⟨0, true, [DV.int IntKind.i64 0, DV.int IntKind.i64 0]⟩ (Nat.le_refl _) (Nat.le_refl _)).upd ⟨0, true, [I64 c.instrs[p].op, I64 c.instrs[p].A]⟩ (Nat.le_refl _) (Nat.le_succ _)
      exact ⟨(m, h, wk, some id, I64 (p : Int) :: junk), hS'.sub, inv ⟨hS'.hc, hS'.hn, fun i hi => ⟨(hS'.hs i hi).1, (hS'.hs i hi).2.1⟩, hIt, by simp only; omega, hr⟩, by simp only; omega⟩
    · have hz' : (h[p] == 0) = false := by simpa using hz
      rw [if_pos (.inr ⟨e31, hz⟩)] at hr
      cases hr
      repeat' ((first | with_reducible refine wr ?_ | ((with_reducible refine wb2 ?_ ?_) <;> (intro hb; try simp only [hb])) | ((with_reducible refine AC.call ((c_stack _).at _ _) ?_); rintro _ _ _ ⟨rfl, rfl, rfl⟩ -) | fail) <;> try simp only [go_sem, seval, hS.h0, hS.h1, hS.h2, hS.h3, hbl, List.length_cons, hw1, hw, hpos, hcell, hblen, hgh, hgi, s1, hp', hlen, w2, w3, hok', Nat.lt_add_one, Nat.le_add_right, ne0, ne1, ne2, ne3, ne4, ne5, ne6, ne7, ne8, ne9, ne10, ne11, ne12, ne13, ne14, ne15, ne16, ne17, ne18, ne19, ne20, ne21, ne22, ne23, ne24, ne25, ne26, ne27, ne28, ne29, o31, hz'])
      exact pc_snil2
  have o31 : (c.instrs[p].op == 31) = false := by simpa using e31
  rw [if_neg (by omega)] at hr
  by_cases e12 : c.instrs[p].op = 12
  · have o12 : (c.instrs[p].op == 12) = true := by simpa using e12
    have p1 := (hjI _ (List.getElem_mem s1) (.inl e12)).1
    have hE : effM c.instrs[p].op = (0, 0, 7) := by rw [e12]; decide
    have hA : afterM c.instrs[p] p h[p] = [(c.instrs[p].A.toNat, h[p])] := by simp [afterM, e12]
    have hx : h[p] - (effM c.instrs[p].op).1 + (effM c.instrs[p].op).2.1 = h[p] := by rw [hE]; simp
    repeat' ((first | with_reducible refine wr ?_ | ((with_reducible refine wb2 ?_ ?_) <;> (intro hb; try simp only [hb])) | ((with_reducible refine AC.call ((c_stack _).at _ _) ?_); rintro _ _ _ ⟨rfl, rfl, rfl⟩ -) | fail) <;> try simp only [go_sem, seval, hS.h0, hS.h1, hS.h2, hS.h3, hbl, List.length_cons, hw1, hw, hpos, hcell, hblen, hgh, hgi, s1, hp', hlen, w2, w3, hok', Nat.lt_add_one, Nat.le_add_right, ne0, ne1, ne2, ne3, ne4, ne5, ne6, ne7, ne8, ne9, ne10, ne11, ne12, ne13, ne14, ne15, ne16, ne17, ne18, ne19, ne20, ne21, ne22, ne23, ne24, ne25, ne26, ne27, ne28, ne29, o31, o12])
    refine AC.call (c_reach' c h wk (some id) _ _ _ (c.instrs[p].A) _ (p1) ((hS.pop.upd _ (Nat.le_refl _) (Nat.le_refl _)).upd _ (Nat.le_refl _) (Nat.le_succ _)) (by omega)) ?_
    rintro v H' c' hq hcc
    rw [hA] at hr
    rw [hx] at hq
    rcases hq with ⟨hr0, rfl⟩ | ⟨h', wk', o', junk', hr1, rfl, hS', hfr⟩
    · simp only [reachL, hr0] at hr
      cases hr
      simp only [go_sem, seval]
      repeat' ((first | with_reducible refine wr ?_ | ((with_reducible refine wb2 ?_ ?_) <;> (intro hb; try simp only [hb])) | fail) <;> try simp only [go_sem, seval])
      exact pc_snil2
    · simp only [reachL, hr1] at hr
      obtain ⟨hI', hwk'⟩ := reach_inv hIt s2 hr1
      simp only [go_sem, seval]
      repeat' ((first | with_reducible refine wr ?_ | ((with_reducible refine wb2 ?_ ?_) <;> (intro hb; try simp only [hb])) | fail) <;> try simp only [go_sem, seval])
      exact ⟨(m, h', wk', o', junk'), hS'.sub, inv ⟨hS'.hc, hS'.hn, fun i hi => ⟨(hS'.hs i hi).1, (hS'.hs i hi).2.1⟩, hI', by simp only; omega, hr⟩, by simp only; omega⟩
  have o12 : (c.instrs[p].op == 12) = false := by simpa using e12
  by_cases e13 : c.instrs[p].op = 13
  · have o13 : (c.instrs[p].op == 13) = true := by simpa using e13
    have p1 := (hjI _ (List.getElem_mem s1) (.inr (.inl e13))).1
    have hE : effM c.instrs[p].op = (1, 0, 7) := by rw [e13]; decide
    have hA : afterM c.instrs[p] p h[p] = [(p + 1, h[p] - 1), (c.instrs[p].A.toNat, h[p] - 1)] := by simp [afterM, e13]
    have hx : h[p] - (effM c.instrs[p].op).1 + (effM c.instrs[p].op).2.1 = h[p] - 1 := by rw [hE]; simp
    have hge : 0 ≤ h[p] - 1 := by rw [hE] at hok1; simp only at hok1; omega
    repeat' ((first | with_reducible refine wr ?_ | ((with_reducible refine wb2 ?_ ?_) <;> (intro hb; try simp only [hb])) | ((with_reducible refine AC.call ((c_stack _).at _ _) ?_); rintro _ _ _ ⟨rfl, rfl, rfl⟩ -) | fail) <;> try simp only [go_sem, seval, hS.h0, hS.h1, hS.h2, hS.h3, hbl, List.length_cons, hw1, hw, hpos, hcell, hblen, hgh, hgi, s1, hp', hlen, w2, w3, hok', Nat.lt_add_one, Nat.le_add_right, ne0, ne1, ne2, ne3, ne4, ne5, ne6, ne7, ne8, ne9, ne10, ne11, ne12, ne13, ne14, ne15, ne16, ne17, ne18, ne19, ne20, ne21, ne22, ne23, ne24, ne25, ne26, ne27, ne28, ne29, o31, o12, o13, hwp])
    refine AC.call (c_reach' c h wk (some id) _ _ _ ((p : Int) + 1) _ (by omega) ((hS.pop.upd _ (Nat.le_refl _) (Nat.le_refl _)).upd _ (Nat.le_refl _) (Nat.le_succ _)) (by omega)) ?_
    rintro v H' c' hq hcc
    rw [hA] at hr
    rw [hx] at hq
    rw [hpp] at hq
    rcases hq with ⟨hr0, rfl⟩ | ⟨h', wk', o', junk', hr1, rfl, hS', hfr⟩
    · simp only [reachL, hr0] at hr
      cases hr
      simp only [go_sem, seval]
      repeat' ((first | with_reducible refine wr ?_ | ((with_reducible refine wb2 ?_ ?_) <;> (intro hb; try simp only [hb])) | fail) <;> try simp only [go_sem, seval])
      exact pc_snil2
    · obtain ⟨hI', hwk'⟩ := reach_inv hIt hge hr1
      simp only [reachL, hr1] at hr
      have hbox := (hfr cc hc4 (Nat.lt_succ_self _) (by simp; omega)).trans h_same
      simp only [go_sem, seval, hbox, o31, o12, o13, hwp]
      repeat' ((first | with_reducible refine wr ?_ | ((with_reducible refine wb2 ?_ ?_) <;> (intro hb; try simp only [hb])) | fail) <;> try simp only [go_sem, seval, hbox, o31, o12, o13, hwp])
      refine AC.call (c_reach' c h' wk' o' junk' _ _ c.instrs[p].A _ p1 hS' (by omega)) ?_
      rintro v H2 c2 hq hcc2
      rw [hx] at hq
      rcases hq with ⟨hr0, rfl⟩ | ⟨h2, wk2, o2, junk2, hr2, rfl, hS2, hfr2⟩
      · simp only [hr0] at hr
        cases hr
        simp only [go_sem, seval]
        repeat' ((first | with_reducible refine wr ?_ | ((with_reducible refine wb2 ?_ ?_) <;> (intro hb; try simp only [hb])) | fail) <;> try simp only [go_sem, seval])
        exact pc_snil2
      · simp only [hr2] at hr
        obtain ⟨hI2, hwk2⟩ := reach_inv hI' hge hr2
        simp only [go_sem, seval]
        repeat' ((first | with_reducible refine wr ?_ | ((with_reducible refine wb2 ?_ ?_) <;> (intro hb; try simp only [hb])) | fail) <;> try simp only [go_sem, seval])
        exact ⟨(m, h2, wk2, o2, junk2), hS2.sub, inv ⟨hS2.hc, hS2.hn, fun i hi => ⟨(hS2.hs i hi).1, (hS2.hs i hi).2.1⟩, hI2, by simp only; omega, hr⟩, by simp only; omega⟩
  have o13 : (c.instrs[p].op == 13) = false := by simpa using e13
  by_cases e14 : c.instrs[p].op = 14
  · have o14 : (c.instrs[p].op == 14) = true := by simpa using e14
    have p1 := (hjI _ (List.getElem_mem s1) (.inr (.inr e14))).1
    have hE : effM c.instrs[p].op = (1, 1, 7) := by rw [e14]; decide
    have hA : afterM c.instrs[p] p h[p] = [(p + 1, h[p]), (c.instrs[p].A.toNat, h[p] - 1)] := by simp [afterM, e14]
    have hx : h[p] - (effM c.instrs[p].op).1 + (effM c.instrs[p].op).2.1 = h[p] := by rw [hE]; simp
    have hge : 0 ≤ h[p] - 1 := by rw [hE] at hok1; simp only at hok1; omega
    have w4 := w64 (n := h[p] - (effM c.instrs[p].op).1 + (effM c.instrs[p].op).2.1 - 1) (by omega) (by omega)
    repeat' ((first | with_reducible refine wr ?_ | ((with_reducible refine wb2 ?_ ?_) <;> (intro hb; try simp only [hb])) | ((with_reducible refine AC.call ((c_stack _).at _ _) ?_); rintro _ _ _ ⟨rfl, rfl, rfl⟩ -) | fail) <;> try simp only [go_sem, seval, hS.h0, hS.h1, hS.h2, hS.h3, hbl, List.length_cons, hw1, hw, hpos, hcell, hblen, hgh, hgi, s1, hp', hlen, w2, w3, hok', Nat.lt_add_one, Nat.le_add_right, ne0, ne1, ne2, ne3, ne4, ne5, ne6, ne7, ne8, ne9, ne10, ne11, ne12, ne13, ne14, ne15, ne16, ne17, ne18, ne19, ne20, ne21, ne22, ne23, ne24, ne25, ne26, ne27, ne28, ne29, o31, o12, o13, o14, hwp, w4])
    refine AC.call (c_reach' c h wk (some id) _ _ _ ((p : Int) + 1) _ (by omega) ((hS.pop.upd _ (Nat.le_refl _) (Nat.le_refl _)).upd _ (Nat.le_refl _) (Nat.le_succ _)) (by omega)) ?_
    rintro v H' c' hq hcc
    rw [hA] at hr
    rw [hx] at hq
    rw [hpp] at hq
    rcases hq with ⟨hr0, rfl⟩ | ⟨h', wk', o', junk', hr1, rfl, hS', hfr⟩
    · simp only [reachL, hr0] at hr
      cases hr
      simp only [go_sem, seval]
      repeat' ((first | with_reducible refine wr ?_ | ((with_reducible refine wb2 ?_ ?_) <;> (intro hb; try simp only [hb])) | fail) <;> try simp only [go_sem, seval])
      exact pc_snil2
    · obtain ⟨hI', hwk'⟩ := reach_inv hIt s2 hr1
      simp only [reachL, hr1] at hr
      have hbox := (hfr cc hc4 (Nat.lt_succ_self _) (by simp; omega)).trans h_same
      simp only [go_sem, seval, hbox, o31, o12, o13, o14, hwp, w4]
      repeat' ((first | with_reducible refine wr ?_ | ((with_reducible refine wb2 ?_ ?_) <;> (intro hb; try simp only [hb])) | fail) <;> try simp only [go_sem, seval, hbox, o31, o12, o13, o14, hwp, w4])
      refine AC.call (c_reach' c h' wk' o' junk' _ _ c.instrs[p].A _ p1 hS' (by omega)) ?_
      rintro v H2 c2 hq hcc2
      rw [hx] at hq
      rcases hq with ⟨hr0, rfl⟩ | ⟨h2, wk2, o2, junk2, hr2, rfl, hS2, hfr2⟩
      · simp only [hr0] at hr
        cases hr
        simp only [go_sem, seval]
        repeat' ((first | with_reducible refine wr ?_ | ((with_reducible refine wb2 ?_ ?_) <;> (intro hb; try simp only [hb])) | fail) <;> try simp only [go_sem, seval])
        exact pc_snil2
      · simp only [hr2] at hr
        obtain ⟨hI2, hwk2⟩ := reach_inv hI' hge hr2
        simp only [go_sem, seval]
        repeat' ((first | with_reducible refine wr ?_ | ((with_reducible refine wb2 ?_ ?_) <;> (intro hb; try simp only [hb])) | fail) <;> try simp only [go_sem, seval])
        exact ⟨(m, h2, wk2, o2, junk2), hS2.sub, inv ⟨hS2.hc, hS2.hn, fun i hi => ⟨(hS2.hs i hi).1, (hS2.hs i hi).2.1⟩, hI2, by simp only; omega, hr⟩, by simp only; omega⟩
  have o14 : (c.instrs[p].op == 14) = false := by simpa using e14
  have hA : afterM c.instrs[p] p h[p] = [(p + 1, h[p] - (effM c.instrs[p].op).1 + (effM c.instrs[p].op).2.1)] := by simp [afterM, e31, e12, e13, e14]
  have hge : 0 ≤ h[p] - (effM c.instrs[p].op).1 + (effM c.instrs[p].op).2.1 := by omega
  repeat' ((first | with_reducible refine wr ?_ | ((with_reducible refine wb2 ?_ ?_) <;> (intro hb; try simp only [hb])) | ((with_reducible refine AC.call ((c_stack _).at _ _) ?_); rintro _ _ _ ⟨rfl, rfl, rfl⟩ -) | fail) <;> try simp only [go_sem, seval, hS.h0, hS.h1, hS.h2, hS.h3, hbl, List.length_cons, hw1, hw, hpos, hcell, hblen, hgh, hgi, s1, hp', hlen, w2, w3, hok', Nat.lt_add_one, Nat.le_add_right, ne0, ne1, ne2, ne3, ne4, ne5, ne6, ne7, ne8, ne9, ne10, ne11, ne12, ne13, ne14, ne15, ne16, ne17, ne18, ne19, ne20, ne21, ne22, ne23, ne24, ne25, ne26, ne27, ne28, ne29, o31, o12, o13, o14, hwp])
  refine AC.call (c_reach' c h wk (some id) _ _ _ ((p : Int) + 1) _ (by omega) ((hS.pop.upd _ (Nat.le_refl _) (Nat.le_refl _)).upd _ (Nat.le_refl _) (Nat.le_succ _)) (by omega)) ?_
  rintro v H' c' hq hcc
  rw [hA] at hr
  rw [hpp] at hq
  rcases hq with ⟨hr0, rfl⟩ | ⟨h', wk', o', junk', hr1, rfl, hS', hfr⟩
  · simp only [reachL, hr0] at hr
    cases hr
    simp only [go_sem, seval]
    repeat' ((first | with_reducible refine wr ?_ | ((with_reducible refine wb2 ?_ ?_) <;> (intro hb; try simp only [hb])) | fail) <;> try simp only [go_sem, seval])
    exact pc_snil2
  · simp only [reachL, hr1] at hr
    obtain ⟨hI', hwk'⟩ := reach_inv hIt hge hr1
    simp only [go_sem, seval]
    repeat' ((first | with_reducible refine wr ?_ | ((with_reducible refine wb2 ?_ ?_) <;> (intro hb; try simp only [hb])) | fail) <;> try simp only [go_sem, seval])
    exact ⟨(m, h', wk', o', junk'), hS'.sub, inv ⟨hS'.hc, hS'.hn, fun i hi => ⟨(hS'.hs i hi).1, (hS'.hs i hi).2.1⟩, hI', by simp only; omega, hr⟩, by simp only; omega⟩
theorem c_heightsP (c : Prg) (hl : Lim c) (hj : jumpsM c = true) (n : Nat) (hn0 : n ≤ 20000) (r : Option (List Int)) (hr : hgtP0 c n = some r) : PC Tryd.prog 57 [c.v] (hgtV r) := by
  have hl0 := hl
  obtain ⟨wp, wv, ws, wi, wt, we, li, ls, le, lp, lv⟩ := hl
  have hms := r_msl (sz := 1) (bytes := 8) (z := [I64 0]) (k := .i64) (k' := .i64) (n := c.instrs.length) (by omega) (by omega) rfl rfl
  refine PC.of mixedU isU57 (Nat.le_of_ble_eq_true rfl) (by simp [DV.nlL, DV.nl, nlL_ints, nlL_strs, nlL_instrs, nlL_entries]) (by cases r <;> simp [hgtV, DV.nlL, DV.nl, nlL_ints]) ?_
  show IW Tryd.prog 150 u57_1 ⟨argT _, _, _⟩ (rt [.tmp 2, .tmp 3] _)
  repeat' ((first | with_reducible refine wr ?_ | ((with_reducible refine wb2 ?_ ?_) <;> (intro hb; try simp only [hb])) | fail) <;> try simp only [go_sem, seval, hms, madeL_one])
  -- every height is -1
  refine i_loop (fun k : Nat => [(1, .ptr 0 0), (4, .ptr 2 0), (21, I64 c.instrs.length), (22, I64 k)]) (fun k => ((nil.upd 0 ⟨0, true, c.cs⟩).upd 1 ⟨1, true, (fillM c.instrs.length k).map I64⟩).upd 2 ⟨0, true, [.slc 1 0 c.instrs.length]⟩) (fun k cc => cc = 3 ∧ k ≤ c.instrs.length) (fun k => c.instrs.length - k) 0
    (by simp [tmLe, tm, Tm.upd]) (by rw [h_upd2]; simpa [fillM] using Sub.refl _) (by simp) ?_
  rintro k cc ⟨rfl, hk⟩
  by_cases hlt : k < c.instrs.length
  · have hd : decide ((k : Int) < c.instrs.length) = true := by simpa using hlt
    have hw := w64 (n := (k : Int) + 1) (by omega) (by omega)
    have hlen : (fillM c.instrs.length k).length = c.instrs.length := by simp [fillM]; omega
    have hle : k + 1 ≤ c.instrs.length := hlt
    have hput := put_map (f := I64) (l := fillM c.instrs.length k) (n := k) (a := -1) (by rw [hlen]; exact hlt)
    repeat' ((first | with_reducible refine wr ?_ | ((with_reducible refine wb2 ?_ ?_) <;> (intro hb; try simp only [hb])) | fail) <;> try simp only [go_sem, seval, hd, hw, hlen, hle, hlt, hput])
    exact ⟨k + 1, rfl, by rw [fillM_succ hlt]; (intro j b hj; simp only [Hp.upd, Hp.del, Sym.nil, baseH, optH] at hj ⊢; (repeat' split at hj) <;> (repeat' split) <;> first | exact hj | (exfalso; omega) | cases hj), inv ⟨rfl, hlt⟩, by omega⟩
  have hd : decide ((k : Int) < c.instrs.length) = false := by simpa using hlt
  have hfull : fillM c.instrs.length k = List.replicate c.instrs.length (-1) := by
    have : c.instrs.length - k = 0 := by omega
    have hk2 : k = c.instrs.length := by omega
    simp [fillM, this, hk2]
  repeat' ((first | with_reducible refine wr ?_ | ((with_reducible refine wb2 ?_ ?_) <;> (intro hb; try simp only [hb])) | fail) <;> try simp only [go_sem, seval, hd, hfull])
  clear hd hfull hlt hk
  -- the entries
  have hjE : ∀ e ∈ c.entries, 0 ≤ e.pos ∧ e.pos ≤ (c.instrs.length : Int) - 1 := by
    intro e he
    simp only [jumpsM, Bool.and_eq_true, List.all_eq_true] at hj
    have := hj.2 e he
    simpa [jumpE, inM] using this
  refine i_loop (fun q : Nat × List Int × List Nat × Option Nat × List DV => [(1, .ptr 0 0), (4, .ptr 2 0), (6, .ptr 3 0), (7, clo), (31, entsV c.entries), (32, I64 c.entries.length), (33, I64 q.1)])
    (fun q => WH c q.2.1 q.2.2.1 q.2.2.2.1 q.2.2.2.2)
    (fun q cc => 4 ≤ cc ∧ q.1 ≤ c.entries.length ∧ (q.2.2.2.1 = none → q.2.2.1 = []) ∧ (∀ i, q.2.2.2.1 = some i → 4 ≤ i ∧ i < cc) ∧ WkI c.instrs.length q.2.1 q.2.2.1 ∧ q.2.2.1.length ≤ q.1 ∧ reachL q.2.1 q.2.2.1 ((c.entries.drop q.1).map entP) = reachL (List.replicate c.instrs.length (-1)) [] (c.entries.map entP))
    (fun q => c.entries.length - q.1) (0, List.replicate c.instrs.length (-1), [], none, [])
    (by simp [tmLe, tm, Tm.upd, todoV]) (by simpa [WH, optH, todoV] using Sub.refl _) ⟨by omega, by omega, fun _ => rfl, by simp, ⟨by simp, by simp⟩, by simp, by simp⟩ ?_
  rintro ⟨k, h, wk, o, junk⟩ cc ⟨hc4, hk, hn, hs, hI, hwk, hrL⟩
  simp only at hk hn hs hI hwk hrL
  have hS := WkS.mk' (c := c) (h := h) (junk := junk) hn hs hc4
  by_cases hlt : k < c.entries.length
  · have hd : decide ((k : Int) < c.entries.length) = true := by simpa using hlt
    have hw := w64 (n := (k : Int) + 1) (by omega) (by omega)
    have hg := List.getElem?_eq_getElem hlt
    obtain ⟨p1, p2⟩ := hjE _ (List.getElem_mem hlt)
    have hpos : c.entries[k].pos = ((c.entries[k].pos.toNat : Nat) : Int) := by omega
    have ne0 : ¬ 0 = cc := by omega
    have ne1 : ¬ 0 = cc + 1 := by omega
    have ne2 : ¬ 1 = cc := by omega
    have ne3 : ¬ 1 = cc + 1 := by omega
    have ne4 : ¬ 2 = cc := by omega
    have ne5 : ¬ 2 = cc + 1 := by omega
    have ne6 : ¬ 3 = cc := by omega
    have ne7 : ¬ 3 = cc + 1 := by omega
    have ne8 : ¬ cc = 0 := by omega
    have ne9 : ¬ cc = 1 := by omega
    have ne10 : ¬ cc = 2 := by omega
    have ne11 : ¬ cc = 3 := by omega
    have ne12 : ¬ cc = cc + 1 := by omega
    have ne13 : ¬ cc + 1 = 0 := by omega
    have ne14 : ¬ cc + 1 = 1 := by omega
    have ne15 : ¬ cc + 1 = 2 := by omega
    have ne16 : ¬ cc + 1 = 3 := by omega
    have ne17 : ¬ cc + 1 = cc := by omega
    repeat' ((first | with_reducible refine wr ?_ | ((with_reducible refine wb2 ?_ ?_) <;> (intro hb; try simp only [hb])) | fail) <;> try simp only [go_sem, seval, hd, hw, hg, hS.h0, hS.h1, hS.h2, hS.h3, ne0, ne1, ne2, ne3, ne4, ne5, ne6, ne7, ne8, ne9, ne10, ne11, ne12, ne13, ne14, ne15, ne16, ne17])
    rw [h_upd2]
    refine AC.call (c_reach' c h wk o junk _ _ c.entries[k].pos 0 p1 (hS.upd _ (Nat.le_refl _) (Nat.le_succ _)) (by omega)) ?_
    rintro v H' c' hq hcc
    rw [List.drop_eq_getElem_cons hlt, List.map_cons] at hrL
    rcases hq with ⟨hr0, rfl⟩ | ⟨h', wk', o', junk', hr1, rfl, hS', hfr⟩
    · have hr2 : r = none := by
        rw [hgtP0, ← hrL] at hr
        simp only [reachL, entP, hr0] at hr
        simpa using hr.symm
      subst hr2
      simp only [go_sem, seval]
      repeat' ((first | with_reducible refine wr ?_ | ((with_reducible refine wb2 ?_ ?_) <;> (intro hb; try simp only [hb])) | fail) <;> try simp only [go_sem, seval])
      exact pc_snil2
    · simp only [reachL, entP, hr1] at hrL
      obtain ⟨hI', hwk'⟩ := reach_inv hI (Int.le_refl 0) hr1
      simp only [go_sem, seval]
      repeat' ((first | with_reducible refine wr ?_ | ((with_reducible refine wb2 ?_ ?_) <;> (intro hb; try simp only [hb])) | fail) <;> try simp only [go_sem, seval, hw])
      exact ⟨(k + 1, h', wk', o', junk'), rfl, hS'.sub, inv ⟨hS'.hc, hlt, hS'.hn, fun i hi => ⟨(hS'.hs i hi).1, (hS'.hs i hi).2.1⟩, hI', by simp only; omega, hrL⟩, by simp only; omega⟩
  have hd : decide ((k : Int) < c.entries.length) = false := by simpa using hlt
  obtain rfl : k = c.entries.length := by omega
  rw [List.drop_eq_nil_of_le (Nat.le_refl _)] at hrL
  rw [hgtP0, ← hrL] at hr
  simp only [List.map_nil, reachL] at hr
  repeat' ((first | with_reducible refine wr ?_ | ((with_reducible refine wb2 ?_ ?_) <;> (intro hb; try simp only [hb])) | fail) <;> try simp only [go_sem, seval, hd])
  exact l_heightsP c hl0 hj r n h wk o junk cc hc4 hn hs hI (by omega) hr
end Go.Proofs.YtcallbfckjlagaaDoor
set_option maxHeartbeats 4000000
set_option maxRecDepth 100000
set_option linter.unusedSimpArgs false
set_option linter.unusedVariables false
namespace Go.Proofs.YtcallbfckjlagaaDoor
open Go.Eng (IC IOper DReg IFn IsFn)
open Go.Sym Go.Pb
noncomputable section
def u20_2r : List IOper := [oP 4 (.ld 7 true (.t 1)), ⟨some 5, .call 30 [.t 4], none⟩, oP 6 (.ext (.t 5) 0), oP 7 (.ext (.t 5) 1), oP 2 (.mv (.t 6)), oP 3 (.mv (.t 7))]
def u20_2 : IC := .seq (.reg u20_2r) .ret
def u20_1r : List IOper := [⟨some 1, .new (.box (.t 0)), none⟩, oP 2 (.mv (.k (.slice none 0 0))), oP 3 (.mv (.k (.int .i64 0)))]
def u20_1 : IC := .seq (.reg u20_1r) u20_2
def u20 : IFn := ⟨8, u20_1, [.tmp 2, .tmp 3]⟩
end
theorem isU20 : IsFn Tryd.prog 20 u20 := by unfold IsFn; kernel_rfl
instance i20_2 : WR Tryd.prog 8 u20_2 (rS u20_2r .ret [1]) := ⟨mkS⟩
instance i20_1 : WR Tryd.prog 8 u20_1 (rS u20_1r u20_2 [0]) := ⟨mkS⟩
attribute [go_sem] u20_2r u20_1r
theorem c_heightsP' (c : Prg) (hl : Lim c) (hj : jumpsM c = true) : PC Tryd.prog 57 [c.v] (hgtV (hR c)) :=
  c_heightsP c hl hj 4001 (by omega) _ (hgtP_eq hl.li hj)
theorem c_verify (c : Prg) (hs : ∀ s ∈ c.strings, s.length ≤ 140737488355328) (n1 : c.instrs.length ≤ 9223372036854775807) : PC Tryd.prog 30 [c.v] (.tup [ints (vHts c), I64 (validM c)]) := by
  by_cases hL : limitsM c = true
  · have hl := Lim.of hL
    have hl0 := hl
    obtain ⟨wp, wv, ws, wi, wt, we, li, ls, le, lp, lv⟩ := hl
    by_cases hp : partsM c = true
    · by_cases hj : jumpsM c = true
      · refine PC.of mixedU isU30 (Nat.le_of_ble_eq_true rfl) (by simp [DV.nlL, DV.nl, nlL_ints, nlL_strs, nlL_instrs, nlL_entries, nlL_stp]) (by simp [DV.nlL, DV.nl, nlL_ints, nlL_strs, nlL_instrs, nlL_entries, nlL_stp]) ?_
        show IW Tryd.prog 47 u30_1 ⟨argT _, _, _⟩ (rt [.tmp 2, .tmp 3] _)
        repeat' ((first | with_reducible refine wr ?_ | ((with_reducible refine wb2 ?_ ?_) <;> (intro hb; try simp only [hb])) | ((with_reducible refine AC.call ((c_limits c).at _ _) ?_); rintro _ _ _ ⟨rfl, rfl, rfl⟩ -) | ((with_reducible refine AC.call ((c_bparts c hl0 hs).at _ _) ?_); rintro _ _ _ ⟨rfl, rfl, rfl⟩ -) | ((with_reducible refine AC.call ((c_targets c hl0).at _ _) ?_); rintro _ _ _ ⟨rfl, rfl, rfl⟩ -) | fail) <;> try simp only [go_sem, seval, hL, hp, hj])
        refine i_loop (fun k : Nat => [(1, .ptr 0 0), (4, I64 k)]) (fun _ => nil.upd 0 ⟨0, true, c.cs⟩) (fun k cc => 1 ≤ cc ∧ 1 ≤ k ∧ (k ≤ c.entries.length ∨ k = 1) ∧ chainM (c.entries.take k) = true) (fun k => c.entries.length - k) 1 (by simp [tmLe, tm, Tm.upd]) (Sub.refl _) ⟨by omega, by omega, by omega, by cases c.entries <;> rfl⟩ ?_
        rintro k cc ⟨h1c, h1k, hk, he⟩
        by_cases hlt : k < c.entries.length
        · have hd : decide ((k : Int) < c.entries.length) = true := by simpa using hlt
          have hg := List.getElem?_eq_getElem hlt
          have hlt' : k - 1 < c.entries.length := by omega
          have hg' := List.getElem?_eq_getElem hlt'
          have hw := w64 (n := (k : Int) + 1) (by omega) (by omega)
          have hw1 := w64 (n := (k : Int) - 1) (by omega) (by omega)
          have hw2 : (k : Int) - 1 = ((k - 1 : Nat) : Int) := by omega
          rw [hw2] at hw1
          repeat' ((first | with_reducible refine wr ?_ | ((with_reducible refine wb2 ?_ ?_) <;> (intro hb; try simp only [hb])) | ((with_reducible refine AC.call ((c_bless _ _).at _ _) ?_); rintro _ _ _ ⟨rfl, rfl, rfl⟩ -) | fail) <;> try simp only [go_sem, seval, hd, hg, hg', hw, hw2, hw1])
          · have hf := chain_fail h1k hg' hg (by simpa using hb)
            have e : validM c = 66 := by simp [validM, hL, hp, hj, hf]
            simp only [vHts, e]
            exact pc_snil2
          · exact ⟨k + 1, rfl, Sub.refl _, inv ⟨by omega, by omega, by omega, by rw [chain_take h1k hg' hg he]; simpa using hb⟩, by omega⟩
        · have hd : decide ((k : Int) < c.entries.length) = false := by simp; omega
          have hch : chainM c.entries = true := by
            rw [List.take_of_length_le (by omega)] at he; exact he
          cases hh : hR c with
          | none =>
            have key := c_heightsP' c hl0 hj
            rw [hh, hgtV_none] at key
            repeat' ((first | with_reducible refine wr ?_ | ((with_reducible refine wb2 ?_ ?_) <;> (intro hb; try simp only [hb])) | ((with_reducible refine AC.call ((key).at _ _) ?_); rintro _ _ _ ⟨rfl, rfl, rfl⟩ -) | fail) <;> try simp only [go_sem, seval, hd])
            have e : validM c = 53 := by simp [validM, hL, hp, hj, hch, hh]
            simp only [vHts, e]
            exact pc_snil2
          | some h =>
            have key := c_heightsP' c hl0 hj
            rw [hh, hgtV_some] at key
            repeat' ((first | with_reducible refine wr ?_ | ((with_reducible refine wb2 ?_ ?_) <;> (intro hb; try simp only [hb])) | ((with_reducible refine AC.call ((key).at _ _) ?_); rintro _ _ _ ⟨rfl, rfl, rfl⟩ -) | fail) <;> try simp only [go_sem, seval, hd])
            have e : validM c = 0 := by simp [validM, hL, hp, hj, hch, hh]
            simp only [vHts, e, hh]
            exact pc_ret rfl
      · have hj' : jumpsM c = false := by simpa using hj
        refine PC.of mixedU isU30 (Nat.le_of_ble_eq_true rfl) (by simp [DV.nlL, DV.nl, nlL_ints, nlL_strs, nlL_instrs, nlL_entries, nlL_stp]) (by simp [DV.nlL, DV.nl, nlL_ints, nlL_strs, nlL_instrs, nlL_entries, nlL_stp]) ?_
        show IW Tryd.prog 47 u30_1 ⟨argT _, _, _⟩ (rt [.tmp 2, .tmp 3] _)
        repeat' ((first | with_reducible refine wr ?_ | ((with_reducible refine wb2 ?_ ?_) <;> (intro hb; try simp only [hb])) | ((with_reducible refine AC.call ((c_limits c).at _ _) ?_); rintro _ _ _ ⟨rfl, rfl, rfl⟩ -) | ((with_reducible refine AC.call ((c_bparts c hl0 hs).at _ _) ?_); rintro _ _ _ ⟨rfl, rfl, rfl⟩ -) | ((with_reducible refine AC.call ((c_targets c hl0).at _ _) ?_); rintro _ _ _ ⟨rfl, rfl, rfl⟩ -) | fail) <;> try simp only [go_sem, seval, hL, hp, hj'])
        have e : validM c = 54 := by simp [validM, hL, hp, hj']
        simp only [vHts, e]
        exact pc_snil2
    · have hp' : partsM c = false := by simpa using hp
      refine PC.of mixedU isU30 (Nat.le_of_ble_eq_true rfl) (by simp [DV.nlL, DV.nl, nlL_ints, nlL_strs, nlL_instrs, nlL_entries, nlL_stp]) (by simp [DV.nlL, DV.nl, nlL_ints, nlL_strs, nlL_instrs, nlL_entries, nlL_stp]) ?_
      show IW Tryd.prog 47 u30_1 ⟨argT _, _, _⟩ (rt [.tmp 2, .tmp 3] _)
      repeat' ((first | with_reducible refine wr ?_ | ((with_reducible refine wb2 ?_ ?_) <;> (intro hb; try simp only [hb])) | ((with_reducible refine AC.call ((c_limits c).at _ _) ?_); rintro _ _ _ ⟨rfl, rfl, rfl⟩ -) | ((with_reducible refine AC.call ((c_bparts c hl0 hs).at _ _) ?_); rintro _ _ _ ⟨rfl, rfl, rfl⟩ -) | fail) <;> try simp only [go_sem, seval, hL, hp'])
      have e : validM c = 51 := by simp [validM, hL, hp']
      simp only [vHts, e]
      exact pc_snil2
  · have hL' : limitsM c = false := by simpa using hL
    refine PC.of mixedU isU30 (Nat.le_of_ble_eq_true rfl) (by simp [DV.nlL, DV.nl, nlL_ints, nlL_strs, nlL_instrs, nlL_entries, nlL_stp]) (by simp [DV.nlL, DV.nl, nlL_ints, nlL_strs, nlL_instrs, nlL_entries, nlL_stp]) ?_
    show IW Tryd.prog 47 u30_1 ⟨argT _, _, _⟩ (rt [.tmp 2, .tmp 3] _)
    repeat' ((first | with_reducible refine wr ?_ | ((with_reducible refine wb2 ?_ ?_) <;> (intro hb; try simp only [hb])) | ((with_reducible refine AC.call ((c_limits c).at _ _) ?_); rintro _ _ _ ⟨rfl, rfl, rfl⟩ -) | fail) <;> try simp only [go_sem, seval, hL'])
    have e : validM c = 9 := by simp [validM, hL']
    simp only [vHts, e]
    exact pc_snil2
theorem c_valid (c : Prg) (hs : ∀ s ∈ c.strings, s.length ≤ 140737488355328) (n1 : c.instrs.length ≤ 9223372036854775807) : PC Tryd.prog 14 [c.v] (I64 (validM c)) := by
  refine PC.of mixedU isU14 (Nat.le_of_ble_eq_true rfl) (by simp [DV.nlL, DV.nl, nlL_ints, nlL_strs, nlL_instrs, nlL_entries, nlL_stp]) (by simp [DV.nlL, DV.nl, nlL_ints, nlL_strs, nlL_instrs, nlL_entries, nlL_stp]) ?_
  show IW Tryd.prog 11 u14_1 ⟨argT _, _, _⟩ (rt [.tmp 2] _)
  repeat' ((first | with_reducible refine wr ?_ | ((with_reducible refine wb2 ?_ ?_) <;> (intro hb; try simp only [hb])) | ((with_reducible refine AC.call ((c_verify c hs n1).at _ _) ?_); rintro _ _ _ ⟨rfl, rfl, rfl⟩ -) | fail) <;> try simp only [go_sem, seval])
  exact pc_ret rfl
theorem c_Heights (c : Prg) (hs : ∀ s ∈ c.strings, s.length ≤ 140737488355328) (n1 : c.instrs.length ≤ 9223372036854775807) : PC Tryd.prog 20 [c.v] (.tup [ints (vHts c), I64 (validM c)]) := by
  refine PC.of mixedU isU20 (Nat.le_of_ble_eq_true rfl) (by simp [DV.nlL, DV.nl, nlL_ints, nlL_strs, nlL_instrs, nlL_entries, nlL_stp]) (by simp [DV.nlL, DV.nl, nlL_ints, nlL_strs, nlL_instrs, nlL_entries, nlL_stp]) ?_
  show IW Tryd.prog 8 u20_1 ⟨argT _, _, _⟩ (rt [.tmp 2, .tmp 3] _)
  repeat' ((first | with_reducible refine wr ?_ | ((with_reducible refine wb2 ?_ ?_) <;> (intro hb; try simp only [hb])) | ((with_reducible refine AC.call ((c_verify c hs n1).at _ _) ?_); rintro _ _ _ ⟨rfl, rfl, rfl⟩ -) | fail) <;> try simp only [go_sem, seval])
  exact pc_ret rfl
end Go.Proofs.YtcallbfckjlagaaDoor
