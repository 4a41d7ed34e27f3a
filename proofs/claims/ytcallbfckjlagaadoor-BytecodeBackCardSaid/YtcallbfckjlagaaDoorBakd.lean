/-
  HELPERS of the claim: part 4 of its texts.
-/
import Derived.Test.YtcallbfckjlagaaDoorBakc
set_option maxHeartbeats 4000000
set_option maxRecDepth 100000
set_option linter.unusedSimpArgs false
set_option linter.unusedVariables false
namespace Go.Proofs.YtcallbfckjlagaaDoor
open Go.Eng (IC IOper DReg IFn IsFn)
open Go.Sym Go.Pb
noncomputable section
def u52_6r : List IOper := [⟨some 5, .pur (.mv (.k (.int .i64 0))), none⟩]
def u52_6 : IC := .reg u52_6r
def u52_5 : IC := .cond (.t 15) u52_6 .skip
def u52_4r : List IOper := [⟨some 10, .pur (.mv (.t 1)), none⟩, ⟨some 11, .pur (.bin .leq (.t 10) (.k (.int .i64 0))), none⟩, ⟨some 12, .pur (.mv (.t 11)), none⟩, ⟨some 13, .pur (.mv (.t 5)), some (12, true)⟩, ⟨some 14, .pur (.bin .gtr (.t 13) (.k (.int .i64 5))), some (12, true)⟩, ⟨some 15, .pur (.pick (.t 12) (.t 14) (.k (.bool false))), none⟩]
def u52_4 : IC := .seq (.reg u52_4r) u52_5
def u52_12r : List IOper := [⟨some 19, .pur (.mv (.t 0)), none⟩, ⟨some 20, .call 27 [.t 19, .k (.int .i64 3)], none⟩, ⟨some 21, .pur (.bld #[.int .i64 0, .int .i64 0] [(0, 1), (1, 1)] [(0, .k (.int .i64 2)), (1, .t 20)]), none⟩, ⟨some 22, .new (.bsl 2 1 #[.int .i64 0, .int .i64 0] [(0, .t 21)]), none⟩, ⟨some 4, .pur (.mv (.t 22)), none⟩]
def u52_12 : IC := .seq (.reg u52_12r) .ret
def u52_15r : List IOper := [⟨some 25, .pur (.mv (.t 0)), none⟩, ⟨some 26, .call 27 [.t 25, .k (.int .i64 64)], none⟩, ⟨some 27, .pur (.bld #[.int .i64 0, .int .i64 0] [(0, 1), (1, 1)] [(0, .k (.int .i64 4)), (1, .t 26)]), none⟩, ⟨some 28, .new (.bsl 2 1 #[.int .i64 0, .int .i64 0] [(0, .t 27)]), none⟩, ⟨some 4, .pur (.mv (.t 28)), none⟩]
def u52_15 : IC := .seq (.reg u52_15r) .ret
def u52_18r : List IOper := [⟨some 31, .pur (.mv (.t 0)), none⟩, ⟨some 32, .call 27 [.t 31, .k (.int .i64 2)], none⟩, ⟨some 33, .pur (.bld #[.int .i64 0, .int .i64 0] [(0, 1), (1, 1)] [(0, .k (.int .i64 5)), (1, .t 32)]), none⟩, ⟨some 34, .new (.bsl 2 1 #[.int .i64 0, .int .i64 0] [(0, .t 33)]), none⟩, ⟨some 4, .pur (.mv (.t 34)), none⟩]
def u52_18 : IC := .seq (.reg u52_18r) .ret
def u52_21r : List IOper := [⟨some 37, .pur (.mv (.t 0)), none⟩, ⟨some 38, .call 27 [.t 37, .k (.int .i64 2)], none⟩, ⟨some 39, .pur (.bld #[.int .i64 0, .int .i64 0] [(0, 1), (1, 1)] [(0, .k (.int .i64 6)), (1, .t 38)]), none⟩, ⟨some 40, .new (.bsl 2 1 #[.int .i64 0, .int .i64 0] [(0, .t 39)]), none⟩, ⟨some 4, .pur (.mv (.t 40)), none⟩]
def u52_21 : IC := .seq (.reg u52_21r) .ret
def u52_24r : List IOper := [⟨some 43, .pur (.mv (.t 0)), none⟩, ⟨some 44, .call 27 [.t 43, .k (.int .i64 2)], none⟩, ⟨some 45, .pur (.bin .add (.k (.int .i64 7)) (.t 44)), none⟩, ⟨some 46, .pur (.bld #[.int .i64 0, .int .i64 0] [(0, 1), (1, 1)] [(0, .t 45)]), none⟩, ⟨some 47, .new (.bsl 2 1 #[.int .i64 0, .int .i64 0] [(0, .t 46)]), none⟩, ⟨some 4, .pur (.mv (.t 47)), none⟩]
def u52_24 : IC := .seq (.reg u52_24r) .ret
def u52_27r : List IOper := [⟨some 50, .pur (.mv (.t 0)), none⟩, ⟨some 51, .pur (.mv (.t 1)), none⟩, ⟨some 52, .pur (.bin .sub (.t 51) (.k (.int .i64 1))), none⟩, ⟨some 53, .call 52 [.t 50, .t 52], none⟩, ⟨some 54, .pur (.mv (.t 0)), none⟩, ⟨some 55, .call 27 [.t 54, .k (.int .i64 2)], none⟩, ⟨some 56, .pur (.bin .add (.k (.int .i64 9)) (.t 55)), none⟩, ⟨some 57, .pur (.bld #[.int .i64 0, .int .i64 0] [(0, 1), (1, 1)] [(0, .t 56)]), none⟩, ⟨some 58, .new (.bsl 2 1 #[.int .i64 0, .int .i64 0] [(0, .t 57)]), none⟩, ⟨some 59, .eff (.app 2 16 (.t 53) (.t 58)), none⟩, ⟨some 4, .pur (.mv (.t 59)), none⟩]
def u52_27 : IC := .seq (.reg u52_27r) .ret
def u52_31r : List IOper := [⟨some 62, .pur (.bin .eql (.t 16) (.k (.int .i64 8))), none⟩, ⟨some 60, .pur (.mv (.t 62)), none⟩]
def u52_31 : IC := .reg u52_31r
def u52_30 : IC := .cond (.t 60) .skip u52_31
def u52_29r : List IOper := [⟨some 61, .pur (.bin .eql (.t 16) (.k (.int .i64 7))), none⟩, ⟨some 60, .pur (.mv (.t 61)), none⟩]
def u52_29 : IC := .seq (.reg u52_29r) u52_30
def u52_35r : List IOper := [⟨some 71, .pur (.mv (.t 6)), none⟩, ⟨some 72, .pur (.mv (.t 7)), none⟩, ⟨some 73, .eff (.app 2 16 (.t 71) (.t 72)), none⟩, ⟨some 74, .pur (.mv (.t 0)), none⟩, ⟨some 75, .call 27 [.t 74, .k (.int .i64 13)], none⟩, ⟨some 76, .pur (.bin .add (.k (.int .i64 12)) (.t 75)), none⟩, ⟨some 77, .pur (.bld #[.int .i64 0, .int .i64 0] [(0, 1), (1, 1)] [(0, .k (.int .i64 11)), (1, .t 76)]), none⟩, ⟨some 78, .new (.bsl 2 1 #[.int .i64 0, .int .i64 0] [(0, .t 77)]), none⟩, ⟨some 79, .eff (.app 2 16 (.t 73) (.t 78)), none⟩, ⟨some 4, .pur (.mv (.t 79)), none⟩]
def u52_35 : IC := .seq (.reg u52_35r) .ret
def u52_34r : List IOper := [⟨some 67, .pur (.mv (.t 0)), none⟩, ⟨some 68, .pur (.mv (.t 1)), none⟩, ⟨some 69, .pur (.bin .sub (.t 68) (.k (.int .i64 1))), none⟩, ⟨some 70, .call 52 [.t 67, .t 69], none⟩, ⟨some 7, .pur (.mv (.t 70)), none⟩]
def u52_34 : IC := .seq (.reg u52_34r) u52_35
def u52_33r : List IOper := [⟨some 63, .pur (.mv (.t 0)), none⟩, ⟨some 64, .pur (.mv (.t 1)), none⟩, ⟨some 65, .pur (.bin .sub (.t 64) (.k (.int .i64 1))), none⟩, ⟨some 66, .call 52 [.t 63, .t 65], none⟩, ⟨some 6, .pur (.mv (.t 66)), none⟩]
def u52_33 : IC := .seq (.reg u52_33r) u52_34
def u52_32 : IC := .cond (.t 60) u52_33 .skip
def u52_28 : IC := .seq u52_29 u52_32
def u52_26 : IC := .cond (.t 48) u52_27 u52_28
def u52_25r : List IOper := [⟨some 49, .pur (.bin .eql (.t 16) (.k (.int .i64 6))), none⟩, ⟨some 48, .pur (.mv (.t 49)), none⟩]
def u52_25 : IC := .seq (.reg u52_25r) u52_26
def u52_23 : IC := .cond (.t 41) u52_24 u52_25
def u52_22r : List IOper := [⟨some 42, .pur (.bin .eql (.t 16) (.k (.int .i64 5))), none⟩, ⟨some 41, .pur (.mv (.t 42)), none⟩]
def u52_22 : IC := .seq (.reg u52_22r) u52_23
def u52_20 : IC := .cond (.t 35) u52_21 u52_22
def u52_19r : List IOper := [⟨some 36, .pur (.bin .eql (.t 16) (.k (.int .i64 4))), none⟩, ⟨some 35, .pur (.mv (.t 36)), none⟩]
def u52_19 : IC := .seq (.reg u52_19r) u52_20
def u52_17 : IC := .cond (.t 29) u52_18 u52_19
def u52_16r : List IOper := [⟨some 30, .pur (.bin .eql (.t 16) (.k (.int .i64 3))), none⟩, ⟨some 29, .pur (.mv (.t 30)), none⟩]
def u52_16 : IC := .seq (.reg u52_16r) u52_17
def u52_14 : IC := .cond (.t 23) u52_15 u52_16
def u52_13r : List IOper := [⟨some 24, .pur (.bin .eql (.t 16) (.k (.int .i64 2))), none⟩, ⟨some 23, .pur (.mv (.t 24)), none⟩]
def u52_13 : IC := .seq (.reg u52_13r) u52_14
def u52_11 : IC := .cond (.t 17) u52_12 u52_13
def u52_10r : List IOper := [⟨some 18, .pur (.bin .eql (.t 16) (.k (.int .i64 1))), none⟩, ⟨some 17, .pur (.mv (.t 18)), none⟩]
def u52_10 : IC := .seq (.reg u52_10r) u52_11
def u52_9 : IC := .blk 0 u52_10
def u52_8r : List IOper := [⟨some 16, .pur (.mv (.t 5)), none⟩]
def u52_8 : IC := .seq (.reg u52_8r) u52_9
def u52_36r : List IOper := [⟨some 80, .new (.bsl 1 10 #[.int .i64 0] [(0, .k (.int .i64 0)), (1, .k (.int .i64 1)), (2, .k (.int .i64 2)), (3, .k (.int .i64 3)), (4, .k (.int .i64 (-1))), (5, .k (.int .i64 7)), (6, .k (.int .i64 1000)), (7, .k (.int .i64 2147483647)), (8, .k (.int .i64 (-2147483647))), (9, .k (.int .i64 65536))]), none⟩, ⟨some 81, .pur (.mv (.t 0)), none⟩, ⟨some 82, .call 27 [.t 81, .k (.int .i64 10)], none⟩, ⟨some 83, .pur (.iad 1 (.t 80) (.t 82)), none⟩, ⟨some 84, .pur (.ld 1 false (.t 83)), none⟩, ⟨some 85, .pur (.bld #[.int .i64 0, .int .i64 0] [(0, 1), (1, 1)] [(0, .k (.int .i64 1)), (1, .t 84)]), none⟩, ⟨some 86, .new (.bsl 2 1 #[.int .i64 0, .int .i64 0] [(0, .t 85)]), none⟩, ⟨some 4, .pur (.mv (.t 86)), none⟩]
def u52_36 : IC := .seq (.reg u52_36r) .ret
def u52_7 : IC := .seq u52_8 u52_36
def u52_3 : IC := .seq u52_4 u52_7
def u52_2r : List IOper := [⟨some 8, .pur (.mv (.t 0)), none⟩, ⟨some 9, .call 27 [.t 8, .k (.int .i64 9)], none⟩, ⟨some 5, .pur (.mv (.t 9)), none⟩]
def u52_2 : IC := .seq (.reg u52_2r) u52_3
def u52_1r : List IOper := [⟨some 4, .pur (.mv (.k (.slice none 0 0))), none⟩]
def u52_1 : IC := .seq (.reg u52_1r) u52_2
def u52 : IFn := ⟨87, u52_1, [.tmp 4]⟩
end
theorem isU52 : IsFn Tryd.prog 52 u52 := by unfold IsFn; kernel_rfl
instance i52_6 : WR Tryd.prog 87 u52_6 (rE u52_6r [0, 1]) := ⟨mkE⟩
instance i52_5 : WR Tryd.prog 87 u52_5 (rCE (.t 15) u52_6 .skip [0, 1, 5, 15]) := ⟨mkCE⟩
instance i52_4 : WR Tryd.prog 87 u52_4 (rS u52_4r u52_5 [0, 1, 5]) := ⟨mkS⟩
instance i52_12 : WR Tryd.prog 87 u52_12 (rS u52_12r .ret [0]) := ⟨mkS⟩
instance i52_15 : WR Tryd.prog 87 u52_15 (rS u52_15r .ret [0]) := ⟨mkS⟩
instance i52_18 : WR Tryd.prog 87 u52_18 (rS u52_18r .ret [0]) := ⟨mkS⟩
instance i52_21 : WR Tryd.prog 87 u52_21 (rS u52_21r .ret [0]) := ⟨mkS⟩
instance i52_24 : WR Tryd.prog 87 u52_24 (rS u52_24r .ret [0]) := ⟨mkS⟩
instance i52_27 : WR Tryd.prog 87 u52_27 (rS u52_27r .ret [0, 1]) := ⟨mkS⟩
instance i52_31 : WR Tryd.prog 87 u52_31 (rE u52_31r [0, 1, 16]) := ⟨mkE⟩
instance i52_30 : WR Tryd.prog 87 u52_30 (rCE (.t 60) .skip u52_31 [0, 1, 16, 60]) := ⟨mkCE⟩
instance i52_29 : WR Tryd.prog 87 u52_29 (rS u52_29r u52_30 [0, 1, 16]) := ⟨mkS⟩
instance i52_35 : WR Tryd.prog 87 u52_35 (rS u52_35r .ret [0, 6, 7]) := ⟨mkS⟩
instance i52_34 : WR Tryd.prog 87 u52_34 (rS u52_34r u52_35 [0, 1, 6]) := ⟨mkS⟩
instance i52_33 : WR Tryd.prog 87 u52_33 (rS u52_33r u52_34 [0, 1]) := ⟨mkS⟩
instance i52_32 : WR Tryd.prog 87 u52_32 (rCE (.t 60) u52_33 .skip [0, 1, 60]) := ⟨mkCE⟩
instance i52_28 : WR Tryd.prog 87 u52_28 (rQ u52_29 u52_32 [0, 1, 16]) := ⟨mkQ⟩
instance i52_26 : WR Tryd.prog 87 u52_26 (rCE (.t 48) u52_27 u52_28 [0, 1, 16, 48]) := ⟨mkCE⟩
instance i52_25 : WR Tryd.prog 87 u52_25 (rS u52_25r u52_26 [0, 1, 16]) := ⟨mkS⟩
instance i52_23 : WR Tryd.prog 87 u52_23 (rCE (.t 41) u52_24 u52_25 [0, 1, 16, 41]) := ⟨mkCE⟩
instance i52_22 : WR Tryd.prog 87 u52_22 (rS u52_22r u52_23 [0, 1, 16]) := ⟨mkS⟩
instance i52_20 : WR Tryd.prog 87 u52_20 (rCE (.t 35) u52_21 u52_22 [0, 1, 16, 35]) := ⟨mkCE⟩
instance i52_19 : WR Tryd.prog 87 u52_19 (rS u52_19r u52_20 [0, 1, 16]) := ⟨mkS⟩
instance i52_17 : WR Tryd.prog 87 u52_17 (rCE (.t 29) u52_18 u52_19 [0, 1, 16, 29]) := ⟨mkCE⟩
instance i52_16 : WR Tryd.prog 87 u52_16 (rS u52_16r u52_17 [0, 1, 16]) := ⟨mkS⟩
instance i52_14 : WR Tryd.prog 87 u52_14 (rCE (.t 23) u52_15 u52_16 [0, 1, 16, 23]) := ⟨mkCE⟩
instance i52_13 : WR Tryd.prog 87 u52_13 (rS u52_13r u52_14 [0, 1, 16]) := ⟨mkS⟩
instance i52_11 : WR Tryd.prog 87 u52_11 (rCE (.t 17) u52_12 u52_13 [0, 1, 16, 17]) := ⟨mkCE⟩
instance i52_10 : WR Tryd.prog 87 u52_10 (rS u52_10r u52_11 [0, 1, 16]) := ⟨mkS⟩
instance i52_9 : WR Tryd.prog 87 u52_9 (rBE 0 u52_10 [0, 1, 16]) := ⟨mkBE⟩
instance i52_8 : WR Tryd.prog 87 u52_8 (rS u52_8r u52_9 [0, 1, 5]) := ⟨mkS⟩
instance i52_36 : WR Tryd.prog 87 u52_36 (rS u52_36r .ret [0]) := ⟨mkS⟩
instance i52_7 : WR Tryd.prog 87 u52_7 (rQ u52_8 u52_36 [0, 1, 5]) := ⟨mkQ⟩
instance i52_3 : WR Tryd.prog 87 u52_3 (rQ u52_4 u52_7 [0, 1, 5]) := ⟨mkQ⟩
instance i52_2 : WR Tryd.prog 87 u52_2 (rS u52_2r u52_3 [0, 1]) := ⟨mkS⟩
instance i52_1 : WR Tryd.prog 87 u52_1 (rS u52_1r u52_2 [0, 1]) := ⟨mkS⟩
attribute [go_sem] u52_6r u52_4r u52_12r u52_15r u52_18r u52_21r u52_24r u52_27r u52_31r u52_29r u52_35r u52_34r u52_33r u52_25r u52_22r u52_19r u52_16r u52_13r u52_10r u52_8r u52_36r u52_2r u52_1r
theorem v_end {l : List UInt8} {H H' : Hp} {cc t id c' p : Nat} {L : List Ins} {d : DV} (hfr : ∀ id, cc ≤ id → H id = none) (h1 : cc ≤ id) (h2 : id < c') (htc : t < cc) (hd : d = .slc id 0 L.length)
    (hT : H' t = some (tapeB l p)) (hI : H' id = some ⟨2, true, insC L⟩) (hO : ∀ j, j < cc → j ≠ t → H' j = H j) :
    ∃ v2 H2, GL H' [d] H2 [v2] ∧ ∃ id, cc ≤ id ∧ id < c' ∧ v2 = .slc id 0 L.length ∧ H2 = (H.upd t (tapeB l p)).upd id ⟨2, true, insC L⟩ := by
  subst hd
  refine ⟨_, (H.upd t (tapeB l p)).upd id ⟨2, true, insC L⟩, GL.less fun j => ?_, id, h1, h2, rfl, rfl⟩
  by_cases e1 : j = id
  · subst e1; right; rw [h_same, hI]
  rw [h_ne e1]
  by_cases e2 : j = t
  · subst e2; right; rw [h_same, hT]
  rw [h_ne e2]
  by_cases e3 : j < cc
  · right; exact (hO j e3 e2).symm
  · left; exact hfr j (by omega)
theorem c_value (l : List UInt8) (hl : l.length ≤ 100000) : ∀ (d : Nat), d ≤ 2 → ∀ (p : Nat), p ≤ l.length → ∀ (H : Hp) (cc t : Nat), H t = some (tapeB l p) → t < cc →
    AC Tryd.prog 52 [.ptr t 0, I64 d] H cc (fun v H' c' => ∃ id, cc ≤ id ∧ id < c' ∧ v = .slc id 0 (valueM l d p).1.length ∧ H' = (H.upd t (tapeB l (valueM l d p).2)).upd id ⟨2, true, insC (valueM l d p).1⟩) := by
  intro d
  induction d with
  | zero =>
    intro hd2 p hp H cc t ht htc
    refine AC.body mixedU isU52 (Nat.le_of_ble_eq_true rfl) fun hfr => ?_
    show IW Tryd.prog 87 u52_1 ⟨argT _, _, _⟩ (rt [.tmp 4] _)
    repeat' ((first | (with_reducible first | refine wr ?_ | refine i_ret ?_ | refine i_skip ?_ | refine i_exit ?_) | ((with_reducible first | refine k_cb ?_ ?_ | refine k_gb ?_ ?_ | refine k_gb' ?_ ?_) <;> (intro hb; try simp only [hb]))) <;> try simp only [go_sem, Nat.reduceAdd, Nat.reduceLeDiff, Nat.reduceEqDiff, Nat.reduceMul, Nat.reduceSub, ↓reduceIte, Int.reduceLT, Int.reduceLE, Int.reduceGT, Int.reduceGE, Nat.reduceLT, Nat.reduceGT, Int.reduceToNat, reduceCtorEq, Nat.reduceBEq, Int.reduceBEq, Int.reduceBNe, Int.reduceEq, Int.reduceNe, decide_true, decide_false])
    refine AC.call (c_next l hl p hp 9 (by omega) (by omega) H cc t ht htc) ?_
    rintro v H' c' ⟨rfl, rfl⟩ hcc
    have hp1 := nextM_le (n := 9) hp
    have hk := nextM_lt (l := l) (p := p) (n := 9) (by omega)
    obtain ⟨k0, p1, e0⟩ : ∃ k0 p1, nextM l p 9 = (k0, p1) := ⟨_, _, rfl⟩
    rw [e0] at hp1 hk ⊢
    simp only at hp1 hk
    have hv : k0 = 1 ∨ k0 = 2 ∨ k0 = 3 ∨ k0 = 4 ∨ k0 = 5 ∨ (k0 = 0 ∨ k0 = 6 ∨ k0 = 7 ∨ k0 = 8) := by omega
    have n0 : ((0 : Nat) : Int) = 0 := rfl
    have n1 : ((1 : Nat) : Int) = 1 := rfl
    have n2 : ((2 : Nat) : Int) = 2 := rfl
    have n3 : ((3 : Nat) : Int) = 3 := rfl
    have n4 : ((4 : Nat) : Int) = 4 := rfl
    have n5 : ((5 : Nat) : Int) = 5 := rfl
    have n6 : ((6 : Nat) : Int) = 6 := rfl
    have n7 : ((7 : Nat) : Int) = 7 := rfl
    have n8 : ((8 : Nat) : Int) = 8 := rfl
    rcases hv with rfl | rfl | rfl | rfl | rfl | hv
    · simp only [go_sem, Nat.reduceAdd, Nat.reduceLeDiff, Nat.reduceEqDiff, Nat.reduceMul, Nat.reduceSub, ↓reduceIte, Int.reduceLT, Int.reduceLE, Int.reduceGT, Int.reduceGE, Nat.reduceLT, Nat.reduceGT, Int.reduceToNat, reduceCtorEq, Nat.reduceBEq, Int.reduceBEq, Int.reduceBNe, Int.reduceEq, Int.reduceNe, decide_true, decide_false, n0, n1, n2, n3, n4, n5, Int.reduceGT, Int.reduceBEq, Int.reduceLE, decide_true, decide_false]
      repeat' ((first | (with_reducible first | refine wr ?_ | refine i_ret ?_ | refine i_skip ?_ | refine i_exit ?_) | ((with_reducible first | refine k_cb ?_ ?_ | refine k_gb ?_ ?_ | refine k_gb' ?_ ?_) <;> (intro hb; try simp only [hb]))) <;> try simp only [go_sem, Nat.reduceAdd, Nat.reduceLeDiff, Nat.reduceEqDiff, Nat.reduceMul, Nat.reduceSub, ↓reduceIte, Int.reduceLT, Int.reduceLE, Int.reduceGT, Int.reduceGE, Nat.reduceLT, Nat.reduceGT, Int.reduceToNat, reduceCtorEq, Nat.reduceBEq, Int.reduceBEq, Int.reduceBNe, Int.reduceEq, Int.reduceNe, decide_true, decide_false, n0, n1, n2, n3, n4, n5, Int.reduceGT, Int.reduceBEq, Int.reduceLE, decide_true, decide_false])
      refine AC.call (c_next l hl p1 hp1 3 (by omega) (by omega) (H.upd t (tapeB l p1)) c' t h_same (by omega)) ?_
      rintro v H' c2 ⟨rfl, rfl⟩ hcc2
      have hq := nextM_lt (l := l) (p := p1) (n := 3) (by omega)
      have hadd := w64 (n := 7 + ((nextM l p1 3).1 : Int)) (by omega) (by omega)
      simp only [go_sem, Nat.reduceAdd, Nat.reduceLeDiff, Nat.reduceEqDiff, Nat.reduceMul, Nat.reduceSub, ↓reduceIte, Int.reduceLT, Int.reduceLE, Int.reduceGT, Int.reduceGE, Nat.reduceLT, Nat.reduceGT, Int.reduceToNat, reduceCtorEq, Nat.reduceBEq, Int.reduceBEq, Int.reduceBNe, Int.reduceEq, Int.reduceNe, decide_true, decide_false]
      repeat' ((first | (with_reducible first | refine wr ?_ | refine i_ret ?_ | refine i_skip ?_ | refine i_exit ?_) | ((with_reducible first | refine k_cb ?_ ?_ | refine k_gb ?_ ?_ | refine k_gb' ?_ ?_) <;> (intro hb; try simp only [hb]))) <;> try simp only [go_sem, Nat.reduceAdd, Nat.reduceLeDiff, Nat.reduceEqDiff, Nat.reduceMul, Nat.reduceSub, ↓reduceIte, Int.reduceLT, Int.reduceLE, Int.reduceGT, Int.reduceGE, Nat.reduceLT, Nat.reduceGT, Int.reduceToNat, reduceCtorEq, Nat.reduceBEq, Int.reduceBEq, Int.reduceBNe, Int.reduceEq, Int.reduceNe, decide_true, decide_false, hadd])
      have ev : valueM l 0 p = ([⟨2, ((nextM l p1 3).1 : Int)⟩], (nextM l p1 3).2) := by simp [valueM, e0]
      rw [ev]
      refine v_end hfr (by omega) (by omega) htc rfl ?_ ?_ fun j h1 h2 => ?_
      · rw [h_ne (by omega), h_same]
      · rw [h_same, insC_one]
      · rw [h_ne (by omega), h_ne h2, h_ne h2]
    · simp only [go_sem, Nat.reduceAdd, Nat.reduceLeDiff, Nat.reduceEqDiff, Nat.reduceMul, Nat.reduceSub, ↓reduceIte, Int.reduceLT, Int.reduceLE, Int.reduceGT, Int.reduceGE, Nat.reduceLT, Nat.reduceGT, Int.reduceToNat, reduceCtorEq, Nat.reduceBEq, Int.reduceBEq, Int.reduceBNe, Int.reduceEq, Int.reduceNe, decide_true, decide_false, n0, n1, n2, n3, n4, n5, Int.reduceGT, Int.reduceBEq, Int.reduceLE, decide_true, decide_false]
      repeat' ((first | (with_reducible first | refine wr ?_ | refine i_ret ?_ | refine i_skip ?_ | refine i_exit ?_) | ((with_reducible first | refine k_cb ?_ ?_ | refine k_gb ?_ ?_ | refine k_gb' ?_ ?_) <;> (intro hb; try simp only [hb]))) <;> try simp only [go_sem, Nat.reduceAdd, Nat.reduceLeDiff, Nat.reduceEqDiff, Nat.reduceMul, Nat.reduceSub, ↓reduceIte, Int.reduceLT, Int.reduceLE, Int.reduceGT, Int.reduceGE, Nat.reduceLT, Nat.reduceGT, Int.reduceToNat, reduceCtorEq, Nat.reduceBEq, Int.reduceBEq, Int.reduceBNe, Int.reduceEq, Int.reduceNe, decide_true, decide_false, n0, n1, n2, n3, n4, n5, Int.reduceGT, Int.reduceBEq, Int.reduceLE, decide_true, decide_false])
      refine AC.call (c_next l hl p1 hp1 64 (by omega) (by omega) (H.upd t (tapeB l p1)) c' t h_same (by omega)) ?_
      rintro v H' c2 ⟨rfl, rfl⟩ hcc2
      have hq := nextM_lt (l := l) (p := p1) (n := 64) (by omega)
      have hadd := w64 (n := 7 + ((nextM l p1 64).1 : Int)) (by omega) (by omega)
      simp only [go_sem, Nat.reduceAdd, Nat.reduceLeDiff, Nat.reduceEqDiff, Nat.reduceMul, Nat.reduceSub, ↓reduceIte, Int.reduceLT, Int.reduceLE, Int.reduceGT, Int.reduceGE, Nat.reduceLT, Nat.reduceGT, Int.reduceToNat, reduceCtorEq, Nat.reduceBEq, Int.reduceBEq, Int.reduceBNe, Int.reduceEq, Int.reduceNe, decide_true, decide_false]
      repeat' ((first | (with_reducible first | refine wr ?_ | refine i_ret ?_ | refine i_skip ?_ | refine i_exit ?_) | ((with_reducible first | refine k_cb ?_ ?_ | refine k_gb ?_ ?_ | refine k_gb' ?_ ?_) <;> (intro hb; try simp only [hb]))) <;> try simp only [go_sem, Nat.reduceAdd, Nat.reduceLeDiff, Nat.reduceEqDiff, Nat.reduceMul, Nat.reduceSub, ↓reduceIte, Int.reduceLT, Int.reduceLE, Int.reduceGT, Int.reduceGE, Nat.reduceLT, Nat.reduceGT, Int.reduceToNat, reduceCtorEq, Nat.reduceBEq, Int.reduceBEq, Int.reduceBNe, Int.reduceEq, Int.reduceNe, decide_true, decide_false, hadd])
      have ev : valueM l 0 p = ([⟨4, ((nextM l p1 64).1 : Int)⟩], (nextM l p1 64).2) := by simp [valueM, e0]
      rw [ev]
      refine v_end hfr (by omega) (by omega) htc rfl ?_ ?_ fun j h1 h2 => ?_
      · rw [h_ne (by omega), h_same]
      · rw [h_same, insC_one]
      · rw [h_ne (by omega), h_ne h2, h_ne h2]
    · simp only [go_sem, Nat.reduceAdd, Nat.reduceLeDiff, Nat.reduceEqDiff, Nat.reduceMul, Nat.reduceSub, ↓reduceIte, Int.reduceLT, Int.reduceLE, Int.reduceGT, Int.reduceGE, Nat.reduceLT, Nat.reduceGT, Int.reduceToNat, reduceCtorEq, Nat.reduceBEq, Int.reduceBEq, Int.reduceBNe, Int.reduceEq, Int.reduceNe, decide_true, decide_false, n0, n1, n2, n3, n4, n5, Int.reduceGT, Int.reduceBEq, Int.reduceLE, decide_true, decide_false]
      repeat' ((first | (with_reducible first | refine wr ?_ | refine i_ret ?_ | refine i_skip ?_ | refine i_exit ?_) | ((with_reducible first | refine k_cb ?_ ?_ | refine k_gb ?_ ?_ | refine k_gb' ?_ ?_) <;> (intro hb; try simp only [hb]))) <;> try simp only [go_sem, Nat.reduceAdd, Nat.reduceLeDiff, Nat.reduceEqDiff, Nat.reduceMul, Nat.reduceSub, ↓reduceIte, Int.reduceLT, Int.reduceLE, Int.reduceGT, Int.reduceGE, Nat.reduceLT, Nat.reduceGT, Int.reduceToNat, reduceCtorEq, Nat.reduceBEq, Int.reduceBEq, Int.reduceBNe, Int.reduceEq, Int.reduceNe, decide_true, decide_false, n0, n1, n2, n3, n4, n5, Int.reduceGT, Int.reduceBEq, Int.reduceLE, decide_true, decide_false])
      refine AC.call (c_next l hl p1 hp1 2 (by omega) (by omega) (H.upd t (tapeB l p1)) c' t h_same (by omega)) ?_
      rintro v H' c2 ⟨rfl, rfl⟩ hcc2
      have hq := nextM_lt (l := l) (p := p1) (n := 2) (by omega)
      have hadd := w64 (n := 7 + ((nextM l p1 2).1 : Int)) (by omega) (by omega)
      simp only [go_sem, Nat.reduceAdd, Nat.reduceLeDiff, Nat.reduceEqDiff, Nat.reduceMul, Nat.reduceSub, ↓reduceIte, Int.reduceLT, Int.reduceLE, Int.reduceGT, Int.reduceGE, Nat.reduceLT, Nat.reduceGT, Int.reduceToNat, reduceCtorEq, Nat.reduceBEq, Int.reduceBEq, Int.reduceBNe, Int.reduceEq, Int.reduceNe, decide_true, decide_false]
      repeat' ((first | (with_reducible first | refine wr ?_ | refine i_ret ?_ | refine i_skip ?_ | refine i_exit ?_) | ((with_reducible first | refine k_cb ?_ ?_ | refine k_gb ?_ ?_ | refine k_gb' ?_ ?_) <;> (intro hb; try simp only [hb]))) <;> try simp only [go_sem, Nat.reduceAdd, Nat.reduceLeDiff, Nat.reduceEqDiff, Nat.reduceMul, Nat.reduceSub, ↓reduceIte, Int.reduceLT, Int.reduceLE, Int.reduceGT, Int.reduceGE, Nat.reduceLT, Nat.reduceGT, Int.reduceToNat, reduceCtorEq, Nat.reduceBEq, Int.reduceBEq, Int.reduceBNe, Int.reduceEq, Int.reduceNe, decide_true, decide_false, hadd])
      have ev : valueM l 0 p = ([⟨5, ((nextM l p1 2).1 : Int)⟩], (nextM l p1 2).2) := by simp [valueM, e0]
      rw [ev]
      refine v_end hfr (by omega) (by omega) htc rfl ?_ ?_ fun j h1 h2 => ?_
      · rw [h_ne (by omega), h_same]
      · rw [h_same, insC_one]
      · rw [h_ne (by omega), h_ne h2, h_ne h2]
    · simp only [go_sem, Nat.reduceAdd, Nat.reduceLeDiff, Nat.reduceEqDiff, Nat.reduceMul, Nat.reduceSub, ↓reduceIte, Int.reduceLT, Int.reduceLE, Int.reduceGT, Int.reduceGE, Nat.reduceLT, Nat.reduceGT, Int.reduceToNat, reduceCtorEq, Nat.reduceBEq, Int.reduceBEq, Int.reduceBNe, Int.reduceEq, Int.reduceNe, decide_true, decide_false, n0, n1, n2, n3, n4, n5, Int.reduceGT, Int.reduceBEq, Int.reduceLE, decide_true, decide_false]
      repeat' ((first | (with_reducible first | refine wr ?_ | refine i_ret ?_ | refine i_skip ?_ | refine i_exit ?_) | ((with_reducible first | refine k_cb ?_ ?_ | refine k_gb ?_ ?_ | refine k_gb' ?_ ?_) <;> (intro hb; try simp only [hb]))) <;> try simp only [go_sem, Nat.reduceAdd, Nat.reduceLeDiff, Nat.reduceEqDiff, Nat.reduceMul, Nat.reduceSub, ↓reduceIte, Int.reduceLT, Int.reduceLE, Int.reduceGT, Int.reduceGE, Nat.reduceLT, Nat.reduceGT, Int.reduceToNat, reduceCtorEq, Nat.reduceBEq, Int.reduceBEq, Int.reduceBNe, Int.reduceEq, Int.reduceNe, decide_true, decide_false, n0, n1, n2, n3, n4, n5, Int.reduceGT, Int.reduceBEq, Int.reduceLE, decide_true, decide_false])
      refine AC.call (c_next l hl p1 hp1 2 (by omega) (by omega) (H.upd t (tapeB l p1)) c' t h_same (by omega)) ?_
      rintro v H' c2 ⟨rfl, rfl⟩ hcc2
      have hq := nextM_lt (l := l) (p := p1) (n := 2) (by omega)
      have hadd := w64 (n := 7 + ((nextM l p1 2).1 : Int)) (by omega) (by omega)
      simp only [go_sem, Nat.reduceAdd, Nat.reduceLeDiff, Nat.reduceEqDiff, Nat.reduceMul, Nat.reduceSub, ↓reduceIte, Int.reduceLT, Int.reduceLE, Int.reduceGT, Int.reduceGE, Nat.reduceLT, Nat.reduceGT, Int.reduceToNat, reduceCtorEq, Nat.reduceBEq, Int.reduceBEq, Int.reduceBNe, Int.reduceEq, Int.reduceNe, decide_true, decide_false]
      repeat' ((first | (with_reducible first | refine wr ?_ | refine i_ret ?_ | refine i_skip ?_ | refine i_exit ?_) | ((with_reducible first | refine k_cb ?_ ?_ | refine k_gb ?_ ?_ | refine k_gb' ?_ ?_) <;> (intro hb; try simp only [hb]))) <;> try simp only [go_sem, Nat.reduceAdd, Nat.reduceLeDiff, Nat.reduceEqDiff, Nat.reduceMul, Nat.reduceSub, ↓reduceIte, Int.reduceLT, Int.reduceLE, Int.reduceGT, Int.reduceGE, Nat.reduceLT, Nat.reduceGT, Int.reduceToNat, reduceCtorEq, Nat.reduceBEq, Int.reduceBEq, Int.reduceBNe, Int.reduceEq, Int.reduceNe, decide_true, decide_false, hadd])
      have ev : valueM l 0 p = ([⟨6, ((nextM l p1 2).1 : Int)⟩], (nextM l p1 2).2) := by simp [valueM, e0]
      rw [ev]
      refine v_end hfr (by omega) (by omega) htc rfl ?_ ?_ fun j h1 h2 => ?_
      · rw [h_ne (by omega), h_same]
      · rw [h_same, insC_one]
      · rw [h_ne (by omega), h_ne h2, h_ne h2]
    · simp only [go_sem, Nat.reduceAdd, Nat.reduceLeDiff, Nat.reduceEqDiff, Nat.reduceMul, Nat.reduceSub, ↓reduceIte, Int.reduceLT, Int.reduceLE, Int.reduceGT, Int.reduceGE, Nat.reduceLT, Nat.reduceGT, Int.reduceToNat, reduceCtorEq, Nat.reduceBEq, Int.reduceBEq, Int.reduceBNe, Int.reduceEq, Int.reduceNe, decide_true, decide_false, n0, n1, n2, n3, n4, n5, Int.reduceGT, Int.reduceBEq, Int.reduceLE, decide_true, decide_false]
      repeat' ((first | (with_reducible first | refine wr ?_ | refine i_ret ?_ | refine i_skip ?_ | refine i_exit ?_) | ((with_reducible first | refine k_cb ?_ ?_ | refine k_gb ?_ ?_ | refine k_gb' ?_ ?_) <;> (intro hb; try simp only [hb]))) <;> try simp only [go_sem, Nat.reduceAdd, Nat.reduceLeDiff, Nat.reduceEqDiff, Nat.reduceMul, Nat.reduceSub, ↓reduceIte, Int.reduceLT, Int.reduceLE, Int.reduceGT, Int.reduceGE, Nat.reduceLT, Nat.reduceGT, Int.reduceToNat, reduceCtorEq, Nat.reduceBEq, Int.reduceBEq, Int.reduceBNe, Int.reduceEq, Int.reduceNe, decide_true, decide_false, n0, n1, n2, n3, n4, n5, Int.reduceGT, Int.reduceBEq, Int.reduceLE, decide_true, decide_false])
      refine AC.call (c_next l hl p1 hp1 2 (by omega) (by omega) (H.upd t (tapeB l p1)) c' t h_same (by omega)) ?_
      rintro v H' c2 ⟨rfl, rfl⟩ hcc2
      have hq := nextM_lt (l := l) (p := p1) (n := 2) (by omega)
      have hadd := w64 (n := 7 + ((nextM l p1 2).1 : Int)) (by omega) (by omega)
      simp only [go_sem, Nat.reduceAdd, Nat.reduceLeDiff, Nat.reduceEqDiff, Nat.reduceMul, Nat.reduceSub, ↓reduceIte, Int.reduceLT, Int.reduceLE, Int.reduceGT, Int.reduceGE, Nat.reduceLT, Nat.reduceGT, Int.reduceToNat, reduceCtorEq, Nat.reduceBEq, Int.reduceBEq, Int.reduceBNe, Int.reduceEq, Int.reduceNe, decide_true, decide_false]
      repeat' ((first | (with_reducible first | refine wr ?_ | refine i_ret ?_ | refine i_skip ?_ | refine i_exit ?_) | ((with_reducible first | refine k_cb ?_ ?_ | refine k_gb ?_ ?_ | refine k_gb' ?_ ?_) <;> (intro hb; try simp only [hb]))) <;> try simp only [go_sem, Nat.reduceAdd, Nat.reduceLeDiff, Nat.reduceEqDiff, Nat.reduceMul, Nat.reduceSub, ↓reduceIte, Int.reduceLT, Int.reduceLE, Int.reduceGT, Int.reduceGE, Nat.reduceLT, Nat.reduceGT, Int.reduceToNat, reduceCtorEq, Nat.reduceBEq, Int.reduceBEq, Int.reduceBNe, Int.reduceEq, Int.reduceNe, decide_true, decide_false, hadd])
      have ev : valueM l 0 p = ([⟨7 + ((nextM l p1 2).1 : Int), 0⟩], (nextM l p1 2).2) := by simp [valueM, e0]
      rw [ev]
      refine v_end hfr (by omega) (by omega) htc rfl ?_ ?_ fun j h1 h2 => ?_
      · rw [h_ne (by omega), h_same]
      · rw [h_same, insC_one]
      · rw [h_ne (by omega), h_ne h2, h_ne h2]
    · rcases hv with rfl | rfl | rfl | rfl
      all_goals
        simp only [go_sem, Nat.reduceAdd, Nat.reduceLeDiff, Nat.reduceEqDiff, Nat.reduceMul, Nat.reduceSub, ↓reduceIte, Int.reduceLT, Int.reduceLE, Int.reduceGT, Int.reduceGE, Nat.reduceLT, Nat.reduceGT, Int.reduceToNat, reduceCtorEq, Nat.reduceBEq, Int.reduceBEq, Int.reduceBNe, Int.reduceEq, Int.reduceNe, decide_true, decide_false, n0, n1, n2, n3, n4, n5, n6, n7, n8, Int.reduceGT, Int.reduceBEq, Int.reduceLE, decide_true, decide_false]
        repeat' ((first | (with_reducible first | refine wr ?_ | refine i_ret ?_ | refine i_skip ?_ | refine i_exit ?_) | ((with_reducible first | refine k_cb ?_ ?_ | refine k_gb ?_ ?_ | refine k_gb' ?_ ?_) <;> (intro hb; try simp only [hb]))) <;> try simp only [go_sem, Nat.reduceAdd, Nat.reduceLeDiff, Nat.reduceEqDiff, Nat.reduceMul, Nat.reduceSub, ↓reduceIte, Int.reduceLT, Int.reduceLE, Int.reduceGT, Int.reduceGE, Nat.reduceLT, Nat.reduceGT, Int.reduceToNat, reduceCtorEq, Nat.reduceBEq, Int.reduceBEq, Int.reduceBNe, Int.reduceEq, Int.reduceNe, decide_true, decide_false, n0, n1, n2, n3, n4, n5, n6, n7, n8, Int.reduceGT, Int.reduceBEq, Int.reduceLE, decide_true, decide_false])
        refine AC.call (c_next l hl p1 hp1 10 (by omega) (by omega) _ (c' + 1) t ((h_ne (by omega)).trans h_same) (by omega)) ?_
        rintro v H' c2 ⟨rfl, rfl⟩ hcc2
        have hq := nextM_lt (l := l) (p := p1) (n := 10) (by omega)
        have hget := push_get hq
        have ne0 : ¬ t = c' := by omega
        have ne1 : ¬ t = c2 := by omega
        have ne2 : ¬ c' = t := by omega
        have ne3 : ¬ c' = c2 := by omega
        have ne4 : ¬ c2 = t := by omega
        have ne5 : ¬ c2 = c' := by omega
        simp only [go_sem, Nat.reduceAdd, Nat.reduceLeDiff, Nat.reduceEqDiff, Nat.reduceMul, Nat.reduceSub, ↓reduceIte, Int.reduceLT, Int.reduceLE, Int.reduceGT, Int.reduceGE, Nat.reduceLT, Nat.reduceGT, Int.reduceToNat, reduceCtorEq, Nat.reduceBEq, Int.reduceBEq, Int.reduceBNe, Int.reduceEq, Int.reduceNe, decide_true, decide_false, hget, hq, ne0, ne1, ne2, ne3, ne4, ne5]
        repeat' ((first | (with_reducible first | refine wr ?_ | refine i_ret ?_ | refine i_skip ?_ | refine i_exit ?_) | ((with_reducible first | refine k_cb ?_ ?_ | refine k_gb ?_ ?_ | refine k_gb' ?_ ?_) <;> (intro hb; try simp only [hb]))) <;> try simp only [go_sem, Nat.reduceAdd, Nat.reduceLeDiff, Nat.reduceEqDiff, Nat.reduceMul, Nat.reduceSub, ↓reduceIte, Int.reduceLT, Int.reduceLE, Int.reduceGT, Int.reduceGE, Nat.reduceLT, Nat.reduceGT, Int.reduceToNat, reduceCtorEq, Nat.reduceBEq, Int.reduceBEq, Int.reduceBNe, Int.reduceEq, Int.reduceNe, decide_true, decide_false, hget, hq, ne0, ne1, ne2, ne3, ne4, ne5])
        have ev : valueM l 0 p = ([⟨1, pushT.getD (nextM l p1 10).1 0⟩], (nextM l p1 10).2) := by simp [valueM, e0]
        rw [ev]
        refine v_end hfr (by omega) (by omega) htc rfl ?_ ?_ fun j h1 h2 => ?_
        · rw [h_ne (by omega), h_same]
        · rw [h_same, insC_one]
        · rw [h_ne (by omega), h_ne h2, h_ne (by omega), h_ne h2]
  | succ d ih =>
    intro hd2 p hp H cc t ht htc
    refine AC.body mixedU isU52 (Nat.le_of_ble_eq_true rfl) fun hfr => ?_
    show IW Tryd.prog 87 u52_1 ⟨argT _, _, _⟩ (rt [.tmp 4] _)
    repeat' ((first | (with_reducible first | refine wr ?_ | refine i_ret ?_ | refine i_skip ?_ | refine i_exit ?_) | ((with_reducible first | refine k_cb ?_ ?_ | refine k_gb ?_ ?_ | refine k_gb' ?_ ?_) <;> (intro hb; try simp only [hb]))) <;> try simp only [go_sem, Nat.reduceAdd, Nat.reduceLeDiff, Nat.reduceEqDiff, Nat.reduceMul, Nat.reduceSub, ↓reduceIte, Int.reduceLT, Int.reduceLE, Int.reduceGT, Int.reduceGE, Nat.reduceLT, Nat.reduceGT, Int.reduceToNat, reduceCtorEq, Nat.reduceBEq, Int.reduceBEq, Int.reduceBNe, Int.reduceEq, Int.reduceNe, decide_true, decide_false])
    refine AC.call (c_next l hl p hp 9 (by omega) (by omega) H cc t ht htc) ?_
    rintro v H' c' ⟨rfl, rfl⟩ hcc
    have hp1 := nextM_le (n := 9) hp
    have hk := nextM_lt (l := l) (p := p) (n := 9) (by omega)
    have hdl : decide (((d + 1 : Nat) : Int) ≤ 0) = false := decide_eq_false (by omega)
    have hw1 := w64 (n := ((d + 1 : Nat) : Int) - 1) (by omega) (by omega)
    have hw2 : ((d + 1 : Nat) : Int) - 1 = (d : Int) := by omega
    rw [hw2] at hw1
    obtain ⟨k0, p1, e0⟩ : ∃ k0 p1, nextM l p 9 = (k0, p1) := ⟨_, _, rfl⟩
    rw [e0] at hp1 hk ⊢
    simp only at hp1 hk
    have hv : k0 = 1 ∨ k0 = 2 ∨ k0 = 3 ∨ k0 = 4 ∨ k0 = 5 ∨ k0 = 6 ∨ k0 = 7 ∨ k0 = 8 ∨ k0 = 0 := by omega
    have n0 : ((0 : Nat) : Int) = 0 := rfl
    have n1 : ((1 : Nat) : Int) = 1 := rfl
    have n2 : ((2 : Nat) : Int) = 2 := rfl
    have n3 : ((3 : Nat) : Int) = 3 := rfl
    have n4 : ((4 : Nat) : Int) = 4 := rfl
    have n5 : ((5 : Nat) : Int) = 5 := rfl
    have n6 : ((6 : Nat) : Int) = 6 := rfl
    have n7 : ((7 : Nat) : Int) = 7 := rfl
    have n8 : ((8 : Nat) : Int) = 8 := rfl
    rcases hv with rfl | rfl | rfl | rfl | rfl | rfl | rfl | rfl | rfl
    · simp only [go_sem, Nat.reduceAdd, Nat.reduceLeDiff, Nat.reduceEqDiff, Nat.reduceMul, Nat.reduceSub, ↓reduceIte, Int.reduceLT, Int.reduceLE, Int.reduceGT, Int.reduceGE, Nat.reduceLT, Nat.reduceGT, Int.reduceToNat, reduceCtorEq, Nat.reduceBEq, Int.reduceBEq, Int.reduceBNe, Int.reduceEq, Int.reduceNe, decide_true, decide_false, hdl, hw2, hw1, n0, n1, n2, n3, n4, n5, Int.reduceGT, Int.reduceBEq, Int.reduceLE, decide_true, decide_false]
      repeat' ((first | (with_reducible first | refine wr ?_ | refine i_ret ?_ | refine i_skip ?_ | refine i_exit ?_) | ((with_reducible first | refine k_cb ?_ ?_ | refine k_gb ?_ ?_ | refine k_gb' ?_ ?_) <;> (intro hb; try simp only [hb]))) <;> try simp only [go_sem, Nat.reduceAdd, Nat.reduceLeDiff, Nat.reduceEqDiff, Nat.reduceMul, Nat.reduceSub, ↓reduceIte, Int.reduceLT, Int.reduceLE, Int.reduceGT, Int.reduceGE, Nat.reduceLT, Nat.reduceGT, Int.reduceToNat, reduceCtorEq, Nat.reduceBEq, Int.reduceBEq, Int.reduceBNe, Int.reduceEq, Int.reduceNe, decide_true, decide_false, hdl, hw2, hw1, n0, n1, n2, n3, n4, n5, Int.reduceGT, Int.reduceBEq, Int.reduceLE, decide_true, decide_false])
      refine AC.call (c_next l hl p1 hp1 3 (by omega) (by omega) (H.upd t (tapeB l p1)) c' t h_same (by omega)) ?_
      rintro v H' c2 ⟨rfl, rfl⟩ hcc2
      have hq := nextM_lt (l := l) (p := p1) (n := 3) (by omega)
      have hadd := w64 (n := 7 + ((nextM l p1 3).1 : Int)) (by omega) (by omega)
      simp only [go_sem, Nat.reduceAdd, Nat.reduceLeDiff, Nat.reduceEqDiff, Nat.reduceMul, Nat.reduceSub, ↓reduceIte, Int.reduceLT, Int.reduceLE, Int.reduceGT, Int.reduceGE, Nat.reduceLT, Nat.reduceGT, Int.reduceToNat, reduceCtorEq, Nat.reduceBEq, Int.reduceBEq, Int.reduceBNe, Int.reduceEq, Int.reduceNe, decide_true, decide_false]
      repeat' ((first | (with_reducible first | refine wr ?_ | refine i_ret ?_ | refine i_skip ?_ | refine i_exit ?_) | ((with_reducible first | refine k_cb ?_ ?_ | refine k_gb ?_ ?_ | refine k_gb' ?_ ?_) <;> (intro hb; try simp only [hb]))) <;> try simp only [go_sem, Nat.reduceAdd, Nat.reduceLeDiff, Nat.reduceEqDiff, Nat.reduceMul, Nat.reduceSub, ↓reduceIte, Int.reduceLT, Int.reduceLE, Int.reduceGT, Int.reduceGE, Nat.reduceLT, Nat.reduceGT, Int.reduceToNat, reduceCtorEq, Nat.reduceBEq, Int.reduceBEq, Int.reduceBNe, Int.reduceEq, Int.reduceNe, decide_true, decide_false, hadd])
      have ev : valueM l (d + 1) p = ([⟨2, ((nextM l p1 3).1 : Int)⟩], (nextM l p1 3).2) := by simp [valueM, e0]
      rw [ev]
      refine v_end hfr (by omega) (by omega) htc rfl ?_ ?_ fun j h1 h2 => ?_
      · rw [h_ne (by omega), h_same]
      · rw [h_same, insC_one]
      · rw [h_ne (by omega), h_ne h2, h_ne h2]
    · simp only [go_sem, Nat.reduceAdd, Nat.reduceLeDiff, Nat.reduceEqDiff, Nat.reduceMul, Nat.reduceSub, ↓reduceIte, Int.reduceLT, Int.reduceLE, Int.reduceGT, Int.reduceGE, Nat.reduceLT, Nat.reduceGT, Int.reduceToNat, reduceCtorEq, Nat.reduceBEq, Int.reduceBEq, Int.reduceBNe, Int.reduceEq, Int.reduceNe, decide_true, decide_false, hdl, hw2, hw1, n0, n1, n2, n3, n4, n5, Int.reduceGT, Int.reduceBEq, Int.reduceLE, decide_true, decide_false]
      repeat' ((first | (with_reducible first | refine wr ?_ | refine i_ret ?_ | refine i_skip ?_ | refine i_exit ?_) | ((with_reducible first | refine k_cb ?_ ?_ | refine k_gb ?_ ?_ | refine k_gb' ?_ ?_) <;> (intro hb; try simp only [hb]))) <;> try simp only [go_sem, Nat.reduceAdd, Nat.reduceLeDiff, Nat.reduceEqDiff, Nat.reduceMul, Nat.reduceSub, ↓reduceIte, Int.reduceLT, Int.reduceLE, Int.reduceGT, Int.reduceGE, Nat.reduceLT, Nat.reduceGT, Int.reduceToNat, reduceCtorEq, Nat.reduceBEq, Int.reduceBEq, Int.reduceBNe, Int.reduceEq, Int.reduceNe, decide_true, decide_false, hdl, hw2, hw1, n0, n1, n2, n3, n4, n5, Int.reduceGT, Int.reduceBEq, Int.reduceLE, decide_true, decide_false])
      refine AC.call (c_next l hl p1 hp1 64 (by omega) (by omega) (H.upd t (tapeB l p1)) c' t h_same (by omega)) ?_
      rintro v H' c2 ⟨rfl, rfl⟩ hcc2
      have hq := nextM_lt (l := l) (p := p1) (n := 64) (by omega)
      have hadd := w64 (n := 7 + ((nextM l p1 64).1 : Int)) (by omega) (by omega)
      simp only [go_sem, Nat.reduceAdd, Nat.reduceLeDiff, Nat.reduceEqDiff, Nat.reduceMul, Nat.reduceSub, ↓reduceIte, Int.reduceLT, Int.reduceLE, Int.reduceGT, Int.reduceGE, Nat.reduceLT, Nat.reduceGT, Int.reduceToNat, reduceCtorEq, Nat.reduceBEq, Int.reduceBEq, Int.reduceBNe, Int.reduceEq, Int.reduceNe, decide_true, decide_false]
      repeat' ((first | (with_reducible first | refine wr ?_ | refine i_ret ?_ | refine i_skip ?_ | refine i_exit ?_) | ((with_reducible first | refine k_cb ?_ ?_ | refine k_gb ?_ ?_ | refine k_gb' ?_ ?_) <;> (intro hb; try simp only [hb]))) <;> try simp only [go_sem, Nat.reduceAdd, Nat.reduceLeDiff, Nat.reduceEqDiff, Nat.reduceMul, Nat.reduceSub, ↓reduceIte, Int.reduceLT, Int.reduceLE, Int.reduceGT, Int.reduceGE, Nat.reduceLT, Nat.reduceGT, Int.reduceToNat, reduceCtorEq, Nat.reduceBEq, Int.reduceBEq, Int.reduceBNe, Int.reduceEq, Int.reduceNe, decide_true, decide_false, hadd])
      have ev : valueM l (d + 1) p = ([⟨4, ((nextM l p1 64).1 : Int)⟩], (nextM l p1 64).2) := by simp [valueM, e0]
      rw [ev]
      refine v_end hfr (by omega) (by omega) htc rfl ?_ ?_ fun j h1 h2 => ?_
      · rw [h_ne (by omega), h_same]
      · rw [h_same, insC_one]
      · rw [h_ne (by omega), h_ne h2, h_ne h2]
    · simp only [go_sem, Nat.reduceAdd, Nat.reduceLeDiff, Nat.reduceEqDiff, Nat.reduceMul, Nat.reduceSub, ↓reduceIte, Int.reduceLT, Int.reduceLE, Int.reduceGT, Int.reduceGE, Nat.reduceLT, Nat.reduceGT, Int.reduceToNat, reduceCtorEq, Nat.reduceBEq, Int.reduceBEq, Int.reduceBNe, Int.reduceEq, Int.reduceNe, decide_true, decide_false, hdl, hw2, hw1, n0, n1, n2, n3, n4, n5, Int.reduceGT, Int.reduceBEq, Int.reduceLE, decide_true, decide_false]
      repeat' ((first | (with_reducible first | refine wr ?_ | refine i_ret ?_ | refine i_skip ?_ | refine i_exit ?_) | ((with_reducible first | refine k_cb ?_ ?_ | refine k_gb ?_ ?_ | refine k_gb' ?_ ?_) <;> (intro hb; try simp only [hb]))) <;> try simp only [go_sem, Nat.reduceAdd, Nat.reduceLeDiff, Nat.reduceEqDiff, Nat.reduceMul, Nat.reduceSub, ↓reduceIte, Int.reduceLT, Int.reduceLE, Int.reduceGT, Int.reduceGE, Nat.reduceLT, Nat.reduceGT, Int.reduceToNat, reduceCtorEq, Nat.reduceBEq, Int.reduceBEq, Int.reduceBNe, Int.reduceEq, Int.reduceNe, decide_true, decide_false, hdl, hw2, hw1, n0, n1, n2, n3, n4, n5, Int.reduceGT, Int.reduceBEq, Int.reduceLE, decide_true, decide_false])
      refine AC.call (c_next l hl p1 hp1 2 (by omega) (by omega) (H.upd t (tapeB l p1)) c' t h_same (by omega)) ?_
      rintro v H' c2 ⟨rfl, rfl⟩ hcc2
      have hq := nextM_lt (l := l) (p := p1) (n := 2) (by omega)
      have hadd := w64 (n := 7 + ((nextM l p1 2).1 : Int)) (by omega) (by omega)
      simp only [go_sem, Nat.reduceAdd, Nat.reduceLeDiff, Nat.reduceEqDiff, Nat.reduceMul, Nat.reduceSub, ↓reduceIte, Int.reduceLT, Int.reduceLE, Int.reduceGT, Int.reduceGE, Nat.reduceLT, Nat.reduceGT, Int.reduceToNat, reduceCtorEq, Nat.reduceBEq, Int.reduceBEq, Int.reduceBNe, Int.reduceEq, Int.reduceNe, decide_true, decide_false]
      repeat' ((first | (with_reducible first | refine wr ?_ | refine i_ret ?_ | refine i_skip ?_ | refine i_exit ?_) | ((with_reducible first | refine k_cb ?_ ?_ | refine k_gb ?_ ?_ | refine k_gb' ?_ ?_) <;> (intro hb; try simp only [hb]))) <;> try simp only [go_sem, Nat.reduceAdd, Nat.reduceLeDiff, Nat.reduceEqDiff, Nat.reduceMul, Nat.reduceSub, ↓reduceIte, Int.reduceLT, Int.reduceLE, Int.reduceGT, Int.reduceGE, Nat.reduceLT, Nat.reduceGT, Int.reduceToNat, reduceCtorEq, Nat.reduceBEq, Int.reduceBEq, Int.reduceBNe, Int.reduceEq, Int.reduceNe, decide_true, decide_false, hadd])
      have ev : valueM l (d + 1) p = ([⟨5, ((nextM l p1 2).1 : Int)⟩], (nextM l p1 2).2) := by simp [valueM, e0]
      rw [ev]
      refine v_end hfr (by omega) (by omega) htc rfl ?_ ?_ fun j h1 h2 => ?_
      · rw [h_ne (by omega), h_same]
      · rw [h_same, insC_one]
      · rw [h_ne (by omega), h_ne h2, h_ne h2]
    · simp only [go_sem, Nat.reduceAdd, Nat.reduceLeDiff, Nat.reduceEqDiff, Nat.reduceMul, Nat.reduceSub, ↓reduceIte, Int.reduceLT, Int.reduceLE, Int.reduceGT, Int.reduceGE, Nat.reduceLT, Nat.reduceGT, Int.reduceToNat, reduceCtorEq, Nat.reduceBEq, Int.reduceBEq, Int.reduceBNe, Int.reduceEq, Int.reduceNe, decide_true, decide_false, hdl, hw2, hw1, n0, n1, n2, n3, n4, n5, Int.reduceGT, Int.reduceBEq, Int.reduceLE, decide_true, decide_false]
      repeat' ((first | (with_reducible first | refine wr ?_ | refine i_ret ?_ | refine i_skip ?_ | refine i_exit ?_) | ((with_reducible first | refine k_cb ?_ ?_ | refine k_gb ?_ ?_ | refine k_gb' ?_ ?_) <;> (intro hb; try simp only [hb]))) <;> try simp only [go_sem, Nat.reduceAdd, Nat.reduceLeDiff, Nat.reduceEqDiff, Nat.reduceMul, Nat.reduceSub, ↓reduceIte, Int.reduceLT, Int.reduceLE, Int.reduceGT, Int.reduceGE, Nat.reduceLT, Nat.reduceGT, Int.reduceToNat, reduceCtorEq, Nat.reduceBEq, Int.reduceBEq, Int.reduceBNe, Int.reduceEq, Int.reduceNe, decide_true, decide_false, hdl, hw2, hw1, n0, n1, n2, n3, n4, n5, Int.reduceGT, Int.reduceBEq, Int.reduceLE, decide_true, decide_false])
      refine AC.call (c_next l hl p1 hp1 2 (by omega) (by omega) (H.upd t (tapeB l p1)) c' t h_same (by omega)) ?_
      rintro v H' c2 ⟨rfl, rfl⟩ hcc2
      have hq := nextM_lt (l := l) (p := p1) (n := 2) (by omega)
      have hadd := w64 (n := 7 + ((nextM l p1 2).1 : Int)) (by omega) (by omega)
      simp only [go_sem, Nat.reduceAdd, Nat.reduceLeDiff, Nat.reduceEqDiff, Nat.reduceMul, Nat.reduceSub, ↓reduceIte, Int.reduceLT, Int.reduceLE, Int.reduceGT, Int.reduceGE, Nat.reduceLT, Nat.reduceGT, Int.reduceToNat, reduceCtorEq, Nat.reduceBEq, Int.reduceBEq, Int.reduceBNe, Int.reduceEq, Int.reduceNe, decide_true, decide_false]
      repeat' ((first | (with_reducible first | refine wr ?_ | refine i_ret ?_ | refine i_skip ?_ | refine i_exit ?_) | ((with_reducible first | refine k_cb ?_ ?_ | refine k_gb ?_ ?_ | refine k_gb' ?_ ?_) <;> (intro hb; try simp only [hb]))) <;> try simp only [go_sem, Nat.reduceAdd, Nat.reduceLeDiff, Nat.reduceEqDiff, Nat.reduceMul, Nat.reduceSub, ↓reduceIte, Int.reduceLT, Int.reduceLE, Int.reduceGT, Int.reduceGE, Nat.reduceLT, Nat.reduceGT, Int.reduceToNat, reduceCtorEq, Nat.reduceBEq, Int.reduceBEq, Int.reduceBNe, Int.reduceEq, Int.reduceNe, decide_true, decide_false, hadd])
      have ev : valueM l (d + 1) p = ([⟨6, ((nextM l p1 2).1 : Int)⟩], (nextM l p1 2).2) := by simp [valueM, e0]
      rw [ev]
      refine v_end hfr (by omega) (by omega) htc rfl ?_ ?_ fun j h1 h2 => ?_
      · rw [h_ne (by omega), h_same]
      · rw [h_same, insC_one]
      · rw [h_ne (by omega), h_ne h2, h_ne h2]
    · simp only [go_sem, Nat.reduceAdd, Nat.reduceLeDiff, Nat.reduceEqDiff, Nat.reduceMul, Nat.reduceSub, ↓reduceIte, Int.reduceLT, Int.reduceLE, Int.reduceGT, Int.reduceGE, Nat.reduceLT, Nat.reduceGT, Int.reduceToNat, reduceCtorEq, Nat.reduceBEq, Int.reduceBEq, Int.reduceBNe, Int.reduceEq, Int.reduceNe, decide_true, decide_false, hdl, hw2, hw1, n0, n1, n2, n3, n4, n5, Int.reduceGT, Int.reduceBEq, Int.reduceLE, decide_true, decide_false]
      repeat' ((first | (with_reducible first | refine wr ?_ | refine i_ret ?_ | refine i_skip ?_ | refine i_exit ?_) | ((with_reducible first | refine k_cb ?_ ?_ | refine k_gb ?_ ?_ | refine k_gb' ?_ ?_) <;> (intro hb; try simp only [hb]))) <;> try simp only [go_sem, Nat.reduceAdd, Nat.reduceLeDiff, Nat.reduceEqDiff, Nat.reduceMul, Nat.reduceSub, ↓reduceIte, Int.reduceLT, Int.reduceLE, Int.reduceGT, Int.reduceGE, Nat.reduceLT, Nat.reduceGT, Int.reduceToNat, reduceCtorEq, Nat.reduceBEq, Int.reduceBEq, Int.reduceBNe, Int.reduceEq, Int.reduceNe, decide_true, decide_false, hdl, hw2, hw1, n0, n1, n2, n3, n4, n5, Int.reduceGT, Int.reduceBEq, Int.reduceLE, decide_true, decide_false])
      refine AC.call (c_next l hl p1 hp1 2 (by omega) (by omega) (H.upd t (tapeB l p1)) c' t h_same (by omega)) ?_
      rintro v H' c2 ⟨rfl, rfl⟩ hcc2
      have hq := nextM_lt (l := l) (p := p1) (n := 2) (by omega)
      have hadd := w64 (n := 7 + ((nextM l p1 2).1 : Int)) (by omega) (by omega)
      simp only [go_sem, Nat.reduceAdd, Nat.reduceLeDiff, Nat.reduceEqDiff, Nat.reduceMul, Nat.reduceSub, ↓reduceIte, Int.reduceLT, Int.reduceLE, Int.reduceGT, Int.reduceGE, Nat.reduceLT, Nat.reduceGT, Int.reduceToNat, reduceCtorEq, Nat.reduceBEq, Int.reduceBEq, Int.reduceBNe, Int.reduceEq, Int.reduceNe, decide_true, decide_false]
      repeat' ((first | (with_reducible first | refine wr ?_ | refine i_ret ?_ | refine i_skip ?_ | refine i_exit ?_) | ((with_reducible first | refine k_cb ?_ ?_ | refine k_gb ?_ ?_ | refine k_gb' ?_ ?_) <;> (intro hb; try simp only [hb]))) <;> try simp only [go_sem, Nat.reduceAdd, Nat.reduceLeDiff, Nat.reduceEqDiff, Nat.reduceMul, Nat.reduceSub, ↓reduceIte, Int.reduceLT, Int.reduceLE, Int.reduceGT, Int.reduceGE, Nat.reduceLT, Nat.reduceGT, Int.reduceToNat, reduceCtorEq, Nat.reduceBEq, Int.reduceBEq, Int.reduceBNe, Int.reduceEq, Int.reduceNe, decide_true, decide_false, hadd])
      have ev : valueM l (d + 1) p = ([⟨7 + ((nextM l p1 2).1 : Int), 0⟩], (nextM l p1 2).2) := by simp [valueM, e0]
      rw [ev]
      refine v_end hfr (by omega) (by omega) htc rfl ?_ ?_ fun j h1 h2 => ?_
      · rw [h_ne (by omega), h_same]
      · rw [h_same, insC_one]
      · rw [h_ne (by omega), h_ne h2, h_ne h2]
    · simp only [go_sem, Nat.reduceAdd, Nat.reduceLeDiff, Nat.reduceEqDiff, Nat.reduceMul, Nat.reduceSub, ↓reduceIte, Int.reduceLT, Int.reduceLE, Int.reduceGT, Int.reduceGE, Nat.reduceLT, Nat.reduceGT, Int.reduceToNat, reduceCtorEq, Nat.reduceBEq, Int.reduceBEq, Int.reduceBNe, Int.reduceEq, Int.reduceNe, decide_true, decide_false, hdl, hw2, hw1, n0, n1, n2, n3, n4, n5, n6, n7, n8, Int.reduceGT, Int.reduceBEq, Int.reduceLE, decide_true, decide_false]
      repeat' ((first | (with_reducible first | refine wr ?_ | refine i_ret ?_ | refine i_skip ?_ | refine i_exit ?_) | ((with_reducible first | refine k_cb ?_ ?_ | refine k_gb ?_ ?_ | refine k_gb' ?_ ?_) <;> (intro hb; try simp only [hb]))) <;> try simp only [go_sem, Nat.reduceAdd, Nat.reduceLeDiff, Nat.reduceEqDiff, Nat.reduceMul, Nat.reduceSub, ↓reduceIte, Int.reduceLT, Int.reduceLE, Int.reduceGT, Int.reduceGE, Nat.reduceLT, Nat.reduceGT, Int.reduceToNat, reduceCtorEq, Nat.reduceBEq, Int.reduceBEq, Int.reduceBNe, Int.reduceEq, Int.reduceNe, decide_true, decide_false, hdl, hw2, hw1, n0, n1, n2, n3, n4, n5, n6, n7, n8, Int.reduceGT, Int.reduceBEq, Int.reduceLE, decide_true, decide_false])
      refine AC.call (ih (by omega) p1 hp1 (H.upd t (tapeB l p1)) c' t h_same (by omega)) ?_
      rintro v H' c2 ⟨id1, i1, i2, rfl, rfl⟩ hcc2
      have hp2 := valueM_le l d p1 hp1
      simp only [go_sem, Nat.reduceAdd, Nat.reduceLeDiff, Nat.reduceEqDiff, Nat.reduceMul, Nat.reduceSub, ↓reduceIte, Int.reduceLT, Int.reduceLE, Int.reduceGT, Int.reduceGE, Nat.reduceLT, Nat.reduceGT, Int.reduceToNat, reduceCtorEq, Nat.reduceBEq, Int.reduceBEq, Int.reduceBNe, Int.reduceEq, Int.reduceNe, decide_true, decide_false]
      repeat' ((first | (with_reducible first | refine wr ?_ | refine i_ret ?_ | refine i_skip ?_ | refine i_exit ?_) | ((with_reducible first | refine k_cb ?_ ?_ | refine k_gb ?_ ?_ | refine k_gb' ?_ ?_) <;> (intro hb; try simp only [hb]))) <;> try simp only [go_sem, Nat.reduceAdd, Nat.reduceLeDiff, Nat.reduceEqDiff, Nat.reduceMul, Nat.reduceSub, ↓reduceIte, Int.reduceLT, Int.reduceLE, Int.reduceGT, Int.reduceGE, Nat.reduceLT, Nat.reduceGT, Int.reduceToNat, reduceCtorEq, Nat.reduceBEq, Int.reduceBEq, Int.reduceBNe, Int.reduceEq, Int.reduceNe, decide_true, decide_false])
      refine AC.call (c_next l hl _ hp2 2 (by omega) (by omega) _ c2 t ((h_ne (by omega)).trans h_same) (by omega)) ?_
      rintro v H' c3 ⟨rfl, rfl⟩ hcc3
      have hq := nextM_lt (l := l) (p := (valueM l d p1).2) (n := 2) (by omega)
      have hadd := w64 (n := 9 + ((nextM l (valueM l d p1).2 2).1 : Int)) (by omega) (by omega)
      have hvl := valueM_len l d p1
      have hpw : 2 ^ (d + 1) ≤ 2 ^ 3 := Nat.pow_le_pow_right (by omega) (by omega)
      have ne0 : ¬ t = id1 := by omega
      have ne1 : ¬ t = c3 := by omega
      have ne2 : ¬ t = c3 + 1 := by omega
      have ne3 : ¬ id1 = t := by omega
      have ne4 : ¬ id1 = c3 := by omega
      have ne5 : ¬ id1 = c3 + 1 := by omega
      have ne6 : ¬ c3 = t := by omega
      have ne7 : ¬ c3 = id1 := by omega
      have ne8 : ¬ c3 = c3 + 1 := by omega
      have ne9 : ¬ c3 + 1 = t := by omega
      have ne10 : ¬ c3 + 1 = id1 := by omega
      have ne11 : ¬ c3 + 1 = c3 := by omega
      simp only [go_sem, Nat.reduceAdd, Nat.reduceLeDiff, Nat.reduceEqDiff, Nat.reduceMul, Nat.reduceSub, ↓reduceIte, Int.reduceLT, Int.reduceLE, Int.reduceGT, Int.reduceGE, Nat.reduceLT, Nat.reduceGT, Int.reduceToNat, reduceCtorEq, Nat.reduceBEq, Int.reduceBEq, Int.reduceBNe, Int.reduceEq, Int.reduceNe, decide_true, decide_false, hadd, ne0, ne1, ne2, ne3, ne4, ne5, ne6, ne7, ne8, ne9, ne10, ne11]
      repeat' ((first | (with_reducible first | refine wr ?_ | refine i_ret ?_ | refine i_skip ?_ | refine i_exit ?_) | ((with_reducible first | refine k_cb ?_ ?_ | refine k_gb ?_ ?_ | refine k_gb' ?_ ?_) <;> (intro hb; try simp only [hb])) | ((with_reducible refine k_eval (b_appx (insC_len2 _) (by omega) (by omega)) ?_))) <;> try simp only [go_sem, Nat.reduceAdd, Nat.reduceLeDiff, Nat.reduceEqDiff, Nat.reduceMul, Nat.reduceSub, ↓reduceIte, Int.reduceLT, Int.reduceLE, Int.reduceGT, Int.reduceGE, Nat.reduceLT, Nat.reduceGT, Int.reduceToNat, reduceCtorEq, Nat.reduceBEq, Int.reduceBEq, Int.reduceBNe, Int.reduceEq, Int.reduceNe, decide_true, decide_false, hadd, ne0, ne1, ne2, ne3, ne4, ne5, ne6, ne7, ne8, ne9, ne10, ne11])
      rw [valueM_6 e0]
      refine v_end (id := c3 + 1) hfr (by omega) (by omega) htc (by rw [List.length_append]; rfl) ?_ ?_ fun j h1 h2 => ?_
      · simp only [go_sem, Nat.reduceAdd, Nat.reduceLeDiff, Nat.reduceEqDiff, Nat.reduceMul, Nat.reduceSub, ↓reduceIte, Int.reduceLT, Int.reduceLE, Int.reduceGT, Int.reduceGE, Nat.reduceLT, Nat.reduceGT, Int.reduceToNat, reduceCtorEq, Nat.reduceBEq, Int.reduceBEq, Int.reduceBNe, Int.reduceEq, Int.reduceNe, decide_true, decide_false, ne0, ne1, ne2, ne3, ne4, ne5, ne6, ne7, ne8, ne9, ne10, ne11]
      · rw [h_same, insC_app, insC_one]
      · have q1 : ¬j = id1 := by omega
        have q2 : ¬j = c3 := by omega
        have q3 : ¬j = c3 + 1 := by omega
        simp only [go_sem, Nat.reduceAdd, Nat.reduceLeDiff, Nat.reduceEqDiff, Nat.reduceMul, Nat.reduceSub, ↓reduceIte, Int.reduceLT, Int.reduceLE, Int.reduceGT, Int.reduceGE, Nat.reduceLT, Nat.reduceGT, Int.reduceToNat, reduceCtorEq, Nat.reduceBEq, Int.reduceBEq, Int.reduceBNe, Int.reduceEq, Int.reduceNe, decide_true, decide_false, h2, q1, q2, q3]
    · simp only [go_sem, Nat.reduceAdd, Nat.reduceLeDiff, Nat.reduceEqDiff, Nat.reduceMul, Nat.reduceSub, ↓reduceIte, Int.reduceLT, Int.reduceLE, Int.reduceGT, Int.reduceGE, Nat.reduceLT, Nat.reduceGT, Int.reduceToNat, reduceCtorEq, Nat.reduceBEq, Int.reduceBEq, Int.reduceBNe, Int.reduceEq, Int.reduceNe, decide_true, decide_false, hdl, hw2, hw1, n0, n1, n2, n3, n4, n5, n6, n7, n8, Int.reduceGT, Int.reduceBEq, Int.reduceLE, decide_true, decide_false]
      repeat' ((first | (with_reducible first | refine wr ?_ | refine i_ret ?_ | refine i_skip ?_ | refine i_exit ?_) | ((with_reducible first | refine k_cb ?_ ?_ | refine k_gb ?_ ?_ | refine k_gb' ?_ ?_) <;> (intro hb; try simp only [hb]))) <;> try simp only [go_sem, Nat.reduceAdd, Nat.reduceLeDiff, Nat.reduceEqDiff, Nat.reduceMul, Nat.reduceSub, ↓reduceIte, Int.reduceLT, Int.reduceLE, Int.reduceGT, Int.reduceGE, Nat.reduceLT, Nat.reduceGT, Int.reduceToNat, reduceCtorEq, Nat.reduceBEq, Int.reduceBEq, Int.reduceBNe, Int.reduceEq, Int.reduceNe, decide_true, decide_false, hdl, hw2, hw1, n0, n1, n2, n3, n4, n5, n6, n7, n8, Int.reduceGT, Int.reduceBEq, Int.reduceLE, decide_true, decide_false])
      refine AC.call (ih (by omega) p1 hp1 (H.upd t (tapeB l p1)) c' t h_same (by omega)) ?_
      rintro v H' c2 ⟨id1, i1, i2, rfl, rfl⟩ hcc2
      have hp2 := valueM_le l d p1 hp1
      simp only [go_sem, Nat.reduceAdd, Nat.reduceLeDiff, Nat.reduceEqDiff, Nat.reduceMul, Nat.reduceSub, ↓reduceIte, Int.reduceLT, Int.reduceLE, Int.reduceGT, Int.reduceGE, Nat.reduceLT, Nat.reduceGT, Int.reduceToNat, reduceCtorEq, Nat.reduceBEq, Int.reduceBEq, Int.reduceBNe, Int.reduceEq, Int.reduceNe, decide_true, decide_false, hw2, hw1]
      repeat' ((first | (with_reducible first | refine wr ?_ | refine i_ret ?_ | refine i_skip ?_ | refine i_exit ?_) | ((with_reducible first | refine k_cb ?_ ?_ | refine k_gb ?_ ?_ | refine k_gb' ?_ ?_) <;> (intro hb; try simp only [hb]))) <;> try simp only [go_sem, Nat.reduceAdd, Nat.reduceLeDiff, Nat.reduceEqDiff, Nat.reduceMul, Nat.reduceSub, ↓reduceIte, Int.reduceLT, Int.reduceLE, Int.reduceGT, Int.reduceGE, Nat.reduceLT, Nat.reduceGT, Int.reduceToNat, reduceCtorEq, Nat.reduceBEq, Int.reduceBEq, Int.reduceBNe, Int.reduceEq, Int.reduceNe, decide_true, decide_false, hw2, hw1])
      refine AC.call (ih (by omega) _ hp2 _ c2 t ((h_ne (by omega)).trans h_same) (by omega)) ?_
      rintro v H' c3 ⟨id2, j1, j2, rfl, rfl⟩ hcc3
      have hp3 := valueM_le l d _ hp2
      have hvl := valueM_len l d p1
      have hvl2 := valueM_len l d (valueM l d p1).2
      have hpw : 2 ^ (d + 1) ≤ 2 ^ 3 := Nat.pow_le_pow_right (by omega) (by omega)
      have hl2 := insC_len2 (valueM l d (valueM l d p1).2).1
      have hle2 : (valueM l d (valueM l d p1).2).1.length * 2 ≤ (insC (valueM l d (valueM l d p1).2).1).length := by omega
      have htk := List.take_of_length_le (l := insC (valueM l d (valueM l d p1).2).1) (i := (valueM l d (valueM l d p1).2).1.length * 2) (by omega)
      have ne0 : ¬ t = id1 := by omega
      have ne1 : ¬ t = id2 := by omega
      have ne2 : ¬ t = c3 := by omega
      have ne3 : ¬ id1 = t := by omega
      have ne4 : ¬ id1 = id2 := by omega
      have ne5 : ¬ id1 = c3 := by omega
      have ne6 : ¬ id2 = t := by omega
      have ne7 : ¬ id2 = id1 := by omega
      have ne8 : ¬ id2 = c3 := by omega
      have ne9 : ¬ c3 = t := by omega
      have ne10 : ¬ c3 = id1 := by omega
      have ne11 : ¬ c3 = id2 := by omega
      simp only [go_sem, Nat.reduceAdd, Nat.reduceLeDiff, Nat.reduceEqDiff, Nat.reduceMul, Nat.reduceSub, ↓reduceIte, Int.reduceLT, Int.reduceLE, Int.reduceGT, Int.reduceGE, Nat.reduceLT, Nat.reduceGT, Int.reduceToNat, reduceCtorEq, Nat.reduceBEq, Int.reduceBEq, Int.reduceBNe, Int.reduceEq, Int.reduceNe, decide_true, decide_false, ne0, ne1, ne2, ne3, ne4, ne5, ne6, ne7, ne8, ne9, ne10, ne11, hle2, htk]
      repeat' ((first | (with_reducible first | refine wr ?_ | refine i_ret ?_ | refine i_skip ?_ | refine i_exit ?_) | ((with_reducible first | refine k_cb ?_ ?_ | refine k_gb ?_ ?_ | refine k_gb' ?_ ?_) <;> (intro hb; try simp only [hb])) | ((with_reducible refine k_eval (b_appx (insC_len2 _) (by omega) (by omega)) ?_))) <;> try simp only [go_sem, Nat.reduceAdd, Nat.reduceLeDiff, Nat.reduceEqDiff, Nat.reduceMul, Nat.reduceSub, ↓reduceIte, Int.reduceLT, Int.reduceLE, Int.reduceGT, Int.reduceGE, Nat.reduceLT, Nat.reduceGT, Int.reduceToNat, reduceCtorEq, Nat.reduceBEq, Int.reduceBEq, Int.reduceBNe, Int.reduceEq, Int.reduceNe, decide_true, decide_false, ne0, ne1, ne2, ne3, ne4, ne5, ne6, ne7, ne8, ne9, ne10, ne11, hle2, htk])
      refine AC.call (c_next l hl _ hp3 13 (by omega) (by omega) _ (c3 + 1) t (by repeat (first | exact h_same | rw [h_ne (by omega)] | rw [h_dne (by omega)])) (by omega)) ?_
      rintro v H' c4 ⟨rfl, rfl⟩ hcc4
      have hq := nextM_lt (l := l) (p := (valueM l d (valueM l d p1).2).2) (n := 13) (by omega)
      have hadd := w64 (n := 12 + ((nextM l (valueM l d (valueM l d p1).2).2 13).1 : Int)) (by omega) (by omega)
      have hl3 : (insC (valueM l d p1).1 ++ insC (valueM l d (valueM l d p1).2).1).length = ((valueM l d p1).1.length + (valueM l d (valueM l d p1).2).1.length) * 2 := by rw [List.length_append, insC_len, insC_len]; omega
      have ne0 : ¬ t = c3 := by omega
      have ne1 : ¬ t = c4 := by omega
      have ne2 : ¬ t = c4 + 1 := by omega
      have ne3 : ¬ c3 = t := by omega
      have ne4 : ¬ c3 = c4 := by omega
      have ne5 : ¬ c3 = c4 + 1 := by omega
      have ne6 : ¬ c4 = t := by omega
      have ne7 : ¬ c4 = c3 := by omega
      have ne8 : ¬ c4 = c4 + 1 := by omega
      have ne9 : ¬ c4 + 1 = t := by omega
      have ne10 : ¬ c4 + 1 = c3 := by omega
      have ne11 : ¬ c4 + 1 = c4 := by omega
      simp only [go_sem, Nat.reduceAdd, Nat.reduceLeDiff, Nat.reduceEqDiff, Nat.reduceMul, Nat.reduceSub, ↓reduceIte, Int.reduceLT, Int.reduceLE, Int.reduceGT, Int.reduceGE, Nat.reduceLT, Nat.reduceGT, Int.reduceToNat, reduceCtorEq, Nat.reduceBEq, Int.reduceBEq, Int.reduceBNe, Int.reduceEq, Int.reduceNe, decide_true, decide_false, hadd, ne0, ne1, ne2, ne3, ne4, ne5, ne6, ne7, ne8, ne9, ne10, ne11]
      repeat' ((first | (with_reducible first | refine wr ?_ | refine i_ret ?_ | refine i_skip ?_ | refine i_exit ?_) | ((with_reducible first | refine k_cb ?_ ?_ | refine k_gb ?_ ?_ | refine k_gb' ?_ ?_) <;> (intro hb; try simp only [hb])) | ((with_reducible refine k_eval (b_appx hl3 (by omega) (by omega)) ?_))) <;> try simp only [go_sem, Nat.reduceAdd, Nat.reduceLeDiff, Nat.reduceEqDiff, Nat.reduceMul, Nat.reduceSub, ↓reduceIte, Int.reduceLT, Int.reduceLE, Int.reduceGT, Int.reduceGE, Nat.reduceLT, Nat.reduceGT, Int.reduceToNat, reduceCtorEq, Nat.reduceBEq, Int.reduceBEq, Int.reduceBNe, Int.reduceEq, Int.reduceNe, decide_true, decide_false, hadd, ne0, ne1, ne2, ne3, ne4, ne5, ne6, ne7, ne8, ne9, ne10, ne11])
      rw [valueM_7 e0]
      refine v_end (id := c4 + 1) hfr (by omega) (by omega) htc (by simp only [List.length_append, List.length_singleton]) ?_ ?_ fun j h1 h2 => ?_
      · repeat (first | exact h_same | rw [h_ne (by omega)] | rw [h_dne (by omega)])
      · rw [h_same, insC_app, insC_app, insC_one]
      · repeat (first | rfl | rw [h_ne (by omega)] | rw [h_dne (by omega)])
    · simp only [go_sem, Nat.reduceAdd, Nat.reduceLeDiff, Nat.reduceEqDiff, Nat.reduceMul, Nat.reduceSub, ↓reduceIte, Int.reduceLT, Int.reduceLE, Int.reduceGT, Int.reduceGE, Nat.reduceLT, Nat.reduceGT, Int.reduceToNat, reduceCtorEq, Nat.reduceBEq, Int.reduceBEq, Int.reduceBNe, Int.reduceEq, Int.reduceNe, decide_true, decide_false, hdl, hw2, hw1, n0, n1, n2, n3, n4, n5, n6, n7, n8, Int.reduceGT, Int.reduceBEq, Int.reduceLE, decide_true, decide_false]
      repeat' ((first | (with_reducible first | refine wr ?_ | refine i_ret ?_ | refine i_skip ?_ | refine i_exit ?_) | ((with_reducible first | refine k_cb ?_ ?_ | refine k_gb ?_ ?_ | refine k_gb' ?_ ?_) <;> (intro hb; try simp only [hb]))) <;> try simp only [go_sem, Nat.reduceAdd, Nat.reduceLeDiff, Nat.reduceEqDiff, Nat.reduceMul, Nat.reduceSub, ↓reduceIte, Int.reduceLT, Int.reduceLE, Int.reduceGT, Int.reduceGE, Nat.reduceLT, Nat.reduceGT, Int.reduceToNat, reduceCtorEq, Nat.reduceBEq, Int.reduceBEq, Int.reduceBNe, Int.reduceEq, Int.reduceNe, decide_true, decide_false, hdl, hw2, hw1, n0, n1, n2, n3, n4, n5, n6, n7, n8, Int.reduceGT, Int.reduceBEq, Int.reduceLE, decide_true, decide_false])
      refine AC.call (ih (by omega) p1 hp1 (H.upd t (tapeB l p1)) c' t h_same (by omega)) ?_
      rintro v H' c2 ⟨id1, i1, i2, rfl, rfl⟩ hcc2
      have hp2 := valueM_le l d p1 hp1
      simp only [go_sem, Nat.reduceAdd, Nat.reduceLeDiff, Nat.reduceEqDiff, Nat.reduceMul, Nat.reduceSub, ↓reduceIte, Int.reduceLT, Int.reduceLE, Int.reduceGT, Int.reduceGE, Nat.reduceLT, Nat.reduceGT, Int.reduceToNat, reduceCtorEq, Nat.reduceBEq, Int.reduceBEq, Int.reduceBNe, Int.reduceEq, Int.reduceNe, decide_true, decide_false, hw2, hw1]
      repeat' ((first | (with_reducible first | refine wr ?_ | refine i_ret ?_ | refine i_skip ?_ | refine i_exit ?_) | ((with_reducible first | refine k_cb ?_ ?_ | refine k_gb ?_ ?_ | refine k_gb' ?_ ?_) <;> (intro hb; try simp only [hb]))) <;> try simp only [go_sem, Nat.reduceAdd, Nat.reduceLeDiff, Nat.reduceEqDiff, Nat.reduceMul, Nat.reduceSub, ↓reduceIte, Int.reduceLT, Int.reduceLE, Int.reduceGT, Int.reduceGE, Nat.reduceLT, Nat.reduceGT, Int.reduceToNat, reduceCtorEq, Nat.reduceBEq, Int.reduceBEq, Int.reduceBNe, Int.reduceEq, Int.reduceNe, decide_true, decide_false, hw2, hw1])
      refine AC.call (ih (by omega) _ hp2 _ c2 t ((h_ne (by omega)).trans h_same) (by omega)) ?_
      rintro v H' c3 ⟨id2, j1, j2, rfl, rfl⟩ hcc3
      have hp3 := valueM_le l d _ hp2
      have hvl := valueM_len l d p1
      have hvl2 := valueM_len l d (valueM l d p1).2
      have hpw : 2 ^ (d + 1) ≤ 2 ^ 3 := Nat.pow_le_pow_right (by omega) (by omega)
      have hl2 := insC_len2 (valueM l d (valueM l d p1).2).1
      have hle2 : (valueM l d (valueM l d p1).2).1.length * 2 ≤ (insC (valueM l d (valueM l d p1).2).1).length := by omega
      have htk := List.take_of_length_le (l := insC (valueM l d (valueM l d p1).2).1) (i := (valueM l d (valueM l d p1).2).1.length * 2) (by omega)
      have ne0 : ¬ t = id1 := by omega
      have ne1 : ¬ t = id2 := by omega
      have ne2 : ¬ t = c3 := by omega
      have ne3 : ¬ id1 = t := by omega
      have ne4 : ¬ id1 = id2 := by omega
      have ne5 : ¬ id1 = c3 := by omega
      have ne6 : ¬ id2 = t := by omega
      have ne7 : ¬ id2 = id1 := by omega
      have ne8 : ¬ id2 = c3 := by omega
      have ne9 : ¬ c3 = t := by omega
      have ne10 : ¬ c3 = id1 := by omega
      have ne11 : ¬ c3 = id2 := by omega
      simp only [go_sem, Nat.reduceAdd, Nat.reduceLeDiff, Nat.reduceEqDiff, Nat.reduceMul, Nat.reduceSub, ↓reduceIte, Int.reduceLT, Int.reduceLE, Int.reduceGT, Int.reduceGE, Nat.reduceLT, Nat.reduceGT, Int.reduceToNat, reduceCtorEq, Nat.reduceBEq, Int.reduceBEq, Int.reduceBNe, Int.reduceEq, Int.reduceNe, decide_true, decide_false, ne0, ne1, ne2, ne3, ne4, ne5, ne6, ne7, ne8, ne9, ne10, ne11, hle2, htk]
      repeat' ((first | (with_reducible first | refine wr ?_ | refine i_ret ?_ | refine i_skip ?_ | refine i_exit ?_) | ((with_reducible first | refine k_cb ?_ ?_ | refine k_gb ?_ ?_ | refine k_gb' ?_ ?_) <;> (intro hb; try simp only [hb])) | ((with_reducible refine k_eval (b_appx (insC_len2 _) (by omega) (by omega)) ?_))) <;> try simp only [go_sem, Nat.reduceAdd, Nat.reduceLeDiff, Nat.reduceEqDiff, Nat.reduceMul, Nat.reduceSub, ↓reduceIte, Int.reduceLT, Int.reduceLE, Int.reduceGT, Int.reduceGE, Nat.reduceLT, Nat.reduceGT, Int.reduceToNat, reduceCtorEq, Nat.reduceBEq, Int.reduceBEq, Int.reduceBNe, Int.reduceEq, Int.reduceNe, decide_true, decide_false, ne0, ne1, ne2, ne3, ne4, ne5, ne6, ne7, ne8, ne9, ne10, ne11, hle2, htk])
      refine AC.call (c_next l hl _ hp3 13 (by omega) (by omega) _ (c3 + 1) t (by repeat (first | exact h_same | rw [h_ne (by omega)] | rw [h_dne (by omega)])) (by omega)) ?_
      rintro v H' c4 ⟨rfl, rfl⟩ hcc4
      have hq := nextM_lt (l := l) (p := (valueM l d (valueM l d p1).2).2) (n := 13) (by omega)
      have hadd := w64 (n := 12 + ((nextM l (valueM l d (valueM l d p1).2).2 13).1 : Int)) (by omega) (by omega)
      have hl3 : (insC (valueM l d p1).1 ++ insC (valueM l d (valueM l d p1).2).1).length = ((valueM l d p1).1.length + (valueM l d (valueM l d p1).2).1.length) * 2 := by rw [List.length_append, insC_len, insC_len]; omega
      have ne0 : ¬ t = c3 := by omega
      have ne1 : ¬ t = c4 := by omega
      have ne2 : ¬ t = c4 + 1 := by omega
      have ne3 : ¬ c3 = t := by omega
      have ne4 : ¬ c3 = c4 := by omega
      have ne5 : ¬ c3 = c4 + 1 := by omega
      have ne6 : ¬ c4 = t := by omega
      have ne7 : ¬ c4 = c3 := by omega
      have ne8 : ¬ c4 = c4 + 1 := by omega
      have ne9 : ¬ c4 + 1 = t := by omega
      have ne10 : ¬ c4 + 1 = c3 := by omega
      have ne11 : ¬ c4 + 1 = c4 := by omega
      simp only [go_sem, Nat.reduceAdd, Nat.reduceLeDiff, Nat.reduceEqDiff, Nat.reduceMul, Nat.reduceSub, ↓reduceIte, Int.reduceLT, Int.reduceLE, Int.reduceGT, Int.reduceGE, Nat.reduceLT, Nat.reduceGT, Int.reduceToNat, reduceCtorEq, Nat.reduceBEq, Int.reduceBEq, Int.reduceBNe, Int.reduceEq, Int.reduceNe, decide_true, decide_false, hadd, ne0, ne1, ne2, ne3, ne4, ne5, ne6, ne7, ne8, ne9, ne10, ne11]
      repeat' ((first | (with_reducible first | refine wr ?_ | refine i_ret ?_ | refine i_skip ?_ | refine i_exit ?_) | ((with_reducible first | refine k_cb ?_ ?_ | refine k_gb ?_ ?_ | refine k_gb' ?_ ?_) <;> (intro hb; try simp only [hb])) | ((with_reducible refine k_eval (b_appx hl3 (by omega) (by omega)) ?_))) <;> try simp only [go_sem, Nat.reduceAdd, Nat.reduceLeDiff, Nat.reduceEqDiff, Nat.reduceMul, Nat.reduceSub, ↓reduceIte, Int.reduceLT, Int.reduceLE, Int.reduceGT, Int.reduceGE, Nat.reduceLT, Nat.reduceGT, Int.reduceToNat, reduceCtorEq, Nat.reduceBEq, Int.reduceBEq, Int.reduceBNe, Int.reduceEq, Int.reduceNe, decide_true, decide_false, hadd, ne0, ne1, ne2, ne3, ne4, ne5, ne6, ne7, ne8, ne9, ne10, ne11])
      rw [valueM_8 e0]
      refine v_end (id := c4 + 1) hfr (by omega) (by omega) htc (by simp only [List.length_append, List.length_singleton]) ?_ ?_ fun j h1 h2 => ?_
      · repeat (first | exact h_same | rw [h_ne (by omega)] | rw [h_dne (by omega)])
      · rw [h_same, insC_app, insC_app, insC_one]
      · repeat (first | rfl | rw [h_ne (by omega)] | rw [h_dne (by omega)])
    · simp only [go_sem, Nat.reduceAdd, Nat.reduceLeDiff, Nat.reduceEqDiff, Nat.reduceMul, Nat.reduceSub, ↓reduceIte, Int.reduceLT, Int.reduceLE, Int.reduceGT, Int.reduceGE, Nat.reduceLT, Nat.reduceGT, Int.reduceToNat, reduceCtorEq, Nat.reduceBEq, Int.reduceBEq, Int.reduceBNe, Int.reduceEq, Int.reduceNe, decide_true, decide_false, hdl, hw2, hw1, n0, n1, n2, n3, n4, n5, n6, n7, n8, Int.reduceGT, Int.reduceBEq, Int.reduceLE, decide_true, decide_false]
      repeat' ((first | (with_reducible first | refine wr ?_ | refine i_ret ?_ | refine i_skip ?_ | refine i_exit ?_) | ((with_reducible first | refine k_cb ?_ ?_ | refine k_gb ?_ ?_ | refine k_gb' ?_ ?_) <;> (intro hb; try simp only [hb]))) <;> try simp only [go_sem, Nat.reduceAdd, Nat.reduceLeDiff, Nat.reduceEqDiff, Nat.reduceMul, Nat.reduceSub, ↓reduceIte, Int.reduceLT, Int.reduceLE, Int.reduceGT, Int.reduceGE, Nat.reduceLT, Nat.reduceGT, Int.reduceToNat, reduceCtorEq, Nat.reduceBEq, Int.reduceBEq, Int.reduceBNe, Int.reduceEq, Int.reduceNe, decide_true, decide_false, hdl, hw2, hw1, n0, n1, n2, n3, n4, n5, n6, n7, n8, Int.reduceGT, Int.reduceBEq, Int.reduceLE, decide_true, decide_false])
      refine AC.call (c_next l hl p1 hp1 10 (by omega) (by omega) _ (c' + 1) t ((h_ne (by omega)).trans h_same) (by omega)) ?_
      rintro v H' c2 ⟨rfl, rfl⟩ hcc2
      have hq := nextM_lt (l := l) (p := p1) (n := 10) (by omega)
      have hget := push_get hq
      have ne0 : ¬ t = c' := by omega
      have ne1 : ¬ t = c2 := by omega
      have ne2 : ¬ c' = t := by omega
      have ne3 : ¬ c' = c2 := by omega
      have ne4 : ¬ c2 = t := by omega
      have ne5 : ¬ c2 = c' := by omega
      simp only [go_sem, Nat.reduceAdd, Nat.reduceLeDiff, Nat.reduceEqDiff, Nat.reduceMul, Nat.reduceSub, ↓reduceIte, Int.reduceLT, Int.reduceLE, Int.reduceGT, Int.reduceGE, Nat.reduceLT, Nat.reduceGT, Int.reduceToNat, reduceCtorEq, Nat.reduceBEq, Int.reduceBEq, Int.reduceBNe, Int.reduceEq, Int.reduceNe, decide_true, decide_false, hget, hq, ne0, ne1, ne2, ne3, ne4, ne5]
      repeat' ((first | (with_reducible first | refine wr ?_ | refine i_ret ?_ | refine i_skip ?_ | refine i_exit ?_) | ((with_reducible first | refine k_cb ?_ ?_ | refine k_gb ?_ ?_ | refine k_gb' ?_ ?_) <;> (intro hb; try simp only [hb]))) <;> try simp only [go_sem, Nat.reduceAdd, Nat.reduceLeDiff, Nat.reduceEqDiff, Nat.reduceMul, Nat.reduceSub, ↓reduceIte, Int.reduceLT, Int.reduceLE, Int.reduceGT, Int.reduceGE, Nat.reduceLT, Nat.reduceGT, Int.reduceToNat, reduceCtorEq, Nat.reduceBEq, Int.reduceBEq, Int.reduceBNe, Int.reduceEq, Int.reduceNe, decide_true, decide_false, hget, hq, ne0, ne1, ne2, ne3, ne4, ne5])
      have ev : valueM l (d + 1) p = ([⟨1, pushT.getD (nextM l p1 10).1 0⟩], (nextM l p1 10).2) := by simp [valueM, e0]
      rw [ev]
      refine v_end hfr (by omega) (by omega) htc rfl ?_ ?_ fun j h1 h2 => ?_
      · rw [h_ne (by omega), h_same]
      · rw [h_same, insC_one]
      · rw [h_ne (by omega), h_ne h2, h_ne (by omega), h_ne h2]
end Go.Proofs.YtcallbfckjlagaaDoor
set_option linter.unusedVariables false
set_option linter.unusedSimpArgs false
namespace Go.Pb
open Go.Sym
theorem valueM_l0 (l : List UInt8) (p : Nat) : (valueM l 0 p).1.length ≤ 1 := by have := valueM_len l 0 p; omega
theorem valueM_l1 (l : List UInt8) (p : Nat) : (valueM l 1 p).1.length ≤ 3 := by
  have := valueM_len l 1 p
  have e : 2 ^ (1 + 1) = 4 := rfl
  omega
theorem valueM_l2 (l : List UInt8) (p : Nat) : (valueM l 2 p).1.length ≤ 7 := by
  have := valueM_len l 2 p
  have e : 2 ^ (2 + 1) = 8 := rfl
  omega
def stK (l : List UInt8) (rec : Nat → Nat → List Ins × Nat) (base k p : Nat) : List Ins × Nat :=
  match k with
  | 1 => ((valueM l 1 p).1 ++ [⟨15, 0⟩], (valueM l 1 p).2)
  | 2 => ([⟨16 + ((nextM l p 3).1 : Int), ((nextM l (nextM l p 3).2 32).1 : Int)⟩], (nextM l (nextM l p 3).2 32).2)
  | 3 => ((valueM l 0 p).1 ++ [⟨19, ((nextM l (valueM l 0 p).2 64).1 : Int)⟩], (nextM l (valueM l 0 p).2 64).2)
  | 4 => ((valueM l 0 p).1 ++ (valueM l 0 (valueM l 0 p).2).1 ++ [⟨20, ((nextM l (valueM l 0 (valueM l 0 p).2).2 64).1 : Int)⟩], (nextM l (valueM l 0 (valueM l 0 p).2).2 64).2)
  | 5 => ((valueM l 1 p).1 ++ [⟨21, ((nextM l (valueM l 1 p).2 2).1 : Int)⟩], (nextM l (valueM l 1 p).2 2).2)
  | 6 => ([⟨22, ((nextM l p 2).1 : Int)⟩], (nextM l p 2).2)
  | 7 => ([⟨23 + ((nextM l p 2).1 : Int), ((nextM l (nextM l p 2).2 2).1 : Int)⟩], (nextM l (nextM l p 2).2 2).2)
  | 8 => ([⟨25, ((nextM l p 2).1 : Int)⟩], (nextM l p 2).2)
  | 9 => ([⟨26 + ((nextM l p 3).1 : Int), ((nextM l (nextM l p 3).2 64).1 : Int)⟩], (nextM l (nextM l p 3).2 64).2)
  | 10 => ((valueM l 1 p).1 ++ [⟨29, ((nextM l (valueM l 1 p).2 2).1 : Int)⟩], (nextM l (valueM l 1 p).2 2).2)
  | 11 => ([⟨30, 0⟩], p)
  | 12 => ((valueM l 1 p).1 ++ [⟨13, ((base + (valueM l 1 p).1.length + 1 + (rec (base + (valueM l 1 p).1.length + 1) (valueM l 1 p).2).1.length : Nat) : Int)⟩] ++ (rec (base + (valueM l 1 p).1.length + 1) (valueM l 1 p).2).1, (rec (base + (valueM l 1 p).1.length + 1) (valueM l 1 p).2).2)
  | 13 | 14 => ((valueM l 0 p).1 ++ [⟨14, ((base + (valueM l 0 p).1.length + 2 + (rec (base + (valueM l 0 p).1.length + 1) (valueM l 0 p).2).1.length : Nat) : Int)⟩] ++ (rec (base + (valueM l 0 p).1.length + 1) (valueM l 0 p).2).1 ++ [⟨12, ((base + (valueM l 0 p).1.length : Nat) : Int)⟩], (rec (base + (valueM l 0 p).1.length + 1) (valueM l 0 p).2).2)
  | _ => ((valueM l 2 p).1 ++ [⟨3, ((nextM l (valueM l 2 p).2 3).1 : Int)⟩], (nextM l (valueM l 2 p).2 3).2)
def stmtM (l : List UInt8) : Nat → Nat → Nat → List Ins × Nat
  | 0, base, p => stK l (fun _ p => ([], p)) base (if 11 < (nextM l p 15).1 then 0 else (nextM l p 15).1) (nextM l p 15).2
  | d + 1, base, p => stK l (stmtM l d) base (nextM l p 15).1 (nextM l p 15).2
theorem stK_pos {l : List UInt8} {rec : Nat → Nat → List Ins × Nat} (hr : ∀ b p, p ≤ l.length → (rec b p).2 ≤ l.length) (base k p : Nat) (h : p ≤ l.length) : (stK l rec base k p).2 ≤ l.length := by
  unfold stK
  split
  all_goals first
    | exact h
    | exact nextM_le h
    | exact nextM_le (nextM_le h)
    | exact valueM_le _ _ _ h
    | exact nextM_le (valueM_le _ _ _ h)
    | exact nextM_le (valueM_le _ _ _ (valueM_le _ _ _ h))
    | exact hr _ _ (valueM_le _ _ _ h)
theorem stmtM_le (l : List UInt8) : ∀ (d base p : Nat), p ≤ l.length → (stmtM l d base p).2 ≤ l.length
  | 0, base, p, h => stK_pos (fun _ _ h => h) _ _ _ (nextM_le h)
  | d + 1, base, p, h => stK_pos (fun b p h => stmtM_le l d b p h) _ _ _ (nextM_le h)
theorem stK_len {l : List UInt8} {rec : Nat → Nat → List Ins × Nat} {m : Nat} (hr : ∀ b p, (rec b p).1.length ≤ m) (h8 : 4 ≤ m) (base k p : Nat) : (stK l rec base k p).1.length ≤ m + 4 := by
  have a := valueM_l0 l
  have b := valueM_l1 l
  have c := valueM_l2 l
  unfold stK
  split
  all_goals simp only [List.length_append, List.length_singleton]
  · have := b p; omega
  · omega
  · have := a p; omega
  · have := a p; have := a (valueM l 0 p).2; omega
  · have := b p; omega
  · omega
  · omega
  · omega
  · omega
  · have := b p; omega
  · omega
  · have := b p; have := hr (base + (valueM l 1 p).1.length + 1) (valueM l 1 p).2; omega
  · have := a p; have := hr (base + (valueM l 0 p).1.length + 1) (valueM l 0 p).2; omega
  · have := a p; have := hr (base + (valueM l 0 p).1.length + 1) (valueM l 0 p).2; omega
  · have := c p; omega
theorem stmtM_len (l : List UInt8) : ∀ (d base p : Nat), (stmtM l d base p).1.length ≤ 8 + 4 * d
  | 0, base, p => by
    have := stK_len (l := l) (rec := fun _ p => ([], p)) (m := 4) (fun _ _ => by simp) (by omega) base (if 11 < (nextM l p 15).1 then 0 else (nextM l p 15).1) (nextM l p 15).2
    simp only [stmtM]; omega
  | d + 1, base, p => by
    have := stK_len (l := l) (rec := stmtM l d) (m := 8 + 4 * d) (fun b p => stmtM_len l d b p) (by omega) base (nextM l p 15).1 (nextM l p 15).2
    simp only [stmtM]; omega
theorem w_sum {a b : Nat} (h : a + b ≤ 1000000) : IntKind.i64.wrap ((a : Int) + (b : Int)) = ((a + b : Nat) : Int) := by rw [w64 (by omega) (by omega)]; omega
theorem insL1 (a : List Ins) (x y : DV) : (insC a ++ [x, y]).length = (a.length + 1) * 2 := by rw [List.length_append, insC_len]; simp; omega
theorem insL2 (a b : List Ins) : (insC a ++ insC b).length = (a.length + b.length) * 2 := by rw [List.length_append, insC_len, insC_len]; omega
theorem insL3 (a b : List Ins) (x y : DV) : (insC a ++ [x, y] ++ insC b).length = (a.length + 1 + b.length) * 2 := by rw [List.length_append, insL1, insC_len]; omega
end Go.Pb
set_option maxHeartbeats 4000000
set_option maxRecDepth 100000
set_option linter.unusedSimpArgs false
set_option linter.unusedVariables false
namespace Go.Proofs.YtcallbfckjlagaaDoor
open Go.Eng (IC IOper DReg IFn IsFn)
open Go.Sym Go.Pb
noncomputable section
def u28_6r : List IOper := [⟨some 7, .pur (.mv (.k (.int .i64 0))), none⟩]
def u28_6 : IC := .reg u28_6r
def u28_5 : IC := .cond (.t 21) u28_6 .skip
def u28_4r : List IOper := [⟨some 16, .pur (.mv (.t 2)), none⟩, ⟨some 17, .pur (.bin .leq (.t 16) (.k (.int .i64 0))), none⟩, ⟨some 18, .pur (.mv (.t 17)), none⟩, ⟨some 19, .pur (.mv (.t 7)), some (18, true)⟩, ⟨some 20, .pur (.bin .gtr (.t 19) (.k (.int .i64 11))), some (18, true)⟩, ⟨some 21, .pur (.pick (.t 18) (.t 20) (.k (.bool false))), none⟩]
def u28_4 : IC := .seq (.reg u28_4r) u28_5
def u28_12r : List IOper := [⟨some 25, .pur (.mv (.t 0)), none⟩, ⟨some 26, .call 52 [.t 25, .k (.int .i64 1)], none⟩, ⟨some 27, .pur (.bld #[.int .i64 0, .int .i64 0] [(0, 1), (1, 1)] [(0, .k (.int .i64 15))]), none⟩, ⟨some 28, .new (.bsl 2 1 #[.int .i64 0, .int .i64 0] [(0, .t 27)]), none⟩, ⟨some 29, .eff (.app 2 16 (.t 26) (.t 28)), none⟩, ⟨some 6, .pur (.mv (.t 29)), none⟩]
def u28_12 : IC := .seq (.reg u28_12r) .ret
def u28_15r : List IOper := [⟨some 32, .pur (.mv (.t 0)), none⟩, ⟨some 33, .call 27 [.t 32, .k (.int .i64 3)], none⟩, ⟨some 34, .pur (.bin .add (.k (.int .i64 16)) (.t 33)), none⟩, ⟨some 35, .pur (.mv (.t 0)), none⟩, ⟨some 36, .call 27 [.t 35, .k (.int .i64 32)], none⟩, ⟨some 37, .pur (.bld #[.int .i64 0, .int .i64 0] [(0, 1), (1, 1)] [(0, .t 34), (1, .t 36)]), none⟩, ⟨some 38, .new (.bsl 2 1 #[.int .i64 0, .int .i64 0] [(0, .t 37)]), none⟩, ⟨some 6, .pur (.mv (.t 38)), none⟩]
def u28_15 : IC := .seq (.reg u28_15r) .ret
def u28_18r : List IOper := [⟨some 41, .pur (.mv (.t 0)), none⟩, ⟨some 42, .call 52 [.t 41, .k (.int .i64 0)], none⟩, ⟨some 43, .pur (.mv (.t 0)), none⟩, ⟨some 44, .call 27 [.t 43, .k (.int .i64 64)], none⟩, ⟨some 45, .pur (.bld #[.int .i64 0, .int .i64 0] [(0, 1), (1, 1)] [(0, .k (.int .i64 19)), (1, .t 44)]), none⟩, ⟨some 46, .new (.bsl 2 1 #[.int .i64 0, .int .i64 0] [(0, .t 45)]), none⟩, ⟨some 47, .eff (.app 2 16 (.t 42) (.t 46)), none⟩, ⟨some 6, .pur (.mv (.t 47)), none⟩]
def u28_18 : IC := .seq (.reg u28_18r) .ret
def u28_22r : List IOper := [⟨some 52, .pur (.mv (.t 8)), none⟩, ⟨some 53, .pur (.mv (.t 0)), none⟩, ⟨some 54, .call 52 [.t 53, .k (.int .i64 0)], none⟩, ⟨some 55, .eff (.app 2 16 (.t 52) (.t 54)), none⟩, ⟨some 56, .pur (.mv (.t 0)), none⟩, ⟨some 57, .call 27 [.t 56, .k (.int .i64 64)], none⟩, ⟨some 58, .pur (.bld #[.int .i64 0, .int .i64 0] [(0, 1), (1, 1)] [(0, .k (.int .i64 20)), (1, .t 57)]), none⟩, ⟨some 59, .new (.bsl 2 1 #[.int .i64 0, .int .i64 0] [(0, .t 58)]), none⟩, ⟨some 60, .eff (.app 2 16 (.t 55) (.t 59)), none⟩, ⟨some 6, .pur (.mv (.t 60)), none⟩]
def u28_22 : IC := .seq (.reg u28_22r) .ret
def u28_21r : List IOper := [⟨some 50, .pur (.mv (.t 0)), none⟩, ⟨some 51, .call 52 [.t 50, .k (.int .i64 0)], none⟩, ⟨some 8, .pur (.mv (.t 51)), none⟩]
def u28_21 : IC := .seq (.reg u28_21r) u28_22
def u28_25r : List IOper := [⟨some 63, .pur (.mv (.t 0)), none⟩, ⟨some 64, .call 52 [.t 63, .k (.int .i64 1)], none⟩, ⟨some 65, .pur (.mv (.t 0)), none⟩, ⟨some 66, .call 27 [.t 65, .k (.int .i64 2)], none⟩, ⟨some 67, .pur (.bld #[.int .i64 0, .int .i64 0] [(0, 1), (1, 1)] [(0, .k (.int .i64 21)), (1, .t 66)]), none⟩, ⟨some 68, .new (.bsl 2 1 #[.int .i64 0, .int .i64 0] [(0, .t 67)]), none⟩, ⟨some 69, .eff (.app 2 16 (.t 64) (.t 68)), none⟩, ⟨some 6, .pur (.mv (.t 69)), none⟩]
def u28_25 : IC := .seq (.reg u28_25r) .ret
def u28_28r : List IOper := [⟨some 72, .pur (.mv (.t 0)), none⟩, ⟨some 73, .call 27 [.t 72, .k (.int .i64 2)], none⟩, ⟨some 74, .pur (.bld #[.int .i64 0, .int .i64 0] [(0, 1), (1, 1)] [(0, .k (.int .i64 22)), (1, .t 73)]), none⟩, ⟨some 75, .new (.bsl 2 1 #[.int .i64 0, .int .i64 0] [(0, .t 74)]), none⟩, ⟨some 6, .pur (.mv (.t 75)), none⟩]
def u28_28 : IC := .seq (.reg u28_28r) .ret
def u28_31r : List IOper := [⟨some 78, .pur (.mv (.t 0)), none⟩, ⟨some 79, .call 27 [.t 78, .k (.int .i64 2)], none⟩, ⟨some 80, .pur (.bin .add (.k (.int .i64 23)) (.t 79)), none⟩, ⟨some 81, .pur (.mv (.t 0)), none⟩, ⟨some 82, .call 27 [.t 81, .k (.int .i64 2)], none⟩, ⟨some 83, .pur (.bld #[.int .i64 0, .int .i64 0] [(0, 1), (1, 1)] [(0, .t 80), (1, .t 82)]), none⟩, ⟨some 84, .new (.bsl 2 1 #[.int .i64 0, .int .i64 0] [(0, .t 83)]), none⟩, ⟨some 6, .pur (.mv (.t 84)), none⟩]
def u28_31 : IC := .seq (.reg u28_31r) .ret
def u28_34r : List IOper := [⟨some 87, .pur (.mv (.t 0)), none⟩, ⟨some 88, .call 27 [.t 87, .k (.int .i64 2)], none⟩, ⟨some 89, .pur (.bld #[.int .i64 0, .int .i64 0] [(0, 1), (1, 1)] [(0, .k (.int .i64 25)), (1, .t 88)]), none⟩, ⟨some 90, .new (.bsl 2 1 #[.int .i64 0, .int .i64 0] [(0, .t 89)]), none⟩, ⟨some 6, .pur (.mv (.t 90)), none⟩]
def u28_34 : IC := .seq (.reg u28_34r) .ret
def u28_37r : List IOper := [⟨some 93, .pur (.mv (.t 0)), none⟩, ⟨some 94, .call 27 [.t 93, .k (.int .i64 3)], none⟩, ⟨some 95, .pur (.bin .add (.k (.int .i64 26)) (.t 94)), none⟩, ⟨some 96, .pur (.mv (.t 0)), none⟩, ⟨some 97, .call 27 [.t 96, .k (.int .i64 64)], none⟩, ⟨some 98, .pur (.bld #[.int .i64 0, .int .i64 0] [(0, 1), (1, 1)] [(0, .t 95), (1, .t 97)]), none⟩, ⟨some 99, .new (.bsl 2 1 #[.int .i64 0, .int .i64 0] [(0, .t 98)]), none⟩, ⟨some 6, .pur (.mv (.t 99)), none⟩]
def u28_37 : IC := .seq (.reg u28_37r) .ret
def u28_40r : List IOper := [⟨some 102, .pur (.mv (.t 0)), none⟩, ⟨some 103, .call 52 [.t 102, .k (.int .i64 1)], none⟩, ⟨some 104, .pur (.mv (.t 0)), none⟩, ⟨some 105, .call 27 [.t 104, .k (.int .i64 2)], none⟩, ⟨some 106, .pur (.bld #[.int .i64 0, .int .i64 0] [(0, 1), (1, 1)] [(0, .k (.int .i64 29)), (1, .t 105)]), none⟩, ⟨some 107, .new (.bsl 2 1 #[.int .i64 0, .int .i64 0] [(0, .t 106)]), none⟩, ⟨some 108, .eff (.app 2 16 (.t 103) (.t 107)), none⟩, ⟨some 6, .pur (.mv (.t 108)), none⟩]
def u28_40 : IC := .seq (.reg u28_40r) .ret
def u28_43r : List IOper := [⟨some 111, .pur (.bld #[.int .i64 0, .int .i64 0] [(0, 1), (1, 1)] [(0, .k (.int .i64 30))]), none⟩, ⟨some 112, .new (.bsl 2 1 #[.int .i64 0, .int .i64 0] [(0, .t 111)]), none⟩, ⟨some 6, .pur (.mv (.t 112)), none⟩]
def u28_43 : IC := .seq (.reg u28_43r) .ret
def u28_48r : List IOper := [⟨some 126, .pur (.mv (.t 9)), none⟩, ⟨some 127, .pur (.mv (.t 1)), none⟩, ⟨some 128, .pur (.mv (.t 9)), none⟩, ⟨some 129, .pur (.len (.t 128)), none⟩, ⟨some 130, .pur (.bin .add (.t 127) (.t 129)), none⟩, ⟨some 131, .pur (.bin .add (.t 130) (.k (.int .i64 1))), none⟩, ⟨some 132, .pur (.mv (.t 10)), none⟩, ⟨some 133, .pur (.len (.t 132)), none⟩, ⟨some 134, .pur (.bin .add (.t 131) (.t 133)), none⟩, ⟨some 135, .pur (.bld #[.int .i64 0, .int .i64 0] [(0, 1), (1, 1)] [(0, .k (.int .i64 13)), (1, .t 134)]), none⟩, ⟨some 136, .new (.bsl 2 1 #[.int .i64 0, .int .i64 0] [(0, .t 135)]), none⟩, ⟨some 137, .eff (.app 2 16 (.t 126) (.t 136)), none⟩, ⟨some 138, .pur (.mv (.t 10)), none⟩, ⟨some 139, .eff (.app 2 16 (.t 137) (.t 138)), none⟩, ⟨some 6, .pur (.mv (.t 139)), none⟩]
def u28_48 : IC := .seq (.reg u28_48r) .ret
def u28_47r : List IOper := [⟨some 117, .pur (.mv (.t 0)), none⟩, ⟨some 118, .pur (.mv (.t 1)), none⟩, ⟨some 119, .pur (.mv (.t 9)), none⟩, ⟨some 120, .pur (.len (.t 119)), none⟩, ⟨some 121, .pur (.bin .add (.t 118) (.t 120)), none⟩, ⟨some 122, .pur (.bin .add (.t 121) (.k (.int .i64 1))), none⟩, ⟨some 123, .pur (.mv (.t 2)), none⟩, ⟨some 124, .pur (.bin .sub (.t 123) (.k (.int .i64 1))), none⟩, ⟨some 125, .call 28 [.t 117, .t 122, .t 124], none⟩, ⟨some 10, .pur (.mv (.t 125)), none⟩]
def u28_47 : IC := .seq (.reg u28_47r) u28_48
def u28_46r : List IOper := [⟨some 115, .pur (.mv (.t 0)), none⟩, ⟨some 116, .call 52 [.t 115, .k (.int .i64 1)], none⟩, ⟨some 9, .pur (.mv (.t 116)), none⟩]
def u28_46 : IC := .seq (.reg u28_46r) u28_47
def u28_52r : List IOper := [⟨some 142, .pur (.bin .eql (.t 22) (.k (.int .i64 14))), none⟩, ⟨some 140, .pur (.mv (.t 142)), none⟩]
def u28_52 : IC := .reg u28_52r
def u28_51 : IC := .cond (.t 140) .skip u28_52
def u28_50r : List IOper := [⟨some 141, .pur (.bin .eql (.t 22) (.k (.int .i64 13))), none⟩, ⟨some 140, .pur (.mv (.t 141)), none⟩]
def u28_50 : IC := .seq (.reg u28_50r) u28_51
def u28_57r : List IOper := [⟨some 162, .pur (.mv (.t 11)), none⟩, ⟨some 163, .pur (.mv (.t 13)), none⟩, ⟨some 164, .pur (.bld #[.int .i64 0, .int .i64 0] [(0, 1), (1, 1)] [(0, .k (.int .i64 14)), (1, .t 163)]), none⟩, ⟨some 165, .new (.bsl 2 1 #[.int .i64 0, .int .i64 0] [(0, .t 164)]), none⟩, ⟨some 166, .eff (.app 2 16 (.t 162) (.t 165)), none⟩, ⟨some 167, .pur (.mv (.t 12)), none⟩, ⟨some 168, .eff (.app 2 16 (.t 166) (.t 167)), none⟩, ⟨some 169, .pur (.mv (.t 1)), none⟩, ⟨some 170, .pur (.mv (.t 11)), none⟩, ⟨some 171, .pur (.len (.t 170)), none⟩, ⟨some 172, .pur (.bin .add (.t 169) (.t 171)), none⟩, ⟨some 173, .pur (.bld #[.int .i64 0, .int .i64 0] [(0, 1), (1, 1)] [(0, .k (.int .i64 12)), (1, .t 172)]), none⟩, ⟨some 174, .new (.bsl 2 1 #[.int .i64 0, .int .i64 0] [(0, .t 173)]), none⟩, ⟨some 175, .eff (.app 2 16 (.t 168) (.t 174)), none⟩, ⟨some 6, .pur (.mv (.t 175)), none⟩]
def u28_57 : IC := .seq (.reg u28_57r) .ret
def u28_56r : List IOper := [⟨some 154, .pur (.mv (.t 1)), none⟩, ⟨some 155, .pur (.mv (.t 11)), none⟩, ⟨some 156, .pur (.len (.t 155)), none⟩, ⟨some 157, .pur (.bin .add (.t 154) (.t 156)), none⟩, ⟨some 158, .pur (.bin .add (.t 157) (.k (.int .i64 2))), none⟩, ⟨some 159, .pur (.mv (.t 12)), none⟩, ⟨some 160, .pur (.len (.t 159)), none⟩, ⟨some 161, .pur (.bin .add (.t 158) (.t 160)), none⟩, ⟨some 13, .pur (.mv (.t 161)), none⟩]
def u28_56 : IC := .seq (.reg u28_56r) u28_57
def u28_55r : List IOper := [⟨some 145, .pur (.mv (.t 0)), none⟩, ⟨some 146, .pur (.mv (.t 1)), none⟩, ⟨some 147, .pur (.mv (.t 11)), none⟩, ⟨some 148, .pur (.len (.t 147)), none⟩, ⟨some 149, .pur (.bin .add (.t 146) (.t 148)), none⟩, ⟨some 150, .pur (.bin .add (.t 149) (.k (.int .i64 1))), none⟩, ⟨some 151, .pur (.mv (.t 2)), none⟩, ⟨some 152, .pur (.bin .sub (.t 151) (.k (.int .i64 1))), none⟩, ⟨some 153, .call 28 [.t 145, .t 150, .t 152], none⟩, ⟨some 12, .pur (.mv (.t 153)), none⟩]
def u28_55 : IC := .seq (.reg u28_55r) u28_56
def u28_54r : List IOper := [⟨some 143, .pur (.mv (.t 0)), none⟩, ⟨some 144, .call 52 [.t 143, .k (.int .i64 0)], none⟩, ⟨some 11, .pur (.mv (.t 144)), none⟩]
def u28_54 : IC := .seq (.reg u28_54r) u28_55
def u28_53 : IC := .cond (.t 140) u28_54 .skip
def u28_49 : IC := .seq u28_50 u28_53
def u28_45 : IC := .cond (.t 113) u28_46 u28_49
def u28_44r : List IOper := [⟨some 114, .pur (.bin .eql (.t 22) (.k (.int .i64 12))), none⟩, ⟨some 113, .pur (.mv (.t 114)), none⟩]
def u28_44 : IC := .seq (.reg u28_44r) u28_45
def u28_42 : IC := .cond (.t 109) u28_43 u28_44
def u28_41r : List IOper := [⟨some 110, .pur (.bin .eql (.t 22) (.k (.int .i64 11))), none⟩, ⟨some 109, .pur (.mv (.t 110)), none⟩]
def u28_41 : IC := .seq (.reg u28_41r) u28_42
def u28_39 : IC := .cond (.t 100) u28_40 u28_41
def u28_38r : List IOper := [⟨some 101, .pur (.bin .eql (.t 22) (.k (.int .i64 10))), none⟩, ⟨some 100, .pur (.mv (.t 101)), none⟩]
def u28_38 : IC := .seq (.reg u28_38r) u28_39
def u28_36 : IC := .cond (.t 91) u28_37 u28_38
def u28_35r : List IOper := [⟨some 92, .pur (.bin .eql (.t 22) (.k (.int .i64 9))), none⟩, ⟨some 91, .pur (.mv (.t 92)), none⟩]
def u28_35 : IC := .seq (.reg u28_35r) u28_36
def u28_33 : IC := .cond (.t 85) u28_34 u28_35
def u28_32r : List IOper := [⟨some 86, .pur (.bin .eql (.t 22) (.k (.int .i64 8))), none⟩, ⟨some 85, .pur (.mv (.t 86)), none⟩]
def u28_32 : IC := .seq (.reg u28_32r) u28_33
def u28_30 : IC := .cond (.t 76) u28_31 u28_32
def u28_29r : List IOper := [⟨some 77, .pur (.bin .eql (.t 22) (.k (.int .i64 7))), none⟩, ⟨some 76, .pur (.mv (.t 77)), none⟩]
def u28_29 : IC := .seq (.reg u28_29r) u28_30
def u28_27 : IC := .cond (.t 70) u28_28 u28_29
def u28_26r : List IOper := [⟨some 71, .pur (.bin .eql (.t 22) (.k (.int .i64 6))), none⟩, ⟨some 70, .pur (.mv (.t 71)), none⟩]
def u28_26 : IC := .seq (.reg u28_26r) u28_27
def u28_24 : IC := .cond (.t 61) u28_25 u28_26
def u28_23r : List IOper := [⟨some 62, .pur (.bin .eql (.t 22) (.k (.int .i64 5))), none⟩, ⟨some 61, .pur (.mv (.t 62)), none⟩]
def u28_23 : IC := .seq (.reg u28_23r) u28_24
def u28_20 : IC := .cond (.t 48) u28_21 u28_23
def u28_19r : List IOper := [⟨some 49, .pur (.bin .eql (.t 22) (.k (.int .i64 4))), none⟩, ⟨some 48, .pur (.mv (.t 49)), none⟩]
def u28_19 : IC := .seq (.reg u28_19r) u28_20
def u28_17 : IC := .cond (.t 39) u28_18 u28_19
def u28_16r : List IOper := [⟨some 40, .pur (.bin .eql (.t 22) (.k (.int .i64 3))), none⟩, ⟨some 39, .pur (.mv (.t 40)), none⟩]
def u28_16 : IC := .seq (.reg u28_16r) u28_17
def u28_14 : IC := .cond (.t 30) u28_15 u28_16
def u28_13r : List IOper := [⟨some 31, .pur (.bin .eql (.t 22) (.k (.int .i64 2))), none⟩, ⟨some 30, .pur (.mv (.t 31)), none⟩]
def u28_13 : IC := .seq (.reg u28_13r) u28_14
def u28_11 : IC := .cond (.t 23) u28_12 u28_13
def u28_10r : List IOper := [⟨some 24, .pur (.bin .eql (.t 22) (.k (.int .i64 1))), none⟩, ⟨some 23, .pur (.mv (.t 24)), none⟩]
def u28_10 : IC := .seq (.reg u28_10r) u28_11
def u28_9 : IC := .blk 0 u28_10
def u28_8r : List IOper := [⟨some 22, .pur (.mv (.t 7)), none⟩]
def u28_8 : IC := .seq (.reg u28_8r) u28_9
def u28_58r : List IOper := [⟨some 176, .pur (.mv (.t 0)), none⟩, ⟨some 177, .call 52 [.t 176, .k (.int .i64 2)], none⟩, ⟨some 178, .pur (.mv (.t 0)), none⟩, ⟨some 179, .call 27 [.t 178, .k (.int .i64 3)], none⟩, ⟨some 180, .pur (.bld #[.int .i64 0, .int .i64 0] [(0, 1), (1, 1)] [(0, .k (.int .i64 3)), (1, .t 179)]), none⟩, ⟨some 181, .new (.bsl 2 1 #[.int .i64 0, .int .i64 0] [(0, .t 180)]), none⟩, ⟨some 182, .eff (.app 2 16 (.t 177) (.t 181)), none⟩, ⟨some 6, .pur (.mv (.t 182)), none⟩]
def u28_58 : IC := .seq (.reg u28_58r) .ret
def u28_7 : IC := .seq u28_8 u28_58
def u28_3 : IC := .seq u28_4 u28_7
def u28_2r : List IOper := [⟨some 14, .pur (.mv (.t 0)), none⟩, ⟨some 15, .call 27 [.t 14, .k (.int .i64 15)], none⟩, ⟨some 7, .pur (.mv (.t 15)), none⟩]
def u28_2 : IC := .seq (.reg u28_2r) u28_3
def u28_1r : List IOper := [⟨some 6, .pur (.mv (.k (.slice none 0 0))), none⟩]
def u28_1 : IC := .seq (.reg u28_1r) u28_2
def u28 : IFn := ⟨183, u28_1, [.tmp 6]⟩
end
theorem isU28 : IsFn Tryd.prog 28 u28 := by unfold IsFn; kernel_rfl
instance i28_6 : WR Tryd.prog 183 u28_6 (rE u28_6r [0, 1, 2]) := ⟨mkE⟩
instance i28_5 : WR Tryd.prog 183 u28_5 (rCE (.t 21) u28_6 .skip [0, 1, 2, 7, 21]) := ⟨mkCE⟩
instance i28_4 : WR Tryd.prog 183 u28_4 (rS u28_4r u28_5 [0, 1, 2, 7]) := ⟨mkS⟩
instance i28_12 : WR Tryd.prog 183 u28_12 (rS u28_12r .ret [0]) := ⟨mkS⟩
instance i28_15 : WR Tryd.prog 183 u28_15 (rS u28_15r .ret [0]) := ⟨mkS⟩
instance i28_18 : WR Tryd.prog 183 u28_18 (rS u28_18r .ret [0]) := ⟨mkS⟩
instance i28_22 : WR Tryd.prog 183 u28_22 (rS u28_22r .ret [0, 8]) := ⟨mkS⟩
instance i28_21 : WR Tryd.prog 183 u28_21 (rS u28_21r u28_22 [0]) := ⟨mkS⟩
instance i28_25 : WR Tryd.prog 183 u28_25 (rS u28_25r .ret [0]) := ⟨mkS⟩
instance i28_28 : WR Tryd.prog 183 u28_28 (rS u28_28r .ret [0]) := ⟨mkS⟩
instance i28_31 : WR Tryd.prog 183 u28_31 (rS u28_31r .ret [0]) := ⟨mkS⟩
instance i28_34 : WR Tryd.prog 183 u28_34 (rS u28_34r .ret [0]) := ⟨mkS⟩
instance i28_37 : WR Tryd.prog 183 u28_37 (rS u28_37r .ret [0]) := ⟨mkS⟩
instance i28_40 : WR Tryd.prog 183 u28_40 (rS u28_40r .ret [0]) := ⟨mkS⟩
instance i28_43 : WR Tryd.prog 183 u28_43 (rS u28_43r .ret []) := ⟨mkS⟩
instance i28_48 : WR Tryd.prog 183 u28_48 (rS u28_48r .ret [1, 9, 10]) := ⟨mkS⟩
instance i28_47 : WR Tryd.prog 183 u28_47 (rS u28_47r u28_48 [0, 1, 2, 9]) := ⟨mkS⟩
instance i28_46 : WR Tryd.prog 183 u28_46 (rS u28_46r u28_47 [0, 1, 2]) := ⟨mkS⟩
instance i28_52 : WR Tryd.prog 183 u28_52 (rE u28_52r [0, 1, 2, 22]) := ⟨mkE⟩
instance i28_51 : WR Tryd.prog 183 u28_51 (rCE (.t 140) .skip u28_52 [0, 1, 2, 22, 140]) := ⟨mkCE⟩
instance i28_50 : WR Tryd.prog 183 u28_50 (rS u28_50r u28_51 [0, 1, 2, 22]) := ⟨mkS⟩
instance i28_57 : WR Tryd.prog 183 u28_57 (rS u28_57r .ret [1, 11, 12, 13]) := ⟨mkS⟩
instance i28_56 : WR Tryd.prog 183 u28_56 (rS u28_56r u28_57 [1, 11, 12]) := ⟨mkS⟩
instance i28_55 : WR Tryd.prog 183 u28_55 (rS u28_55r u28_56 [0, 1, 2, 11]) := ⟨mkS⟩
instance i28_54 : WR Tryd.prog 183 u28_54 (rS u28_54r u28_55 [0, 1, 2]) := ⟨mkS⟩
instance i28_53 : WR Tryd.prog 183 u28_53 (rCE (.t 140) u28_54 .skip [0, 1, 2, 140]) := ⟨mkCE⟩
instance i28_49 : WR Tryd.prog 183 u28_49 (rQ u28_50 u28_53 [0, 1, 2, 22]) := ⟨mkQ⟩
instance i28_45 : WR Tryd.prog 183 u28_45 (rCE (.t 113) u28_46 u28_49 [0, 1, 2, 22, 113]) := ⟨mkCE⟩
instance i28_44 : WR Tryd.prog 183 u28_44 (rS u28_44r u28_45 [0, 1, 2, 22]) := ⟨mkS⟩
instance i28_42 : WR Tryd.prog 183 u28_42 (rCE (.t 109) u28_43 u28_44 [0, 1, 2, 22, 109]) := ⟨mkCE⟩
instance i28_41 : WR Tryd.prog 183 u28_41 (rS u28_41r u28_42 [0, 1, 2, 22]) := ⟨mkS⟩
instance i28_39 : WR Tryd.prog 183 u28_39 (rCE (.t 100) u28_40 u28_41 [0, 1, 2, 22, 100]) := ⟨mkCE⟩
instance i28_38 : WR Tryd.prog 183 u28_38 (rS u28_38r u28_39 [0, 1, 2, 22]) := ⟨mkS⟩
instance i28_36 : WR Tryd.prog 183 u28_36 (rCE (.t 91) u28_37 u28_38 [0, 1, 2, 22, 91]) := ⟨mkCE⟩
instance i28_35 : WR Tryd.prog 183 u28_35 (rS u28_35r u28_36 [0, 1, 2, 22]) := ⟨mkS⟩
instance i28_33 : WR Tryd.prog 183 u28_33 (rCE (.t 85) u28_34 u28_35 [0, 1, 2, 22, 85]) := ⟨mkCE⟩
instance i28_32 : WR Tryd.prog 183 u28_32 (rS u28_32r u28_33 [0, 1, 2, 22]) := ⟨mkS⟩
instance i28_30 : WR Tryd.prog 183 u28_30 (rCE (.t 76) u28_31 u28_32 [0, 1, 2, 22, 76]) := ⟨mkCE⟩
instance i28_29 : WR Tryd.prog 183 u28_29 (rS u28_29r u28_30 [0, 1, 2, 22]) := ⟨mkS⟩
instance i28_27 : WR Tryd.prog 183 u28_27 (rCE (.t 70) u28_28 u28_29 [0, 1, 2, 22, 70]) := ⟨mkCE⟩
instance i28_26 : WR Tryd.prog 183 u28_26 (rS u28_26r u28_27 [0, 1, 2, 22]) := ⟨mkS⟩
instance i28_24 : WR Tryd.prog 183 u28_24 (rCE (.t 61) u28_25 u28_26 [0, 1, 2, 22, 61]) := ⟨mkCE⟩
instance i28_23 : WR Tryd.prog 183 u28_23 (rS u28_23r u28_24 [0, 1, 2, 22]) := ⟨mkS⟩
instance i28_20 : WR Tryd.prog 183 u28_20 (rCE (.t 48) u28_21 u28_23 [0, 1, 2, 22, 48]) := ⟨mkCE⟩
instance i28_19 : WR Tryd.prog 183 u28_19 (rS u28_19r u28_20 [0, 1, 2, 22]) := ⟨mkS⟩
instance i28_17 : WR Tryd.prog 183 u28_17 (rCE (.t 39) u28_18 u28_19 [0, 1, 2, 22, 39]) := ⟨mkCE⟩
instance i28_16 : WR Tryd.prog 183 u28_16 (rS u28_16r u28_17 [0, 1, 2, 22]) := ⟨mkS⟩
instance i28_14 : WR Tryd.prog 183 u28_14 (rCE (.t 30) u28_15 u28_16 [0, 1, 2, 22, 30]) := ⟨mkCE⟩
instance i28_13 : WR Tryd.prog 183 u28_13 (rS u28_13r u28_14 [0, 1, 2, 22]) := ⟨mkS⟩
instance i28_11 : WR Tryd.prog 183 u28_11 (rCE (.t 23) u28_12 u28_13 [0, 1, 2, 22, 23]) := ⟨mkCE⟩
instance i28_10 : WR Tryd.prog 183 u28_10 (rS u28_10r u28_11 [0, 1, 2, 22]) := ⟨mkS⟩
instance i28_9 : WR Tryd.prog 183 u28_9 (rBE 0 u28_10 [0, 1, 2, 22]) := ⟨mkBE⟩
instance i28_8 : WR Tryd.prog 183 u28_8 (rS u28_8r u28_9 [0, 1, 2, 7]) := ⟨mkS⟩
instance i28_58 : WR Tryd.prog 183 u28_58 (rS u28_58r .ret [0]) := ⟨mkS⟩
instance i28_7 : WR Tryd.prog 183 u28_7 (rQ u28_8 u28_58 [0, 1, 2, 7]) := ⟨mkQ⟩
instance i28_3 : WR Tryd.prog 183 u28_3 (rQ u28_4 u28_7 [0, 1, 2, 7]) := ⟨mkQ⟩
instance i28_2 : WR Tryd.prog 183 u28_2 (rS u28_2r u28_3 [0, 1, 2]) := ⟨mkS⟩
instance i28_1 : WR Tryd.prog 183 u28_1 (rS u28_1r u28_2 [0, 1, 2]) := ⟨mkS⟩
attribute [go_sem] u28_6r u28_4r u28_12r u28_15r u28_18r u28_22r u28_21r u28_25r u28_28r u28_31r u28_34r u28_37r u28_40r u28_43r u28_48r u28_47r u28_46r u28_52r u28_50r u28_57r u28_56r u28_55r u28_54r u28_44r u28_41r u28_38r u28_35r u28_32r u28_29r u28_26r u28_23r u28_19r u28_16r u28_13r u28_10r u28_8r u28_58r u28_2r u28_1r
theorem c_stmt (l : List UInt8) (hl : l.length ≤ 100000) : ∀ (d : Nat), d ≤ 2 → ∀ (base p : Nat), base + 10 * d ≤ 100000 → p ≤ l.length → ∀ (H : Hp) (cc t : Nat), H t = some (tapeB l p) → t < cc →
    AC Tryd.prog 28 [.ptr t 0, I64 (base : Int), I64 (d : Int)] H cc (fun v H' c' => ∃ id, cc ≤ id ∧ id < c' ∧ v = .slc id 0 (stmtM l d base p).1.length ∧ H' = (H.upd t (tapeB l (stmtM l d base p).2)).upd id ⟨2, true, insC (stmtM l d base p).1⟩) := by
  intro d
  induction d with
  | zero =>
    intro hd2 base p hbase hp H cc t ht htc
    refine AC.body mixedU isU28 (Nat.le_of_ble_eq_true rfl) fun hfr => ?_
    show IW Tryd.prog 183 u28_1 ⟨argT _, _, _⟩ (rt [.tmp 6] _)
    repeat' ((first | (with_reducible first | refine wr ?_ | refine i_ret ?_ | refine i_skip ?_ | refine i_exit ?_) | ((with_reducible first | refine k_cb ?_ ?_ | refine k_gb ?_ ?_ | refine k_gb' ?_ ?_) <;> (intro hb; try simp only [hb]))) <;> try simp only [go_sem, Nat.reduceAdd, Nat.reduceLeDiff, Nat.reduceEqDiff, Nat.reduceMul, Nat.reduceSub, ↓reduceIte, Int.reduceLT, Int.reduceLE, Int.reduceGT, Int.reduceGE, Nat.reduceLT, Nat.reduceGT, Int.reduceToNat, reduceCtorEq, Nat.reduceBEq, Int.reduceBEq, Int.reduceBNe, Int.reduceEq, Int.reduceNe, decide_true, decide_false])
    refine AC.call (c_next l hl p hp 15 (by omega) (by omega) H cc t ht htc) ?_
    rintro v H' c1 ⟨rfl, rfl⟩ hcc
    have hp1 := nextM_le (n := 15) hp
    have hk := nextM_lt (l := l) (p := p) (n := 15) (by omega)
    have hdl : decide (((0 : Nat) : Int) ≤ 0) = true := rfl
    obtain ⟨k0, p1, e0⟩ : ∃ k0 p1, nextM l p 15 = (k0, p1) := ⟨_, _, rfl⟩
    rw [e0] at hp1 hk ⊢
    simp only at hp1 hk
    have hv : k0 = 1 ∨ k0 = 2 ∨ k0 = 3 ∨ k0 = 4 ∨ k0 = 5 ∨ k0 = 6 ∨ k0 = 7 ∨ k0 = 8 ∨ k0 = 9 ∨ k0 = 10 ∨ k0 = 11 ∨ k0 = 0 ∨ k0 = 12 ∨ k0 = 13 ∨ k0 = 14 := by omega
    rcases hv with rfl | rfl | rfl | rfl | rfl | rfl | rfl | rfl | rfl | rfl | rfl | rfl | rfl | rfl | rfl
    · have nk : ((1 : Nat) : Int) = 1 := rfl
      simp only [go_sem, Nat.reduceAdd, Nat.reduceLeDiff, Nat.reduceEqDiff, Nat.reduceMul, Nat.reduceSub, ↓reduceIte, Int.reduceLT, Int.reduceLE, Int.reduceGT, Int.reduceGE, Nat.reduceLT, Nat.reduceGT, Int.reduceToNat, reduceCtorEq, Nat.reduceBEq, Int.reduceBEq, Int.reduceBNe, Int.reduceEq, Int.reduceNe, decide_true, decide_false, hdl, nk, Int.reduceGT, Int.reduceBEq, Int.reduceLE, decide_true, decide_false]
      repeat' ((first | (with_reducible first | refine wr ?_ | refine i_ret ?_ | refine i_skip ?_ | refine i_exit ?_) | ((with_reducible first | refine k_cb ?_ ?_ | refine k_gb ?_ ?_ | refine k_gb' ?_ ?_) <;> (intro hb; try simp only [hb]))) <;> try simp only [go_sem, Nat.reduceAdd, Nat.reduceLeDiff, Nat.reduceEqDiff, Nat.reduceMul, Nat.reduceSub, ↓reduceIte, Int.reduceLT, Int.reduceLE, Int.reduceGT, Int.reduceGE, Nat.reduceLT, Nat.reduceGT, Int.reduceToNat, reduceCtorEq, Nat.reduceBEq, Int.reduceBEq, Int.reduceBNe, Int.reduceEq, Int.reduceNe, decide_true, decide_false, hdl, nk, Int.reduceGT, Int.reduceBEq, Int.reduceLE, decide_true, decide_false])
      refine AC.call (c_value l hl 1 (by omega) (p1) hp1 _ _ t (by repeat (first | exact h_same | rw [h_ne (by omega)] | rw [h_dne (by omega)])) (by omega)) ?_
      rintro v H' c2 ⟨id1, ia1, ib1, rfl, rfl⟩ hcc2
      have hb1 := valueM_l1 l (p1)
      have hp2 := valueM_le l 1 (p1) hp1
      have ne0 : ¬ t = id1 := by omega
      have ne1 : ¬ t = c2 := by omega
      have ne2 : ¬ t = c2 + 1 := by omega
      have ne3 : ¬ id1 = t := by omega
      have ne4 : ¬ id1 = c2 := by omega
      have ne5 : ¬ id1 = c2 + 1 := by omega
      have ne6 : ¬ c2 = t := by omega
      have ne7 : ¬ c2 = id1 := by omega
      have ne8 : ¬ c2 = c2 + 1 := by omega
      have ne9 : ¬ c2 + 1 = t := by omega
      have ne10 : ¬ c2 + 1 = id1 := by omega
      have ne11 : ¬ c2 + 1 = c2 := by omega
      simp only [go_sem, Nat.reduceAdd, Nat.reduceLeDiff, Nat.reduceEqDiff, Nat.reduceMul, Nat.reduceSub, ↓reduceIte, Int.reduceLT, Int.reduceLE, Int.reduceGT, Int.reduceGE, Nat.reduceLT, Nat.reduceGT, Int.reduceToNat, reduceCtorEq, Nat.reduceBEq, Int.reduceBEq, Int.reduceBNe, Int.reduceEq, Int.reduceNe, decide_true, decide_false, ne0, ne1, ne2, ne3, ne4, ne5, ne6, ne7, ne8, ne9, ne10, ne11]
      repeat' ((first | (with_reducible first | refine wr ?_ | refine i_ret ?_ | refine i_skip ?_ | refine i_exit ?_) | ((with_reducible first | refine k_cb ?_ ?_ | refine k_gb ?_ ?_ | refine k_gb' ?_ ?_) <;> (intro hb; try simp only [hb])) | ((with_reducible refine k_eval (b_appx (insC_len2 _) (by omega) (by omega)) ?_))) <;> try simp only [go_sem, Nat.reduceAdd, Nat.reduceLeDiff, Nat.reduceEqDiff, Nat.reduceMul, Nat.reduceSub, ↓reduceIte, Int.reduceLT, Int.reduceLE, Int.reduceGT, Int.reduceGE, Nat.reduceLT, Nat.reduceGT, Int.reduceToNat, reduceCtorEq, Nat.reduceBEq, Int.reduceBEq, Int.reduceBNe, Int.reduceEq, Int.reduceNe, decide_true, decide_false, ne0, ne1, ne2, ne3, ne4, ne5, ne6, ne7, ne8, ne9, ne10, ne11])
      have es : stmtM l 0 base p = stK l (fun _ p => ([], p)) base 1 p1 := by simp only [stmtM]; rw [e0]; try rfl
      rw [es]
      refine v_end (id := c2 + 1) hfr (by omega) (by omega) htc (by first | rfl | simp only [stK, List.length_append, List.length_singleton]) ?_ ?_ fun j h1 h2 => ?_
      · repeat (first | exact h_same | rw [h_ne (by omega)] | rw [h_dne (by omega)])
      · rw [h_same]; simp only [stK, insC_app, insC_one]
      · repeat (first | rfl | rw [h_ne (by omega)] | rw [h_dne (by omega)])
    · have nk : ((2 : Nat) : Int) = 2 := rfl
      simp only [go_sem, Nat.reduceAdd, Nat.reduceLeDiff, Nat.reduceEqDiff, Nat.reduceMul, Nat.reduceSub, ↓reduceIte, Int.reduceLT, Int.reduceLE, Int.reduceGT, Int.reduceGE, Nat.reduceLT, Nat.reduceGT, Int.reduceToNat, reduceCtorEq, Nat.reduceBEq, Int.reduceBEq, Int.reduceBNe, Int.reduceEq, Int.reduceNe, decide_true, decide_false, hdl, nk, Int.reduceGT, Int.reduceBEq, Int.reduceLE, decide_true, decide_false]
      repeat' ((first | (with_reducible first | refine wr ?_ | refine i_ret ?_ | refine i_skip ?_ | refine i_exit ?_) | ((with_reducible first | refine k_cb ?_ ?_ | refine k_gb ?_ ?_ | refine k_gb' ?_ ?_) <;> (intro hb; try simp only [hb]))) <;> try simp only [go_sem, Nat.reduceAdd, Nat.reduceLeDiff, Nat.reduceEqDiff, Nat.reduceMul, Nat.reduceSub, ↓reduceIte, Int.reduceLT, Int.reduceLE, Int.reduceGT, Int.reduceGE, Nat.reduceLT, Nat.reduceGT, Int.reduceToNat, reduceCtorEq, Nat.reduceBEq, Int.reduceBEq, Int.reduceBNe, Int.reduceEq, Int.reduceNe, decide_true, decide_false, hdl, nk, Int.reduceGT, Int.reduceBEq, Int.reduceLE, decide_true, decide_false])
      refine AC.call (c_next l hl (p1) hp1 3 (by omega) (by omega) _ _ t (by repeat (first | exact h_same | rw [h_ne (by omega)] | rw [h_dne (by omega)])) (by omega)) ?_
      rintro v H' c2 ⟨rfl, rfl⟩ hcc2
      have hq2 := nextM_lt (l := l) (p := p1) (n := 3) (by omega)
      have hp2 := nextM_le (l := l) (p := p1) (n := 3) hp1
      have hadd := w64 (n := 16 + ((nextM l p1 3).1 : Int)) (by omega) (by omega)
      have ne0 : ¬ t = c2 := by omega
      have ne1 : ¬ t = c2 + 1 := by omega
      have ne2 : ¬ c2 = t := by omega
      have ne3 : ¬ c2 = c2 + 1 := by omega
      have ne4 : ¬ c2 + 1 = t := by omega
      have ne5 : ¬ c2 + 1 = c2 := by omega
      simp only [go_sem, Nat.reduceAdd, Nat.reduceLeDiff, Nat.reduceEqDiff, Nat.reduceMul, Nat.reduceSub, ↓reduceIte, Int.reduceLT, Int.reduceLE, Int.reduceGT, Int.reduceGE, Nat.reduceLT, Nat.reduceGT, Int.reduceToNat, reduceCtorEq, Nat.reduceBEq, Int.reduceBEq, Int.reduceBNe, Int.reduceEq, Int.reduceNe, decide_true, decide_false, hadd, ne0, ne1, ne2, ne3, ne4, ne5]
      repeat' ((first | (with_reducible first | refine wr ?_ | refine i_ret ?_ | refine i_skip ?_ | refine i_exit ?_) | ((with_reducible first | refine k_cb ?_ ?_ | refine k_gb ?_ ?_ | refine k_gb' ?_ ?_) <;> (intro hb; try simp only [hb])) | ((with_reducible refine k_eval (b_appx (insC_len2 _) (by omega) (by omega)) ?_))) <;> try simp only [go_sem, Nat.reduceAdd, Nat.reduceLeDiff, Nat.reduceEqDiff, Nat.reduceMul, Nat.reduceSub, ↓reduceIte, Int.reduceLT, Int.reduceLE, Int.reduceGT, Int.reduceGE, Nat.reduceLT, Nat.reduceGT, Int.reduceToNat, reduceCtorEq, Nat.reduceBEq, Int.reduceBEq, Int.reduceBNe, Int.reduceEq, Int.reduceNe, decide_true, decide_false, hadd, ne0, ne1, ne2, ne3, ne4, ne5])
      refine AC.call (c_next l hl ((nextM l p1 3).2) hp2 32 (by omega) (by omega) _ _ t (by repeat (first | exact h_same | rw [h_ne (by omega)] | rw [h_dne (by omega)])) (by omega)) ?_
      rintro v H' c3 ⟨rfl, rfl⟩ hcc3
      have hq3 := nextM_lt (l := l) (p := (nextM l p1 3).2) (n := 32) (by omega)
      have hp3 := nextM_le (l := l) (p := (nextM l p1 3).2) (n := 32) hp2
      have ne0 : ¬ t = c3 := by omega
      have ne1 : ¬ t = c3 + 1 := by omega
      have ne2 : ¬ c3 = t := by omega
      have ne3 : ¬ c3 = c3 + 1 := by omega
      have ne4 : ¬ c3 + 1 = t := by omega
      have ne5 : ¬ c3 + 1 = c3 := by omega
      simp only [go_sem, Nat.reduceAdd, Nat.reduceLeDiff, Nat.reduceEqDiff, Nat.reduceMul, Nat.reduceSub, ↓reduceIte, Int.reduceLT, Int.reduceLE, Int.reduceGT, Int.reduceGE, Nat.reduceLT, Nat.reduceGT, Int.reduceToNat, reduceCtorEq, Nat.reduceBEq, Int.reduceBEq, Int.reduceBNe, Int.reduceEq, Int.reduceNe, decide_true, decide_false, hadd, ne0, ne1, ne2, ne3, ne4, ne5]
      repeat' ((first | (with_reducible first | refine wr ?_ | refine i_ret ?_ | refine i_skip ?_ | refine i_exit ?_) | ((with_reducible first | refine k_cb ?_ ?_ | refine k_gb ?_ ?_ | refine k_gb' ?_ ?_) <;> (intro hb; try simp only [hb])) | ((with_reducible refine k_eval (b_appx (insC_len2 _) (by omega) (by omega)) ?_))) <;> try simp only [go_sem, Nat.reduceAdd, Nat.reduceLeDiff, Nat.reduceEqDiff, Nat.reduceMul, Nat.reduceSub, ↓reduceIte, Int.reduceLT, Int.reduceLE, Int.reduceGT, Int.reduceGE, Nat.reduceLT, Nat.reduceGT, Int.reduceToNat, reduceCtorEq, Nat.reduceBEq, Int.reduceBEq, Int.reduceBNe, Int.reduceEq, Int.reduceNe, decide_true, decide_false, hadd, ne0, ne1, ne2, ne3, ne4, ne5])
      have es : stmtM l 0 base p = stK l (fun _ p => ([], p)) base 2 p1 := by simp only [stmtM]; rw [e0]; try rfl
      rw [es]
      refine v_end (id := c3) hfr (by omega) (by omega) htc (by first | rfl | simp only [stK, List.length_append, List.length_singleton]) ?_ ?_ fun j h1 h2 => ?_
      · repeat (first | exact h_same | rw [h_ne (by omega)] | rw [h_dne (by omega)])
      · rw [h_same]; simp only [stK, insC_app, insC_one]
      · repeat (first | rfl | rw [h_ne (by omega)] | rw [h_dne (by omega)])
    · have nk : ((3 : Nat) : Int) = 3 := rfl
      simp only [go_sem, Nat.reduceAdd, Nat.reduceLeDiff, Nat.reduceEqDiff, Nat.reduceMul, Nat.reduceSub, ↓reduceIte, Int.reduceLT, Int.reduceLE, Int.reduceGT, Int.reduceGE, Nat.reduceLT, Nat.reduceGT, Int.reduceToNat, reduceCtorEq, Nat.reduceBEq, Int.reduceBEq, Int.reduceBNe, Int.reduceEq, Int.reduceNe, decide_true, decide_false, hdl, nk, Int.reduceGT, Int.reduceBEq, Int.reduceLE, decide_true, decide_false]
      repeat' ((first | (with_reducible first | refine wr ?_ | refine i_ret ?_ | refine i_skip ?_ | refine i_exit ?_) | ((with_reducible first | refine k_cb ?_ ?_ | refine k_gb ?_ ?_ | refine k_gb' ?_ ?_) <;> (intro hb; try simp only [hb]))) <;> try simp only [go_sem, Nat.reduceAdd, Nat.reduceLeDiff, Nat.reduceEqDiff, Nat.reduceMul, Nat.reduceSub, ↓reduceIte, Int.reduceLT, Int.reduceLE, Int.reduceGT, Int.reduceGE, Nat.reduceLT, Nat.reduceGT, Int.reduceToNat, reduceCtorEq, Nat.reduceBEq, Int.reduceBEq, Int.reduceBNe, Int.reduceEq, Int.reduceNe, decide_true, decide_false, hdl, nk, Int.reduceGT, Int.reduceBEq, Int.reduceLE, decide_true, decide_false])
      refine AC.call (c_value l hl 0 (by omega) (p1) hp1 _ _ t (by repeat (first | exact h_same | rw [h_ne (by omega)] | rw [h_dne (by omega)])) (by omega)) ?_
      rintro v H' c2 ⟨id1, ia1, ib1, rfl, rfl⟩ hcc2
      have hb1 := valueM_l0 l (p1)
      have hp2 := valueM_le l 0 (p1) hp1
      have ne0 : ¬ t = id1 := by omega
      have ne1 : ¬ t = c2 := by omega
      have ne2 : ¬ t = c2 + 1 := by omega
      have ne3 : ¬ id1 = t := by omega
      have ne4 : ¬ id1 = c2 := by omega
      have ne5 : ¬ id1 = c2 + 1 := by omega
      have ne6 : ¬ c2 = t := by omega
      have ne7 : ¬ c2 = id1 := by omega
      have ne8 : ¬ c2 = c2 + 1 := by omega
      have ne9 : ¬ c2 + 1 = t := by omega
      have ne10 : ¬ c2 + 1 = id1 := by omega
      have ne11 : ¬ c2 + 1 = c2 := by omega
      simp only [go_sem, Nat.reduceAdd, Nat.reduceLeDiff, Nat.reduceEqDiff, Nat.reduceMul, Nat.reduceSub, ↓reduceIte, Int.reduceLT, Int.reduceLE, Int.reduceGT, Int.reduceGE, Nat.reduceLT, Nat.reduceGT, Int.reduceToNat, reduceCtorEq, Nat.reduceBEq, Int.reduceBEq, Int.reduceBNe, Int.reduceEq, Int.reduceNe, decide_true, decide_false, ne0, ne1, ne2, ne3, ne4, ne5, ne6, ne7, ne8, ne9, ne10, ne11]
      repeat' ((first | (with_reducible first | refine wr ?_ | refine i_ret ?_ | refine i_skip ?_ | refine i_exit ?_) | ((with_reducible first | refine k_cb ?_ ?_ | refine k_gb ?_ ?_ | refine k_gb' ?_ ?_) <;> (intro hb; try simp only [hb])) | ((with_reducible refine k_eval (b_appx (insC_len2 _) (by omega) (by omega)) ?_))) <;> try simp only [go_sem, Nat.reduceAdd, Nat.reduceLeDiff, Nat.reduceEqDiff, Nat.reduceMul, Nat.reduceSub, ↓reduceIte, Int.reduceLT, Int.reduceLE, Int.reduceGT, Int.reduceGE, Nat.reduceLT, Nat.reduceGT, Int.reduceToNat, reduceCtorEq, Nat.reduceBEq, Int.reduceBEq, Int.reduceBNe, Int.reduceEq, Int.reduceNe, decide_true, decide_false, ne0, ne1, ne2, ne3, ne4, ne5, ne6, ne7, ne8, ne9, ne10, ne11])
      refine AC.call (c_next l hl ((valueM l 0 p1).2) hp2 64 (by omega) (by omega) _ _ t (by repeat (first | exact h_same | rw [h_ne (by omega)] | rw [h_dne (by omega)])) (by omega)) ?_
      rintro v H' c3 ⟨rfl, rfl⟩ hcc3
      have hq3 := nextM_lt (l := l) (p := (valueM l 0 p1).2) (n := 64) (by omega)
      have hp3 := nextM_le (l := l) (p := (valueM l 0 p1).2) (n := 64) hp2
      have ne0 : ¬ t = id1 := by omega
      have ne1 : ¬ t = c3 := by omega
      have ne2 : ¬ t = c3 + 1 := by omega
      have ne3 : ¬ id1 = t := by omega
      have ne4 : ¬ id1 = c3 := by omega
      have ne5 : ¬ id1 = c3 + 1 := by omega
      have ne6 : ¬ c3 = t := by omega
      have ne7 : ¬ c3 = id1 := by omega
      have ne8 : ¬ c3 = c3 + 1 := by omega
      have ne9 : ¬ c3 + 1 = t := by omega
      have ne10 : ¬ c3 + 1 = id1 := by omega
      have ne11 : ¬ c3 + 1 = c3 := by omega
      simp only [go_sem, Nat.reduceAdd, Nat.reduceLeDiff, Nat.reduceEqDiff, Nat.reduceMul, Nat.reduceSub, ↓reduceIte, Int.reduceLT, Int.reduceLE, Int.reduceGT, Int.reduceGE, Nat.reduceLT, Nat.reduceGT, Int.reduceToNat, reduceCtorEq, Nat.reduceBEq, Int.reduceBEq, Int.reduceBNe, Int.reduceEq, Int.reduceNe, decide_true, decide_false, ne0, ne1, ne2, ne3, ne4, ne5, ne6, ne7, ne8, ne9, ne10, ne11]
      repeat' ((first | (with_reducible first | refine wr ?_ | refine i_ret ?_ | refine i_skip ?_ | refine i_exit ?_) | ((with_reducible first | refine k_cb ?_ ?_ | refine k_gb ?_ ?_ | refine k_gb' ?_ ?_) <;> (intro hb; try simp only [hb])) | ((with_reducible refine k_eval (b_appx (insC_len2 _) (by omega) (by omega)) ?_))) <;> try simp only [go_sem, Nat.reduceAdd, Nat.reduceLeDiff, Nat.reduceEqDiff, Nat.reduceMul, Nat.reduceSub, ↓reduceIte, Int.reduceLT, Int.reduceLE, Int.reduceGT, Int.reduceGE, Nat.reduceLT, Nat.reduceGT, Int.reduceToNat, reduceCtorEq, Nat.reduceBEq, Int.reduceBEq, Int.reduceBNe, Int.reduceEq, Int.reduceNe, decide_true, decide_false, ne0, ne1, ne2, ne3, ne4, ne5, ne6, ne7, ne8, ne9, ne10, ne11])
      have es : stmtM l 0 base p = stK l (fun _ p => ([], p)) base 3 p1 := by simp only [stmtM]; rw [e0]; try rfl
      rw [es]
      refine v_end (id := c3 + 1) hfr (by omega) (by omega) htc (by first | rfl | simp only [stK, List.length_append, List.length_singleton]) ?_ ?_ fun j h1 h2 => ?_
      · repeat (first | exact h_same | rw [h_ne (by omega)] | rw [h_dne (by omega)])
      · rw [h_same]; simp only [stK, insC_app, insC_one]
      · repeat (first | rfl | rw [h_ne (by omega)] | rw [h_dne (by omega)])
    · have nk : ((4 : Nat) : Int) = 4 := rfl
      simp only [go_sem, Nat.reduceAdd, Nat.reduceLeDiff, Nat.reduceEqDiff, Nat.reduceMul, Nat.reduceSub, ↓reduceIte, Int.reduceLT, Int.reduceLE, Int.reduceGT, Int.reduceGE, Nat.reduceLT, Nat.reduceGT, Int.reduceToNat, reduceCtorEq, Nat.reduceBEq, Int.reduceBEq, Int.reduceBNe, Int.reduceEq, Int.reduceNe, decide_true, decide_false, hdl, nk, Int.reduceGT, Int.reduceBEq, Int.reduceLE, decide_true, decide_false]
      repeat' ((first | (with_reducible first | refine wr ?_ | refine i_ret ?_ | refine i_skip ?_ | refine i_exit ?_) | ((with_reducible first | refine k_cb ?_ ?_ | refine k_gb ?_ ?_ | refine k_gb' ?_ ?_) <;> (intro hb; try simp only [hb]))) <;> try simp only [go_sem, Nat.reduceAdd, Nat.reduceLeDiff, Nat.reduceEqDiff, Nat.reduceMul, Nat.reduceSub, ↓reduceIte, Int.reduceLT, Int.reduceLE, Int.reduceGT, Int.reduceGE, Nat.reduceLT, Nat.reduceGT, Int.reduceToNat, reduceCtorEq, Nat.reduceBEq, Int.reduceBEq, Int.reduceBNe, Int.reduceEq, Int.reduceNe, decide_true, decide_false, hdl, nk, Int.reduceGT, Int.reduceBEq, Int.reduceLE, decide_true, decide_false])
      refine AC.call (c_value l hl 0 (by omega) (p1) hp1 _ _ t (by repeat (first | exact h_same | rw [h_ne (by omega)] | rw [h_dne (by omega)])) (by omega)) ?_
      rintro v H' c2 ⟨id1, ia1, ib1, rfl, rfl⟩ hcc2
      have hb1 := valueM_l0 l (p1)
      have hp2 := valueM_le l 0 (p1) hp1
      have ne0 : ¬ t = id1 := by omega
      have ne1 : ¬ t = c2 := by omega
      have ne2 : ¬ t = c2 + 1 := by omega
      have ne3 : ¬ id1 = t := by omega
      have ne4 : ¬ id1 = c2 := by omega
      have ne5 : ¬ id1 = c2 + 1 := by omega
      have ne6 : ¬ c2 = t := by omega
      have ne7 : ¬ c2 = id1 := by omega
      have ne8 : ¬ c2 = c2 + 1 := by omega
      have ne9 : ¬ c2 + 1 = t := by omega
      have ne10 : ¬ c2 + 1 = id1 := by omega
      have ne11 : ¬ c2 + 1 = c2 := by omega
      simp only [go_sem, Nat.reduceAdd, Nat.reduceLeDiff, Nat.reduceEqDiff, Nat.reduceMul, Nat.reduceSub, ↓reduceIte, Int.reduceLT, Int.reduceLE, Int.reduceGT, Int.reduceGE, Nat.reduceLT, Nat.reduceGT, Int.reduceToNat, reduceCtorEq, Nat.reduceBEq, Int.reduceBEq, Int.reduceBNe, Int.reduceEq, Int.reduceNe, decide_true, decide_false, ne0, ne1, ne2, ne3, ne4, ne5, ne6, ne7, ne8, ne9, ne10, ne11]
      repeat' ((first | (with_reducible first | refine wr ?_ | refine i_ret ?_ | refine i_skip ?_ | refine i_exit ?_) | ((with_reducible first | refine k_cb ?_ ?_ | refine k_gb ?_ ?_ | refine k_gb' ?_ ?_) <;> (intro hb; try simp only [hb])) | ((with_reducible refine k_eval (b_appx (insC_len2 _) (by omega) (by omega)) ?_))) <;> try simp only [go_sem, Nat.reduceAdd, Nat.reduceLeDiff, Nat.reduceEqDiff, Nat.reduceMul, Nat.reduceSub, ↓reduceIte, Int.reduceLT, Int.reduceLE, Int.reduceGT, Int.reduceGE, Nat.reduceLT, Nat.reduceGT, Int.reduceToNat, reduceCtorEq, Nat.reduceBEq, Int.reduceBEq, Int.reduceBNe, Int.reduceEq, Int.reduceNe, decide_true, decide_false, ne0, ne1, ne2, ne3, ne4, ne5, ne6, ne7, ne8, ne9, ne10, ne11])
      refine AC.call (c_value l hl 0 (by omega) ((valueM l 0 p1).2) hp2 _ _ t (by repeat (first | exact h_same | rw [h_ne (by omega)] | rw [h_dne (by omega)])) (by omega)) ?_
      rintro v H' c3 ⟨id2, ia2, ib2, rfl, rfl⟩ hcc3
      have hb2 := valueM_l0 l ((valueM l 0 p1).2)
      have hp3 := valueM_le l 0 ((valueM l 0 p1).2) hp2
      have hl2 := insC_len2 (valueM l 0 ((valueM l 0 p1).2)).1
      have hle2 : (valueM l 0 ((valueM l 0 p1).2)).1.length * 2 ≤ (insC (valueM l 0 ((valueM l 0 p1).2)).1).length := by omega
      have htk := List.take_of_length_le (l := insC (valueM l 0 ((valueM l 0 p1).2)).1) (i := (valueM l 0 ((valueM l 0 p1).2)).1.length * 2) (by omega)
      have ne0 : ¬ t = id1 := by omega
      have ne1 : ¬ t = id2 := by omega
      have ne2 : ¬ t = c3 := by omega
      have ne3 : ¬ t = c3 + 1 := by omega
      have ne4 : ¬ id1 = t := by omega
      have ne5 : ¬ id1 = id2 := by omega
      have ne6 : ¬ id1 = c3 := by omega
      have ne7 : ¬ id1 = c3 + 1 := by omega
      have ne8 : ¬ id2 = t := by omega
      have ne9 : ¬ id2 = id1 := by omega
      have ne10 : ¬ id2 = c3 := by omega
      have ne11 : ¬ id2 = c3 + 1 := by omega
      have ne12 : ¬ c3 = t := by omega
      have ne13 : ¬ c3 = id1 := by omega
      have ne14 : ¬ c3 = id2 := by omega
      have ne15 : ¬ c3 = c3 + 1 := by omega
      have ne16 : ¬ c3 + 1 = t := by omega
      have ne17 : ¬ c3 + 1 = id1 := by omega
      have ne18 : ¬ c3 + 1 = id2 := by omega
      have ne19 : ¬ c3 + 1 = c3 := by omega
      simp only [go_sem, Nat.reduceAdd, Nat.reduceLeDiff, Nat.reduceEqDiff, Nat.reduceMul, Nat.reduceSub, ↓reduceIte, Int.reduceLT, Int.reduceLE, Int.reduceGT, Int.reduceGE, Nat.reduceLT, Nat.reduceGT, Int.reduceToNat, reduceCtorEq, Nat.reduceBEq, Int.reduceBEq, Int.reduceBNe, Int.reduceEq, Int.reduceNe, decide_true, decide_false, hle2, htk, ne0, ne1, ne2, ne3, ne4, ne5, ne6, ne7, ne8, ne9, ne10, ne11, ne12, ne13, ne14, ne15, ne16, ne17, ne18, ne19]
      repeat' ((first | (with_reducible first | refine wr ?_ | refine i_ret ?_ | refine i_skip ?_ | refine i_exit ?_) | ((with_reducible first | refine k_cb ?_ ?_ | refine k_gb ?_ ?_ | refine k_gb' ?_ ?_) <;> (intro hb; try simp only [hb])) | ((with_reducible refine k_eval (b_appx (insC_len2 _) (by omega) (by omega)) ?_))) <;> try simp only [go_sem, Nat.reduceAdd, Nat.reduceLeDiff, Nat.reduceEqDiff, Nat.reduceMul, Nat.reduceSub, ↓reduceIte, Int.reduceLT, Int.reduceLE, Int.reduceGT, Int.reduceGE, Nat.reduceLT, Nat.reduceGT, Int.reduceToNat, reduceCtorEq, Nat.reduceBEq, Int.reduceBEq, Int.reduceBNe, Int.reduceEq, Int.reduceNe, decide_true, decide_false, hle2, htk, ne0, ne1, ne2, ne3, ne4, ne5, ne6, ne7, ne8, ne9, ne10, ne11, ne12, ne13, ne14, ne15, ne16, ne17, ne18, ne19])
      refine AC.call (c_next l hl ((valueM l 0 ((valueM l 0 p1).2)).2) hp3 64 (by omega) (by omega) _ _ t (by repeat (first | exact h_same | rw [h_ne (by omega)] | rw [h_dne (by omega)])) (by omega)) ?_
      rintro v H' c4 ⟨rfl, rfl⟩ hcc4
      have hq4 := nextM_lt (l := l) (p := (valueM l 0 ((valueM l 0 p1).2)).2) (n := 64) (by omega)
      have hp4 := nextM_le (l := l) (p := (valueM l 0 ((valueM l 0 p1).2)).2) (n := 64) hp3
      have hl3 := insL2 (valueM l 0 p1).1 (valueM l 0 ((valueM l 0 p1).2)).1
      have ne0 : ¬ t = c3 := by omega
      have ne1 : ¬ t = c4 := by omega
      have ne2 : ¬ t = c4 + 1 := by omega
      have ne3 : ¬ c3 = t := by omega
      have ne4 : ¬ c3 = c4 := by omega
      have ne5 : ¬ c3 = c4 + 1 := by omega
      have ne6 : ¬ c4 = t := by omega
      have ne7 : ¬ c4 = c3 := by omega
      have ne8 : ¬ c4 = c4 + 1 := by omega
      have ne9 : ¬ c4 + 1 = t := by omega
      have ne10 : ¬ c4 + 1 = c3 := by omega
      have ne11 : ¬ c4 + 1 = c4 := by omega
      simp only [go_sem, Nat.reduceAdd, Nat.reduceLeDiff, Nat.reduceEqDiff, Nat.reduceMul, Nat.reduceSub, ↓reduceIte, Int.reduceLT, Int.reduceLE, Int.reduceGT, Int.reduceGE, Nat.reduceLT, Nat.reduceGT, Int.reduceToNat, reduceCtorEq, Nat.reduceBEq, Int.reduceBEq, Int.reduceBNe, Int.reduceEq, Int.reduceNe, decide_true, decide_false, ne0, ne1, ne2, ne3, ne4, ne5, ne6, ne7, ne8, ne9, ne10, ne11]
      repeat' ((first | (with_reducible first | refine wr ?_ | refine i_ret ?_ | refine i_skip ?_ | refine i_exit ?_) | ((with_reducible first | refine k_cb ?_ ?_ | refine k_gb ?_ ?_ | refine k_gb' ?_ ?_) <;> (intro hb; try simp only [hb])) | ((with_reducible refine k_eval (b_appx (insC_len2 _) (by omega) (by omega)) ?_)) | ((with_reducible refine k_eval (b_appx hl3 (by omega) (by omega)) ?_))) <;> try simp only [go_sem, Nat.reduceAdd, Nat.reduceLeDiff, Nat.reduceEqDiff, Nat.reduceMul, Nat.reduceSub, ↓reduceIte, Int.reduceLT, Int.reduceLE, Int.reduceGT, Int.reduceGE, Nat.reduceLT, Nat.reduceGT, Int.reduceToNat, reduceCtorEq, Nat.reduceBEq, Int.reduceBEq, Int.reduceBNe, Int.reduceEq, Int.reduceNe, decide_true, decide_false, ne0, ne1, ne2, ne3, ne4, ne5, ne6, ne7, ne8, ne9, ne10, ne11])
      have es : stmtM l 0 base p = stK l (fun _ p => ([], p)) base 4 p1 := by simp only [stmtM]; rw [e0]; try rfl
      rw [es]
      refine v_end (id := c4 + 1) hfr (by omega) (by omega) htc (by first | rfl | simp only [stK, List.length_append, List.length_singleton]) ?_ ?_ fun j h1 h2 => ?_
      · repeat (first | exact h_same | rw [h_ne (by omega)] | rw [h_dne (by omega)])
      · rw [h_same]; simp only [stK, insC_app, insC_one]
      · repeat (first | rfl | rw [h_ne (by omega)] | rw [h_dne (by omega)])
    · have nk : ((5 : Nat) : Int) = 5 := rfl
      simp only [go_sem, Nat.reduceAdd, Nat.reduceLeDiff, Nat.reduceEqDiff, Nat.reduceMul, Nat.reduceSub, ↓reduceIte, Int.reduceLT, Int.reduceLE, Int.reduceGT, Int.reduceGE, Nat.reduceLT, Nat.reduceGT, Int.reduceToNat, reduceCtorEq, Nat.reduceBEq, Int.reduceBEq, Int.reduceBNe, Int.reduceEq, Int.reduceNe, decide_true, decide_false, hdl, nk, Int.reduceGT, Int.reduceBEq, Int.reduceLE, decide_true, decide_false]
      repeat' ((first | (with_reducible first | refine wr ?_ | refine i_ret ?_ | refine i_skip ?_ | refine i_exit ?_) | ((with_reducible first | refine k_cb ?_ ?_ | refine k_gb ?_ ?_ | refine k_gb' ?_ ?_) <;> (intro hb; try simp only [hb]))) <;> try simp only [go_sem, Nat.reduceAdd, Nat.reduceLeDiff, Nat.reduceEqDiff, Nat.reduceMul, Nat.reduceSub, ↓reduceIte, Int.reduceLT, Int.reduceLE, Int.reduceGT, Int.reduceGE, Nat.reduceLT, Nat.reduceGT, Int.reduceToNat, reduceCtorEq, Nat.reduceBEq, Int.reduceBEq, Int.reduceBNe, Int.reduceEq, Int.reduceNe, decide_true, decide_false, hdl, nk, Int.reduceGT, Int.reduceBEq, Int.reduceLE, decide_true, decide_false])
      refine AC.call (c_value l hl 1 (by omega) (p1) hp1 _ _ t (by repeat (first | exact h_same | rw [h_ne (by omega)] | rw [h_dne (by omega)])) (by omega)) ?_
      rintro v H' c2 ⟨id1, ia1, ib1, rfl, rfl⟩ hcc2
      have hb1 := valueM_l1 l (p1)
      have hp2 := valueM_le l 1 (p1) hp1
      have ne0 : ¬ t = id1 := by omega
      have ne1 : ¬ t = c2 := by omega
      have ne2 : ¬ t = c2 + 1 := by omega
      have ne3 : ¬ id1 = t := by omega
      have ne4 : ¬ id1 = c2 := by omega
      have ne5 : ¬ id1 = c2 + 1 := by omega
      have ne6 : ¬ c2 = t := by omega
      have ne7 : ¬ c2 = id1 := by omega
      have ne8 : ¬ c2 = c2 + 1 := by omega
      have ne9 : ¬ c2 + 1 = t := by omega
      have ne10 : ¬ c2 + 1 = id1 := by omega
      have ne11 : ¬ c2 + 1 = c2 := by omega
      simp only [go_sem, Nat.reduceAdd, Nat.reduceLeDiff, Nat.reduceEqDiff, Nat.reduceMul, Nat.reduceSub, ↓reduceIte, Int.reduceLT, Int.reduceLE, Int.reduceGT, Int.reduceGE, Nat.reduceLT, Nat.reduceGT, Int.reduceToNat, reduceCtorEq, Nat.reduceBEq, Int.reduceBEq, Int.reduceBNe, Int.reduceEq, Int.reduceNe, decide_true, decide_false, ne0, ne1, ne2, ne3, ne4, ne5, ne6, ne7, ne8, ne9, ne10, ne11]
      repeat' ((first | (with_reducible first | refine wr ?_ | refine i_ret ?_ | refine i_skip ?_ | refine i_exit ?_) | ((with_reducible first | refine k_cb ?_ ?_ | refine k_gb ?_ ?_ | refine k_gb' ?_ ?_) <;> (intro hb; try simp only [hb])) | ((with_reducible refine k_eval (b_appx (insC_len2 _) (by omega) (by omega)) ?_))) <;> try simp only [go_sem, Nat.reduceAdd, Nat.reduceLeDiff, Nat.reduceEqDiff, Nat.reduceMul, Nat.reduceSub, ↓reduceIte, Int.reduceLT, Int.reduceLE, Int.reduceGT, Int.reduceGE, Nat.reduceLT, Nat.reduceGT, Int.reduceToNat, reduceCtorEq, Nat.reduceBEq, Int.reduceBEq, Int.reduceBNe, Int.reduceEq, Int.reduceNe, decide_true, decide_false, ne0, ne1, ne2, ne3, ne4, ne5, ne6, ne7, ne8, ne9, ne10, ne11])
      refine AC.call (c_next l hl ((valueM l 1 p1).2) hp2 2 (by omega) (by omega) _ _ t (by repeat (first | exact h_same | rw [h_ne (by omega)] | rw [h_dne (by omega)])) (by omega)) ?_
      rintro v H' c3 ⟨rfl, rfl⟩ hcc3
      have hq3 := nextM_lt (l := l) (p := (valueM l 1 p1).2) (n := 2) (by omega)
      have hp3 := nextM_le (l := l) (p := (valueM l 1 p1).2) (n := 2) hp2
      have ne0 : ¬ t = id1 := by omega
      have ne1 : ¬ t = c3 := by omega
      have ne2 : ¬ t = c3 + 1 := by omega
      have ne3 : ¬ id1 = t := by omega
      have ne4 : ¬ id1 = c3 := by omega
      have ne5 : ¬ id1 = c3 + 1 := by omega
      have ne6 : ¬ c3 = t := by omega
      have ne7 : ¬ c3 = id1 := by omega
      have ne8 : ¬ c3 = c3 + 1 := by omega
      have ne9 : ¬ c3 + 1 = t := by omega
      have ne10 : ¬ c3 + 1 = id1 := by omega
      have ne11 : ¬ c3 + 1 = c3 := by omega
      simp only [go_sem, Nat.reduceAdd, Nat.reduceLeDiff, Nat.reduceEqDiff, Nat.reduceMul, Nat.reduceSub, ↓reduceIte, Int.reduceLT, Int.reduceLE, Int.reduceGT, Int.reduceGE, Nat.reduceLT, Nat.reduceGT, Int.reduceToNat, reduceCtorEq, Nat.reduceBEq, Int.reduceBEq, Int.reduceBNe, Int.reduceEq, Int.reduceNe, decide_true, decide_false, ne0, ne1, ne2, ne3, ne4, ne5, ne6, ne7, ne8, ne9, ne10, ne11]
      repeat' ((first | (with_reducible first | refine wr ?_ | refine i_ret ?_ | refine i_skip ?_ | refine i_exit ?_) | ((with_reducible first | refine k_cb ?_ ?_ | refine k_gb ?_ ?_ | refine k_gb' ?_ ?_) <;> (intro hb; try simp only [hb])) | ((with_reducible refine k_eval (b_appx (insC_len2 _) (by omega) (by omega)) ?_))) <;> try simp only [go_sem, Nat.reduceAdd, Nat.reduceLeDiff, Nat.reduceEqDiff, Nat.reduceMul, Nat.reduceSub, ↓reduceIte, Int.reduceLT, Int.reduceLE, Int.reduceGT, Int.reduceGE, Nat.reduceLT, Nat.reduceGT, Int.reduceToNat, reduceCtorEq, Nat.reduceBEq, Int.reduceBEq, Int.reduceBNe, Int.reduceEq, Int.reduceNe, decide_true, decide_false, ne0, ne1, ne2, ne3, ne4, ne5, ne6, ne7, ne8, ne9, ne10, ne11])
      have es : stmtM l 0 base p = stK l (fun _ p => ([], p)) base 5 p1 := by simp only [stmtM]; rw [e0]; try rfl
      rw [es]
      refine v_end (id := c3 + 1) hfr (by omega) (by omega) htc (by first | rfl | simp only [stK, List.length_append, List.length_singleton]) ?_ ?_ fun j h1 h2 => ?_
      · repeat (first | exact h_same | rw [h_ne (by omega)] | rw [h_dne (by omega)])
      · rw [h_same]; simp only [stK, insC_app, insC_one]
      · repeat (first | rfl | rw [h_ne (by omega)] | rw [h_dne (by omega)])
    · have nk : ((6 : Nat) : Int) = 6 := rfl
      simp only [go_sem, Nat.reduceAdd, Nat.reduceLeDiff, Nat.reduceEqDiff, Nat.reduceMul, Nat.reduceSub, ↓reduceIte, Int.reduceLT, Int.reduceLE, Int.reduceGT, Int.reduceGE, Nat.reduceLT, Nat.reduceGT, Int.reduceToNat, reduceCtorEq, Nat.reduceBEq, Int.reduceBEq, Int.reduceBNe, Int.reduceEq, Int.reduceNe, decide_true, decide_false, hdl, nk, Int.reduceGT, Int.reduceBEq, Int.reduceLE, decide_true, decide_false]
      repeat' ((first | (with_reducible first | refine wr ?_ | refine i_ret ?_ | refine i_skip ?_ | refine i_exit ?_) | ((with_reducible first | refine k_cb ?_ ?_ | refine k_gb ?_ ?_ | refine k_gb' ?_ ?_) <;> (intro hb; try simp only [hb]))) <;> try simp only [go_sem, Nat.reduceAdd, Nat.reduceLeDiff, Nat.reduceEqDiff, Nat.reduceMul, Nat.reduceSub, ↓reduceIte, Int.reduceLT, Int.reduceLE, Int.reduceGT, Int.reduceGE, Nat.reduceLT, Nat.reduceGT, Int.reduceToNat, reduceCtorEq, Nat.reduceBEq, Int.reduceBEq, Int.reduceBNe, Int.reduceEq, Int.reduceNe, decide_true, decide_false, hdl, nk, Int.reduceGT, Int.reduceBEq, Int.reduceLE, decide_true, decide_false])
      refine AC.call (c_next l hl (p1) hp1 2 (by omega) (by omega) _ _ t (by repeat (first | exact h_same | rw [h_ne (by omega)] | rw [h_dne (by omega)])) (by omega)) ?_
      rintro v H' c2 ⟨rfl, rfl⟩ hcc2
      have hq2 := nextM_lt (l := l) (p := p1) (n := 2) (by omega)
      have hp2 := nextM_le (l := l) (p := p1) (n := 2) hp1
      have ne0 : ¬ t = c2 := by omega
      have ne1 : ¬ t = c2 + 1 := by omega
      have ne2 : ¬ c2 = t := by omega
      have ne3 : ¬ c2 = c2 + 1 := by omega
      have ne4 : ¬ c2 + 1 = t := by omega
      have ne5 : ¬ c2 + 1 = c2 := by omega
      simp only [go_sem, Nat.reduceAdd, Nat.reduceLeDiff, Nat.reduceEqDiff, Nat.reduceMul, Nat.reduceSub, ↓reduceIte, Int.reduceLT, Int.reduceLE, Int.reduceGT, Int.reduceGE, Nat.reduceLT, Nat.reduceGT, Int.reduceToNat, reduceCtorEq, Nat.reduceBEq, Int.reduceBEq, Int.reduceBNe, Int.reduceEq, Int.reduceNe, decide_true, decide_false, ne0, ne1, ne2, ne3, ne4, ne5]
      repeat' ((first | (with_reducible first | refine wr ?_ | refine i_ret ?_ | refine i_skip ?_ | refine i_exit ?_) | ((with_reducible first | refine k_cb ?_ ?_ | refine k_gb ?_ ?_ | refine k_gb' ?_ ?_) <;> (intro hb; try simp only [hb])) | ((with_reducible refine k_eval (b_appx (insC_len2 _) (by omega) (by omega)) ?_))) <;> try simp only [go_sem, Nat.reduceAdd, Nat.reduceLeDiff, Nat.reduceEqDiff, Nat.reduceMul, Nat.reduceSub, ↓reduceIte, Int.reduceLT, Int.reduceLE, Int.reduceGT, Int.reduceGE, Nat.reduceLT, Nat.reduceGT, Int.reduceToNat, reduceCtorEq, Nat.reduceBEq, Int.reduceBEq, Int.reduceBNe, Int.reduceEq, Int.reduceNe, decide_true, decide_false, ne0, ne1, ne2, ne3, ne4, ne5])
      have es : stmtM l 0 base p = stK l (fun _ p => ([], p)) base 6 p1 := by simp only [stmtM]; rw [e0]; try rfl
      rw [es]
      refine v_end (id := c2) hfr (by omega) (by omega) htc (by first | rfl | simp only [stK, List.length_append, List.length_singleton]) ?_ ?_ fun j h1 h2 => ?_
      · repeat (first | exact h_same | rw [h_ne (by omega)] | rw [h_dne (by omega)])
      · rw [h_same]; simp only [stK, insC_app, insC_one]
      · repeat (first | rfl | rw [h_ne (by omega)] | rw [h_dne (by omega)])
    · have nk : ((7 : Nat) : Int) = 7 := rfl
      simp only [go_sem, Nat.reduceAdd, Nat.reduceLeDiff, Nat.reduceEqDiff, Nat.reduceMul, Nat.reduceSub, ↓reduceIte, Int.reduceLT, Int.reduceLE, Int.reduceGT, Int.reduceGE, Nat.reduceLT, Nat.reduceGT, Int.reduceToNat, reduceCtorEq, Nat.reduceBEq, Int.reduceBEq, Int.reduceBNe, Int.reduceEq, Int.reduceNe, decide_true, decide_false, hdl, nk, Int.reduceGT, Int.reduceBEq, Int.reduceLE, decide_true, decide_false]
      repeat' ((first | (with_reducible first | refine wr ?_ | refine i_ret ?_ | refine i_skip ?_ | refine i_exit ?_) | ((with_reducible first | refine k_cb ?_ ?_ | refine k_gb ?_ ?_ | refine k_gb' ?_ ?_) <;> (intro hb; try simp only [hb]))) <;> try simp only [go_sem, Nat.reduceAdd, Nat.reduceLeDiff, Nat.reduceEqDiff, Nat.reduceMul, Nat.reduceSub, ↓reduceIte, Int.reduceLT, Int.reduceLE, Int.reduceGT, Int.reduceGE, Nat.reduceLT, Nat.reduceGT, Int.reduceToNat, reduceCtorEq, Nat.reduceBEq, Int.reduceBEq, Int.reduceBNe, Int.reduceEq, Int.reduceNe, decide_true, decide_false, hdl, nk, Int.reduceGT, Int.reduceBEq, Int.reduceLE, decide_true, decide_false])
      refine AC.call (c_next l hl (p1) hp1 2 (by omega) (by omega) _ _ t (by repeat (first | exact h_same | rw [h_ne (by omega)] | rw [h_dne (by omega)])) (by omega)) ?_
      rintro v H' c2 ⟨rfl, rfl⟩ hcc2
      have hq2 := nextM_lt (l := l) (p := p1) (n := 2) (by omega)
      have hp2 := nextM_le (l := l) (p := p1) (n := 2) hp1
      have hadd := w64 (n := 23 + ((nextM l p1 2).1 : Int)) (by omega) (by omega)
      have ne0 : ¬ t = c2 := by omega
      have ne1 : ¬ t = c2 + 1 := by omega
      have ne2 : ¬ c2 = t := by omega
      have ne3 : ¬ c2 = c2 + 1 := by omega
      have ne4 : ¬ c2 + 1 = t := by omega
      have ne5 : ¬ c2 + 1 = c2 := by omega
      simp only [go_sem, Nat.reduceAdd, Nat.reduceLeDiff, Nat.reduceEqDiff, Nat.reduceMul, Nat.reduceSub, ↓reduceIte, Int.reduceLT, Int.reduceLE, Int.reduceGT, Int.reduceGE, Nat.reduceLT, Nat.reduceGT, Int.reduceToNat, reduceCtorEq, Nat.reduceBEq, Int.reduceBEq, Int.reduceBNe, Int.reduceEq, Int.reduceNe, decide_true, decide_false, hadd, ne0, ne1, ne2, ne3, ne4, ne5]
      repeat' ((first | (with_reducible first | refine wr ?_ | refine i_ret ?_ | refine i_skip ?_ | refine i_exit ?_) | ((with_reducible first | refine k_cb ?_ ?_ | refine k_gb ?_ ?_ | refine k_gb' ?_ ?_) <;> (intro hb; try simp only [hb])) | ((with_reducible refine k_eval (b_appx (insC_len2 _) (by omega) (by omega)) ?_))) <;> try simp only [go_sem, Nat.reduceAdd, Nat.reduceLeDiff, Nat.reduceEqDiff, Nat.reduceMul, Nat.reduceSub, ↓reduceIte, Int.reduceLT, Int.reduceLE, Int.reduceGT, Int.reduceGE, Nat.reduceLT, Nat.reduceGT, Int.reduceToNat, reduceCtorEq, Nat.reduceBEq, Int.reduceBEq, Int.reduceBNe, Int.reduceEq, Int.reduceNe, decide_true, decide_false, hadd, ne0, ne1, ne2, ne3, ne4, ne5])
      refine AC.call (c_next l hl ((nextM l p1 2).2) hp2 2 (by omega) (by omega) _ _ t (by repeat (first | exact h_same | rw [h_ne (by omega)] | rw [h_dne (by omega)])) (by omega)) ?_
      rintro v H' c3 ⟨rfl, rfl⟩ hcc3
      have hq3 := nextM_lt (l := l) (p := (nextM l p1 2).2) (n := 2) (by omega)
      have hp3 := nextM_le (l := l) (p := (nextM l p1 2).2) (n := 2) hp2
      have ne0 : ¬ t = c3 := by omega
      have ne1 : ¬ t = c3 + 1 := by omega
      have ne2 : ¬ c3 = t := by omega
      have ne3 : ¬ c3 = c3 + 1 := by omega
      have ne4 : ¬ c3 + 1 = t := by omega
      have ne5 : ¬ c3 + 1 = c3 := by omega
      simp only [go_sem, Nat.reduceAdd, Nat.reduceLeDiff, Nat.reduceEqDiff, Nat.reduceMul, Nat.reduceSub, ↓reduceIte, Int.reduceLT, Int.reduceLE, Int.reduceGT, Int.reduceGE, Nat.reduceLT, Nat.reduceGT, Int.reduceToNat, reduceCtorEq, Nat.reduceBEq, Int.reduceBEq, Int.reduceBNe, Int.reduceEq, Int.reduceNe, decide_true, decide_false, hadd, ne0, ne1, ne2, ne3, ne4, ne5]
      repeat' ((first | (with_reducible first | refine wr ?_ | refine i_ret ?_ | refine i_skip ?_ | refine i_exit ?_) | ((with_reducible first | refine k_cb ?_ ?_ | refine k_gb ?_ ?_ | refine k_gb' ?_ ?_) <;> (intro hb; try simp only [hb])) | ((with_reducible refine k_eval (b_appx (insC_len2 _) (by omega) (by omega)) ?_))) <;> try simp only [go_sem, Nat.reduceAdd, Nat.reduceLeDiff, Nat.reduceEqDiff, Nat.reduceMul, Nat.reduceSub, ↓reduceIte, Int.reduceLT, Int.reduceLE, Int.reduceGT, Int.reduceGE, Nat.reduceLT, Nat.reduceGT, Int.reduceToNat, reduceCtorEq, Nat.reduceBEq, Int.reduceBEq, Int.reduceBNe, Int.reduceEq, Int.reduceNe, decide_true, decide_false, hadd, ne0, ne1, ne2, ne3, ne4, ne5])
      have es : stmtM l 0 base p = stK l (fun _ p => ([], p)) base 7 p1 := by simp only [stmtM]; rw [e0]; try rfl
      rw [es]
      refine v_end (id := c3) hfr (by omega) (by omega) htc (by first | rfl | simp only [stK, List.length_append, List.length_singleton]) ?_ ?_ fun j h1 h2 => ?_
      · repeat (first | exact h_same | rw [h_ne (by omega)] | rw [h_dne (by omega)])
      · rw [h_same]; simp only [stK, insC_app, insC_one]
      · repeat (first | rfl | rw [h_ne (by omega)] | rw [h_dne (by omega)])
    · have nk : ((8 : Nat) : Int) = 8 := rfl
      simp only [go_sem, Nat.reduceAdd, Nat.reduceLeDiff, Nat.reduceEqDiff, Nat.reduceMul, Nat.reduceSub, ↓reduceIte, Int.reduceLT, Int.reduceLE, Int.reduceGT, Int.reduceGE, Nat.reduceLT, Nat.reduceGT, Int.reduceToNat, reduceCtorEq, Nat.reduceBEq, Int.reduceBEq, Int.reduceBNe, Int.reduceEq, Int.reduceNe, decide_true, decide_false, hdl, nk, Int.reduceGT, Int.reduceBEq, Int.reduceLE, decide_true, decide_false]
      repeat' ((first | (with_reducible first | refine wr ?_ | refine i_ret ?_ | refine i_skip ?_ | refine i_exit ?_) | ((with_reducible first | refine k_cb ?_ ?_ | refine k_gb ?_ ?_ | refine k_gb' ?_ ?_) <;> (intro hb; try simp only [hb]))) <;> try simp only [go_sem, Nat.reduceAdd, Nat.reduceLeDiff, Nat.reduceEqDiff, Nat.reduceMul, Nat.reduceSub, ↓reduceIte, Int.reduceLT, Int.reduceLE, Int.reduceGT, Int.reduceGE, Nat.reduceLT, Nat.reduceGT, Int.reduceToNat, reduceCtorEq, Nat.reduceBEq, Int.reduceBEq, Int.reduceBNe, Int.reduceEq, Int.reduceNe, decide_true, decide_false, hdl, nk, Int.reduceGT, Int.reduceBEq, Int.reduceLE, decide_true, decide_false])
      refine AC.call (c_next l hl (p1) hp1 2 (by omega) (by omega) _ _ t (by repeat (first | exact h_same | rw [h_ne (by omega)] | rw [h_dne (by omega)])) (by omega)) ?_
      rintro v H' c2 ⟨rfl, rfl⟩ hcc2
      have hq2 := nextM_lt (l := l) (p := p1) (n := 2) (by omega)
      have hp2 := nextM_le (l := l) (p := p1) (n := 2) hp1
      have ne0 : ¬ t = c2 := by omega
      have ne1 : ¬ t = c2 + 1 := by omega
      have ne2 : ¬ c2 = t := by omega
      have ne3 : ¬ c2 = c2 + 1 := by omega
      have ne4 : ¬ c2 + 1 = t := by omega
      have ne5 : ¬ c2 + 1 = c2 := by omega
      simp only [go_sem, Nat.reduceAdd, Nat.reduceLeDiff, Nat.reduceEqDiff, Nat.reduceMul, Nat.reduceSub, ↓reduceIte, Int.reduceLT, Int.reduceLE, Int.reduceGT, Int.reduceGE, Nat.reduceLT, Nat.reduceGT, Int.reduceToNat, reduceCtorEq, Nat.reduceBEq, Int.reduceBEq, Int.reduceBNe, Int.reduceEq, Int.reduceNe, decide_true, decide_false, ne0, ne1, ne2, ne3, ne4, ne5]
      repeat' ((first | (with_reducible first | refine wr ?_ | refine i_ret ?_ | refine i_skip ?_ | refine i_exit ?_) | ((with_reducible first | refine k_cb ?_ ?_ | refine k_gb ?_ ?_ | refine k_gb' ?_ ?_) <;> (intro hb; try simp only [hb])) | ((with_reducible refine k_eval (b_appx (insC_len2 _) (by omega) (by omega)) ?_))) <;> try simp only [go_sem, Nat.reduceAdd, Nat.reduceLeDiff, Nat.reduceEqDiff, Nat.reduceMul, Nat.reduceSub, ↓reduceIte, Int.reduceLT, Int.reduceLE, Int.reduceGT, Int.reduceGE, Nat.reduceLT, Nat.reduceGT, Int.reduceToNat, reduceCtorEq, Nat.reduceBEq, Int.reduceBEq, Int.reduceBNe, Int.reduceEq, Int.reduceNe, decide_true, decide_false, ne0, ne1, ne2, ne3, ne4, ne5])
      have es : stmtM l 0 base p = stK l (fun _ p => ([], p)) base 8 p1 := by simp only [stmtM]; rw [e0]; try rfl
      rw [es]
      refine v_end (id := c2) hfr (by omega) (by omega) htc (by first | rfl | simp only [stK, List.length_append, List.length_singleton]) ?_ ?_ fun j h1 h2 => ?_
      · repeat (first | exact h_same | rw [h_ne (by omega)] | rw [h_dne (by omega)])
      · rw [h_same]; simp only [stK, insC_app, insC_one]
      · repeat (first | rfl | rw [h_ne (by omega)] | rw [h_dne (by omega)])
    · have nk : ((9 : Nat) : Int) = 9 := rfl
      simp only [go_sem, Nat.reduceAdd, Nat.reduceLeDiff, Nat.reduceEqDiff, Nat.reduceMul, Nat.reduceSub, ↓reduceIte, Int.reduceLT, Int.reduceLE, Int.reduceGT, Int.reduceGE, Nat.reduceLT, Nat.reduceGT, Int.reduceToNat, reduceCtorEq, Nat.reduceBEq, Int.reduceBEq, Int.reduceBNe, Int.reduceEq, Int.reduceNe, decide_true, decide_false, hdl, nk, Int.reduceGT, Int.reduceBEq, Int.reduceLE, decide_true, decide_false]
      repeat' ((first | (with_reducible first | refine wr ?_ | refine i_ret ?_ | refine i_skip ?_ | refine i_exit ?_) | ((with_reducible first | refine k_cb ?_ ?_ | refine k_gb ?_ ?_ | refine k_gb' ?_ ?_) <;> (intro hb; try simp only [hb]))) <;> try simp only [go_sem, Nat.reduceAdd, Nat.reduceLeDiff, Nat.reduceEqDiff, Nat.reduceMul, Nat.reduceSub, ↓reduceIte, Int.reduceLT, Int.reduceLE, Int.reduceGT, Int.reduceGE, Nat.reduceLT, Nat.reduceGT, Int.reduceToNat, reduceCtorEq, Nat.reduceBEq, Int.reduceBEq, Int.reduceBNe, Int.reduceEq, Int.reduceNe, decide_true, decide_false, hdl, nk, Int.reduceGT, Int.reduceBEq, Int.reduceLE, decide_true, decide_false])
      refine AC.call (c_next l hl (p1) hp1 3 (by omega) (by omega) _ _ t (by repeat (first | exact h_same | rw [h_ne (by omega)] | rw [h_dne (by omega)])) (by omega)) ?_
      rintro v H' c2 ⟨rfl, rfl⟩ hcc2
      have hq2 := nextM_lt (l := l) (p := p1) (n := 3) (by omega)
      have hp2 := nextM_le (l := l) (p := p1) (n := 3) hp1
      have hadd := w64 (n := 26 + ((nextM l p1 3).1 : Int)) (by omega) (by omega)
      have ne0 : ¬ t = c2 := by omega
      have ne1 : ¬ t = c2 + 1 := by omega
      have ne2 : ¬ c2 = t := by omega
      have ne3 : ¬ c2 = c2 + 1 := by omega
      have ne4 : ¬ c2 + 1 = t := by omega
      have ne5 : ¬ c2 + 1 = c2 := by omega
      simp only [go_sem, Nat.reduceAdd, Nat.reduceLeDiff, Nat.reduceEqDiff, Nat.reduceMul, Nat.reduceSub, ↓reduceIte, Int.reduceLT, Int.reduceLE, Int.reduceGT, Int.reduceGE, Nat.reduceLT, Nat.reduceGT, Int.reduceToNat, reduceCtorEq, Nat.reduceBEq, Int.reduceBEq, Int.reduceBNe, Int.reduceEq, Int.reduceNe, decide_true, decide_false, hadd, ne0, ne1, ne2, ne3, ne4, ne5]
      repeat' ((first | (with_reducible first | refine wr ?_ | refine i_ret ?_ | refine i_skip ?_ | refine i_exit ?_) | ((with_reducible first | refine k_cb ?_ ?_ | refine k_gb ?_ ?_ | refine k_gb' ?_ ?_) <;> (intro hb; try simp only [hb])) | ((with_reducible refine k_eval (b_appx (insC_len2 _) (by omega) (by omega)) ?_))) <;> try simp only [go_sem, Nat.reduceAdd, Nat.reduceLeDiff, Nat.reduceEqDiff, Nat.reduceMul, Nat.reduceSub, ↓reduceIte, Int.reduceLT, Int.reduceLE, Int.reduceGT, Int.reduceGE, Nat.reduceLT, Nat.reduceGT, Int.reduceToNat, reduceCtorEq, Nat.reduceBEq, Int.reduceBEq, Int.reduceBNe, Int.reduceEq, Int.reduceNe, decide_true, decide_false, hadd, ne0, ne1, ne2, ne3, ne4, ne5])
      refine AC.call (c_next l hl ((nextM l p1 3).2) hp2 64 (by omega) (by omega) _ _ t (by repeat (first | exact h_same | rw [h_ne (by omega)] | rw [h_dne (by omega)])) (by omega)) ?_
      rintro v H' c3 ⟨rfl, rfl⟩ hcc3
      have hq3 := nextM_lt (l := l) (p := (nextM l p1 3).2) (n := 64) (by omega)
      have hp3 := nextM_le (l := l) (p := (nextM l p1 3).2) (n := 64) hp2
      have ne0 : ¬ t = c3 := by omega
      have ne1 : ¬ t = c3 + 1 := by omega
      have ne2 : ¬ c3 = t := by omega
      have ne3 : ¬ c3 = c3 + 1 := by omega
      have ne4 : ¬ c3 + 1 = t := by omega
      have ne5 : ¬ c3 + 1 = c3 := by omega
      simp only [go_sem, Nat.reduceAdd, Nat.reduceLeDiff, Nat.reduceEqDiff, Nat.reduceMul, Nat.reduceSub, ↓reduceIte, Int.reduceLT, Int.reduceLE, Int.reduceGT, Int.reduceGE, Nat.reduceLT, Nat.reduceGT, Int.reduceToNat, reduceCtorEq, Nat.reduceBEq, Int.reduceBEq, Int.reduceBNe, Int.reduceEq, Int.reduceNe, decide_true, decide_false, hadd, ne0, ne1, ne2, ne3, ne4, ne5]
      repeat' ((first | (with_reducible first | refine wr ?_ | refine i_ret ?_ | refine i_skip ?_ | refine i_exit ?_) | ((with_reducible first | refine k_cb ?_ ?_ | refine k_gb ?_ ?_ | refine k_gb' ?_ ?_) <;> (intro hb; try simp only [hb])) | ((with_reducible refine k_eval (b_appx (insC_len2 _) (by omega) (by omega)) ?_))) <;> try simp only [go_sem, Nat.reduceAdd, Nat.reduceLeDiff, Nat.reduceEqDiff, Nat.reduceMul, Nat.reduceSub, ↓reduceIte, Int.reduceLT, Int.reduceLE, Int.reduceGT, Int.reduceGE, Nat.reduceLT, Nat.reduceGT, Int.reduceToNat, reduceCtorEq, Nat.reduceBEq, Int.reduceBEq, Int.reduceBNe, Int.reduceEq, Int.reduceNe, decide_true, decide_false, hadd, ne0, ne1, ne2, ne3, ne4, ne5])
      have es : stmtM l 0 base p = stK l (fun _ p => ([], p)) base 9 p1 := by simp only [stmtM]; rw [e0]; try rfl
      rw [es]
      refine v_end (id := c3) hfr (by omega) (by omega) htc (by first | rfl | simp only [stK, List.length_append, List.length_singleton]) ?_ ?_ fun j h1 h2 => ?_
      · repeat (first | exact h_same | rw [h_ne (by omega)] | rw [h_dne (by omega)])
      · rw [h_same]; simp only [stK, insC_app, insC_one]
      · repeat (first | rfl | rw [h_ne (by omega)] | rw [h_dne (by omega)])
    · have nk : ((10 : Nat) : Int) = 10 := rfl
      simp only [go_sem, Nat.reduceAdd, Nat.reduceLeDiff, Nat.reduceEqDiff, Nat.reduceMul, Nat.reduceSub, ↓reduceIte, Int.reduceLT, Int.reduceLE, Int.reduceGT, Int.reduceGE, Nat.reduceLT, Nat.reduceGT, Int.reduceToNat, reduceCtorEq, Nat.reduceBEq, Int.reduceBEq, Int.reduceBNe, Int.reduceEq, Int.reduceNe, decide_true, decide_false, hdl, nk, Int.reduceGT, Int.reduceBEq, Int.reduceLE, decide_true, decide_false]
      repeat' ((first | (with_reducible first | refine wr ?_ | refine i_ret ?_ | refine i_skip ?_ | refine i_exit ?_) | ((with_reducible first | refine k_cb ?_ ?_ | refine k_gb ?_ ?_ | refine k_gb' ?_ ?_) <;> (intro hb; try simp only [hb]))) <;> try simp only [go_sem, Nat.reduceAdd, Nat.reduceLeDiff, Nat.reduceEqDiff, Nat.reduceMul, Nat.reduceSub, ↓reduceIte, Int.reduceLT, Int.reduceLE, Int.reduceGT, Int.reduceGE, Nat.reduceLT, Nat.reduceGT, Int.reduceToNat, reduceCtorEq, Nat.reduceBEq, Int.reduceBEq, Int.reduceBNe, Int.reduceEq, Int.reduceNe, decide_true, decide_false, hdl, nk, Int.reduceGT, Int.reduceBEq, Int.reduceLE, decide_true, decide_false])
      refine AC.call (c_value l hl 1 (by omega) (p1) hp1 _ _ t (by repeat (first | exact h_same | rw [h_ne (by omega)] | rw [h_dne (by omega)])) (by omega)) ?_
      rintro v H' c2 ⟨id1, ia1, ib1, rfl, rfl⟩ hcc2
      have hb1 := valueM_l1 l (p1)
      have hp2 := valueM_le l 1 (p1) hp1
      have ne0 : ¬ t = id1 := by omega
      have ne1 : ¬ t = c2 := by omega
      have ne2 : ¬ t = c2 + 1 := by omega
      have ne3 : ¬ id1 = t := by omega
      have ne4 : ¬ id1 = c2 := by omega
      have ne5 : ¬ id1 = c2 + 1 := by omega
      have ne6 : ¬ c2 = t := by omega
      have ne7 : ¬ c2 = id1 := by omega
      have ne8 : ¬ c2 = c2 + 1 := by omega
      have ne9 : ¬ c2 + 1 = t := by omega
      have ne10 : ¬ c2 + 1 = id1 := by omega
      have ne11 : ¬ c2 + 1 = c2 := by omega
      simp only [go_sem, Nat.reduceAdd, Nat.reduceLeDiff, Nat.reduceEqDiff, Nat.reduceMul, Nat.reduceSub, ↓reduceIte, Int.reduceLT, Int.reduceLE, Int.reduceGT, Int.reduceGE, Nat.reduceLT, Nat.reduceGT, Int.reduceToNat, reduceCtorEq, Nat.reduceBEq, Int.reduceBEq, Int.reduceBNe, Int.reduceEq, Int.reduceNe, decide_true, decide_false, ne0, ne1, ne2, ne3, ne4, ne5, ne6, ne7, ne8, ne9, ne10, ne11]
      repeat' ((first | (with_reducible first | refine wr ?_ | refine i_ret ?_ | refine i_skip ?_ | refine i_exit ?_) | ((with_reducible first | refine k_cb ?_ ?_ | refine k_gb ?_ ?_ | refine k_gb' ?_ ?_) <;> (intro hb; try simp only [hb])) | ((with_reducible refine k_eval (b_appx (insC_len2 _) (by omega) (by omega)) ?_))) <;> try simp only [go_sem, Nat.reduceAdd, Nat.reduceLeDiff, Nat.reduceEqDiff, Nat.reduceMul, Nat.reduceSub, ↓reduceIte, Int.reduceLT, Int.reduceLE, Int.reduceGT, Int.reduceGE, Nat.reduceLT, Nat.reduceGT, Int.reduceToNat, reduceCtorEq, Nat.reduceBEq, Int.reduceBEq, Int.reduceBNe, Int.reduceEq, Int.reduceNe, decide_true, decide_false, ne0, ne1, ne2, ne3, ne4, ne5, ne6, ne7, ne8, ne9, ne10, ne11])
      refine AC.call (c_next l hl ((valueM l 1 p1).2) hp2 2 (by omega) (by omega) _ _ t (by repeat (first | exact h_same | rw [h_ne (by omega)] | rw [h_dne (by omega)])) (by omega)) ?_
      rintro v H' c3 ⟨rfl, rfl⟩ hcc3
      have hq3 := nextM_lt (l := l) (p := (valueM l 1 p1).2) (n := 2) (by omega)
      have hp3 := nextM_le (l := l) (p := (valueM l 1 p1).2) (n := 2) hp2
      have ne0 : ¬ t = id1 := by omega
      have ne1 : ¬ t = c3 := by omega
      have ne2 : ¬ t = c3 + 1 := by omega
      have ne3 : ¬ id1 = t := by omega
      have ne4 : ¬ id1 = c3 := by omega
      have ne5 : ¬ id1 = c3 + 1 := by omega
      have ne6 : ¬ c3 = t := by omega
      have ne7 : ¬ c3 = id1 := by omega
      have ne8 : ¬ c3 = c3 + 1 := by omega
      have ne9 : ¬ c3 + 1 = t := by omega
      have ne10 : ¬ c3 + 1 = id1 := by omega
      have ne11 : ¬ c3 + 1 = c3 := by omega
      simp only [go_sem, Nat.reduceAdd, Nat.reduceLeDiff, Nat.reduceEqDiff, Nat.reduceMul, Nat.reduceSub, ↓reduceIte, Int.reduceLT, Int.reduceLE, Int.reduceGT, Int.reduceGE, Nat.reduceLT, Nat.reduceGT, Int.reduceToNat, reduceCtorEq, Nat.reduceBEq, Int.reduceBEq, Int.reduceBNe, Int.reduceEq, Int.reduceNe, decide_true, decide_false, ne0, ne1, ne2, ne3, ne4, ne5, ne6, ne7, ne8, ne9, ne10, ne11]
      repeat' ((first | (with_reducible first | refine wr ?_ | refine i_ret ?_ | refine i_skip ?_ | refine i_exit ?_) | ((with_reducible first | refine k_cb ?_ ?_ | refine k_gb ?_ ?_ | refine k_gb' ?_ ?_) <;> (intro hb; try simp only [hb])) | ((with_reducible refine k_eval (b_appx (insC_len2 _) (by omega) (by omega)) ?_))) <;> try simp only [go_sem, Nat.reduceAdd, Nat.reduceLeDiff, Nat.reduceEqDiff, Nat.reduceMul, Nat.reduceSub, ↓reduceIte, Int.reduceLT, Int.reduceLE, Int.reduceGT, Int.reduceGE, Nat.reduceLT, Nat.reduceGT, Int.reduceToNat, reduceCtorEq, Nat.reduceBEq, Int.reduceBEq, Int.reduceBNe, Int.reduceEq, Int.reduceNe, decide_true, decide_false, ne0, ne1, ne2, ne3, ne4, ne5, ne6, ne7, ne8, ne9, ne10, ne11])
      have es : stmtM l 0 base p = stK l (fun _ p => ([], p)) base 10 p1 := by simp only [stmtM]; rw [e0]; try rfl
      rw [es]
      refine v_end (id := c3 + 1) hfr (by omega) (by omega) htc (by first | rfl | simp only [stK, List.length_append, List.length_singleton]) ?_ ?_ fun j h1 h2 => ?_
      · repeat (first | exact h_same | rw [h_ne (by omega)] | rw [h_dne (by omega)])
      · rw [h_same]; simp only [stK, insC_app, insC_one]
      · repeat (first | rfl | rw [h_ne (by omega)] | rw [h_dne (by omega)])
    · have nk : ((11 : Nat) : Int) = 11 := rfl
      simp only [go_sem, Nat.reduceAdd, Nat.reduceLeDiff, Nat.reduceEqDiff, Nat.reduceMul, Nat.reduceSub, ↓reduceIte, Int.reduceLT, Int.reduceLE, Int.reduceGT, Int.reduceGE, Nat.reduceLT, Nat.reduceGT, Int.reduceToNat, reduceCtorEq, Nat.reduceBEq, Int.reduceBEq, Int.reduceBNe, Int.reduceEq, Int.reduceNe, decide_true, decide_false, hdl, nk, Int.reduceGT, Int.reduceBEq, Int.reduceLE, decide_true, decide_false]
      repeat' ((first | (with_reducible first | refine wr ?_ | refine i_ret ?_ | refine i_skip ?_ | refine i_exit ?_) | ((with_reducible first | refine k_cb ?_ ?_ | refine k_gb ?_ ?_ | refine k_gb' ?_ ?_) <;> (intro hb; try simp only [hb]))) <;> try simp only [go_sem, Nat.reduceAdd, Nat.reduceLeDiff, Nat.reduceEqDiff, Nat.reduceMul, Nat.reduceSub, ↓reduceIte, Int.reduceLT, Int.reduceLE, Int.reduceGT, Int.reduceGE, Nat.reduceLT, Nat.reduceGT, Int.reduceToNat, reduceCtorEq, Nat.reduceBEq, Int.reduceBEq, Int.reduceBNe, Int.reduceEq, Int.reduceNe, decide_true, decide_false, hdl, nk, Int.reduceGT, Int.reduceBEq, Int.reduceLE, decide_true, decide_false])
      have es : stmtM l 0 base p = stK l (fun _ p => ([], p)) base 11 p1 := by simp only [stmtM]; rw [e0]; try rfl
      rw [es]
      refine v_end (id := c1) hfr (by omega) (by omega) htc (by first | rfl | simp only [stK, List.length_append, List.length_singleton]) ?_ ?_ fun j h1 h2 => ?_
      · repeat (first | exact h_same | rw [h_ne (by omega)] | rw [h_dne (by omega)])
      · rw [h_same]; simp only [stK, insC_app, insC_one]
      · repeat (first | rfl | rw [h_ne (by omega)] | rw [h_dne (by omega)])
    · have nk : ((0 : Nat) : Int) = 0 := rfl
      simp only [go_sem, Nat.reduceAdd, Nat.reduceLeDiff, Nat.reduceEqDiff, Nat.reduceMul, Nat.reduceSub, ↓reduceIte, Int.reduceLT, Int.reduceLE, Int.reduceGT, Int.reduceGE, Nat.reduceLT, Nat.reduceGT, Int.reduceToNat, reduceCtorEq, Nat.reduceBEq, Int.reduceBEq, Int.reduceBNe, Int.reduceEq, Int.reduceNe, decide_true, decide_false, hdl, nk, Int.reduceGT, Int.reduceBEq, Int.reduceLE, decide_true, decide_false]
      repeat' ((first | (with_reducible first | refine wr ?_ | refine i_ret ?_ | refine i_skip ?_ | refine i_exit ?_) | ((with_reducible first | refine k_cb ?_ ?_ | refine k_gb ?_ ?_ | refine k_gb' ?_ ?_) <;> (intro hb; try simp only [hb]))) <;> try simp only [go_sem, Nat.reduceAdd, Nat.reduceLeDiff, Nat.reduceEqDiff, Nat.reduceMul, Nat.reduceSub, ↓reduceIte, Int.reduceLT, Int.reduceLE, Int.reduceGT, Int.reduceGE, Nat.reduceLT, Nat.reduceGT, Int.reduceToNat, reduceCtorEq, Nat.reduceBEq, Int.reduceBEq, Int.reduceBNe, Int.reduceEq, Int.reduceNe, decide_true, decide_false, hdl, nk, Int.reduceGT, Int.reduceBEq, Int.reduceLE, decide_true, decide_false])
      refine AC.call (c_value l hl 2 (by omega) (p1) hp1 _ _ t (by repeat (first | exact h_same | rw [h_ne (by omega)] | rw [h_dne (by omega)])) (by omega)) ?_
      rintro v H' c2 ⟨id1, ia1, ib1, rfl, rfl⟩ hcc2
      have hb1 := valueM_l2 l (p1)
      have hp2 := valueM_le l 2 (p1) hp1
      have ne0 : ¬ t = id1 := by omega
      have ne1 : ¬ t = c2 := by omega
      have ne2 : ¬ t = c2 + 1 := by omega
      have ne3 : ¬ id1 = t := by omega
      have ne4 : ¬ id1 = c2 := by omega
      have ne5 : ¬ id1 = c2 + 1 := by omega
      have ne6 : ¬ c2 = t := by omega
      have ne7 : ¬ c2 = id1 := by omega
      have ne8 : ¬ c2 = c2 + 1 := by omega
      have ne9 : ¬ c2 + 1 = t := by omega
      have ne10 : ¬ c2 + 1 = id1 := by omega
      have ne11 : ¬ c2 + 1 = c2 := by omega
      simp only [go_sem, Nat.reduceAdd, Nat.reduceLeDiff, Nat.reduceEqDiff, Nat.reduceMul, Nat.reduceSub, ↓reduceIte, Int.reduceLT, Int.reduceLE, Int.reduceGT, Int.reduceGE, Nat.reduceLT, Nat.reduceGT, Int.reduceToNat, reduceCtorEq, Nat.reduceBEq, Int.reduceBEq, Int.reduceBNe, Int.reduceEq, Int.reduceNe, decide_true, decide_false, ne0, ne1, ne2, ne3, ne4, ne5, ne6, ne7, ne8, ne9, ne10, ne11]
      repeat' ((first | (with_reducible first | refine wr ?_ | refine i_ret ?_ | refine i_skip ?_ | refine i_exit ?_) | ((with_reducible first | refine k_cb ?_ ?_ | refine k_gb ?_ ?_ | refine k_gb' ?_ ?_) <;> (intro hb; try simp only [hb])) | ((with_reducible refine k_eval (b_appx (insC_len2 _) (by omega) (by omega)) ?_))) <;> try simp only [go_sem, Nat.reduceAdd, Nat.reduceLeDiff, Nat.reduceEqDiff, Nat.reduceMul, Nat.reduceSub, ↓reduceIte, Int.reduceLT, Int.reduceLE, Int.reduceGT, Int.reduceGE, Nat.reduceLT, Nat.reduceGT, Int.reduceToNat, reduceCtorEq, Nat.reduceBEq, Int.reduceBEq, Int.reduceBNe, Int.reduceEq, Int.reduceNe, decide_true, decide_false, ne0, ne1, ne2, ne3, ne4, ne5, ne6, ne7, ne8, ne9, ne10, ne11])
      refine AC.call (c_next l hl ((valueM l 2 p1).2) hp2 3 (by omega) (by omega) _ _ t (by repeat (first | exact h_same | rw [h_ne (by omega)] | rw [h_dne (by omega)])) (by omega)) ?_
      rintro v H' c3 ⟨rfl, rfl⟩ hcc3
      have hq3 := nextM_lt (l := l) (p := (valueM l 2 p1).2) (n := 3) (by omega)
      have hp3 := nextM_le (l := l) (p := (valueM l 2 p1).2) (n := 3) hp2
      have ne0 : ¬ t = id1 := by omega
      have ne1 : ¬ t = c3 := by omega
      have ne2 : ¬ t = c3 + 1 := by omega
      have ne3 : ¬ id1 = t := by omega
      have ne4 : ¬ id1 = c3 := by omega
      have ne5 : ¬ id1 = c3 + 1 := by omega
      have ne6 : ¬ c3 = t := by omega
      have ne7 : ¬ c3 = id1 := by omega
      have ne8 : ¬ c3 = c3 + 1 := by omega
      have ne9 : ¬ c3 + 1 = t := by omega
      have ne10 : ¬ c3 + 1 = id1 := by omega
      have ne11 : ¬ c3 + 1 = c3 := by omega
      simp only [go_sem, Nat.reduceAdd, Nat.reduceLeDiff, Nat.reduceEqDiff, Nat.reduceMul, Nat.reduceSub, ↓reduceIte, Int.reduceLT, Int.reduceLE, Int.reduceGT, Int.reduceGE, Nat.reduceLT, Nat.reduceGT, Int.reduceToNat, reduceCtorEq, Nat.reduceBEq, Int.reduceBEq, Int.reduceBNe, Int.reduceEq, Int.reduceNe, decide_true, decide_false, ne0, ne1, ne2, ne3, ne4, ne5, ne6, ne7, ne8, ne9, ne10, ne11]
      repeat' ((first | (with_reducible first | refine wr ?_ | refine i_ret ?_ | refine i_skip ?_ | refine i_exit ?_) | ((with_reducible first | refine k_cb ?_ ?_ | refine k_gb ?_ ?_ | refine k_gb' ?_ ?_) <;> (intro hb; try simp only [hb])) | ((with_reducible refine k_eval (b_appx (insC_len2 _) (by omega) (by omega)) ?_))) <;> try simp only [go_sem, Nat.reduceAdd, Nat.reduceLeDiff, Nat.reduceEqDiff, Nat.reduceMul, Nat.reduceSub, ↓reduceIte, Int.reduceLT, Int.reduceLE, Int.reduceGT, Int.reduceGE, Nat.reduceLT, Nat.reduceGT, Int.reduceToNat, reduceCtorEq, Nat.reduceBEq, Int.reduceBEq, Int.reduceBNe, Int.reduceEq, Int.reduceNe, decide_true, decide_false, ne0, ne1, ne2, ne3, ne4, ne5, ne6, ne7, ne8, ne9, ne10, ne11])
      have es : stmtM l 0 base p = stK l (fun _ p => ([], p)) base 0 p1 := by simp only [stmtM]; rw [e0]; try rfl
      rw [es]
      refine v_end (id := c3 + 1) hfr (by omega) (by omega) htc (by first | rfl | simp only [stK, List.length_append, List.length_singleton]) ?_ ?_ fun j h1 h2 => ?_
      · repeat (first | exact h_same | rw [h_ne (by omega)] | rw [h_dne (by omega)])
      · rw [h_same]; simp only [stK, insC_app, insC_one]
      · repeat (first | rfl | rw [h_ne (by omega)] | rw [h_dne (by omega)])
    · have nk : ((12 : Nat) : Int) = 12 := rfl
      simp only [go_sem, Nat.reduceAdd, Nat.reduceLeDiff, Nat.reduceEqDiff, Nat.reduceMul, Nat.reduceSub, ↓reduceIte, Int.reduceLT, Int.reduceLE, Int.reduceGT, Int.reduceGE, Nat.reduceLT, Nat.reduceGT, Int.reduceToNat, reduceCtorEq, Nat.reduceBEq, Int.reduceBEq, Int.reduceBNe, Int.reduceEq, Int.reduceNe, decide_true, decide_false, hdl, nk, Int.reduceGT, Int.reduceBEq, Int.reduceLE, decide_true, decide_false]
      repeat' ((first | (with_reducible first | refine wr ?_ | refine i_ret ?_ | refine i_skip ?_ | refine i_exit ?_) | ((with_reducible first | refine k_cb ?_ ?_ | refine k_gb ?_ ?_ | refine k_gb' ?_ ?_) <;> (intro hb; try simp only [hb]))) <;> try simp only [go_sem, Nat.reduceAdd, Nat.reduceLeDiff, Nat.reduceEqDiff, Nat.reduceMul, Nat.reduceSub, ↓reduceIte, Int.reduceLT, Int.reduceLE, Int.reduceGT, Int.reduceGE, Nat.reduceLT, Nat.reduceGT, Int.reduceToNat, reduceCtorEq, Nat.reduceBEq, Int.reduceBEq, Int.reduceBNe, Int.reduceEq, Int.reduceNe, decide_true, decide_false, hdl, nk, Int.reduceGT, Int.reduceBEq, Int.reduceLE, decide_true, decide_false])
      refine AC.call (c_value l hl 2 (by omega) (p1) hp1 _ _ t (by repeat (first | exact h_same | rw [h_ne (by omega)] | rw [h_dne (by omega)])) (by omega)) ?_
      rintro v H' c2 ⟨id1, ia1, ib1, rfl, rfl⟩ hcc2
      have hb1 := valueM_l2 l (p1)
      have hp2 := valueM_le l 2 (p1) hp1
      have ne0 : ¬ t = id1 := by omega
      have ne1 : ¬ t = c2 := by omega
      have ne2 : ¬ t = c2 + 1 := by omega
      have ne3 : ¬ id1 = t := by omega
      have ne4 : ¬ id1 = c2 := by omega
      have ne5 : ¬ id1 = c2 + 1 := by omega
      have ne6 : ¬ c2 = t := by omega
      have ne7 : ¬ c2 = id1 := by omega
      have ne8 : ¬ c2 = c2 + 1 := by omega
      have ne9 : ¬ c2 + 1 = t := by omega
      have ne10 : ¬ c2 + 1 = id1 := by omega
      have ne11 : ¬ c2 + 1 = c2 := by omega
      simp only [go_sem, Nat.reduceAdd, Nat.reduceLeDiff, Nat.reduceEqDiff, Nat.reduceMul, Nat.reduceSub, ↓reduceIte, Int.reduceLT, Int.reduceLE, Int.reduceGT, Int.reduceGE, Nat.reduceLT, Nat.reduceGT, Int.reduceToNat, reduceCtorEq, Nat.reduceBEq, Int.reduceBEq, Int.reduceBNe, Int.reduceEq, Int.reduceNe, decide_true, decide_false, ne0, ne1, ne2, ne3, ne4, ne5, ne6, ne7, ne8, ne9, ne10, ne11]
      repeat' ((first | (with_reducible first | refine wr ?_ | refine i_ret ?_ | refine i_skip ?_ | refine i_exit ?_) | ((with_reducible first | refine k_cb ?_ ?_ | refine k_gb ?_ ?_ | refine k_gb' ?_ ?_) <;> (intro hb; try simp only [hb])) | ((with_reducible refine k_eval (b_appx (insC_len2 _) (by omega) (by omega)) ?_))) <;> try simp only [go_sem, Nat.reduceAdd, Nat.reduceLeDiff, Nat.reduceEqDiff, Nat.reduceMul, Nat.reduceSub, ↓reduceIte, Int.reduceLT, Int.reduceLE, Int.reduceGT, Int.reduceGE, Nat.reduceLT, Nat.reduceGT, Int.reduceToNat, reduceCtorEq, Nat.reduceBEq, Int.reduceBEq, Int.reduceBNe, Int.reduceEq, Int.reduceNe, decide_true, decide_false, ne0, ne1, ne2, ne3, ne4, ne5, ne6, ne7, ne8, ne9, ne10, ne11])
      refine AC.call (c_next l hl ((valueM l 2 p1).2) hp2 3 (by omega) (by omega) _ _ t (by repeat (first | exact h_same | rw [h_ne (by omega)] | rw [h_dne (by omega)])) (by omega)) ?_
      rintro v H' c3 ⟨rfl, rfl⟩ hcc3
      have hq3 := nextM_lt (l := l) (p := (valueM l 2 p1).2) (n := 3) (by omega)
      have hp3 := nextM_le (l := l) (p := (valueM l 2 p1).2) (n := 3) hp2
      have ne0 : ¬ t = id1 := by omega
      have ne1 : ¬ t = c3 := by omega
      have ne2 : ¬ t = c3 + 1 := by omega
      have ne3 : ¬ id1 = t := by omega
      have ne4 : ¬ id1 = c3 := by omega
      have ne5 : ¬ id1 = c3 + 1 := by omega
      have ne6 : ¬ c3 = t := by omega
      have ne7 : ¬ c3 = id1 := by omega
      have ne8 : ¬ c3 = c3 + 1 := by omega
      have ne9 : ¬ c3 + 1 = t := by omega
      have ne10 : ¬ c3 + 1 = id1 := by omega
      have ne11 : ¬ c3 + 1 = c3 := by omega
      simp only [go_sem, Nat.reduceAdd, Nat.reduceLeDiff, Nat.reduceEqDiff, Nat.reduceMul, Nat.reduceSub, ↓reduceIte, Int.reduceLT, Int.reduceLE, Int.reduceGT, Int.reduceGE, Nat.reduceLT, Nat.reduceGT, Int.reduceToNat, reduceCtorEq, Nat.reduceBEq, Int.reduceBEq, Int.reduceBNe, Int.reduceEq, Int.reduceNe, decide_true, decide_false, ne0, ne1, ne2, ne3, ne4, ne5, ne6, ne7, ne8, ne9, ne10, ne11]
      repeat' ((first | (with_reducible first | refine wr ?_ | refine i_ret ?_ | refine i_skip ?_ | refine i_exit ?_) | ((with_reducible first | refine k_cb ?_ ?_ | refine k_gb ?_ ?_ | refine k_gb' ?_ ?_) <;> (intro hb; try simp only [hb])) | ((with_reducible refine k_eval (b_appx (insC_len2 _) (by omega) (by omega)) ?_))) <;> try simp only [go_sem, Nat.reduceAdd, Nat.reduceLeDiff, Nat.reduceEqDiff, Nat.reduceMul, Nat.reduceSub, ↓reduceIte, Int.reduceLT, Int.reduceLE, Int.reduceGT, Int.reduceGE, Nat.reduceLT, Nat.reduceGT, Int.reduceToNat, reduceCtorEq, Nat.reduceBEq, Int.reduceBEq, Int.reduceBNe, Int.reduceEq, Int.reduceNe, decide_true, decide_false, ne0, ne1, ne2, ne3, ne4, ne5, ne6, ne7, ne8, ne9, ne10, ne11])
      have es : stmtM l 0 base p = stK l (fun _ p => ([], p)) base 0 p1 := by simp only [stmtM]; rw [e0]; try rfl
      rw [es]
      refine v_end (id := c3 + 1) hfr (by omega) (by omega) htc (by first | rfl | simp only [stK, List.length_append, List.length_singleton]) ?_ ?_ fun j h1 h2 => ?_
      · repeat (first | exact h_same | rw [h_ne (by omega)] | rw [h_dne (by omega)])
      · rw [h_same]; simp only [stK, insC_app, insC_one]
      · repeat (first | rfl | rw [h_ne (by omega)] | rw [h_dne (by omega)])
    · have nk : ((13 : Nat) : Int) = 13 := rfl
      simp only [go_sem, Nat.reduceAdd, Nat.reduceLeDiff, Nat.reduceEqDiff, Nat.reduceMul, Nat.reduceSub, ↓reduceIte, Int.reduceLT, Int.reduceLE, Int.reduceGT, Int.reduceGE, Nat.reduceLT, Nat.reduceGT, Int.reduceToNat, reduceCtorEq, Nat.reduceBEq, Int.reduceBEq, Int.reduceBNe, Int.reduceEq, Int.reduceNe, decide_true, decide_false, hdl, nk, Int.reduceGT, Int.reduceBEq, Int.reduceLE, decide_true, decide_false]
      repeat' ((first | (with_reducible first | refine wr ?_ | refine i_ret ?_ | refine i_skip ?_ | refine i_exit ?_) | ((with_reducible first | refine k_cb ?_ ?_ | refine k_gb ?_ ?_ | refine k_gb' ?_ ?_) <;> (intro hb; try simp only [hb]))) <;> try simp only [go_sem, Nat.reduceAdd, Nat.reduceLeDiff, Nat.reduceEqDiff, Nat.reduceMul, Nat.reduceSub, ↓reduceIte, Int.reduceLT, Int.reduceLE, Int.reduceGT, Int.reduceGE, Nat.reduceLT, Nat.reduceGT, Int.reduceToNat, reduceCtorEq, Nat.reduceBEq, Int.reduceBEq, Int.reduceBNe, Int.reduceEq, Int.reduceNe, decide_true, decide_false, hdl, nk, Int.reduceGT, Int.reduceBEq, Int.reduceLE, decide_true, decide_false])
      refine AC.call (c_value l hl 2 (by omega) (p1) hp1 _ _ t (by repeat (first | exact h_same | rw [h_ne (by omega)] | rw [h_dne (by omega)])) (by omega)) ?_
      rintro v H' c2 ⟨id1, ia1, ib1, rfl, rfl⟩ hcc2
      have hb1 := valueM_l2 l (p1)
      have hp2 := valueM_le l 2 (p1) hp1
      have ne0 : ¬ t = id1 := by omega
      have ne1 : ¬ t = c2 := by omega
      have ne2 : ¬ t = c2 + 1 := by omega
      have ne3 : ¬ id1 = t := by omega
      have ne4 : ¬ id1 = c2 := by omega
      have ne5 : ¬ id1 = c2 + 1 := by omega
      have ne6 : ¬ c2 = t := by omega
      have ne7 : ¬ c2 = id1 := by omega
      have ne8 : ¬ c2 = c2 + 1 := by omega
      have ne9 : ¬ c2 + 1 = t := by omega
      have ne10 : ¬ c2 + 1 = id1 := by omega
      have ne11 : ¬ c2 + 1 = c2 := by omega
      simp only [go_sem, Nat.reduceAdd, Nat.reduceLeDiff, Nat.reduceEqDiff, Nat.reduceMul, Nat.reduceSub, ↓reduceIte, Int.reduceLT, Int.reduceLE, Int.reduceGT, Int.reduceGE, Nat.reduceLT, Nat.reduceGT, Int.reduceToNat, reduceCtorEq, Nat.reduceBEq, Int.reduceBEq, Int.reduceBNe, Int.reduceEq, Int.reduceNe, decide_true, decide_false, ne0, ne1, ne2, ne3, ne4, ne5, ne6, ne7, ne8, ne9, ne10, ne11]
      repeat' ((first | (with_reducible first | refine wr ?_ | refine i_ret ?_ | refine i_skip ?_ | refine i_exit ?_) | ((with_reducible first | refine k_cb ?_ ?_ | refine k_gb ?_ ?_ | refine k_gb' ?_ ?_) <;> (intro hb; try simp only [hb])) | ((with_reducible refine k_eval (b_appx (insC_len2 _) (by omega) (by omega)) ?_))) <;> try simp only [go_sem, Nat.reduceAdd, Nat.reduceLeDiff, Nat.reduceEqDiff, Nat.reduceMul, Nat.reduceSub, ↓reduceIte, Int.reduceLT, Int.reduceLE, Int.reduceGT, Int.reduceGE, Nat.reduceLT, Nat.reduceGT, Int.reduceToNat, reduceCtorEq, Nat.reduceBEq, Int.reduceBEq, Int.reduceBNe, Int.reduceEq, Int.reduceNe, decide_true, decide_false, ne0, ne1, ne2, ne3, ne4, ne5, ne6, ne7, ne8, ne9, ne10, ne11])
      refine AC.call (c_next l hl ((valueM l 2 p1).2) hp2 3 (by omega) (by omega) _ _ t (by repeat (first | exact h_same | rw [h_ne (by omega)] | rw [h_dne (by omega)])) (by omega)) ?_
      rintro v H' c3 ⟨rfl, rfl⟩ hcc3
      have hq3 := nextM_lt (l := l) (p := (valueM l 2 p1).2) (n := 3) (by omega)
      have hp3 := nextM_le (l := l) (p := (valueM l 2 p1).2) (n := 3) hp2
      have ne0 : ¬ t = id1 := by omega
      have ne1 : ¬ t = c3 := by omega
      have ne2 : ¬ t = c3 + 1 := by omega
      have ne3 : ¬ id1 = t := by omega
      have ne4 : ¬ id1 = c3 := by omega
      have ne5 : ¬ id1 = c3 + 1 := by omega
      have ne6 : ¬ c3 = t := by omega
      have ne7 : ¬ c3 = id1 := by omega
      have ne8 : ¬ c3 = c3 + 1 := by omega
      have ne9 : ¬ c3 + 1 = t := by omega
      have ne10 : ¬ c3 + 1 = id1 := by omega
      have ne11 : ¬ c3 + 1 = c3 := by omega
      simp only [go_sem, Nat.reduceAdd, Nat.reduceLeDiff, Nat.reduceEqDiff, Nat.reduceMul, Nat.reduceSub, ↓reduceIte, Int.reduceLT, Int.reduceLE, Int.reduceGT, Int.reduceGE, Nat.reduceLT, Nat.reduceGT, Int.reduceToNat, reduceCtorEq, Nat.reduceBEq, Int.reduceBEq, Int.reduceBNe, Int.reduceEq, Int.reduceNe, decide_true, decide_false, ne0, ne1, ne2, ne3, ne4, ne5, ne6, ne7, ne8, ne9, ne10, ne11]
      repeat' ((first | (with_reducible first | refine wr ?_ | refine i_ret ?_ | refine i_skip ?_ | refine i_exit ?_) | ((with_reducible first | refine k_cb ?_ ?_ | refine k_gb ?_ ?_ | refine k_gb' ?_ ?_) <;> (intro hb; try simp only [hb])) | ((with_reducible refine k_eval (b_appx (insC_len2 _) (by omega) (by omega)) ?_))) <;> try simp only [go_sem, Nat.reduceAdd, Nat.reduceLeDiff, Nat.reduceEqDiff, Nat.reduceMul, Nat.reduceSub, ↓reduceIte, Int.reduceLT, Int.reduceLE, Int.reduceGT, Int.reduceGE, Nat.reduceLT, Nat.reduceGT, Int.reduceToNat, reduceCtorEq, Nat.reduceBEq, Int.reduceBEq, Int.reduceBNe, Int.reduceEq, Int.reduceNe, decide_true, decide_false, ne0, ne1, ne2, ne3, ne4, ne5, ne6, ne7, ne8, ne9, ne10, ne11])
      have es : stmtM l 0 base p = stK l (fun _ p => ([], p)) base 0 p1 := by simp only [stmtM]; rw [e0]; try rfl
      rw [es]
      refine v_end (id := c3 + 1) hfr (by omega) (by omega) htc (by first | rfl | simp only [stK, List.length_append, List.length_singleton]) ?_ ?_ fun j h1 h2 => ?_
      · repeat (first | exact h_same | rw [h_ne (by omega)] | rw [h_dne (by omega)])
      · rw [h_same]; simp only [stK, insC_app, insC_one]
      · repeat (first | rfl | rw [h_ne (by omega)] | rw [h_dne (by omega)])
    · have nk : ((14 : Nat) : Int) = 14 := rfl
      simp only [go_sem, Nat.reduceAdd, Nat.reduceLeDiff, Nat.reduceEqDiff, Nat.reduceMul, Nat.reduceSub, ↓reduceIte, Int.reduceLT, Int.reduceLE, Int.reduceGT, Int.reduceGE, Nat.reduceLT, Nat.reduceGT, Int.reduceToNat, reduceCtorEq, Nat.reduceBEq, Int.reduceBEq, Int.reduceBNe, Int.reduceEq, Int.reduceNe, decide_true, decide_false, hdl, nk, Int.reduceGT, Int.reduceBEq, Int.reduceLE, decide_true, decide_false]
      repeat' ((first | (with_reducible first | refine wr ?_ | refine i_ret ?_ | refine i_skip ?_ | refine i_exit ?_) | ((with_reducible first | refine k_cb ?_ ?_ | refine k_gb ?_ ?_ | refine k_gb' ?_ ?_) <;> (intro hb; try simp only [hb]))) <;> try simp only [go_sem, Nat.reduceAdd, Nat.reduceLeDiff, Nat.reduceEqDiff, Nat.reduceMul, Nat.reduceSub, ↓reduceIte, Int.reduceLT, Int.reduceLE, Int.reduceGT, Int.reduceGE, Nat.reduceLT, Nat.reduceGT, Int.reduceToNat, reduceCtorEq, Nat.reduceBEq, Int.reduceBEq, Int.reduceBNe, Int.reduceEq, Int.reduceNe, decide_true, decide_false, hdl, nk, Int.reduceGT, Int.reduceBEq, Int.reduceLE, decide_true, decide_false])
      refine AC.call (c_value l hl 2 (by omega) (p1) hp1 _ _ t (by repeat (first | exact h_same | rw [h_ne (by omega)] | rw [h_dne (by omega)])) (by omega)) ?_
      rintro v H' c2 ⟨id1, ia1, ib1, rfl, rfl⟩ hcc2
      have hb1 := valueM_l2 l (p1)
      have hp2 := valueM_le l 2 (p1) hp1
      have ne0 : ¬ t = id1 := by omega
      have ne1 : ¬ t = c2 := by omega
      have ne2 : ¬ t = c2 + 1 := by omega
      have ne3 : ¬ id1 = t := by omega
      have ne4 : ¬ id1 = c2 := by omega
      have ne5 : ¬ id1 = c2 + 1 := by omega
      have ne6 : ¬ c2 = t := by omega
      have ne7 : ¬ c2 = id1 := by omega
      have ne8 : ¬ c2 = c2 + 1 := by omega
      have ne9 : ¬ c2 + 1 = t := by omega
      have ne10 : ¬ c2 + 1 = id1 := by omega
      have ne11 : ¬ c2 + 1 = c2 := by omega
      simp only [go_sem, Nat.reduceAdd, Nat.reduceLeDiff, Nat.reduceEqDiff, Nat.reduceMul, Nat.reduceSub, ↓reduceIte, Int.reduceLT, Int.reduceLE, Int.reduceGT, Int.reduceGE, Nat.reduceLT, Nat.reduceGT, Int.reduceToNat, reduceCtorEq, Nat.reduceBEq, Int.reduceBEq, Int.reduceBNe, Int.reduceEq, Int.reduceNe, decide_true, decide_false, ne0, ne1, ne2, ne3, ne4, ne5, ne6, ne7, ne8, ne9, ne10, ne11]
      repeat' ((first | (with_reducible first | refine wr ?_ | refine i_ret ?_ | refine i_skip ?_ | refine i_exit ?_) | ((with_reducible first | refine k_cb ?_ ?_ | refine k_gb ?_ ?_ | refine k_gb' ?_ ?_) <;> (intro hb; try simp only [hb])) | ((with_reducible refine k_eval (b_appx (insC_len2 _) (by omega) (by omega)) ?_))) <;> try simp only [go_sem, Nat.reduceAdd, Nat.reduceLeDiff, Nat.reduceEqDiff, Nat.reduceMul, Nat.reduceSub, ↓reduceIte, Int.reduceLT, Int.reduceLE, Int.reduceGT, Int.reduceGE, Nat.reduceLT, Nat.reduceGT, Int.reduceToNat, reduceCtorEq, Nat.reduceBEq, Int.reduceBEq, Int.reduceBNe, Int.reduceEq, Int.reduceNe, decide_true, decide_false, ne0, ne1, ne2, ne3, ne4, ne5, ne6, ne7, ne8, ne9, ne10, ne11])
      refine AC.call (c_next l hl ((valueM l 2 p1).2) hp2 3 (by omega) (by omega) _ _ t (by repeat (first | exact h_same | rw [h_ne (by omega)] | rw [h_dne (by omega)])) (by omega)) ?_
      rintro v H' c3 ⟨rfl, rfl⟩ hcc3
      have hq3 := nextM_lt (l := l) (p := (valueM l 2 p1).2) (n := 3) (by omega)
      have hp3 := nextM_le (l := l) (p := (valueM l 2 p1).2) (n := 3) hp2
      have ne0 : ¬ t = id1 := by omega
      have ne1 : ¬ t = c3 := by omega
      have ne2 : ¬ t = c3 + 1 := by omega
      have ne3 : ¬ id1 = t := by omega
      have ne4 : ¬ id1 = c3 := by omega
      have ne5 : ¬ id1 = c3 + 1 := by omega
      have ne6 : ¬ c3 = t := by omega
      have ne7 : ¬ c3 = id1 := by omega
      have ne8 : ¬ c3 = c3 + 1 := by omega
      have ne9 : ¬ c3 + 1 = t := by omega
      have ne10 : ¬ c3 + 1 = id1 := by omega
      have ne11 : ¬ c3 + 1 = c3 := by omega
      simp only [go_sem, Nat.reduceAdd, Nat.reduceLeDiff, Nat.reduceEqDiff, Nat.reduceMul, Nat.reduceSub, ↓reduceIte, Int.reduceLT, Int.reduceLE, Int.reduceGT, Int.reduceGE, Nat.reduceLT, Nat.reduceGT, Int.reduceToNat, reduceCtorEq, Nat.reduceBEq, Int.reduceBEq, Int.reduceBNe, Int.reduceEq, Int.reduceNe, decide_true, decide_false, ne0, ne1, ne2, ne3, ne4, ne5, ne6, ne7, ne8, ne9, ne10, ne11]
      repeat' ((first | (with_reducible first | refine wr ?_ | refine i_ret ?_ | refine i_skip ?_ | refine i_exit ?_) | ((with_reducible first | refine k_cb ?_ ?_ | refine k_gb ?_ ?_ | refine k_gb' ?_ ?_) <;> (intro hb; try simp only [hb])) | ((with_reducible refine k_eval (b_appx (insC_len2 _) (by omega) (by omega)) ?_))) <;> try simp only [go_sem, Nat.reduceAdd, Nat.reduceLeDiff, Nat.reduceEqDiff, Nat.reduceMul, Nat.reduceSub, ↓reduceIte, Int.reduceLT, Int.reduceLE, Int.reduceGT, Int.reduceGE, Nat.reduceLT, Nat.reduceGT, Int.reduceToNat, reduceCtorEq, Nat.reduceBEq, Int.reduceBEq, Int.reduceBNe, Int.reduceEq, Int.reduceNe, decide_true, decide_false, ne0, ne1, ne2, ne3, ne4, ne5, ne6, ne7, ne8, ne9, ne10, ne11])
      have es : stmtM l 0 base p = stK l (fun _ p => ([], p)) base 0 p1 := by simp only [stmtM]; rw [e0]; try rfl
      rw [es]
      refine v_end (id := c3 + 1) hfr (by omega) (by omega) htc (by first | rfl | simp only [stK, List.length_append, List.length_singleton]) ?_ ?_ fun j h1 h2 => ?_
      · repeat (first | exact h_same | rw [h_ne (by omega)] | rw [h_dne (by omega)])
      · rw [h_same]; simp only [stK, insC_app, insC_one]
      · repeat (first | rfl | rw [h_ne (by omega)] | rw [h_dne (by omega)])
  | succ d ih =>
    intro hd2 base p hbase hp H cc t ht htc
    refine AC.body mixedU isU28 (Nat.le_of_ble_eq_true rfl) fun hfr => ?_
    show IW Tryd.prog 183 u28_1 ⟨argT _, _, _⟩ (rt [.tmp 6] _)
    repeat' ((first | (with_reducible first | refine wr ?_ | refine i_ret ?_ | refine i_skip ?_ | refine i_exit ?_) | ((with_reducible first | refine k_cb ?_ ?_ | refine k_gb ?_ ?_ | refine k_gb' ?_ ?_) <;> (intro hb; try simp only [hb]))) <;> try simp only [go_sem, Nat.reduceAdd, Nat.reduceLeDiff, Nat.reduceEqDiff, Nat.reduceMul, Nat.reduceSub, ↓reduceIte, Int.reduceLT, Int.reduceLE, Int.reduceGT, Int.reduceGE, Nat.reduceLT, Nat.reduceGT, Int.reduceToNat, reduceCtorEq, Nat.reduceBEq, Int.reduceBEq, Int.reduceBNe, Int.reduceEq, Int.reduceNe, decide_true, decide_false])
    refine AC.call (c_next l hl p hp 15 (by omega) (by omega) H cc t ht htc) ?_
    rintro v H' c1 ⟨rfl, rfl⟩ hcc
    have hp1 := nextM_le (n := 15) hp
    have hk := nextM_lt (l := l) (p := p) (n := 15) (by omega)
    have hdl : decide (((d + 1 : Nat) : Int) ≤ 0) = false := decide_eq_false (by omega)
    have hw1 := w64 (n := ((d + 1 : Nat) : Int) - 1) (by omega) (by omega)
    have hw2 : ((d + 1 : Nat) : Int) - 1 = (d : Int) := by omega
    rw [hw2] at hw1
    obtain ⟨k0, p1, e0⟩ : ∃ k0 p1, nextM l p 15 = (k0, p1) := ⟨_, _, rfl⟩
    rw [e0] at hp1 hk ⊢
    simp only at hp1 hk
    have hv : k0 = 1 ∨ k0 = 2 ∨ k0 = 3 ∨ k0 = 4 ∨ k0 = 5 ∨ k0 = 6 ∨ k0 = 7 ∨ k0 = 8 ∨ k0 = 9 ∨ k0 = 10 ∨ k0 = 11 ∨ k0 = 0 ∨ k0 = 12 ∨ k0 = 13 ∨ k0 = 14 := by omega
    rcases hv with rfl | rfl | rfl | rfl | rfl | rfl | rfl | rfl | rfl | rfl | rfl | rfl | rfl | rfl | rfl
    · have nk : ((1 : Nat) : Int) = 1 := rfl
      simp only [go_sem, Nat.reduceAdd, Nat.reduceLeDiff, Nat.reduceEqDiff, Nat.reduceMul, Nat.reduceSub, ↓reduceIte, Int.reduceLT, Int.reduceLE, Int.reduceGT, Int.reduceGE, Nat.reduceLT, Nat.reduceGT, Int.reduceToNat, reduceCtorEq, Nat.reduceBEq, Int.reduceBEq, Int.reduceBNe, Int.reduceEq, Int.reduceNe, decide_true, decide_false, hdl, nk, Int.reduceGT, Int.reduceBEq, Int.reduceLE, decide_true, decide_false, hw2, hw1]
      repeat' ((first | (with_reducible first | refine wr ?_ | refine i_ret ?_ | refine i_skip ?_ | refine i_exit ?_) | ((with_reducible first | refine k_cb ?_ ?_ | refine k_gb ?_ ?_ | refine k_gb' ?_ ?_) <;> (intro hb; try simp only [hb]))) <;> try simp only [go_sem, Nat.reduceAdd, Nat.reduceLeDiff, Nat.reduceEqDiff, Nat.reduceMul, Nat.reduceSub, ↓reduceIte, Int.reduceLT, Int.reduceLE, Int.reduceGT, Int.reduceGE, Nat.reduceLT, Nat.reduceGT, Int.reduceToNat, reduceCtorEq, Nat.reduceBEq, Int.reduceBEq, Int.reduceBNe, Int.reduceEq, Int.reduceNe, decide_true, decide_false, hdl, nk, Int.reduceGT, Int.reduceBEq, Int.reduceLE, decide_true, decide_false, hw2, hw1])
      refine AC.call (c_value l hl 1 (by omega) (p1) hp1 _ _ t (by repeat (first | exact h_same | rw [h_ne (by omega)] | rw [h_dne (by omega)])) (by omega)) ?_
      rintro v H' c2 ⟨id1, ia1, ib1, rfl, rfl⟩ hcc2
      have hb1 := valueM_l1 l (p1)
      have hp2 := valueM_le l 1 (p1) hp1
      have ne0 : ¬ t = id1 := by omega
      have ne1 : ¬ t = c2 := by omega
      have ne2 : ¬ t = c2 + 1 := by omega
      have ne3 : ¬ id1 = t := by omega
      have ne4 : ¬ id1 = c2 := by omega
      have ne5 : ¬ id1 = c2 + 1 := by omega
      have ne6 : ¬ c2 = t := by omega
      have ne7 : ¬ c2 = id1 := by omega
      have ne8 : ¬ c2 = c2 + 1 := by omega
      have ne9 : ¬ c2 + 1 = t := by omega
      have ne10 : ¬ c2 + 1 = id1 := by omega
      have ne11 : ¬ c2 + 1 = c2 := by omega
      simp only [go_sem, Nat.reduceAdd, Nat.reduceLeDiff, Nat.reduceEqDiff, Nat.reduceMul, Nat.reduceSub, ↓reduceIte, Int.reduceLT, Int.reduceLE, Int.reduceGT, Int.reduceGE, Nat.reduceLT, Nat.reduceGT, Int.reduceToNat, reduceCtorEq, Nat.reduceBEq, Int.reduceBEq, Int.reduceBNe, Int.reduceEq, Int.reduceNe, decide_true, decide_false, ne0, ne1, ne2, ne3, ne4, ne5, ne6, ne7, ne8, ne9, ne10, ne11]
      repeat' ((first | (with_reducible first | refine wr ?_ | refine i_ret ?_ | refine i_skip ?_ | refine i_exit ?_) | ((with_reducible first | refine k_cb ?_ ?_ | refine k_gb ?_ ?_ | refine k_gb' ?_ ?_) <;> (intro hb; try simp only [hb])) | ((with_reducible refine k_eval (b_appx (insC_len2 _) (by omega) (by omega)) ?_))) <;> try simp only [go_sem, Nat.reduceAdd, Nat.reduceLeDiff, Nat.reduceEqDiff, Nat.reduceMul, Nat.reduceSub, ↓reduceIte, Int.reduceLT, Int.reduceLE, Int.reduceGT, Int.reduceGE, Nat.reduceLT, Nat.reduceGT, Int.reduceToNat, reduceCtorEq, Nat.reduceBEq, Int.reduceBEq, Int.reduceBNe, Int.reduceEq, Int.reduceNe, decide_true, decide_false, ne0, ne1, ne2, ne3, ne4, ne5, ne6, ne7, ne8, ne9, ne10, ne11])
      have es : stmtM l (d + 1) base p = stK l (stmtM l d) base 1 p1 := by simp only [stmtM]; rw [e0]; try rfl
      rw [es]
      refine v_end (id := c2 + 1) hfr (by omega) (by omega) htc (by first | rfl | simp only [stK, List.length_append, List.length_singleton]) ?_ ?_ fun j h1 h2 => ?_
      · repeat (first | exact h_same | rw [h_ne (by omega)] | rw [h_dne (by omega)])
      · rw [h_same]; simp only [stK, insC_app, insC_one]
      · repeat (first | rfl | rw [h_ne (by omega)] | rw [h_dne (by omega)])
    · have nk : ((2 : Nat) : Int) = 2 := rfl
      simp only [go_sem, Nat.reduceAdd, Nat.reduceLeDiff, Nat.reduceEqDiff, Nat.reduceMul, Nat.reduceSub, ↓reduceIte, Int.reduceLT, Int.reduceLE, Int.reduceGT, Int.reduceGE, Nat.reduceLT, Nat.reduceGT, Int.reduceToNat, reduceCtorEq, Nat.reduceBEq, Int.reduceBEq, Int.reduceBNe, Int.reduceEq, Int.reduceNe, decide_true, decide_false, hdl, nk, Int.reduceGT, Int.reduceBEq, Int.reduceLE, decide_true, decide_false, hw2, hw1]
      repeat' ((first | (with_reducible first | refine wr ?_ | refine i_ret ?_ | refine i_skip ?_ | refine i_exit ?_) | ((with_reducible first | refine k_cb ?_ ?_ | refine k_gb ?_ ?_ | refine k_gb' ?_ ?_) <;> (intro hb; try simp only [hb]))) <;> try simp only [go_sem, Nat.reduceAdd, Nat.reduceLeDiff, Nat.reduceEqDiff, Nat.reduceMul, Nat.reduceSub, ↓reduceIte, Int.reduceLT, Int.reduceLE, Int.reduceGT, Int.reduceGE, Nat.reduceLT, Nat.reduceGT, Int.reduceToNat, reduceCtorEq, Nat.reduceBEq, Int.reduceBEq, Int.reduceBNe, Int.reduceEq, Int.reduceNe, decide_true, decide_false, hdl, nk, Int.reduceGT, Int.reduceBEq, Int.reduceLE, decide_true, decide_false, hw2, hw1])
      refine AC.call (c_next l hl (p1) hp1 3 (by omega) (by omega) _ _ t (by repeat (first | exact h_same | rw [h_ne (by omega)] | rw [h_dne (by omega)])) (by omega)) ?_
      rintro v H' c2 ⟨rfl, rfl⟩ hcc2
      have hq2 := nextM_lt (l := l) (p := p1) (n := 3) (by omega)
      have hp2 := nextM_le (l := l) (p := p1) (n := 3) hp1
      have hadd := w64 (n := 16 + ((nextM l p1 3).1 : Int)) (by omega) (by omega)
      have ne0 : ¬ t = c2 := by omega
      have ne1 : ¬ t = c2 + 1 := by omega
      have ne2 : ¬ c2 = t := by omega
      have ne3 : ¬ c2 = c2 + 1 := by omega
      have ne4 : ¬ c2 + 1 = t := by omega
      have ne5 : ¬ c2 + 1 = c2 := by omega
      simp only [go_sem, Nat.reduceAdd, Nat.reduceLeDiff, Nat.reduceEqDiff, Nat.reduceMul, Nat.reduceSub, ↓reduceIte, Int.reduceLT, Int.reduceLE, Int.reduceGT, Int.reduceGE, Nat.reduceLT, Nat.reduceGT, Int.reduceToNat, reduceCtorEq, Nat.reduceBEq, Int.reduceBEq, Int.reduceBNe, Int.reduceEq, Int.reduceNe, decide_true, decide_false, hadd, ne0, ne1, ne2, ne3, ne4, ne5]
      repeat' ((first | (with_reducible first | refine wr ?_ | refine i_ret ?_ | refine i_skip ?_ | refine i_exit ?_) | ((with_reducible first | refine k_cb ?_ ?_ | refine k_gb ?_ ?_ | refine k_gb' ?_ ?_) <;> (intro hb; try simp only [hb])) | ((with_reducible refine k_eval (b_appx (insC_len2 _) (by omega) (by omega)) ?_))) <;> try simp only [go_sem, Nat.reduceAdd, Nat.reduceLeDiff, Nat.reduceEqDiff, Nat.reduceMul, Nat.reduceSub, ↓reduceIte, Int.reduceLT, Int.reduceLE, Int.reduceGT, Int.reduceGE, Nat.reduceLT, Nat.reduceGT, Int.reduceToNat, reduceCtorEq, Nat.reduceBEq, Int.reduceBEq, Int.reduceBNe, Int.reduceEq, Int.reduceNe, decide_true, decide_false, hadd, ne0, ne1, ne2, ne3, ne4, ne5])
      refine AC.call (c_next l hl ((nextM l p1 3).2) hp2 32 (by omega) (by omega) _ _ t (by repeat (first | exact h_same | rw [h_ne (by omega)] | rw [h_dne (by omega)])) (by omega)) ?_
      rintro v H' c3 ⟨rfl, rfl⟩ hcc3
      have hq3 := nextM_lt (l := l) (p := (nextM l p1 3).2) (n := 32) (by omega)
      have hp3 := nextM_le (l := l) (p := (nextM l p1 3).2) (n := 32) hp2
      have ne0 : ¬ t = c3 := by omega
      have ne1 : ¬ t = c3 + 1 := by omega
      have ne2 : ¬ c3 = t := by omega
      have ne3 : ¬ c3 = c3 + 1 := by omega
      have ne4 : ¬ c3 + 1 = t := by omega
      have ne5 : ¬ c3 + 1 = c3 := by omega
      simp only [go_sem, Nat.reduceAdd, Nat.reduceLeDiff, Nat.reduceEqDiff, Nat.reduceMul, Nat.reduceSub, ↓reduceIte, Int.reduceLT, Int.reduceLE, Int.reduceGT, Int.reduceGE, Nat.reduceLT, Nat.reduceGT, Int.reduceToNat, reduceCtorEq, Nat.reduceBEq, Int.reduceBEq, Int.reduceBNe, Int.reduceEq, Int.reduceNe, decide_true, decide_false, hadd, ne0, ne1, ne2, ne3, ne4, ne5]
      repeat' ((first | (with_reducible first | refine wr ?_ | refine i_ret ?_ | refine i_skip ?_ | refine i_exit ?_) | ((with_reducible first | refine k_cb ?_ ?_ | refine k_gb ?_ ?_ | refine k_gb' ?_ ?_) <;> (intro hb; try simp only [hb])) | ((with_reducible refine k_eval (b_appx (insC_len2 _) (by omega) (by omega)) ?_))) <;> try simp only [go_sem, Nat.reduceAdd, Nat.reduceLeDiff, Nat.reduceEqDiff, Nat.reduceMul, Nat.reduceSub, ↓reduceIte, Int.reduceLT, Int.reduceLE, Int.reduceGT, Int.reduceGE, Nat.reduceLT, Nat.reduceGT, Int.reduceToNat, reduceCtorEq, Nat.reduceBEq, Int.reduceBEq, Int.reduceBNe, Int.reduceEq, Int.reduceNe, decide_true, decide_false, hadd, ne0, ne1, ne2, ne3, ne4, ne5])
      have es : stmtM l (d + 1) base p = stK l (stmtM l d) base 2 p1 := by simp only [stmtM]; rw [e0]; try rfl
      rw [es]
      refine v_end (id := c3) hfr (by omega) (by omega) htc (by first | rfl | simp only [stK, List.length_append, List.length_singleton]) ?_ ?_ fun j h1 h2 => ?_
      · repeat (first | exact h_same | rw [h_ne (by omega)] | rw [h_dne (by omega)])
      · rw [h_same]; simp only [stK, insC_app, insC_one]
      · repeat (first | rfl | rw [h_ne (by omega)] | rw [h_dne (by omega)])
    · have nk : ((3 : Nat) : Int) = 3 := rfl
      simp only [go_sem, Nat.reduceAdd, Nat.reduceLeDiff, Nat.reduceEqDiff, Nat.reduceMul, Nat.reduceSub, ↓reduceIte, Int.reduceLT, Int.reduceLE, Int.reduceGT, Int.reduceGE, Nat.reduceLT, Nat.reduceGT, Int.reduceToNat, reduceCtorEq, Nat.reduceBEq, Int.reduceBEq, Int.reduceBNe, Int.reduceEq, Int.reduceNe, decide_true, decide_false, hdl, nk, Int.reduceGT, Int.reduceBEq, Int.reduceLE, decide_true, decide_false, hw2, hw1]
      repeat' ((first | (with_reducible first | refine wr ?_ | refine i_ret ?_ | refine i_skip ?_ | refine i_exit ?_) | ((with_reducible first | refine k_cb ?_ ?_ | refine k_gb ?_ ?_ | refine k_gb' ?_ ?_) <;> (intro hb; try simp only [hb]))) <;> try simp only [go_sem, Nat.reduceAdd, Nat.reduceLeDiff, Nat.reduceEqDiff, Nat.reduceMul, Nat.reduceSub, ↓reduceIte, Int.reduceLT, Int.reduceLE, Int.reduceGT, Int.reduceGE, Nat.reduceLT, Nat.reduceGT, Int.reduceToNat, reduceCtorEq, Nat.reduceBEq, Int.reduceBEq, Int.reduceBNe, Int.reduceEq, Int.reduceNe, decide_true, decide_false, hdl, nk, Int.reduceGT, Int.reduceBEq, Int.reduceLE, decide_true, decide_false, hw2, hw1])
      refine AC.call (c_value l hl 0 (by omega) (p1) hp1 _ _ t (by repeat (first | exact h_same | rw [h_ne (by omega)] | rw [h_dne (by omega)])) (by omega)) ?_
      rintro v H' c2 ⟨id1, ia1, ib1, rfl, rfl⟩ hcc2
      have hb1 := valueM_l0 l (p1)
      have hp2 := valueM_le l 0 (p1) hp1
      have ne0 : ¬ t = id1 := by omega
      have ne1 : ¬ t = c2 := by omega
      have ne2 : ¬ t = c2 + 1 := by omega
      have ne3 : ¬ id1 = t := by omega
      have ne4 : ¬ id1 = c2 := by omega
      have ne5 : ¬ id1 = c2 + 1 := by omega
      have ne6 : ¬ c2 = t := by omega
      have ne7 : ¬ c2 = id1 := by omega
      have ne8 : ¬ c2 = c2 + 1 := by omega
      have ne9 : ¬ c2 + 1 = t := by omega
      have ne10 : ¬ c2 + 1 = id1 := by omega
      have ne11 : ¬ c2 + 1 = c2 := by omega
      simp only [go_sem, Nat.reduceAdd, Nat.reduceLeDiff, Nat.reduceEqDiff, Nat.reduceMul, Nat.reduceSub, ↓reduceIte, Int.reduceLT, Int.reduceLE, Int.reduceGT, Int.reduceGE, Nat.reduceLT, Nat.reduceGT, Int.reduceToNat, reduceCtorEq, Nat.reduceBEq, Int.reduceBEq, Int.reduceBNe, Int.reduceEq, Int.reduceNe, decide_true, decide_false, ne0, ne1, ne2, ne3, ne4, ne5, ne6, ne7, ne8, ne9, ne10, ne11]
      repeat' ((first | (with_reducible first | refine wr ?_ | refine i_ret ?_ | refine i_skip ?_ | refine i_exit ?_) | ((with_reducible first | refine k_cb ?_ ?_ | refine k_gb ?_ ?_ | refine k_gb' ?_ ?_) <;> (intro hb; try simp only [hb])) | ((with_reducible refine k_eval (b_appx (insC_len2 _) (by omega) (by omega)) ?_))) <;> try simp only [go_sem, Nat.reduceAdd, Nat.reduceLeDiff, Nat.reduceEqDiff, Nat.reduceMul, Nat.reduceSub, ↓reduceIte, Int.reduceLT, Int.reduceLE, Int.reduceGT, Int.reduceGE, Nat.reduceLT, Nat.reduceGT, Int.reduceToNat, reduceCtorEq, Nat.reduceBEq, Int.reduceBEq, Int.reduceBNe, Int.reduceEq, Int.reduceNe, decide_true, decide_false, ne0, ne1, ne2, ne3, ne4, ne5, ne6, ne7, ne8, ne9, ne10, ne11])
      refine AC.call (c_next l hl ((valueM l 0 p1).2) hp2 64 (by omega) (by omega) _ _ t (by repeat (first | exact h_same | rw [h_ne (by omega)] | rw [h_dne (by omega)])) (by omega)) ?_
      rintro v H' c3 ⟨rfl, rfl⟩ hcc3
      have hq3 := nextM_lt (l := l) (p := (valueM l 0 p1).2) (n := 64) (by omega)
      have hp3 := nextM_le (l := l) (p := (valueM l 0 p1).2) (n := 64) hp2
      have ne0 : ¬ t = id1 := by omega
      have ne1 : ¬ t = c3 := by omega
      have ne2 : ¬ t = c3 + 1 := by omega
      have ne3 : ¬ id1 = t := by omega
      have ne4 : ¬ id1 = c3 := by omega
      have ne5 : ¬ id1 = c3 + 1 := by omega
      have ne6 : ¬ c3 = t := by omega
      have ne7 : ¬ c3 = id1 := by omega
      have ne8 : ¬ c3 = c3 + 1 := by omega
      have ne9 : ¬ c3 + 1 = t := by omega
      have ne10 : ¬ c3 + 1 = id1 := by omega
      have ne11 : ¬ c3 + 1 = c3 := by omega
      simp only [go_sem, Nat.reduceAdd, Nat.reduceLeDiff, Nat.reduceEqDiff, Nat.reduceMul, Nat.reduceSub, ↓reduceIte, Int.reduceLT, Int.reduceLE, Int.reduceGT, Int.reduceGE, Nat.reduceLT, Nat.reduceGT, Int.reduceToNat, reduceCtorEq, Nat.reduceBEq, Int.reduceBEq, Int.reduceBNe, Int.reduceEq, Int.reduceNe, decide_true, decide_false, ne0, ne1, ne2, ne3, ne4, ne5, ne6, ne7, ne8, ne9, ne10, ne11]
      repeat' ((first | (with_reducible first | refine wr ?_ | refine i_ret ?_ | refine i_skip ?_ | refine i_exit ?_) | ((with_reducible first | refine k_cb ?_ ?_ | refine k_gb ?_ ?_ | refine k_gb' ?_ ?_) <;> (intro hb; try simp only [hb])) | ((with_reducible refine k_eval (b_appx (insC_len2 _) (by omega) (by omega)) ?_))) <;> try simp only [go_sem, Nat.reduceAdd, Nat.reduceLeDiff, Nat.reduceEqDiff, Nat.reduceMul, Nat.reduceSub, ↓reduceIte, Int.reduceLT, Int.reduceLE, Int.reduceGT, Int.reduceGE, Nat.reduceLT, Nat.reduceGT, Int.reduceToNat, reduceCtorEq, Nat.reduceBEq, Int.reduceBEq, Int.reduceBNe, Int.reduceEq, Int.reduceNe, decide_true, decide_false, ne0, ne1, ne2, ne3, ne4, ne5, ne6, ne7, ne8, ne9, ne10, ne11])
      have es : stmtM l (d + 1) base p = stK l (stmtM l d) base 3 p1 := by simp only [stmtM]; rw [e0]; try rfl
      rw [es]
      refine v_end (id := c3 + 1) hfr (by omega) (by omega) htc (by first | rfl | simp only [stK, List.length_append, List.length_singleton]) ?_ ?_ fun j h1 h2 => ?_
      · repeat (first | exact h_same | rw [h_ne (by omega)] | rw [h_dne (by omega)])
      · rw [h_same]; simp only [stK, insC_app, insC_one]
      · repeat (first | rfl | rw [h_ne (by omega)] | rw [h_dne (by omega)])
    · have nk : ((4 : Nat) : Int) = 4 := rfl
      simp only [go_sem, Nat.reduceAdd, Nat.reduceLeDiff, Nat.reduceEqDiff, Nat.reduceMul, Nat.reduceSub, ↓reduceIte, Int.reduceLT, Int.reduceLE, Int.reduceGT, Int.reduceGE, Nat.reduceLT, Nat.reduceGT, Int.reduceToNat, reduceCtorEq, Nat.reduceBEq, Int.reduceBEq, Int.reduceBNe, Int.reduceEq, Int.reduceNe, decide_true, decide_false, hdl, nk, Int.reduceGT, Int.reduceBEq, Int.reduceLE, decide_true, decide_false, hw2, hw1]
      repeat' ((first | (with_reducible first | refine wr ?_ | refine i_ret ?_ | refine i_skip ?_ | refine i_exit ?_) | ((with_reducible first | refine k_cb ?_ ?_ | refine k_gb ?_ ?_ | refine k_gb' ?_ ?_) <;> (intro hb; try simp only [hb]))) <;> try simp only [go_sem, Nat.reduceAdd, Nat.reduceLeDiff, Nat.reduceEqDiff, Nat.reduceMul, Nat.reduceSub, ↓reduceIte, Int.reduceLT, Int.reduceLE, Int.reduceGT, Int.reduceGE, Nat.reduceLT, Nat.reduceGT, Int.reduceToNat, reduceCtorEq, Nat.reduceBEq, Int.reduceBEq, Int.reduceBNe, Int.reduceEq, Int.reduceNe, decide_true, decide_false, hdl, nk, Int.reduceGT, Int.reduceBEq, Int.reduceLE, decide_true, decide_false, hw2, hw1])
      refine AC.call (c_value l hl 0 (by omega) (p1) hp1 _ _ t (by repeat (first | exact h_same | rw [h_ne (by omega)] | rw [h_dne (by omega)])) (by omega)) ?_
      rintro v H' c2 ⟨id1, ia1, ib1, rfl, rfl⟩ hcc2
      have hb1 := valueM_l0 l (p1)
      have hp2 := valueM_le l 0 (p1) hp1
      have ne0 : ¬ t = id1 := by omega
      have ne1 : ¬ t = c2 := by omega
      have ne2 : ¬ t = c2 + 1 := by omega
      have ne3 : ¬ id1 = t := by omega
      have ne4 : ¬ id1 = c2 := by omega
      have ne5 : ¬ id1 = c2 + 1 := by omega
      have ne6 : ¬ c2 = t := by omega
      have ne7 : ¬ c2 = id1 := by omega
      have ne8 : ¬ c2 = c2 + 1 := by omega
      have ne9 : ¬ c2 + 1 = t := by omega
      have ne10 : ¬ c2 + 1 = id1 := by omega
      have ne11 : ¬ c2 + 1 = c2 := by omega
      simp only [go_sem, Nat.reduceAdd, Nat.reduceLeDiff, Nat.reduceEqDiff, Nat.reduceMul, Nat.reduceSub, ↓reduceIte, Int.reduceLT, Int.reduceLE, Int.reduceGT, Int.reduceGE, Nat.reduceLT, Nat.reduceGT, Int.reduceToNat, reduceCtorEq, Nat.reduceBEq, Int.reduceBEq, Int.reduceBNe, Int.reduceEq, Int.reduceNe, decide_true, decide_false, ne0, ne1, ne2, ne3, ne4, ne5, ne6, ne7, ne8, ne9, ne10, ne11]
      repeat' ((first | (with_reducible first | refine wr ?_ | refine i_ret ?_ | refine i_skip ?_ | refine i_exit ?_) | ((with_reducible first | refine k_cb ?_ ?_ | refine k_gb ?_ ?_ | refine k_gb' ?_ ?_) <;> (intro hb; try simp only [hb])) | ((with_reducible refine k_eval (b_appx (insC_len2 _) (by omega) (by omega)) ?_))) <;> try simp only [go_sem, Nat.reduceAdd, Nat.reduceLeDiff, Nat.reduceEqDiff, Nat.reduceMul, Nat.reduceSub, ↓reduceIte, Int.reduceLT, Int.reduceLE, Int.reduceGT, Int.reduceGE, Nat.reduceLT, Nat.reduceGT, Int.reduceToNat, reduceCtorEq, Nat.reduceBEq, Int.reduceBEq, Int.reduceBNe, Int.reduceEq, Int.reduceNe, decide_true, decide_false, ne0, ne1, ne2, ne3, ne4, ne5, ne6, ne7, ne8, ne9, ne10, ne11])
      refine AC.call (c_value l hl 0 (by omega) ((valueM l 0 p1).2) hp2 _ _ t (by repeat (first | exact h_same | rw [h_ne (by omega)] | rw [h_dne (by omega)])) (by omega)) ?_
      rintro v H' c3 ⟨id2, ia2, ib2, rfl, rfl⟩ hcc3
      have hb2 := valueM_l0 l ((valueM l 0 p1).2)
      have hp3 := valueM_le l 0 ((valueM l 0 p1).2) hp2
      have hl2 := insC_len2 (valueM l 0 ((valueM l 0 p1).2)).1
      have hle2 : (valueM l 0 ((valueM l 0 p1).2)).1.length * 2 ≤ (insC (valueM l 0 ((valueM l 0 p1).2)).1).length := by omega
      have htk := List.take_of_length_le (l := insC (valueM l 0 ((valueM l 0 p1).2)).1) (i := (valueM l 0 ((valueM l 0 p1).2)).1.length * 2) (by omega)
      have ne0 : ¬ t = id1 := by omega
      have ne1 : ¬ t = id2 := by omega
      have ne2 : ¬ t = c3 := by omega
      have ne3 : ¬ t = c3 + 1 := by omega
      have ne4 : ¬ id1 = t := by omega
      have ne5 : ¬ id1 = id2 := by omega
      have ne6 : ¬ id1 = c3 := by omega
      have ne7 : ¬ id1 = c3 + 1 := by omega
      have ne8 : ¬ id2 = t := by omega
      have ne9 : ¬ id2 = id1 := by omega
      have ne10 : ¬ id2 = c3 := by omega
      have ne11 : ¬ id2 = c3 + 1 := by omega
      have ne12 : ¬ c3 = t := by omega
      have ne13 : ¬ c3 = id1 := by omega
      have ne14 : ¬ c3 = id2 := by omega
      have ne15 : ¬ c3 = c3 + 1 := by omega
      have ne16 : ¬ c3 + 1 = t := by omega
      have ne17 : ¬ c3 + 1 = id1 := by omega
      have ne18 : ¬ c3 + 1 = id2 := by omega
      have ne19 : ¬ c3 + 1 = c3 := by omega
      simp only [go_sem, Nat.reduceAdd, Nat.reduceLeDiff, Nat.reduceEqDiff, Nat.reduceMul, Nat.reduceSub, ↓reduceIte, Int.reduceLT, Int.reduceLE, Int.reduceGT, Int.reduceGE, Nat.reduceLT, Nat.reduceGT, Int.reduceToNat, reduceCtorEq, Nat.reduceBEq, Int.reduceBEq, Int.reduceBNe, Int.reduceEq, Int.reduceNe, decide_true, decide_false, hle2, htk, ne0, ne1, ne2, ne3, ne4, ne5, ne6, ne7, ne8, ne9, ne10, ne11, ne12, ne13, ne14, ne15, ne16, ne17, ne18, ne19]
      repeat' ((first | (with_reducible first | refine wr ?_ | refine i_ret ?_ | refine i_skip ?_ | refine i_exit ?_) | ((with_reducible first | refine k_cb ?_ ?_ | refine k_gb ?_ ?_ | refine k_gb' ?_ ?_) <;> (intro hb; try simp only [hb])) | ((with_reducible refine k_eval (b_appx (insC_len2 _) (by omega) (by omega)) ?_))) <;> try simp only [go_sem, Nat.reduceAdd, Nat.reduceLeDiff, Nat.reduceEqDiff, Nat.reduceMul, Nat.reduceSub, ↓reduceIte, Int.reduceLT, Int.reduceLE, Int.reduceGT, Int.reduceGE, Nat.reduceLT, Nat.reduceGT, Int.reduceToNat, reduceCtorEq, Nat.reduceBEq, Int.reduceBEq, Int.reduceBNe, Int.reduceEq, Int.reduceNe, decide_true, decide_false, hle2, htk, ne0, ne1, ne2, ne3, ne4, ne5, ne6, ne7, ne8, ne9, ne10, ne11, ne12, ne13, ne14, ne15, ne16, ne17, ne18, ne19])
      refine AC.call (c_next l hl ((valueM l 0 ((valueM l 0 p1).2)).2) hp3 64 (by omega) (by omega) _ _ t (by repeat (first | exact h_same | rw [h_ne (by omega)] | rw [h_dne (by omega)])) (by omega)) ?_
      rintro v H' c4 ⟨rfl, rfl⟩ hcc4
      have hq4 := nextM_lt (l := l) (p := (valueM l 0 ((valueM l 0 p1).2)).2) (n := 64) (by omega)
      have hp4 := nextM_le (l := l) (p := (valueM l 0 ((valueM l 0 p1).2)).2) (n := 64) hp3
      have hl3 := insL2 (valueM l 0 p1).1 (valueM l 0 ((valueM l 0 p1).2)).1
      have ne0 : ¬ t = c3 := by omega
      have ne1 : ¬ t = c4 := by omega
      have ne2 : ¬ t = c4 + 1 := by omega
      have ne3 : ¬ c3 = t := by omega
      have ne4 : ¬ c3 = c4 := by omega
      have ne5 : ¬ c3 = c4 + 1 := by omega
      have ne6 : ¬ c4 = t := by omega
      have ne7 : ¬ c4 = c3 := by omega
      have ne8 : ¬ c4 = c4 + 1 := by omega
      have ne9 : ¬ c4 + 1 = t := by omega
      have ne10 : ¬ c4 + 1 = c3 := by omega
      have ne11 : ¬ c4 + 1 = c4 := by omega
      simp only [go_sem, Nat.reduceAdd, Nat.reduceLeDiff, Nat.reduceEqDiff, Nat.reduceMul, Nat.reduceSub, ↓reduceIte, Int.reduceLT, Int.reduceLE, Int.reduceGT, Int.reduceGE, Nat.reduceLT, Nat.reduceGT, Int.reduceToNat, reduceCtorEq, Nat.reduceBEq, Int.reduceBEq, Int.reduceBNe, Int.reduceEq, Int.reduceNe, decide_true, decide_false, ne0, ne1, ne2, ne3, ne4, ne5, ne6, ne7, ne8, ne9, ne10, ne11]
      repeat' ((first | (with_reducible first | refine wr ?_ | refine i_ret ?_ | refine i_skip ?_ | refine i_exit ?_) | ((with_reducible first | refine k_cb ?_ ?_ | refine k_gb ?_ ?_ | refine k_gb' ?_ ?_) <;> (intro hb; try simp only [hb])) | ((with_reducible refine k_eval (b_appx (insC_len2 _) (by omega) (by omega)) ?_)) | ((with_reducible refine k_eval (b_appx hl3 (by omega) (by omega)) ?_))) <;> try simp only [go_sem, Nat.reduceAdd, Nat.reduceLeDiff, Nat.reduceEqDiff, Nat.reduceMul, Nat.reduceSub, ↓reduceIte, Int.reduceLT, Int.reduceLE, Int.reduceGT, Int.reduceGE, Nat.reduceLT, Nat.reduceGT, Int.reduceToNat, reduceCtorEq, Nat.reduceBEq, Int.reduceBEq, Int.reduceBNe, Int.reduceEq, Int.reduceNe, decide_true, decide_false, ne0, ne1, ne2, ne3, ne4, ne5, ne6, ne7, ne8, ne9, ne10, ne11])
      have es : stmtM l (d + 1) base p = stK l (stmtM l d) base 4 p1 := by simp only [stmtM]; rw [e0]; try rfl
      rw [es]
      refine v_end (id := c4 + 1) hfr (by omega) (by omega) htc (by first | rfl | simp only [stK, List.length_append, List.length_singleton]) ?_ ?_ fun j h1 h2 => ?_
      · repeat (first | exact h_same | rw [h_ne (by omega)] | rw [h_dne (by omega)])
      · rw [h_same]; simp only [stK, insC_app, insC_one]
      · repeat (first | rfl | rw [h_ne (by omega)] | rw [h_dne (by omega)])
    · have nk : ((5 : Nat) : Int) = 5 := rfl
      simp only [go_sem, Nat.reduceAdd, Nat.reduceLeDiff, Nat.reduceEqDiff, Nat.reduceMul, Nat.reduceSub, ↓reduceIte, Int.reduceLT, Int.reduceLE, Int.reduceGT, Int.reduceGE, Nat.reduceLT, Nat.reduceGT, Int.reduceToNat, reduceCtorEq, Nat.reduceBEq, Int.reduceBEq, Int.reduceBNe, Int.reduceEq, Int.reduceNe, decide_true, decide_false, hdl, nk, Int.reduceGT, Int.reduceBEq, Int.reduceLE, decide_true, decide_false, hw2, hw1]
      repeat' ((first | (with_reducible first | refine wr ?_ | refine i_ret ?_ | refine i_skip ?_ | refine i_exit ?_) | ((with_reducible first | refine k_cb ?_ ?_ | refine k_gb ?_ ?_ | refine k_gb' ?_ ?_) <;> (intro hb; try simp only [hb]))) <;> try simp only [go_sem, Nat.reduceAdd, Nat.reduceLeDiff, Nat.reduceEqDiff, Nat.reduceMul, Nat.reduceSub, ↓reduceIte, Int.reduceLT, Int.reduceLE, Int.reduceGT, Int.reduceGE, Nat.reduceLT, Nat.reduceGT, Int.reduceToNat, reduceCtorEq, Nat.reduceBEq, Int.reduceBEq, Int.reduceBNe, Int.reduceEq, Int.reduceNe, decide_true, decide_false, hdl, nk, Int.reduceGT, Int.reduceBEq, Int.reduceLE, decide_true, decide_false, hw2, hw1])
      refine AC.call (c_value l hl 1 (by omega) (p1) hp1 _ _ t (by repeat (first | exact h_same | rw [h_ne (by omega)] | rw [h_dne (by omega)])) (by omega)) ?_
      rintro v H' c2 ⟨id1, ia1, ib1, rfl, rfl⟩ hcc2
      have hb1 := valueM_l1 l (p1)
      have hp2 := valueM_le l 1 (p1) hp1
      have ne0 : ¬ t = id1 := by omega
      have ne1 : ¬ t = c2 := by omega
      have ne2 : ¬ t = c2 + 1 := by omega
      have ne3 : ¬ id1 = t := by omega
      have ne4 : ¬ id1 = c2 := by omega
      have ne5 : ¬ id1 = c2 + 1 := by omega
      have ne6 : ¬ c2 = t := by omega
      have ne7 : ¬ c2 = id1 := by omega
      have ne8 : ¬ c2 = c2 + 1 := by omega
      have ne9 : ¬ c2 + 1 = t := by omega
      have ne10 : ¬ c2 + 1 = id1 := by omega
      have ne11 : ¬ c2 + 1 = c2 := by omega
      simp only [go_sem, Nat.reduceAdd, Nat.reduceLeDiff, Nat.reduceEqDiff, Nat.reduceMul, Nat.reduceSub, ↓reduceIte, Int.reduceLT, Int.reduceLE, Int.reduceGT, Int.reduceGE, Nat.reduceLT, Nat.reduceGT, Int.reduceToNat, reduceCtorEq, Nat.reduceBEq, Int.reduceBEq, Int.reduceBNe, Int.reduceEq, Int.reduceNe, decide_true, decide_false, ne0, ne1, ne2, ne3, ne4, ne5, ne6, ne7, ne8, ne9, ne10, ne11]
      repeat' ((first | (with_reducible first | refine wr ?_ | refine i_ret ?_ | refine i_skip ?_ | refine i_exit ?_) | ((with_reducible first | refine k_cb ?_ ?_ | refine k_gb ?_ ?_ | refine k_gb' ?_ ?_) <;> (intro hb; try simp only [hb])) | ((with_reducible refine k_eval (b_appx (insC_len2 _) (by omega) (by omega)) ?_))) <;> try simp only [go_sem, Nat.reduceAdd, Nat.reduceLeDiff, Nat.reduceEqDiff, Nat.reduceMul, Nat.reduceSub, ↓reduceIte, Int.reduceLT, Int.reduceLE, Int.reduceGT, Int.reduceGE, Nat.reduceLT, Nat.reduceGT, Int.reduceToNat, reduceCtorEq, Nat.reduceBEq, Int.reduceBEq, Int.reduceBNe, Int.reduceEq, Int.reduceNe, decide_true, decide_false, ne0, ne1, ne2, ne3, ne4, ne5, ne6, ne7, ne8, ne9, ne10, ne11])
      refine AC.call (c_next l hl ((valueM l 1 p1).2) hp2 2 (by omega) (by omega) _ _ t (by repeat (first | exact h_same | rw [h_ne (by omega)] | rw [h_dne (by omega)])) (by omega)) ?_
      rintro v H' c3 ⟨rfl, rfl⟩ hcc3
      have hq3 := nextM_lt (l := l) (p := (valueM l 1 p1).2) (n := 2) (by omega)
      have hp3 := nextM_le (l := l) (p := (valueM l 1 p1).2) (n := 2) hp2
      have ne0 : ¬ t = id1 := by omega
      have ne1 : ¬ t = c3 := by omega
      have ne2 : ¬ t = c3 + 1 := by omega
      have ne3 : ¬ id1 = t := by omega
      have ne4 : ¬ id1 = c3 := by omega
      have ne5 : ¬ id1 = c3 + 1 := by omega
      have ne6 : ¬ c3 = t := by omega
      have ne7 : ¬ c3 = id1 := by omega
      have ne8 : ¬ c3 = c3 + 1 := by omega
      have ne9 : ¬ c3 + 1 = t := by omega
      have ne10 : ¬ c3 + 1 = id1 := by omega
      have ne11 : ¬ c3 + 1 = c3 := by omega
      simp only [go_sem, Nat.reduceAdd, Nat.reduceLeDiff, Nat.reduceEqDiff, Nat.reduceMul, Nat.reduceSub, ↓reduceIte, Int.reduceLT, Int.reduceLE, Int.reduceGT, Int.reduceGE, Nat.reduceLT, Nat.reduceGT, Int.reduceToNat, reduceCtorEq, Nat.reduceBEq, Int.reduceBEq, Int.reduceBNe, Int.reduceEq, Int.reduceNe, decide_true, decide_false, ne0, ne1, ne2, ne3, ne4, ne5, ne6, ne7, ne8, ne9, ne10, ne11]
      repeat' ((first | (with_reducible first | refine wr ?_ | refine i_ret ?_ | refine i_skip ?_ | refine i_exit ?_) | ((with_reducible first | refine k_cb ?_ ?_ | refine k_gb ?_ ?_ | refine k_gb' ?_ ?_) <;> (intro hb; try simp only [hb])) | ((with_reducible refine k_eval (b_appx (insC_len2 _) (by omega) (by omega)) ?_))) <;> try simp only [go_sem, Nat.reduceAdd, Nat.reduceLeDiff, Nat.reduceEqDiff, Nat.reduceMul, Nat.reduceSub, ↓reduceIte, Int.reduceLT, Int.reduceLE, Int.reduceGT, Int.reduceGE, Nat.reduceLT, Nat.reduceGT, Int.reduceToNat, reduceCtorEq, Nat.reduceBEq, Int.reduceBEq, Int.reduceBNe, Int.reduceEq, Int.reduceNe, decide_true, decide_false, ne0, ne1, ne2, ne3, ne4, ne5, ne6, ne7, ne8, ne9, ne10, ne11])
      have es : stmtM l (d + 1) base p = stK l (stmtM l d) base 5 p1 := by simp only [stmtM]; rw [e0]; try rfl
      rw [es]
      refine v_end (id := c3 + 1) hfr (by omega) (by omega) htc (by first | rfl | simp only [stK, List.length_append, List.length_singleton]) ?_ ?_ fun j h1 h2 => ?_
      · repeat (first | exact h_same | rw [h_ne (by omega)] | rw [h_dne (by omega)])
      · rw [h_same]; simp only [stK, insC_app, insC_one]
      · repeat (first | rfl | rw [h_ne (by omega)] | rw [h_dne (by omega)])
    · have nk : ((6 : Nat) : Int) = 6 := rfl
      simp only [go_sem, Nat.reduceAdd, Nat.reduceLeDiff, Nat.reduceEqDiff, Nat.reduceMul, Nat.reduceSub, ↓reduceIte, Int.reduceLT, Int.reduceLE, Int.reduceGT, Int.reduceGE, Nat.reduceLT, Nat.reduceGT, Int.reduceToNat, reduceCtorEq, Nat.reduceBEq, Int.reduceBEq, Int.reduceBNe, Int.reduceEq, Int.reduceNe, decide_true, decide_false, hdl, nk, Int.reduceGT, Int.reduceBEq, Int.reduceLE, decide_true, decide_false, hw2, hw1]
      repeat' ((first | (with_reducible first | refine wr ?_ | refine i_ret ?_ | refine i_skip ?_ | refine i_exit ?_) | ((with_reducible first | refine k_cb ?_ ?_ | refine k_gb ?_ ?_ | refine k_gb' ?_ ?_) <;> (intro hb; try simp only [hb]))) <;> try simp only [go_sem, Nat.reduceAdd, Nat.reduceLeDiff, Nat.reduceEqDiff, Nat.reduceMul, Nat.reduceSub, ↓reduceIte, Int.reduceLT, Int.reduceLE, Int.reduceGT, Int.reduceGE, Nat.reduceLT, Nat.reduceGT, Int.reduceToNat, reduceCtorEq, Nat.reduceBEq, Int.reduceBEq, Int.reduceBNe, Int.reduceEq, Int.reduceNe, decide_true, decide_false, hdl, nk, Int.reduceGT, Int.reduceBEq, Int.reduceLE, decide_true, decide_false, hw2, hw1])
      refine AC.call (c_next l hl (p1) hp1 2 (by omega) (by omega) _ _ t (by repeat (first | exact h_same | rw [h_ne (by omega)] | rw [h_dne (by omega)])) (by omega)) ?_
      rintro v H' c2 ⟨rfl, rfl⟩ hcc2
      have hq2 := nextM_lt (l := l) (p := p1) (n := 2) (by omega)
      have hp2 := nextM_le (l := l) (p := p1) (n := 2) hp1
      have ne0 : ¬ t = c2 := by omega
      have ne1 : ¬ t = c2 + 1 := by omega
      have ne2 : ¬ c2 = t := by omega
      have ne3 : ¬ c2 = c2 + 1 := by omega
      have ne4 : ¬ c2 + 1 = t := by omega
      have ne5 : ¬ c2 + 1 = c2 := by omega
      simp only [go_sem, Nat.reduceAdd, Nat.reduceLeDiff, Nat.reduceEqDiff, Nat.reduceMul, Nat.reduceSub, ↓reduceIte, Int.reduceLT, Int.reduceLE, Int.reduceGT, Int.reduceGE, Nat.reduceLT, Nat.reduceGT, Int.reduceToNat, reduceCtorEq, Nat.reduceBEq, Int.reduceBEq, Int.reduceBNe, Int.reduceEq, Int.reduceNe, decide_true, decide_false, ne0, ne1, ne2, ne3, ne4, ne5]
      repeat' ((first | (with_reducible first | refine wr ?_ | refine i_ret ?_ | refine i_skip ?_ | refine i_exit ?_) | ((with_reducible first | refine k_cb ?_ ?_ | refine k_gb ?_ ?_ | refine k_gb' ?_ ?_) <;> (intro hb; try simp only [hb])) | ((with_reducible refine k_eval (b_appx (insC_len2 _) (by omega) (by omega)) ?_))) <;> try simp only [go_sem, Nat.reduceAdd, Nat.reduceLeDiff, Nat.reduceEqDiff, Nat.reduceMul, Nat.reduceSub, ↓reduceIte, Int.reduceLT, Int.reduceLE, Int.reduceGT, Int.reduceGE, Nat.reduceLT, Nat.reduceGT, Int.reduceToNat, reduceCtorEq, Nat.reduceBEq, Int.reduceBEq, Int.reduceBNe, Int.reduceEq, Int.reduceNe, decide_true, decide_false, ne0, ne1, ne2, ne3, ne4, ne5])
      have es : stmtM l (d + 1) base p = stK l (stmtM l d) base 6 p1 := by simp only [stmtM]; rw [e0]; try rfl
      rw [es]
      refine v_end (id := c2) hfr (by omega) (by omega) htc (by first | rfl | simp only [stK, List.length_append, List.length_singleton]) ?_ ?_ fun j h1 h2 => ?_
      · repeat (first | exact h_same | rw [h_ne (by omega)] | rw [h_dne (by omega)])
      · rw [h_same]; simp only [stK, insC_app, insC_one]
      · repeat (first | rfl | rw [h_ne (by omega)] | rw [h_dne (by omega)])
    · have nk : ((7 : Nat) : Int) = 7 := rfl
      simp only [go_sem, Nat.reduceAdd, Nat.reduceLeDiff, Nat.reduceEqDiff, Nat.reduceMul, Nat.reduceSub, ↓reduceIte, Int.reduceLT, Int.reduceLE, Int.reduceGT, Int.reduceGE, Nat.reduceLT, Nat.reduceGT, Int.reduceToNat, reduceCtorEq, Nat.reduceBEq, Int.reduceBEq, Int.reduceBNe, Int.reduceEq, Int.reduceNe, decide_true, decide_false, hdl, nk, Int.reduceGT, Int.reduceBEq, Int.reduceLE, decide_true, decide_false, hw2, hw1]
      repeat' ((first | (with_reducible first | refine wr ?_ | refine i_ret ?_ | refine i_skip ?_ | refine i_exit ?_) | ((with_reducible first | refine k_cb ?_ ?_ | refine k_gb ?_ ?_ | refine k_gb' ?_ ?_) <;> (intro hb; try simp only [hb]))) <;> try simp only [go_sem, Nat.reduceAdd, Nat.reduceLeDiff, Nat.reduceEqDiff, Nat.reduceMul, Nat.reduceSub, ↓reduceIte, Int.reduceLT, Int.reduceLE, Int.reduceGT, Int.reduceGE, Nat.reduceLT, Nat.reduceGT, Int.reduceToNat, reduceCtorEq, Nat.reduceBEq, Int.reduceBEq, Int.reduceBNe, Int.reduceEq, Int.reduceNe, decide_true, decide_false, hdl, nk, Int.reduceGT, Int.reduceBEq, Int.reduceLE, decide_true, decide_false, hw2, hw1])
      refine AC.call (c_next l hl (p1) hp1 2 (by omega) (by omega) _ _ t (by repeat (first | exact h_same | rw [h_ne (by omega)] | rw [h_dne (by omega)])) (by omega)) ?_
      rintro v H' c2 ⟨rfl, rfl⟩ hcc2
      have hq2 := nextM_lt (l := l) (p := p1) (n := 2) (by omega)
      have hp2 := nextM_le (l := l) (p := p1) (n := 2) hp1
      have hadd := w64 (n := 23 + ((nextM l p1 2).1 : Int)) (by omega) (by omega)
      have ne0 : ¬ t = c2 := by omega
      have ne1 : ¬ t = c2 + 1 := by omega
      have ne2 : ¬ c2 = t := by omega
      have ne3 : ¬ c2 = c2 + 1 := by omega
      have ne4 : ¬ c2 + 1 = t := by omega
      have ne5 : ¬ c2 + 1 = c2 := by omega
      simp only [go_sem, Nat.reduceAdd, Nat.reduceLeDiff, Nat.reduceEqDiff, Nat.reduceMul, Nat.reduceSub, ↓reduceIte, Int.reduceLT, Int.reduceLE, Int.reduceGT, Int.reduceGE, Nat.reduceLT, Nat.reduceGT, Int.reduceToNat, reduceCtorEq, Nat.reduceBEq, Int.reduceBEq, Int.reduceBNe, Int.reduceEq, Int.reduceNe, decide_true, decide_false, hadd, ne0, ne1, ne2, ne3, ne4, ne5]
      repeat' ((first | (with_reducible first | refine wr ?_ | refine i_ret ?_ | refine i_skip ?_ | refine i_exit ?_) | ((with_reducible first | refine k_cb ?_ ?_ | refine k_gb ?_ ?_ | refine k_gb' ?_ ?_) <;> (intro hb; try simp only [hb])) | ((with_reducible refine k_eval (b_appx (insC_len2 _) (by omega) (by omega)) ?_))) <;> try simp only [go_sem, Nat.reduceAdd, Nat.reduceLeDiff, Nat.reduceEqDiff, Nat.reduceMul, Nat.reduceSub, ↓reduceIte, Int.reduceLT, Int.reduceLE, Int.reduceGT, Int.reduceGE, Nat.reduceLT, Nat.reduceGT, Int.reduceToNat, reduceCtorEq, Nat.reduceBEq, Int.reduceBEq, Int.reduceBNe, Int.reduceEq, Int.reduceNe, decide_true, decide_false, hadd, ne0, ne1, ne2, ne3, ne4, ne5])
      refine AC.call (c_next l hl ((nextM l p1 2).2) hp2 2 (by omega) (by omega) _ _ t (by repeat (first | exact h_same | rw [h_ne (by omega)] | rw [h_dne (by omega)])) (by omega)) ?_
      rintro v H' c3 ⟨rfl, rfl⟩ hcc3
      have hq3 := nextM_lt (l := l) (p := (nextM l p1 2).2) (n := 2) (by omega)
      have hp3 := nextM_le (l := l) (p := (nextM l p1 2).2) (n := 2) hp2
      have ne0 : ¬ t = c3 := by omega
      have ne1 : ¬ t = c3 + 1 := by omega
      have ne2 : ¬ c3 = t := by omega
      have ne3 : ¬ c3 = c3 + 1 := by omega
      have ne4 : ¬ c3 + 1 = t := by omega
      have ne5 : ¬ c3 + 1 = c3 := by omega
      simp only [go_sem, Nat.reduceAdd, Nat.reduceLeDiff, Nat.reduceEqDiff, Nat.reduceMul, Nat.reduceSub, ↓reduceIte, Int.reduceLT, Int.reduceLE, Int.reduceGT, Int.reduceGE, Nat.reduceLT, Nat.reduceGT, Int.reduceToNat, reduceCtorEq, Nat.reduceBEq, Int.reduceBEq, Int.reduceBNe, Int.reduceEq, Int.reduceNe, decide_true, decide_false, hadd, ne0, ne1, ne2, ne3, ne4, ne5]
      repeat' ((first | (with_reducible first | refine wr ?_ | refine i_ret ?_ | refine i_skip ?_ | refine i_exit ?_) | ((with_reducible first | refine k_cb ?_ ?_ | refine k_gb ?_ ?_ | refine k_gb' ?_ ?_) <;> (intro hb; try simp only [hb])) | ((with_reducible refine k_eval (b_appx (insC_len2 _) (by omega) (by omega)) ?_))) <;> try simp only [go_sem, Nat.reduceAdd, Nat.reduceLeDiff, Nat.reduceEqDiff, Nat.reduceMul, Nat.reduceSub, ↓reduceIte, Int.reduceLT, Int.reduceLE, Int.reduceGT, Int.reduceGE, Nat.reduceLT, Nat.reduceGT, Int.reduceToNat, reduceCtorEq, Nat.reduceBEq, Int.reduceBEq, Int.reduceBNe, Int.reduceEq, Int.reduceNe, decide_true, decide_false, hadd, ne0, ne1, ne2, ne3, ne4, ne5])
      have es : stmtM l (d + 1) base p = stK l (stmtM l d) base 7 p1 := by simp only [stmtM]; rw [e0]; try rfl
      rw [es]
      refine v_end (id := c3) hfr (by omega) (by omega) htc (by first | rfl | simp only [stK, List.length_append, List.length_singleton]) ?_ ?_ fun j h1 h2 => ?_
      · repeat (first | exact h_same | rw [h_ne (by omega)] | rw [h_dne (by omega)])
      · rw [h_same]; simp only [stK, insC_app, insC_one]
      · repeat (first | rfl | rw [h_ne (by omega)] | rw [h_dne (by omega)])
    · have nk : ((8 : Nat) : Int) = 8 := rfl
      simp only [go_sem, Nat.reduceAdd, Nat.reduceLeDiff, Nat.reduceEqDiff, Nat.reduceMul, Nat.reduceSub, ↓reduceIte, Int.reduceLT, Int.reduceLE, Int.reduceGT, Int.reduceGE, Nat.reduceLT, Nat.reduceGT, Int.reduceToNat, reduceCtorEq, Nat.reduceBEq, Int.reduceBEq, Int.reduceBNe, Int.reduceEq, Int.reduceNe, decide_true, decide_false, hdl, nk, Int.reduceGT, Int.reduceBEq, Int.reduceLE, decide_true, decide_false, hw2, hw1]
      repeat' ((first | (with_reducible first | refine wr ?_ | refine i_ret ?_ | refine i_skip ?_ | refine i_exit ?_) | ((with_reducible first | refine k_cb ?_ ?_ | refine k_gb ?_ ?_ | refine k_gb' ?_ ?_) <;> (intro hb; try simp only [hb]))) <;> try simp only [go_sem, Nat.reduceAdd, Nat.reduceLeDiff, Nat.reduceEqDiff, Nat.reduceMul, Nat.reduceSub, ↓reduceIte, Int.reduceLT, Int.reduceLE, Int.reduceGT, Int.reduceGE, Nat.reduceLT, Nat.reduceGT, Int.reduceToNat, reduceCtorEq, Nat.reduceBEq, Int.reduceBEq, Int.reduceBNe, Int.reduceEq, Int.reduceNe, decide_true, decide_false, hdl, nk, Int.reduceGT, Int.reduceBEq, Int.reduceLE, decide_true, decide_false, hw2, hw1])
      refine AC.call (c_next l hl (p1) hp1 2 (by omega) (by omega) _ _ t (by repeat (first | exact h_same | rw [h_ne (by omega)] | rw [h_dne (by omega)])) (by omega)) ?_
      rintro v H' c2 ⟨rfl, rfl⟩ hcc2
      have hq2 := nextM_lt (l := l) (p := p1) (n := 2) (by omega)
      have hp2 := nextM_le (l := l) (p := p1) (n := 2) hp1
      have ne0 : ¬ t = c2 := by omega
      have ne1 : ¬ t = c2 + 1 := by omega
      have ne2 : ¬ c2 = t := by omega
      have ne3 : ¬ c2 = c2 + 1 := by omega
      have ne4 : ¬ c2 + 1 = t := by omega
      have ne5 : ¬ c2 + 1 = c2 := by omega
      simp only [go_sem, Nat.reduceAdd, Nat.reduceLeDiff, Nat.reduceEqDiff, Nat.reduceMul, Nat.reduceSub, ↓reduceIte, Int.reduceLT, Int.reduceLE, Int.reduceGT, Int.reduceGE, Nat.reduceLT, Nat.reduceGT, Int.reduceToNat, reduceCtorEq, Nat.reduceBEq, Int.reduceBEq, Int.reduceBNe, Int.reduceEq, Int.reduceNe, decide_true, decide_false, ne0, ne1, ne2, ne3, ne4, ne5]
      repeat' ((first | (with_reducible first | refine wr ?_ | refine i_ret ?_ | refine i_skip ?_ | refine i_exit ?_) | ((with_reducible first | refine k_cb ?_ ?_ | refine k_gb ?_ ?_ | refine k_gb' ?_ ?_) <;> (intro hb; try simp only [hb])) | ((with_reducible refine k_eval (b_appx (insC_len2 _) (by omega) (by omega)) ?_))) <;> try simp only [go_sem, Nat.reduceAdd, Nat.reduceLeDiff, Nat.reduceEqDiff, Nat.reduceMul, Nat.reduceSub, ↓reduceIte, Int.reduceLT, Int.reduceLE, Int.reduceGT, Int.reduceGE, Nat.reduceLT, Nat.reduceGT, Int.reduceToNat, reduceCtorEq, Nat.reduceBEq, Int.reduceBEq, Int.reduceBNe, Int.reduceEq, Int.reduceNe, decide_true, decide_false, ne0, ne1, ne2, ne3, ne4, ne5])
      have es : stmtM l (d + 1) base p = stK l (stmtM l d) base 8 p1 := by simp only [stmtM]; rw [e0]; try rfl
      rw [es]
      refine v_end (id := c2) hfr (by omega) (by omega) htc (by first | rfl | simp only [stK, List.length_append, List.length_singleton]) ?_ ?_ fun j h1 h2 => ?_
      · repeat (first | exact h_same | rw [h_ne (by omega)] | rw [h_dne (by omega)])
      · rw [h_same]; simp only [stK, insC_app, insC_one]
      · repeat (first | rfl | rw [h_ne (by omega)] | rw [h_dne (by omega)])
    · have nk : ((9 : Nat) : Int) = 9 := rfl
      simp only [go_sem, Nat.reduceAdd, Nat.reduceLeDiff, Nat.reduceEqDiff, Nat.reduceMul, Nat.reduceSub, ↓reduceIte, Int.reduceLT, Int.reduceLE, Int.reduceGT, Int.reduceGE, Nat.reduceLT, Nat.reduceGT, Int.reduceToNat, reduceCtorEq, Nat.reduceBEq, Int.reduceBEq, Int.reduceBNe, Int.reduceEq, Int.reduceNe, decide_true, decide_false, hdl, nk, Int.reduceGT, Int.reduceBEq, Int.reduceLE, decide_true, decide_false, hw2, hw1]
      repeat' ((first | (with_reducible first | refine wr ?_ | refine i_ret ?_ | refine i_skip ?_ | refine i_exit ?_) | ((with_reducible first | refine k_cb ?_ ?_ | refine k_gb ?_ ?_ | refine k_gb' ?_ ?_) <;> (intro hb; try simp only [hb]))) <;> try simp only [go_sem, Nat.reduceAdd, Nat.reduceLeDiff, Nat.reduceEqDiff, Nat.reduceMul, Nat.reduceSub, ↓reduceIte, Int.reduceLT, Int.reduceLE, Int.reduceGT, Int.reduceGE, Nat.reduceLT, Nat.reduceGT, Int.reduceToNat, reduceCtorEq, Nat.reduceBEq, Int.reduceBEq, Int.reduceBNe, Int.reduceEq, Int.reduceNe, decide_true, decide_false, hdl, nk, Int.reduceGT, Int.reduceBEq, Int.reduceLE, decide_true, decide_false, hw2, hw1])
      refine AC.call (c_next l hl (p1) hp1 3 (by omega) (by omega) _ _ t (by repeat (first | exact h_same | rw [h_ne (by omega)] | rw [h_dne (by omega)])) (by omega)) ?_
      rintro v H' c2 ⟨rfl, rfl⟩ hcc2
      have hq2 := nextM_lt (l := l) (p := p1) (n := 3) (by omega)
      have hp2 := nextM_le (l := l) (p := p1) (n := 3) hp1
      have hadd := w64 (n := 26 + ((nextM l p1 3).1 : Int)) (by omega) (by omega)
      have ne0 : ¬ t = c2 := by omega
      have ne1 : ¬ t = c2 + 1 := by omega
      have ne2 : ¬ c2 = t := by omega
      have ne3 : ¬ c2 = c2 + 1 := by omega
      have ne4 : ¬ c2 + 1 = t := by omega
      have ne5 : ¬ c2 + 1 = c2 := by omega
      simp only [go_sem, Nat.reduceAdd, Nat.reduceLeDiff, Nat.reduceEqDiff, Nat.reduceMul, Nat.reduceSub, ↓reduceIte, Int.reduceLT, Int.reduceLE, Int.reduceGT, Int.reduceGE, Nat.reduceLT, Nat.reduceGT, Int.reduceToNat, reduceCtorEq, Nat.reduceBEq, Int.reduceBEq, Int.reduceBNe, Int.reduceEq, Int.reduceNe, decide_true, decide_false, hadd, ne0, ne1, ne2, ne3, ne4, ne5]
      repeat' ((first | (with_reducible first | refine wr ?_ | refine i_ret ?_ | refine i_skip ?_ | refine i_exit ?_) | ((with_reducible first | refine k_cb ?_ ?_ | refine k_gb ?_ ?_ | refine k_gb' ?_ ?_) <;> (intro hb; try simp only [hb])) | ((with_reducible refine k_eval (b_appx (insC_len2 _) (by omega) (by omega)) ?_))) <;> try simp only [go_sem, Nat.reduceAdd, Nat.reduceLeDiff, Nat.reduceEqDiff, Nat.reduceMul, Nat.reduceSub, ↓reduceIte, Int.reduceLT, Int.reduceLE, Int.reduceGT, Int.reduceGE, Nat.reduceLT, Nat.reduceGT, Int.reduceToNat, reduceCtorEq, Nat.reduceBEq, Int.reduceBEq, Int.reduceBNe, Int.reduceEq, Int.reduceNe, decide_true, decide_false, hadd, ne0, ne1, ne2, ne3, ne4, ne5])
      refine AC.call (c_next l hl ((nextM l p1 3).2) hp2 64 (by omega) (by omega) _ _ t (by repeat (first | exact h_same | rw [h_ne (by omega)] | rw [h_dne (by omega)])) (by omega)) ?_
      rintro v H' c3 ⟨rfl, rfl⟩ hcc3
      have hq3 := nextM_lt (l := l) (p := (nextM l p1 3).2) (n := 64) (by omega)
      have hp3 := nextM_le (l := l) (p := (nextM l p1 3).2) (n := 64) hp2
      have ne0 : ¬ t = c3 := by omega
      have ne1 : ¬ t = c3 + 1 := by omega
      have ne2 : ¬ c3 = t := by omega
      have ne3 : ¬ c3 = c3 + 1 := by omega
      have ne4 : ¬ c3 + 1 = t := by omega
      have ne5 : ¬ c3 + 1 = c3 := by omega
      simp only [go_sem, Nat.reduceAdd, Nat.reduceLeDiff, Nat.reduceEqDiff, Nat.reduceMul, Nat.reduceSub, ↓reduceIte, Int.reduceLT, Int.reduceLE, Int.reduceGT, Int.reduceGE, Nat.reduceLT, Nat.reduceGT, Int.reduceToNat, reduceCtorEq, Nat.reduceBEq, Int.reduceBEq, Int.reduceBNe, Int.reduceEq, Int.reduceNe, decide_true, decide_false, hadd, ne0, ne1, ne2, ne3, ne4, ne5]
      repeat' ((first | (with_reducible first | refine wr ?_ | refine i_ret ?_ | refine i_skip ?_ | refine i_exit ?_) | ((with_reducible first | refine k_cb ?_ ?_ | refine k_gb ?_ ?_ | refine k_gb' ?_ ?_) <;> (intro hb; try simp only [hb])) | ((with_reducible refine k_eval (b_appx (insC_len2 _) (by omega) (by omega)) ?_))) <;> try simp only [go_sem, Nat.reduceAdd, Nat.reduceLeDiff, Nat.reduceEqDiff, Nat.reduceMul, Nat.reduceSub, ↓reduceIte, Int.reduceLT, Int.reduceLE, Int.reduceGT, Int.reduceGE, Nat.reduceLT, Nat.reduceGT, Int.reduceToNat, reduceCtorEq, Nat.reduceBEq, Int.reduceBEq, Int.reduceBNe, Int.reduceEq, Int.reduceNe, decide_true, decide_false, hadd, ne0, ne1, ne2, ne3, ne4, ne5])
      have es : stmtM l (d + 1) base p = stK l (stmtM l d) base 9 p1 := by simp only [stmtM]; rw [e0]; try rfl
      rw [es]
      refine v_end (id := c3) hfr (by omega) (by omega) htc (by first | rfl | simp only [stK, List.length_append, List.length_singleton]) ?_ ?_ fun j h1 h2 => ?_
      · repeat (first | exact h_same | rw [h_ne (by omega)] | rw [h_dne (by omega)])
      · rw [h_same]; simp only [stK, insC_app, insC_one]
      · repeat (first | rfl | rw [h_ne (by omega)] | rw [h_dne (by omega)])
    · have nk : ((10 : Nat) : Int) = 10 := rfl
      simp only [go_sem, Nat.reduceAdd, Nat.reduceLeDiff, Nat.reduceEqDiff, Nat.reduceMul, Nat.reduceSub, ↓reduceIte, Int.reduceLT, Int.reduceLE, Int.reduceGT, Int.reduceGE, Nat.reduceLT, Nat.reduceGT, Int.reduceToNat, reduceCtorEq, Nat.reduceBEq, Int.reduceBEq, Int.reduceBNe, Int.reduceEq, Int.reduceNe, decide_true, decide_false, hdl, nk, Int.reduceGT, Int.reduceBEq, Int.reduceLE, decide_true, decide_false, hw2, hw1]
      repeat' ((first | (with_reducible first | refine wr ?_ | refine i_ret ?_ | refine i_skip ?_ | refine i_exit ?_) | ((with_reducible first | refine k_cb ?_ ?_ | refine k_gb ?_ ?_ | refine k_gb' ?_ ?_) <;> (intro hb; try simp only [hb]))) <;> try simp only [go_sem, Nat.reduceAdd, Nat.reduceLeDiff, Nat.reduceEqDiff, Nat.reduceMul, Nat.reduceSub, ↓reduceIte, Int.reduceLT, Int.reduceLE, Int.reduceGT, Int.reduceGE, Nat.reduceLT, Nat.reduceGT, Int.reduceToNat, reduceCtorEq, Nat.reduceBEq, Int.reduceBEq, Int.reduceBNe, Int.reduceEq, Int.reduceNe, decide_true, decide_false, hdl, nk, Int.reduceGT, Int.reduceBEq, Int.reduceLE, decide_true, decide_false, hw2, hw1])
      refine AC.call (c_value l hl 1 (by omega) (p1) hp1 _ _ t (by repeat (first | exact h_same | rw [h_ne (by omega)] | rw [h_dne (by omega)])) (by omega)) ?_
      rintro v H' c2 ⟨id1, ia1, ib1, rfl, rfl⟩ hcc2
      have hb1 := valueM_l1 l (p1)
      have hp2 := valueM_le l 1 (p1) hp1
      have ne0 : ¬ t = id1 := by omega
      have ne1 : ¬ t = c2 := by omega
      have ne2 : ¬ t = c2 + 1 := by omega
      have ne3 : ¬ id1 = t := by omega
      have ne4 : ¬ id1 = c2 := by omega
      have ne5 : ¬ id1 = c2 + 1 := by omega
      have ne6 : ¬ c2 = t := by omega
      have ne7 : ¬ c2 = id1 := by omega
      have ne8 : ¬ c2 = c2 + 1 := by omega
      have ne9 : ¬ c2 + 1 = t := by omega
      have ne10 : ¬ c2 + 1 = id1 := by omega
      have ne11 : ¬ c2 + 1 = c2 := by omega
      simp only [go_sem, Nat.reduceAdd, Nat.reduceLeDiff, Nat.reduceEqDiff, Nat.reduceMul, Nat.reduceSub, ↓reduceIte, Int.reduceLT, Int.reduceLE, Int.reduceGT, Int.reduceGE, Nat.reduceLT, Nat.reduceGT, Int.reduceToNat, reduceCtorEq, Nat.reduceBEq, Int.reduceBEq, Int.reduceBNe, Int.reduceEq, Int.reduceNe, decide_true, decide_false, ne0, ne1, ne2, ne3, ne4, ne5, ne6, ne7, ne8, ne9, ne10, ne11]
      repeat' ((first | (with_reducible first | refine wr ?_ | refine i_ret ?_ | refine i_skip ?_ | refine i_exit ?_) | ((with_reducible first | refine k_cb ?_ ?_ | refine k_gb ?_ ?_ | refine k_gb' ?_ ?_) <;> (intro hb; try simp only [hb])) | ((with_reducible refine k_eval (b_appx (insC_len2 _) (by omega) (by omega)) ?_))) <;> try simp only [go_sem, Nat.reduceAdd, Nat.reduceLeDiff, Nat.reduceEqDiff, Nat.reduceMul, Nat.reduceSub, ↓reduceIte, Int.reduceLT, Int.reduceLE, Int.reduceGT, Int.reduceGE, Nat.reduceLT, Nat.reduceGT, Int.reduceToNat, reduceCtorEq, Nat.reduceBEq, Int.reduceBEq, Int.reduceBNe, Int.reduceEq, Int.reduceNe, decide_true, decide_false, ne0, ne1, ne2, ne3, ne4, ne5, ne6, ne7, ne8, ne9, ne10, ne11])
      refine AC.call (c_next l hl ((valueM l 1 p1).2) hp2 2 (by omega) (by omega) _ _ t (by repeat (first | exact h_same | rw [h_ne (by omega)] | rw [h_dne (by omega)])) (by omega)) ?_
      rintro v H' c3 ⟨rfl, rfl⟩ hcc3
      have hq3 := nextM_lt (l := l) (p := (valueM l 1 p1).2) (n := 2) (by omega)
      have hp3 := nextM_le (l := l) (p := (valueM l 1 p1).2) (n := 2) hp2
      have ne0 : ¬ t = id1 := by omega
      have ne1 : ¬ t = c3 := by omega
      have ne2 : ¬ t = c3 + 1 := by omega
      have ne3 : ¬ id1 = t := by omega
      have ne4 : ¬ id1 = c3 := by omega
      have ne5 : ¬ id1 = c3 + 1 := by omega
      have ne6 : ¬ c3 = t := by omega
      have ne7 : ¬ c3 = id1 := by omega
      have ne8 : ¬ c3 = c3 + 1 := by omega
      have ne9 : ¬ c3 + 1 = t := by omega
      have ne10 : ¬ c3 + 1 = id1 := by omega
      have ne11 : ¬ c3 + 1 = c3 := by omega
      simp only [go_sem, Nat.reduceAdd, Nat.reduceLeDiff, Nat.reduceEqDiff, Nat.reduceMul, Nat.reduceSub, ↓reduceIte, Int.reduceLT, Int.reduceLE, Int.reduceGT, Int.reduceGE, Nat.reduceLT, Nat.reduceGT, Int.reduceToNat, reduceCtorEq, Nat.reduceBEq, Int.reduceBEq, Int.reduceBNe, Int.reduceEq, Int.reduceNe, decide_true, decide_false, ne0, ne1, ne2, ne3, ne4, ne5, ne6, ne7, ne8, ne9, ne10, ne11]
      repeat' ((first | (with_reducible first | refine wr ?_ | refine i_ret ?_ | refine i_skip ?_ | refine i_exit ?_) | ((with_reducible first | refine k_cb ?_ ?_ | refine k_gb ?_ ?_ | refine k_gb' ?_ ?_) <;> (intro hb; try simp only [hb])) | ((with_reducible refine k_eval (b_appx (insC_len2 _) (by omega) (by omega)) ?_))) <;> try simp only [go_sem, Nat.reduceAdd, Nat.reduceLeDiff, Nat.reduceEqDiff, Nat.reduceMul, Nat.reduceSub, ↓reduceIte, Int.reduceLT, Int.reduceLE, Int.reduceGT, Int.reduceGE, Nat.reduceLT, Nat.reduceGT, Int.reduceToNat, reduceCtorEq, Nat.reduceBEq, Int.reduceBEq, Int.reduceBNe, Int.reduceEq, Int.reduceNe, decide_true, decide_false, ne0, ne1, ne2, ne3, ne4, ne5, ne6, ne7, ne8, ne9, ne10, ne11])
      have es : stmtM l (d + 1) base p = stK l (stmtM l d) base 10 p1 := by simp only [stmtM]; rw [e0]; try rfl
      rw [es]
      refine v_end (id := c3 + 1) hfr (by omega) (by omega) htc (by first | rfl | simp only [stK, List.length_append, List.length_singleton]) ?_ ?_ fun j h1 h2 => ?_
      · repeat (first | exact h_same | rw [h_ne (by omega)] | rw [h_dne (by omega)])
      · rw [h_same]; simp only [stK, insC_app, insC_one]
      · repeat (first | rfl | rw [h_ne (by omega)] | rw [h_dne (by omega)])
    · have nk : ((11 : Nat) : Int) = 11 := rfl
      simp only [go_sem, Nat.reduceAdd, Nat.reduceLeDiff, Nat.reduceEqDiff, Nat.reduceMul, Nat.reduceSub, ↓reduceIte, Int.reduceLT, Int.reduceLE, Int.reduceGT, Int.reduceGE, Nat.reduceLT, Nat.reduceGT, Int.reduceToNat, reduceCtorEq, Nat.reduceBEq, Int.reduceBEq, Int.reduceBNe, Int.reduceEq, Int.reduceNe, decide_true, decide_false, hdl, nk, Int.reduceGT, Int.reduceBEq, Int.reduceLE, decide_true, decide_false, hw2, hw1]
      repeat' ((first | (with_reducible first | refine wr ?_ | refine i_ret ?_ | refine i_skip ?_ | refine i_exit ?_) | ((with_reducible first | refine k_cb ?_ ?_ | refine k_gb ?_ ?_ | refine k_gb' ?_ ?_) <;> (intro hb; try simp only [hb]))) <;> try simp only [go_sem, Nat.reduceAdd, Nat.reduceLeDiff, Nat.reduceEqDiff, Nat.reduceMul, Nat.reduceSub, ↓reduceIte, Int.reduceLT, Int.reduceLE, Int.reduceGT, Int.reduceGE, Nat.reduceLT, Nat.reduceGT, Int.reduceToNat, reduceCtorEq, Nat.reduceBEq, Int.reduceBEq, Int.reduceBNe, Int.reduceEq, Int.reduceNe, decide_true, decide_false, hdl, nk, Int.reduceGT, Int.reduceBEq, Int.reduceLE, decide_true, decide_false, hw2, hw1])
      have es : stmtM l (d + 1) base p = stK l (stmtM l d) base 11 p1 := by simp only [stmtM]; rw [e0]; try rfl
      rw [es]
      refine v_end (id := c1) hfr (by omega) (by omega) htc (by first | rfl | simp only [stK, List.length_append, List.length_singleton]) ?_ ?_ fun j h1 h2 => ?_
      · repeat (first | exact h_same | rw [h_ne (by omega)] | rw [h_dne (by omega)])
      · rw [h_same]; simp only [stK, insC_app, insC_one]
      · repeat (first | rfl | rw [h_ne (by omega)] | rw [h_dne (by omega)])
    · have nk : ((0 : Nat) : Int) = 0 := rfl
      simp only [go_sem, Nat.reduceAdd, Nat.reduceLeDiff, Nat.reduceEqDiff, Nat.reduceMul, Nat.reduceSub, ↓reduceIte, Int.reduceLT, Int.reduceLE, Int.reduceGT, Int.reduceGE, Nat.reduceLT, Nat.reduceGT, Int.reduceToNat, reduceCtorEq, Nat.reduceBEq, Int.reduceBEq, Int.reduceBNe, Int.reduceEq, Int.reduceNe, decide_true, decide_false, hdl, nk, Int.reduceGT, Int.reduceBEq, Int.reduceLE, decide_true, decide_false, hw2, hw1]
      repeat' ((first | (with_reducible first | refine wr ?_ | refine i_ret ?_ | refine i_skip ?_ | refine i_exit ?_) | ((with_reducible first | refine k_cb ?_ ?_ | refine k_gb ?_ ?_ | refine k_gb' ?_ ?_) <;> (intro hb; try simp only [hb]))) <;> try simp only [go_sem, Nat.reduceAdd, Nat.reduceLeDiff, Nat.reduceEqDiff, Nat.reduceMul, Nat.reduceSub, ↓reduceIte, Int.reduceLT, Int.reduceLE, Int.reduceGT, Int.reduceGE, Nat.reduceLT, Nat.reduceGT, Int.reduceToNat, reduceCtorEq, Nat.reduceBEq, Int.reduceBEq, Int.reduceBNe, Int.reduceEq, Int.reduceNe, decide_true, decide_false, hdl, nk, Int.reduceGT, Int.reduceBEq, Int.reduceLE, decide_true, decide_false, hw2, hw1])
      refine AC.call (c_value l hl 2 (by omega) (p1) hp1 _ _ t (by repeat (first | exact h_same | rw [h_ne (by omega)] | rw [h_dne (by omega)])) (by omega)) ?_
      rintro v H' c2 ⟨id1, ia1, ib1, rfl, rfl⟩ hcc2
      have hb1 := valueM_l2 l (p1)
      have hp2 := valueM_le l 2 (p1) hp1
      have ne0 : ¬ t = id1 := by omega
      have ne1 : ¬ t = c2 := by omega
      have ne2 : ¬ t = c2 + 1 := by omega
      have ne3 : ¬ id1 = t := by omega
      have ne4 : ¬ id1 = c2 := by omega
      have ne5 : ¬ id1 = c2 + 1 := by omega
      have ne6 : ¬ c2 = t := by omega
      have ne7 : ¬ c2 = id1 := by omega
      have ne8 : ¬ c2 = c2 + 1 := by omega
      have ne9 : ¬ c2 + 1 = t := by omega
      have ne10 : ¬ c2 + 1 = id1 := by omega
      have ne11 : ¬ c2 + 1 = c2 := by omega
      simp only [go_sem, Nat.reduceAdd, Nat.reduceLeDiff, Nat.reduceEqDiff, Nat.reduceMul, Nat.reduceSub, ↓reduceIte, Int.reduceLT, Int.reduceLE, Int.reduceGT, Int.reduceGE, Nat.reduceLT, Nat.reduceGT, Int.reduceToNat, reduceCtorEq, Nat.reduceBEq, Int.reduceBEq, Int.reduceBNe, Int.reduceEq, Int.reduceNe, decide_true, decide_false, ne0, ne1, ne2, ne3, ne4, ne5, ne6, ne7, ne8, ne9, ne10, ne11]
      repeat' ((first | (with_reducible first | refine wr ?_ | refine i_ret ?_ | refine i_skip ?_ | refine i_exit ?_) | ((with_reducible first | refine k_cb ?_ ?_ | refine k_gb ?_ ?_ | refine k_gb' ?_ ?_) <;> (intro hb; try simp only [hb])) | ((with_reducible refine k_eval (b_appx (insC_len2 _) (by omega) (by omega)) ?_))) <;> try simp only [go_sem, Nat.reduceAdd, Nat.reduceLeDiff, Nat.reduceEqDiff, Nat.reduceMul, Nat.reduceSub, ↓reduceIte, Int.reduceLT, Int.reduceLE, Int.reduceGT, Int.reduceGE, Nat.reduceLT, Nat.reduceGT, Int.reduceToNat, reduceCtorEq, Nat.reduceBEq, Int.reduceBEq, Int.reduceBNe, Int.reduceEq, Int.reduceNe, decide_true, decide_false, ne0, ne1, ne2, ne3, ne4, ne5, ne6, ne7, ne8, ne9, ne10, ne11])
      refine AC.call (c_next l hl ((valueM l 2 p1).2) hp2 3 (by omega) (by omega) _ _ t (by repeat (first | exact h_same | rw [h_ne (by omega)] | rw [h_dne (by omega)])) (by omega)) ?_
      rintro v H' c3 ⟨rfl, rfl⟩ hcc3
      have hq3 := nextM_lt (l := l) (p := (valueM l 2 p1).2) (n := 3) (by omega)
      have hp3 := nextM_le (l := l) (p := (valueM l 2 p1).2) (n := 3) hp2
      have ne0 : ¬ t = id1 := by omega
      have ne1 : ¬ t = c3 := by omega
      have ne2 : ¬ t = c3 + 1 := by omega
      have ne3 : ¬ id1 = t := by omega
      have ne4 : ¬ id1 = c3 := by omega
      have ne5 : ¬ id1 = c3 + 1 := by omega
      have ne6 : ¬ c3 = t := by omega
      have ne7 : ¬ c3 = id1 := by omega
      have ne8 : ¬ c3 = c3 + 1 := by omega
      have ne9 : ¬ c3 + 1 = t := by omega
      have ne10 : ¬ c3 + 1 = id1 := by omega
      have ne11 : ¬ c3 + 1 = c3 := by omega
      simp only [go_sem, Nat.reduceAdd, Nat.reduceLeDiff, Nat.reduceEqDiff, Nat.reduceMul, Nat.reduceSub, ↓reduceIte, Int.reduceLT, Int.reduceLE, Int.reduceGT, Int.reduceGE, Nat.reduceLT, Nat.reduceGT, Int.reduceToNat, reduceCtorEq, Nat.reduceBEq, Int.reduceBEq, Int.reduceBNe, Int.reduceEq, Int.reduceNe, decide_true, decide_false, ne0, ne1, ne2, ne3, ne4, ne5, ne6, ne7, ne8, ne9, ne10, ne11]
      repeat' ((first | (with_reducible first | refine wr ?_ | refine i_ret ?_ | refine i_skip ?_ | refine i_exit ?_) | ((with_reducible first | refine k_cb ?_ ?_ | refine k_gb ?_ ?_ | refine k_gb' ?_ ?_) <;> (intro hb; try simp only [hb])) | ((with_reducible refine k_eval (b_appx (insC_len2 _) (by omega) (by omega)) ?_))) <;> try simp only [go_sem, Nat.reduceAdd, Nat.reduceLeDiff, Nat.reduceEqDiff, Nat.reduceMul, Nat.reduceSub, ↓reduceIte, Int.reduceLT, Int.reduceLE, Int.reduceGT, Int.reduceGE, Nat.reduceLT, Nat.reduceGT, Int.reduceToNat, reduceCtorEq, Nat.reduceBEq, Int.reduceBEq, Int.reduceBNe, Int.reduceEq, Int.reduceNe, decide_true, decide_false, ne0, ne1, ne2, ne3, ne4, ne5, ne6, ne7, ne8, ne9, ne10, ne11])
      have es : stmtM l (d + 1) base p = stK l (stmtM l d) base 0 p1 := by simp only [stmtM]; rw [e0]; try rfl
      rw [es]
      refine v_end (id := c3 + 1) hfr (by omega) (by omega) htc (by first | rfl | simp only [stK, List.length_append, List.length_singleton]) ?_ ?_ fun j h1 h2 => ?_
      · repeat (first | exact h_same | rw [h_ne (by omega)] | rw [h_dne (by omega)])
      · rw [h_same]; simp only [stK, insC_app, insC_one]
      · repeat (first | rfl | rw [h_ne (by omega)] | rw [h_dne (by omega)])
    · have nk : ((12 : Nat) : Int) = 12 := rfl
      simp only [go_sem, Nat.reduceAdd, Nat.reduceLeDiff, Nat.reduceEqDiff, Nat.reduceMul, Nat.reduceSub, ↓reduceIte, Int.reduceLT, Int.reduceLE, Int.reduceGT, Int.reduceGE, Nat.reduceLT, Nat.reduceGT, Int.reduceToNat, reduceCtorEq, Nat.reduceBEq, Int.reduceBEq, Int.reduceBNe, Int.reduceEq, Int.reduceNe, decide_true, decide_false, hdl, nk, Int.reduceGT, Int.reduceBEq, Int.reduceLE, decide_true, decide_false, hw2, hw1]
      repeat' ((first | (with_reducible first | refine wr ?_ | refine i_ret ?_ | refine i_skip ?_ | refine i_exit ?_) | ((with_reducible first | refine k_cb ?_ ?_ | refine k_gb ?_ ?_ | refine k_gb' ?_ ?_) <;> (intro hb; try simp only [hb]))) <;> try simp only [go_sem, Nat.reduceAdd, Nat.reduceLeDiff, Nat.reduceEqDiff, Nat.reduceMul, Nat.reduceSub, ↓reduceIte, Int.reduceLT, Int.reduceLE, Int.reduceGT, Int.reduceGE, Nat.reduceLT, Nat.reduceGT, Int.reduceToNat, reduceCtorEq, Nat.reduceBEq, Int.reduceBEq, Int.reduceBNe, Int.reduceEq, Int.reduceNe, decide_true, decide_false, hdl, nk, Int.reduceGT, Int.reduceBEq, Int.reduceLE, decide_true, decide_false, hw2, hw1])
      refine AC.call (c_value l hl 1 (by omega) (p1) hp1 _ _ t (by repeat (first | exact h_same | rw [h_ne (by omega)] | rw [h_dne (by omega)])) (by omega)) ?_
      rintro v H' c2 ⟨id1, ia1, ib1, rfl, rfl⟩ hcc2
      have hb1 := valueM_l1 l (p1)
      have hp2 := valueM_le l 1 (p1) hp1
      have hs1 := w_sum (a := base) (b := (valueM l 1 p1).1.length) (by omega)
      have hs2 := w_sum (a := base + (valueM l 1 p1).1.length) (b := 1) (by omega)
      have one : ((1 : Nat) : Int) = 1 := rfl
      rw [one] at hs2
      have ne0 : ¬ t = id1 := by omega
      have ne1 : ¬ t = c2 := by omega
      have ne2 : ¬ t = c2 + 1 := by omega
      have ne3 : ¬ id1 = t := by omega
      have ne4 : ¬ id1 = c2 := by omega
      have ne5 : ¬ id1 = c2 + 1 := by omega
      have ne6 : ¬ c2 = t := by omega
      have ne7 : ¬ c2 = id1 := by omega
      have ne8 : ¬ c2 = c2 + 1 := by omega
      have ne9 : ¬ c2 + 1 = t := by omega
      have ne10 : ¬ c2 + 1 = id1 := by omega
      have ne11 : ¬ c2 + 1 = c2 := by omega
      simp only [go_sem, Nat.reduceAdd, Nat.reduceLeDiff, Nat.reduceEqDiff, Nat.reduceMul, Nat.reduceSub, ↓reduceIte, Int.reduceLT, Int.reduceLE, Int.reduceGT, Int.reduceGE, Nat.reduceLT, Nat.reduceGT, Int.reduceToNat, reduceCtorEq, Nat.reduceBEq, Int.reduceBEq, Int.reduceBNe, Int.reduceEq, Int.reduceNe, decide_true, decide_false, hs1, hs2, hw2, hw1, ne0, ne1, ne2, ne3, ne4, ne5, ne6, ne7, ne8, ne9, ne10, ne11]
      repeat' ((first | (with_reducible first | refine wr ?_ | refine i_ret ?_ | refine i_skip ?_ | refine i_exit ?_) | ((with_reducible first | refine k_cb ?_ ?_ | refine k_gb ?_ ?_ | refine k_gb' ?_ ?_) <;> (intro hb; try simp only [hb])) | ((with_reducible refine k_eval (b_appx (insC_len2 _) (by omega) (by omega)) ?_))) <;> try simp only [go_sem, Nat.reduceAdd, Nat.reduceLeDiff, Nat.reduceEqDiff, Nat.reduceMul, Nat.reduceSub, ↓reduceIte, Int.reduceLT, Int.reduceLE, Int.reduceGT, Int.reduceGE, Nat.reduceLT, Nat.reduceGT, Int.reduceToNat, reduceCtorEq, Nat.reduceBEq, Int.reduceBEq, Int.reduceBNe, Int.reduceEq, Int.reduceNe, decide_true, decide_false, hs1, hs2, hw2, hw1, ne0, ne1, ne2, ne3, ne4, ne5, ne6, ne7, ne8, ne9, ne10, ne11])
      refine AC.call (ih (by omega) (base + (valueM l 1 p1).1.length + 1) ((valueM l 1 p1).2) (by omega) hp2 _ _ t (by repeat (first | exact h_same | rw [h_ne (by omega)] | rw [h_dne (by omega)])) (by omega)) ?_
      rintro v H' c3 ⟨id2, ia2, ib2, rfl, rfl⟩ hcc3
      have hb2 := stmtM_len l d (base + (valueM l 1 p1).1.length + 1) ((valueM l 1 p1).2)
      have hs3 := w_sum (a := base + (valueM l 1 p1).1.length + 1) (b := (stmtM l d (base + (valueM l 1 p1).1.length + 1) (valueM l 1 p1).2).1.length) (by omega)
      have hl2 := insC_len2 (stmtM l d (base + (valueM l 1 p1).1.length + 1) (valueM l 1 p1).2).1
      have hle2 : (stmtM l d (base + (valueM l 1 p1).1.length + 1) (valueM l 1 p1).2).1.length * 2 ≤ (insC (stmtM l d (base + (valueM l 1 p1).1.length + 1) (valueM l 1 p1).2).1).length := by omega
      have htk := List.take_of_length_le (l := insC (stmtM l d (base + (valueM l 1 p1).1.length + 1) (valueM l 1 p1).2).1) (i := (stmtM l d (base + (valueM l 1 p1).1.length + 1) (valueM l 1 p1).2).1.length * 2) (by omega)
      have hl3 := fun x y => insL1 (valueM l 1 p1).1 x y
      have hl4 := fun x y => insL3 (valueM l 1 p1).1 (stmtM l d (base + (valueM l 1 p1).1.length + 1) (valueM l 1 p1).2).1 x y
      have ne0 : ¬ t = id1 := by omega
      have ne1 : ¬ t = id2 := by omega
      have ne2 : ¬ t = c3 := by omega
      have ne3 : ¬ t = c3 + 1 := by omega
      have ne4 : ¬ t = c3 + 2 := by omega
      have ne5 : ¬ id1 = t := by omega
      have ne6 : ¬ id1 = id2 := by omega
      have ne7 : ¬ id1 = c3 := by omega
      have ne8 : ¬ id1 = c3 + 1 := by omega
      have ne9 : ¬ id1 = c3 + 2 := by omega
      have ne10 : ¬ id2 = t := by omega
      have ne11 : ¬ id2 = id1 := by omega
      have ne12 : ¬ id2 = c3 := by omega
      have ne13 : ¬ id2 = c3 + 1 := by omega
      have ne14 : ¬ id2 = c3 + 2 := by omega
      have ne15 : ¬ c3 = t := by omega
      have ne16 : ¬ c3 = id1 := by omega
      have ne17 : ¬ c3 = id2 := by omega
      have ne18 : ¬ c3 = c3 + 1 := by omega
      have ne19 : ¬ c3 = c3 + 2 := by omega
      have ne20 : ¬ c3 + 1 = t := by omega
      have ne21 : ¬ c3 + 1 = id1 := by omega
      have ne22 : ¬ c3 + 1 = id2 := by omega
      have ne23 : ¬ c3 + 1 = c3 := by omega
      have ne24 : ¬ c3 + 1 = c3 + 2 := by omega
      have ne25 : ¬ c3 + 2 = t := by omega
      have ne26 : ¬ c3 + 2 = id1 := by omega
      have ne27 : ¬ c3 + 2 = id2 := by omega
      have ne28 : ¬ c3 + 2 = c3 := by omega
      have ne29 : ¬ c3 + 2 = c3 + 1 := by omega
      simp only [go_sem, Nat.reduceAdd, Nat.reduceLeDiff, Nat.reduceEqDiff, Nat.reduceMul, Nat.reduceSub, ↓reduceIte, Int.reduceLT, Int.reduceLE, Int.reduceGT, Int.reduceGE, Nat.reduceLT, Nat.reduceGT, Int.reduceToNat, reduceCtorEq, Nat.reduceBEq, Int.reduceBEq, Int.reduceBNe, Int.reduceEq, Int.reduceNe, decide_true, decide_false, hs1, hs2, hs3, hle2, htk, ne0, ne1, ne2, ne3, ne4, ne5, ne6, ne7, ne8, ne9, ne10, ne11, ne12, ne13, ne14, ne15, ne16, ne17, ne18, ne19, ne20, ne21, ne22, ne23, ne24, ne25, ne26, ne27, ne28, ne29]
      repeat' ((first | (with_reducible first | refine wr ?_ | refine i_ret ?_ | refine i_skip ?_ | refine i_exit ?_) | ((with_reducible first | refine k_cb ?_ ?_ | refine k_gb ?_ ?_ | refine k_gb' ?_ ?_) <;> (intro hb; try simp only [hb])) | ((with_reducible refine k_eval (b_appx (insC_len2 _) (by omega) (by omega)) ?_)) | ((with_reducible refine k_eval (b_appx (hl3 _ _) (by omega) (by omega)) ?_)) | ((with_reducible refine k_eval (b_appx (hl4 _ _) (by omega) (by omega)) ?_))) <;> try simp only [go_sem, Nat.reduceAdd, Nat.reduceLeDiff, Nat.reduceEqDiff, Nat.reduceMul, Nat.reduceSub, ↓reduceIte, Int.reduceLT, Int.reduceLE, Int.reduceGT, Int.reduceGE, Nat.reduceLT, Nat.reduceGT, Int.reduceToNat, reduceCtorEq, Nat.reduceBEq, Int.reduceBEq, Int.reduceBNe, Int.reduceEq, Int.reduceNe, decide_true, decide_false, hs1, hs2, hs3, hle2, htk, ne0, ne1, ne2, ne3, ne4, ne5, ne6, ne7, ne8, ne9, ne10, ne11, ne12, ne13, ne14, ne15, ne16, ne17, ne18, ne19, ne20, ne21, ne22, ne23, ne24, ne25, ne26, ne27, ne28, ne29])
      have es : stmtM l (d + 1) base p = stK l (stmtM l d) base 12 p1 := by simp only [stmtM]; rw [e0]; try rfl
      rw [es]
      refine v_end (id := c3 + 2) hfr (by omega) (by omega) htc (by first | rfl | simp only [stK, List.length_append, List.length_singleton]) ?_ ?_ fun j h1 h2 => ?_
      · repeat (first | exact h_same | rw [h_ne (by omega)] | rw [h_dne (by omega)])
      · rw [h_same]; simp only [stK, insC_app, insC_one]
      · repeat (first | rfl | rw [h_ne (by omega)] | rw [h_dne (by omega)])
    · have nk : ((13 : Nat) : Int) = 13 := rfl
      simp only [go_sem, Nat.reduceAdd, Nat.reduceLeDiff, Nat.reduceEqDiff, Nat.reduceMul, Nat.reduceSub, ↓reduceIte, Int.reduceLT, Int.reduceLE, Int.reduceGT, Int.reduceGE, Nat.reduceLT, Nat.reduceGT, Int.reduceToNat, reduceCtorEq, Nat.reduceBEq, Int.reduceBEq, Int.reduceBNe, Int.reduceEq, Int.reduceNe, decide_true, decide_false, hdl, nk, Int.reduceGT, Int.reduceBEq, Int.reduceLE, decide_true, decide_false, hw2, hw1]
      repeat' ((first | (with_reducible first | refine wr ?_ | refine i_ret ?_ | refine i_skip ?_ | refine i_exit ?_) | ((with_reducible first | refine k_cb ?_ ?_ | refine k_gb ?_ ?_ | refine k_gb' ?_ ?_) <;> (intro hb; try simp only [hb]))) <;> try simp only [go_sem, Nat.reduceAdd, Nat.reduceLeDiff, Nat.reduceEqDiff, Nat.reduceMul, Nat.reduceSub, ↓reduceIte, Int.reduceLT, Int.reduceLE, Int.reduceGT, Int.reduceGE, Nat.reduceLT, Nat.reduceGT, Int.reduceToNat, reduceCtorEq, Nat.reduceBEq, Int.reduceBEq, Int.reduceBNe, Int.reduceEq, Int.reduceNe, decide_true, decide_false, hdl, nk, Int.reduceGT, Int.reduceBEq, Int.reduceLE, decide_true, decide_false, hw2, hw1])
      refine AC.call (c_value l hl 0 (by omega) (p1) hp1 _ _ t (by repeat (first | exact h_same | rw [h_ne (by omega)] | rw [h_dne (by omega)])) (by omega)) ?_
      rintro v H' c2 ⟨id1, ia1, ib1, rfl, rfl⟩ hcc2
      have hb1 := valueM_l0 l (p1)
      have hp2 := valueM_le l 0 (p1) hp1
      have hs1 := w_sum (a := base) (b := (valueM l 0 p1).1.length) (by omega)
      have hs2 := w_sum (a := base + (valueM l 0 p1).1.length) (b := 1) (by omega)
      have one : ((1 : Nat) : Int) = 1 := rfl
      rw [one] at hs2
      have ne0 : ¬ t = id1 := by omega
      have ne1 : ¬ t = c2 := by omega
      have ne2 : ¬ t = c2 + 1 := by omega
      have ne3 : ¬ id1 = t := by omega
      have ne4 : ¬ id1 = c2 := by omega
      have ne5 : ¬ id1 = c2 + 1 := by omega
      have ne6 : ¬ c2 = t := by omega
      have ne7 : ¬ c2 = id1 := by omega
      have ne8 : ¬ c2 = c2 + 1 := by omega
      have ne9 : ¬ c2 + 1 = t := by omega
      have ne10 : ¬ c2 + 1 = id1 := by omega
      have ne11 : ¬ c2 + 1 = c2 := by omega
      simp only [go_sem, Nat.reduceAdd, Nat.reduceLeDiff, Nat.reduceEqDiff, Nat.reduceMul, Nat.reduceSub, ↓reduceIte, Int.reduceLT, Int.reduceLE, Int.reduceGT, Int.reduceGE, Nat.reduceLT, Nat.reduceGT, Int.reduceToNat, reduceCtorEq, Nat.reduceBEq, Int.reduceBEq, Int.reduceBNe, Int.reduceEq, Int.reduceNe, decide_true, decide_false, hs1, hs2, hw2, hw1, ne0, ne1, ne2, ne3, ne4, ne5, ne6, ne7, ne8, ne9, ne10, ne11]
      repeat' ((first | (with_reducible first | refine wr ?_ | refine i_ret ?_ | refine i_skip ?_ | refine i_exit ?_) | ((with_reducible first | refine k_cb ?_ ?_ | refine k_gb ?_ ?_ | refine k_gb' ?_ ?_) <;> (intro hb; try simp only [hb])) | ((with_reducible refine k_eval (b_appx (insC_len2 _) (by omega) (by omega)) ?_))) <;> try simp only [go_sem, Nat.reduceAdd, Nat.reduceLeDiff, Nat.reduceEqDiff, Nat.reduceMul, Nat.reduceSub, ↓reduceIte, Int.reduceLT, Int.reduceLE, Int.reduceGT, Int.reduceGE, Nat.reduceLT, Nat.reduceGT, Int.reduceToNat, reduceCtorEq, Nat.reduceBEq, Int.reduceBEq, Int.reduceBNe, Int.reduceEq, Int.reduceNe, decide_true, decide_false, hs1, hs2, hw2, hw1, ne0, ne1, ne2, ne3, ne4, ne5, ne6, ne7, ne8, ne9, ne10, ne11])
      refine AC.call (ih (by omega) (base + (valueM l 0 p1).1.length + 1) ((valueM l 0 p1).2) (by omega) hp2 _ _ t (by repeat (first | exact h_same | rw [h_ne (by omega)] | rw [h_dne (by omega)])) (by omega)) ?_
      rintro v H' c3 ⟨id2, ia2, ib2, rfl, rfl⟩ hcc3
      have hb2 := stmtM_len l d (base + (valueM l 0 p1).1.length + 1) ((valueM l 0 p1).2)
      have hs4 := w_sum (a := base + (valueM l 0 p1).1.length) (b := 2) (by omega)
      have two : ((2 : Nat) : Int) = 2 := rfl
      rw [two] at hs4
      have hs3 := w_sum (a := base + (valueM l 0 p1).1.length + 2) (b := (stmtM l d (base + (valueM l 0 p1).1.length + 1) (valueM l 0 p1).2).1.length) (by omega)
      have hl2 := insC_len2 (stmtM l d (base + (valueM l 0 p1).1.length + 1) (valueM l 0 p1).2).1
      have hle2 : (stmtM l d (base + (valueM l 0 p1).1.length + 1) (valueM l 0 p1).2).1.length * 2 ≤ (insC (stmtM l d (base + (valueM l 0 p1).1.length + 1) (valueM l 0 p1).2).1).length := by omega
      have htk := List.take_of_length_le (l := insC (stmtM l d (base + (valueM l 0 p1).1.length + 1) (valueM l 0 p1).2).1) (i := (stmtM l d (base + (valueM l 0 p1).1.length + 1) (valueM l 0 p1).2).1.length * 2) (by omega)
      have hl3 := fun x y => insL1 (valueM l 0 p1).1 x y
      have hl4 := fun x y => insL3 (valueM l 0 p1).1 (stmtM l d (base + (valueM l 0 p1).1.length + 1) (valueM l 0 p1).2).1 x y
      have ne0 : ¬ t = id1 := by omega
      have ne1 : ¬ t = id2 := by omega
      have ne2 : ¬ t = c3 := by omega
      have ne3 : ¬ t = c3 + 1 := by omega
      have ne4 : ¬ t = c3 + 2 := by omega
      have ne5 : ¬ t = c3 + 3 := by omega
      have ne6 : ¬ t = c3 + 4 := by omega
      have ne7 : ¬ id1 = t := by omega
      have ne8 : ¬ id1 = id2 := by omega
      have ne9 : ¬ id1 = c3 := by omega
      have ne10 : ¬ id1 = c3 + 1 := by omega
      have ne11 : ¬ id1 = c3 + 2 := by omega
      have ne12 : ¬ id1 = c3 + 3 := by omega
      have ne13 : ¬ id1 = c3 + 4 := by omega
      have ne14 : ¬ id2 = t := by omega
      have ne15 : ¬ id2 = id1 := by omega
      have ne16 : ¬ id2 = c3 := by omega
      have ne17 : ¬ id2 = c3 + 1 := by omega
      have ne18 : ¬ id2 = c3 + 2 := by omega
      have ne19 : ¬ id2 = c3 + 3 := by omega
      have ne20 : ¬ id2 = c3 + 4 := by omega
      have ne21 : ¬ c3 = t := by omega
      have ne22 : ¬ c3 = id1 := by omega
      have ne23 : ¬ c3 = id2 := by omega
      have ne24 : ¬ c3 = c3 + 1 := by omega
      have ne25 : ¬ c3 = c3 + 2 := by omega
      have ne26 : ¬ c3 = c3 + 3 := by omega
      have ne27 : ¬ c3 = c3 + 4 := by omega
      have ne28 : ¬ c3 + 1 = t := by omega
      have ne29 : ¬ c3 + 1 = id1 := by omega
      have ne30 : ¬ c3 + 1 = id2 := by omega
      have ne31 : ¬ c3 + 1 = c3 := by omega
      have ne32 : ¬ c3 + 1 = c3 + 2 := by omega
      have ne33 : ¬ c3 + 1 = c3 + 3 := by omega
      have ne34 : ¬ c3 + 1 = c3 + 4 := by omega
      have ne35 : ¬ c3 + 2 = t := by omega
      have ne36 : ¬ c3 + 2 = id1 := by omega
      have ne37 : ¬ c3 + 2 = id2 := by omega
      have ne38 : ¬ c3 + 2 = c3 := by omega
      have ne39 : ¬ c3 + 2 = c3 + 1 := by omega
      have ne40 : ¬ c3 + 2 = c3 + 3 := by omega
      have ne41 : ¬ c3 + 2 = c3 + 4 := by omega
      have ne42 : ¬ c3 + 3 = t := by omega
      have ne43 : ¬ c3 + 3 = id1 := by omega
      have ne44 : ¬ c3 + 3 = id2 := by omega
      have ne45 : ¬ c3 + 3 = c3 := by omega
      have ne46 : ¬ c3 + 3 = c3 + 1 := by omega
      have ne47 : ¬ c3 + 3 = c3 + 2 := by omega
      have ne48 : ¬ c3 + 3 = c3 + 4 := by omega
      have ne49 : ¬ c3 + 4 = t := by omega
      have ne50 : ¬ c3 + 4 = id1 := by omega
      have ne51 : ¬ c3 + 4 = id2 := by omega
      have ne52 : ¬ c3 + 4 = c3 := by omega
      have ne53 : ¬ c3 + 4 = c3 + 1 := by omega
      have ne54 : ¬ c3 + 4 = c3 + 2 := by omega
      have ne55 : ¬ c3 + 4 = c3 + 3 := by omega
      simp only [go_sem, Nat.reduceAdd, Nat.reduceLeDiff, Nat.reduceEqDiff, Nat.reduceMul, Nat.reduceSub, ↓reduceIte, Int.reduceLT, Int.reduceLE, Int.reduceGT, Int.reduceGE, Nat.reduceLT, Nat.reduceGT, Int.reduceToNat, reduceCtorEq, Nat.reduceBEq, Int.reduceBEq, Int.reduceBNe, Int.reduceEq, Int.reduceNe, decide_true, decide_false, hs1, hs2, hs3, hs4, hle2, htk, ne0, ne1, ne2, ne3, ne4, ne5, ne6, ne7, ne8, ne9, ne10, ne11, ne12, ne13, ne14, ne15, ne16, ne17, ne18, ne19, ne20, ne21, ne22, ne23, ne24, ne25, ne26, ne27, ne28, ne29, ne30, ne31, ne32, ne33, ne34, ne35, ne36, ne37, ne38, ne39, ne40, ne41, ne42, ne43, ne44, ne45, ne46, ne47, ne48, ne49, ne50, ne51, ne52, ne53, ne54, ne55]
      repeat' ((first | (with_reducible first | refine wr ?_ | refine i_ret ?_ | refine i_skip ?_ | refine i_exit ?_) | ((with_reducible first | refine k_cb ?_ ?_ | refine k_gb ?_ ?_ | refine k_gb' ?_ ?_) <;> (intro hb; try simp only [hb])) | ((with_reducible refine k_eval (b_appx (insC_len2 _) (by omega) (by omega)) ?_)) | ((with_reducible refine k_eval (b_appx (hl3 _ _) (by omega) (by omega)) ?_)) | ((with_reducible refine k_eval (b_appx (hl4 _ _) (by omega) (by omega)) ?_))) <;> try simp only [go_sem, Nat.reduceAdd, Nat.reduceLeDiff, Nat.reduceEqDiff, Nat.reduceMul, Nat.reduceSub, ↓reduceIte, Int.reduceLT, Int.reduceLE, Int.reduceGT, Int.reduceGE, Nat.reduceLT, Nat.reduceGT, Int.reduceToNat, reduceCtorEq, Nat.reduceBEq, Int.reduceBEq, Int.reduceBNe, Int.reduceEq, Int.reduceNe, decide_true, decide_false, hs1, hs2, hs3, hs4, hle2, htk, ne0, ne1, ne2, ne3, ne4, ne5, ne6, ne7, ne8, ne9, ne10, ne11, ne12, ne13, ne14, ne15, ne16, ne17, ne18, ne19, ne20, ne21, ne22, ne23, ne24, ne25, ne26, ne27, ne28, ne29, ne30, ne31, ne32, ne33, ne34, ne35, ne36, ne37, ne38, ne39, ne40, ne41, ne42, ne43, ne44, ne45, ne46, ne47, ne48, ne49, ne50, ne51, ne52, ne53, ne54, ne55])
      have es : stmtM l (d + 1) base p = stK l (stmtM l d) base 13 p1 := by simp only [stmtM]; rw [e0]; try rfl
      rw [es]
      refine v_end (id := c3 + 4) hfr (by omega) (by omega) htc (by first | rfl | simp only [stK, List.length_append, List.length_singleton]) ?_ ?_ fun j h1 h2 => ?_
      · repeat (first | exact h_same | rw [h_ne (by omega)] | rw [h_dne (by omega)])
      · rw [h_same]; simp only [stK, insC_app, insC_one]
      · repeat (first | rfl | rw [h_ne (by omega)] | rw [h_dne (by omega)])
    · have nk : ((14 : Nat) : Int) = 14 := rfl
      simp only [go_sem, Nat.reduceAdd, Nat.reduceLeDiff, Nat.reduceEqDiff, Nat.reduceMul, Nat.reduceSub, ↓reduceIte, Int.reduceLT, Int.reduceLE, Int.reduceGT, Int.reduceGE, Nat.reduceLT, Nat.reduceGT, Int.reduceToNat, reduceCtorEq, Nat.reduceBEq, Int.reduceBEq, Int.reduceBNe, Int.reduceEq, Int.reduceNe, decide_true, decide_false, hdl, nk, Int.reduceGT, Int.reduceBEq, Int.reduceLE, decide_true, decide_false, hw2, hw1]
      repeat' ((first | (with_reducible first | refine wr ?_ | refine i_ret ?_ | refine i_skip ?_ | refine i_exit ?_) | ((with_reducible first | refine k_cb ?_ ?_ | refine k_gb ?_ ?_ | refine k_gb' ?_ ?_) <;> (intro hb; try simp only [hb]))) <;> try simp only [go_sem, Nat.reduceAdd, Nat.reduceLeDiff, Nat.reduceEqDiff, Nat.reduceMul, Nat.reduceSub, ↓reduceIte, Int.reduceLT, Int.reduceLE, Int.reduceGT, Int.reduceGE, Nat.reduceLT, Nat.reduceGT, Int.reduceToNat, reduceCtorEq, Nat.reduceBEq, Int.reduceBEq, Int.reduceBNe, Int.reduceEq, Int.reduceNe, decide_true, decide_false, hdl, nk, Int.reduceGT, Int.reduceBEq, Int.reduceLE, decide_true, decide_false, hw2, hw1])
      refine AC.call (c_value l hl 0 (by omega) (p1) hp1 _ _ t (by repeat (first | exact h_same | rw [h_ne (by omega)] | rw [h_dne (by omega)])) (by omega)) ?_
      rintro v H' c2 ⟨id1, ia1, ib1, rfl, rfl⟩ hcc2
      have hb1 := valueM_l0 l (p1)
      have hp2 := valueM_le l 0 (p1) hp1
      have hs1 := w_sum (a := base) (b := (valueM l 0 p1).1.length) (by omega)
      have hs2 := w_sum (a := base + (valueM l 0 p1).1.length) (b := 1) (by omega)
      have one : ((1 : Nat) : Int) = 1 := rfl
      rw [one] at hs2
      have ne0 : ¬ t = id1 := by omega
      have ne1 : ¬ t = c2 := by omega
      have ne2 : ¬ t = c2 + 1 := by omega
      have ne3 : ¬ id1 = t := by omega
      have ne4 : ¬ id1 = c2 := by omega
      have ne5 : ¬ id1 = c2 + 1 := by omega
      have ne6 : ¬ c2 = t := by omega
      have ne7 : ¬ c2 = id1 := by omega
      have ne8 : ¬ c2 = c2 + 1 := by omega
      have ne9 : ¬ c2 + 1 = t := by omega
      have ne10 : ¬ c2 + 1 = id1 := by omega
      have ne11 : ¬ c2 + 1 = c2 := by omega
      simp only [go_sem, Nat.reduceAdd, Nat.reduceLeDiff, Nat.reduceEqDiff, Nat.reduceMul, Nat.reduceSub, ↓reduceIte, Int.reduceLT, Int.reduceLE, Int.reduceGT, Int.reduceGE, Nat.reduceLT, Nat.reduceGT, Int.reduceToNat, reduceCtorEq, Nat.reduceBEq, Int.reduceBEq, Int.reduceBNe, Int.reduceEq, Int.reduceNe, decide_true, decide_false, hs1, hs2, hw2, hw1, ne0, ne1, ne2, ne3, ne4, ne5, ne6, ne7, ne8, ne9, ne10, ne11]
      repeat' ((first | (with_reducible first | refine wr ?_ | refine i_ret ?_ | refine i_skip ?_ | refine i_exit ?_) | ((with_reducible first | refine k_cb ?_ ?_ | refine k_gb ?_ ?_ | refine k_gb' ?_ ?_) <;> (intro hb; try simp only [hb])) | ((with_reducible refine k_eval (b_appx (insC_len2 _) (by omega) (by omega)) ?_))) <;> try simp only [go_sem, Nat.reduceAdd, Nat.reduceLeDiff, Nat.reduceEqDiff, Nat.reduceMul, Nat.reduceSub, ↓reduceIte, Int.reduceLT, Int.reduceLE, Int.reduceGT, Int.reduceGE, Nat.reduceLT, Nat.reduceGT, Int.reduceToNat, reduceCtorEq, Nat.reduceBEq, Int.reduceBEq, Int.reduceBNe, Int.reduceEq, Int.reduceNe, decide_true, decide_false, hs1, hs2, hw2, hw1, ne0, ne1, ne2, ne3, ne4, ne5, ne6, ne7, ne8, ne9, ne10, ne11])
      refine AC.call (ih (by omega) (base + (valueM l 0 p1).1.length + 1) ((valueM l 0 p1).2) (by omega) hp2 _ _ t (by repeat (first | exact h_same | rw [h_ne (by omega)] | rw [h_dne (by omega)])) (by omega)) ?_
      rintro v H' c3 ⟨id2, ia2, ib2, rfl, rfl⟩ hcc3
      have hb2 := stmtM_len l d (base + (valueM l 0 p1).1.length + 1) ((valueM l 0 p1).2)
      have hs4 := w_sum (a := base + (valueM l 0 p1).1.length) (b := 2) (by omega)
      have two : ((2 : Nat) : Int) = 2 := rfl
      rw [two] at hs4
      have hs3 := w_sum (a := base + (valueM l 0 p1).1.length + 2) (b := (stmtM l d (base + (valueM l 0 p1).1.length + 1) (valueM l 0 p1).2).1.length) (by omega)
      have hl2 := insC_len2 (stmtM l d (base + (valueM l 0 p1).1.length + 1) (valueM l 0 p1).2).1
      have hle2 : (stmtM l d (base + (valueM l 0 p1).1.length + 1) (valueM l 0 p1).2).1.length * 2 ≤ (insC (stmtM l d (base + (valueM l 0 p1).1.length + 1) (valueM l 0 p1).2).1).length := by omega
      have htk := List.take_of_length_le (l := insC (stmtM l d (base + (valueM l 0 p1).1.length + 1) (valueM l 0 p1).2).1) (i := (stmtM l d (base + (valueM l 0 p1).1.length + 1) (valueM l 0 p1).2).1.length * 2) (by omega)
      have hl3 := fun x y => insL1 (valueM l 0 p1).1 x y
      have hl4 := fun x y => insL3 (valueM l 0 p1).1 (stmtM l d (base + (valueM l 0 p1).1.length + 1) (valueM l 0 p1).2).1 x y
      have ne0 : ¬ t = id1 := by omega
      have ne1 : ¬ t = id2 := by omega
      have ne2 : ¬ t = c3 := by omega
      have ne3 : ¬ t = c3 + 1 := by omega
      have ne4 : ¬ t = c3 + 2 := by omega
      have ne5 : ¬ t = c3 + 3 := by omega
      have ne6 : ¬ t = c3 + 4 := by omega
      have ne7 : ¬ id1 = t := by omega
      have ne8 : ¬ id1 = id2 := by omega
      have ne9 : ¬ id1 = c3 := by omega
      have ne10 : ¬ id1 = c3 + 1 := by omega
      have ne11 : ¬ id1 = c3 + 2 := by omega
      have ne12 : ¬ id1 = c3 + 3 := by omega
      have ne13 : ¬ id1 = c3 + 4 := by omega
      have ne14 : ¬ id2 = t := by omega
      have ne15 : ¬ id2 = id1 := by omega
      have ne16 : ¬ id2 = c3 := by omega
      have ne17 : ¬ id2 = c3 + 1 := by omega
      have ne18 : ¬ id2 = c3 + 2 := by omega
      have ne19 : ¬ id2 = c3 + 3 := by omega
      have ne20 : ¬ id2 = c3 + 4 := by omega
      have ne21 : ¬ c3 = t := by omega
      have ne22 : ¬ c3 = id1 := by omega
      have ne23 : ¬ c3 = id2 := by omega
      have ne24 : ¬ c3 = c3 + 1 := by omega
      have ne25 : ¬ c3 = c3 + 2 := by omega
      have ne26 : ¬ c3 = c3 + 3 := by omega
      have ne27 : ¬ c3 = c3 + 4 := by omega
      have ne28 : ¬ c3 + 1 = t := by omega
      have ne29 : ¬ c3 + 1 = id1 := by omega
      have ne30 : ¬ c3 + 1 = id2 := by omega
      have ne31 : ¬ c3 + 1 = c3 := by omega
      have ne32 : ¬ c3 + 1 = c3 + 2 := by omega
      have ne33 : ¬ c3 + 1 = c3 + 3 := by omega
      have ne34 : ¬ c3 + 1 = c3 + 4 := by omega
      have ne35 : ¬ c3 + 2 = t := by omega
      have ne36 : ¬ c3 + 2 = id1 := by omega
      have ne37 : ¬ c3 + 2 = id2 := by omega
      have ne38 : ¬ c3 + 2 = c3 := by omega
      have ne39 : ¬ c3 + 2 = c3 + 1 := by omega
      have ne40 : ¬ c3 + 2 = c3 + 3 := by omega
      have ne41 : ¬ c3 + 2 = c3 + 4 := by omega
      have ne42 : ¬ c3 + 3 = t := by omega
      have ne43 : ¬ c3 + 3 = id1 := by omega
      have ne44 : ¬ c3 + 3 = id2 := by omega
      have ne45 : ¬ c3 + 3 = c3 := by omega
      have ne46 : ¬ c3 + 3 = c3 + 1 := by omega
      have ne47 : ¬ c3 + 3 = c3 + 2 := by omega
      have ne48 : ¬ c3 + 3 = c3 + 4 := by omega
      have ne49 : ¬ c3 + 4 = t := by omega
      have ne50 : ¬ c3 + 4 = id1 := by omega
      have ne51 : ¬ c3 + 4 = id2 := by omega
      have ne52 : ¬ c3 + 4 = c3 := by omega
      have ne53 : ¬ c3 + 4 = c3 + 1 := by omega
      have ne54 : ¬ c3 + 4 = c3 + 2 := by omega
      have ne55 : ¬ c3 + 4 = c3 + 3 := by omega
      simp only [go_sem, Nat.reduceAdd, Nat.reduceLeDiff, Nat.reduceEqDiff, Nat.reduceMul, Nat.reduceSub, ↓reduceIte, Int.reduceLT, Int.reduceLE, Int.reduceGT, Int.reduceGE, Nat.reduceLT, Nat.reduceGT, Int.reduceToNat, reduceCtorEq, Nat.reduceBEq, Int.reduceBEq, Int.reduceBNe, Int.reduceEq, Int.reduceNe, decide_true, decide_false, hs1, hs2, hs3, hs4, hle2, htk, ne0, ne1, ne2, ne3, ne4, ne5, ne6, ne7, ne8, ne9, ne10, ne11, ne12, ne13, ne14, ne15, ne16, ne17, ne18, ne19, ne20, ne21, ne22, ne23, ne24, ne25, ne26, ne27, ne28, ne29, ne30, ne31, ne32, ne33, ne34, ne35, ne36, ne37, ne38, ne39, ne40, ne41, ne42, ne43, ne44, ne45, ne46, ne47, ne48, ne49, ne50, ne51, ne52, ne53, ne54, ne55]
      repeat' ((first | (with_reducible first | refine wr ?_ | refine i_ret ?_ | refine i_skip ?_ | refine i_exit ?_) | ((with_reducible first | refine k_cb ?_ ?_ | refine k_gb ?_ ?_ | refine k_gb' ?_ ?_) <;> (intro hb; try simp only [hb])) | ((with_reducible refine k_eval (b_appx (insC_len2 _) (by omega) (by omega)) ?_)) | ((with_reducible refine k_eval (b_appx (hl3 _ _) (by omega) (by omega)) ?_)) | ((with_reducible refine k_eval (b_appx (hl4 _ _) (by omega) (by omega)) ?_))) <;> try simp only [go_sem, Nat.reduceAdd, Nat.reduceLeDiff, Nat.reduceEqDiff, Nat.reduceMul, Nat.reduceSub, ↓reduceIte, Int.reduceLT, Int.reduceLE, Int.reduceGT, Int.reduceGE, Nat.reduceLT, Nat.reduceGT, Int.reduceToNat, reduceCtorEq, Nat.reduceBEq, Int.reduceBEq, Int.reduceBNe, Int.reduceEq, Int.reduceNe, decide_true, decide_false, hs1, hs2, hs3, hs4, hle2, htk, ne0, ne1, ne2, ne3, ne4, ne5, ne6, ne7, ne8, ne9, ne10, ne11, ne12, ne13, ne14, ne15, ne16, ne17, ne18, ne19, ne20, ne21, ne22, ne23, ne24, ne25, ne26, ne27, ne28, ne29, ne30, ne31, ne32, ne33, ne34, ne35, ne36, ne37, ne38, ne39, ne40, ne41, ne42, ne43, ne44, ne45, ne46, ne47, ne48, ne49, ne50, ne51, ne52, ne53, ne54, ne55])
      have es : stmtM l (d + 1) base p = stK l (stmtM l d) base 14 p1 := by simp only [stmtM]; rw [e0]; try rfl
      rw [es]
      refine v_end (id := c3 + 4) hfr (by omega) (by omega) htc (by first | rfl | simp only [stK, List.length_append, List.length_singleton]) ?_ ?_ fun j h1 h2 => ?_
      · repeat (first | exact h_same | rw [h_ne (by omega)] | rw [h_dne (by omega)])
      · rw [h_same]; simp only [stK, insC_app, insC_one]
      · repeat (first | rfl | rw [h_ne (by omega)] | rw [h_dne (by omega)])
end Go.Proofs.YtcallbfckjlagaaDoor
