/-
  HELPERS of the claim: part 6 of its texts.
-/
import Derived.Test.YtcallbfckjlagaaDoorBake
set_option maxHeartbeats 4000000
set_option maxRecDepth 100000
set_option linter.unusedSimpArgs false
set_option linter.unusedVariables false
namespace Go.Proofs.YtcallbfckjlagaaDoor
open Go.Eng (IC IOper DReg IFn IsFn)
open Go.Sym Go.Pb
noncomputable section
def u16_11r : DReg := ⟨[⟨some 21, .pur (.fad 0 (.t 5)), none⟩, ⟨some 22, .pur (.ld 1 false (.t 21)), none⟩, ⟨some 23, .pur (.mv (.t 6)), none⟩, ⟨some 24, .pur (.mv (.t 4)), none⟩, ⟨some 25, .call 34 [.t 24], none⟩, ⟨some 26, .pur (.bld #[.int .i64 0, .int .i64 0] [(0, 1), (1, 1)] [(0, .t 23), (1, .t 25)]), none⟩, ⟨some 27, .new (.bsl 2 1 #[.int .i64 0, .int .i64 0] [(0, .t 26)]), none⟩, ⟨some 28, .eff (.app 2 16 (.t 22) (.t 27)), none⟩, ⟨some 29, .pur (.fad 0 (.t 5)), none⟩, ⟨none, .eff (.st 1 (.t 29) (.t 28)), none⟩], [[], [0], [], [], [3], [2, 4, 3], [5, 2, 4, 3], [1, 6, 4, 0, 5, 2, 3], [0, 1, 2, 3, 4, 5, 6, 7], [8, 7, 0, 1, 2, 3, 4, 5, 6]], [(0, none), (1, none), (2, none), (3, none), (4, some [0, 1, 2]), (5, none), (6, none), (7, some []), (8, none), (9, some [])]⟩
def u16_11 : IC := .drw 10 u16_11r
def u16_10r : List IOper := [⟨some 19, .pur (.mv (.t 4)), none⟩, ⟨some 20, .call 34 [.t 19], none⟩, ⟨some 6, .pur (.mv (.t 20)), none⟩]
def u16_10 : IC := .seq (.reg u16_10r) u16_11
def u16_12r : List IOper := [⟨some 30, .pur (.bin .add (.t 17) (.k (.int .i64 1))), none⟩, ⟨some 17, .pur (.mv (.t 30)), none⟩]
def u16_12 : IC := .reg u16_12r
def u16_9 : IC := .seq (.blk 1 u16_10) u16_12
def u16_8 : IC := .seq (.cond (.t 18) .skip (.exit 0)) u16_9
def u16_7r : List IOper := [⟨some 18, .pur (.bin .lss (.t 17) (.t 16)), none⟩]
def u16_7 : IC := .seq (.reg u16_7r) u16_8
def u16_6 : IC := .blk 0 (.loop u16_7)
def u16_5r : List IOper := [⟨some 15, .pur (.mv (.t 4)), none⟩, ⟨some 16, .call 33 [.t 15], none⟩, ⟨some 17, .pur (.mv (.k (.int .i64 0))), none⟩]
def u16_5 : IC := .seq (.reg u16_5r) u16_6
def u16_21r : List IOper := [⟨some 48, .pur (.mv (.t 4)), none⟩, ⟨some 49, .pur (.mv (.t 4)), none⟩, ⟨some 50, .pur (.nck (.t 49)), none⟩, ⟨some 51, .pur (.fad 0 (.t 50)), none⟩, ⟨some 52, .pur (.ld 1 false (.t 51)), none⟩, ⟨some 53, .pur (.mv (.t 7)), none⟩, ⟨some 54, .pur (.sls (.t 52) (some (.t 53)) none), none⟩, ⟨some 55, .pur (.nck (.t 48)), none⟩, ⟨some 56, .pur (.fad 0 (.t 55)), none⟩, ⟨none, .eff (.st 1 (.t 56) (.t 54)), none⟩]
def u16_21 : IC := .reg u16_21r
def u16_20r : DReg := ⟨[⟨some 37, .pur (.fad 1 (.t 5)), none⟩, ⟨some 38, .pur (.ld 1 false (.t 37)), none⟩, ⟨some 39, .pur (.mv (.t 4)), none⟩, ⟨some 40, .pur (.nck (.t 39)), none⟩, ⟨some 41, .pur (.fad 0 (.t 40)), none⟩, ⟨some 42, .pur (.ld 1 false (.t 41)), none⟩, ⟨some 43, .pur (.mv (.t 7)), none⟩, ⟨some 44, .pur (.sls (.t 42) none (some (.t 43))), none⟩, ⟨some 45, .new (.bsl 1 1 #[.string ⟨#[]⟩] [(0, .t 44)]), none⟩, ⟨some 46, .eff (.app 1 16 (.t 38) (.t 45)), none⟩, ⟨some 47, .pur (.fad 1 (.t 5)), none⟩, ⟨none, .eff (.st 1 (.t 47) (.t 46)), none⟩], [[], [0], [], [2], [3, 2], [4, 3, 2], [], [5, 6, 4, 3, 2], [7, 5, 6, 4, 3, 2], [1, 8, 0, 7, 5, 6, 4, 3, 2], [0, 1, 2, 3, 4, 5, 6, 7, 8, 9], [10, 9, 0, 1, 2, 3, 4, 5, 6, 7, 8]], [(0, none), (1, none), (2, none), (3, none), (4, none), (5, none), (6, none), (7, none), (8, none), (9, some []), (10, none), (11, some [])]⟩
def u16_20 : IC := .seq (.drw 12 u16_20r) u16_21
def u16_19r : List IOper := [⟨some 35, .pur (.mv (.t 4)), none⟩, ⟨some 36, .call 33 [.t 35], none⟩, ⟨some 7, .pur (.mv (.t 36)), none⟩]
def u16_19 : IC := .seq (.reg u16_19r) u16_20
def u16_22r : List IOper := [⟨some 57, .pur (.bin .add (.t 33) (.k (.int .i64 1))), none⟩, ⟨some 33, .pur (.mv (.t 57)), none⟩]
def u16_22 : IC := .reg u16_22r
def u16_18 : IC := .seq (.blk 3 u16_19) u16_22
def u16_17 : IC := .seq (.cond (.t 34) .skip (.exit 2)) u16_18
def u16_16r : List IOper := [⟨some 34, .pur (.bin .lss (.t 33) (.t 32)), none⟩]
def u16_16 : IC := .seq (.reg u16_16r) u16_17
def u16_15 : IC := .blk 2 (.loop u16_16)
def u16_14r : List IOper := [⟨some 31, .pur (.mv (.t 4)), none⟩, ⟨some 32, .call 33 [.t 31], none⟩, ⟨some 33, .pur (.mv (.k (.int .i64 0))), none⟩]
def u16_14 : IC := .seq (.reg u16_14r) u16_15
def u16_37r : List IOper := [⟨some 66, .pur (.mv (.t 9)), none⟩, ⟨some 67, .pur (.mv (.t 4)), none⟩, ⟨some 68, .call 34 [.t 67], none⟩, ⟨some 69, .pur (.iada 4 1 (.t 8) (.t 66)), none⟩, ⟨none, .eff (.st 1 (.t 69) (.t 68)), none⟩]
def u16_37 : IC := .reg u16_37r
def u16_36r : List IOper := [⟨some 65, .pur (.mv (.t 63)), none⟩, ⟨some 9, .pur (.mv (.t 65)), none⟩]
def u16_36 : IC := .seq (.reg u16_36r) u16_37
def u16_38r : List IOper := [⟨some 70, .pur (.bin .add (.t 63) (.k (.int .i64 1))), none⟩, ⟨some 63, .pur (.mv (.t 70)), none⟩]
def u16_38 : IC := .reg u16_38r
def u16_35 : IC := .seq (.blk 7 u16_36) u16_38
def u16_34 : IC := .seq (.cond (.t 64) .skip (.exit 6)) u16_35
def u16_33r : List IOper := [⟨some 64, .pur (.bin .lss (.t 63) (.k (.int .i64 4))), none⟩]
def u16_33 : IC := .seq (.reg u16_33r) u16_34
def u16_32 : IC := .blk 6 (.loop u16_33)
def u16_31r : List IOper := [⟨some 63, .pur (.mv (.k (.int .i64 0))), none⟩]
def u16_31 : IC := .seq (.reg u16_31r) u16_32
def u16_39r : List IOper := [⟨some 71, .pur (.fad 2 (.t 5)), none⟩, ⟨some 72, .pur (.ld 1 false (.t 71)), none⟩, ⟨some 73, .pur (.iada 4 1 (.t 8) (.k (.int .i64 0))), none⟩, ⟨some 74, .pur (.ld 1 false (.t 73)), none⟩, ⟨some 75, .pur (.iada 4 1 (.t 8) (.k (.int .i64 1))), none⟩, ⟨some 76, .pur (.ld 1 false (.t 75)), none⟩, ⟨some 77, .pur (.iada 4 1 (.t 8) (.k (.int .i64 2))), none⟩, ⟨some 78, .pur (.ld 1 false (.t 77)), none⟩, ⟨some 79, .pur (.iada 4 1 (.t 8) (.k (.int .i64 3))), none⟩, ⟨some 80, .pur (.ld 1 false (.t 79)), none⟩, ⟨some 81, .pur (.bld #[.int .i64 0, .int .i64 0, .int .i64 0, .int .i64 0] [(0, 1), (1, 1), (2, 1), (3, 1)] [(0, .t 74), (1, .t 76), (2, .t 78), (3, .t 80)]), none⟩, ⟨some 82, .new (.bsl 4 1 #[.int .i64 0, .int .i64 0, .int .i64 0, .int .i64 0] [(0, .t 81)]), none⟩, ⟨some 83, .eff (.app 4 32 (.t 72) (.t 82)), none⟩, ⟨some 84, .pur (.fad 2 (.t 5)), none⟩, ⟨none, .eff (.st 1 (.t 84) (.t 83)), none⟩]
def u16_39 : IC := .reg u16_39r
def u16_30 : IC := .seq u16_31 u16_39
def u16_29r : List IOper := [⟨some 62, .pur (.bld #[.int .i64 0, .int .i64 0, .int .i64 0, .int .i64 0] [] []), none⟩, ⟨some 8, .new (.box (.k (.agg #[.int .i64 0, .int .i64 0, .int .i64 0, .int .i64 0]))), none⟩, ⟨none, .eff (.st 4 (.t 8) (.t 62)), none⟩]
def u16_29 : IC := .seq (.reg u16_29r) u16_30
def u16_40r : List IOper := [⟨some 85, .pur (.bin .add (.t 60) (.k (.int .i64 1))), none⟩, ⟨some 60, .pur (.mv (.t 85)), none⟩]
def u16_40 : IC := .reg u16_40r
def u16_28 : IC := .seq (.blk 5 u16_29) u16_40
def u16_27 : IC := .seq (.cond (.t 61) .skip (.exit 4)) u16_28
def u16_26r : List IOper := [⟨some 61, .pur (.bin .lss (.t 60) (.t 59)), none⟩]
def u16_26 : IC := .seq (.reg u16_26r) u16_27
def u16_25 : IC := .blk 4 (.loop u16_26)
def u16_24r : List IOper := [⟨some 58, .pur (.mv (.t 4)), none⟩, ⟨some 59, .call 33 [.t 58], none⟩, ⟨some 60, .pur (.mv (.k (.int .i64 0))), none⟩]
def u16_24 : IC := .seq (.reg u16_24r) u16_25
def u16_49r : List IOper := [⟨some 116, .pur (.bld #[.slice none 0 0, .slice none 0 0, .slice none 0 0, .slice none 0 0, .slice none 0 0, .int .i64 0, .int .i64 0] [(0, 1), (1, 1), (2, 1), (3, 1), (4, 1), (5, 1), (6, 1)] []), none⟩, ⟨none, .eff (.st 7 (.t 2) (.t 116)), none⟩, ⟨some 3, .pur (.mv (.k (.int .i64 51))), none⟩]
def u16_49 : IC := .seq (.reg u16_49r) .ret
def u16_48 : IC := .cond (.t 115) u16_49 .skip
def u16_47r : List IOper := [⟨some 103, .pur (.mv (.t 4)), none⟩, ⟨some 104, .pur (.nck (.t 103)), none⟩, ⟨some 105, .pur (.fad 1 (.t 104)), none⟩, ⟨some 106, .pur (.ld 1 false (.t 105)), none⟩, ⟨some 107, .pur (.mv (.t 106)), none⟩, ⟨some 108, .pur (.mv (.t 11)), some (107, false)⟩, ⟨some 109, .pur (.bin .neq (.t 108) (.k (.int .i64 0))), some (107, false)⟩, ⟨some 110, .pur (.pick (.t 107) (.k (.bool true)) (.t 109)), none⟩, ⟨some 111, .pur (.mv (.t 110)), none⟩, ⟨some 112, .pur (.mv (.t 10)), some (111, false)⟩, ⟨some 113, .pur (.mv (.t 0)), some (111, false)⟩, ⟨some 114, .pur (.bin .neq (.t 112) (.t 113)), some (111, false)⟩, ⟨some 115, .pur (.pick (.t 111) (.k (.bool true)) (.t 114)), none⟩]
def u16_47 : IC := .seq (.reg u16_47r) u16_48
def u16_46r : List IOper := [⟨some 99, .pur (.ld 7 true (.t 5)), none⟩, ⟨some 100, .call 19 [.t 99], none⟩, ⟨some 98, .pur (.mv (.t 100)), none⟩, ⟨some 101, .pur (.ext (.t 98) 0), none⟩, ⟨some 102, .pur (.ext (.t 98) 1), none⟩, ⟨some 10, .pur (.mv (.t 101)), none⟩, ⟨some 11, .pur (.mv (.t 102)), none⟩]
def u16_46 : IC := .seq (.reg u16_46r) u16_47
def u16_50r : List IOper := [⟨some 117, .pur (.ld 7 true (.t 5)), none⟩, ⟨none, .eff (.st 7 (.t 2) (.t 117)), none⟩, ⟨some 3, .pur (.mv (.k (.int .i64 0))), none⟩]
def u16_50 : IC := .seq (.reg u16_50r) .ret
def u16_45 : IC := .seq u16_46 u16_50
def u16_44r : List IOper := [⟨some 95, .pur (.mv (.t 4)), none⟩, ⟨some 96, .call 34 [.t 95], none⟩, ⟨some 97, .pur (.fad 6 (.t 5)), none⟩, ⟨none, .eff (.st 1 (.t 97) (.t 96)), none⟩]
def u16_44 : IC := .seq (.reg u16_44r) u16_45
def u16_43r : List IOper := [⟨some 92, .pur (.mv (.t 4)), none⟩, ⟨some 93, .call 34 [.t 92], none⟩, ⟨some 94, .pur (.fad 5 (.t 5)), none⟩, ⟨none, .eff (.st 1 (.t 94) (.t 93)), none⟩]
def u16_43 : IC := .seq (.reg u16_43r) u16_44
def u16_42r : List IOper := [⟨some 89, .pur (.mv (.t 4)), none⟩, ⟨some 90, .call 35 [.t 89], none⟩, ⟨some 91, .pur (.fad 4 (.t 5)), none⟩, ⟨none, .eff (.st 1 (.t 91) (.t 90)), none⟩]
def u16_42 : IC := .seq (.reg u16_42r) u16_43
def u16_41r : List IOper := [⟨some 86, .pur (.mv (.t 4)), none⟩, ⟨some 87, .call 35 [.t 86], none⟩, ⟨some 88, .pur (.fad 3 (.t 5)), none⟩, ⟨none, .eff (.st 1 (.t 88) (.t 87)), none⟩]
def u16_41 : IC := .seq (.reg u16_41r) u16_42
def u16_23 : IC := .seq u16_24 u16_41
def u16_13 : IC := .seq u16_14 u16_23
def u16_4 : IC := .seq u16_5 u16_13
def u16_3r : List IOper := [⟨some 5, .new (.box (.k (.agg #[.slice none 0 0, .slice none 0 0, .slice none 0 0, .slice none 0 0, .slice none 0 0, .int .i64 0, .int .i64 0]))), none⟩]
def u16_3 : IC := .seq (.reg u16_3r) u16_4
def u16_2r : List IOper := [⟨some 12, .pur (.mv (.t 0)), none⟩, ⟨some 13, .pur (.bld #[.string ⟨#[]⟩, .bool false] [(0, 1), (1, 1)] [(0, .t 12)]), none⟩, ⟨some 14, .new (.box (.t 13)), none⟩, ⟨some 4, .pur (.mv (.t 14)), none⟩]
def u16_2 : IC := .seq (.reg u16_2r) u16_3
def u16_1r : List IOper := [⟨some 2, .new (.box (.k (.agg #[.slice none 0 0, .slice none 0 0, .slice none 0 0, .slice none 0 0, .slice none 0 0, .int .i64 0, .int .i64 0]))), none⟩, ⟨some 3, .pur (.mv (.k (.int .i64 0))), none⟩]
def u16_1 : IC := .seq (.reg u16_1r) u16_2
def u16 : IFn := ⟨118, u16_1, [.cell 2 7 true, .tmp 3]⟩
end
theorem isU16 : IsFn Tryd.prog 16 u16 := by unfold IsFn; kernel_rfl
instance i16_11 : WR Tryd.prog 118 u16_11 (rDE 10 u16_11r [0, 2, 4, 5, 6, 16, 17]) := ⟨mkDE⟩
instance i16_10 : WR Tryd.prog 118 u16_10 (rS u16_10r u16_11 [0, 2, 4, 5, 16, 17]) := ⟨mkS⟩
instance i16_12 : WR Tryd.prog 118 u16_12 (rE u16_12r [0, 2, 4, 5, 16, 17]) := ⟨mkE⟩
instance i16_9 : WR Tryd.prog 118 u16_9 (rB 1 u16_10 u16_12 [0, 2, 4, 5, 16, 17]) := ⟨mkB⟩
instance i16_8 : WR Tryd.prog 118 u16_8 (rC (.t 18) .skip (.exit 0) u16_9 [0, 2, 4, 5, 16, 17, 18]) := ⟨mkC⟩
instance i16_7 : WR Tryd.prog 118 u16_7 (rS u16_7r u16_8 [0, 2, 4, 5, 16, 17]) := ⟨mkS⟩
instance i16_6 : WR Tryd.prog 118 u16_6 (rBE 0 (.loop u16_7) [0, 2, 4, 5, 16, 17]) := ⟨mkBE⟩
instance i16_5 : WR Tryd.prog 118 u16_5 (rS u16_5r u16_6 [0, 2, 4, 5]) := ⟨mkS⟩
instance i16_21 : WR Tryd.prog 118 u16_21 (rE u16_21r [0, 2, 4, 5, 7, 32, 33]) := ⟨mkE⟩
instance i16_20 : WR Tryd.prog 118 u16_20 (rD 12 u16_20r u16_21 [0, 2, 4, 5, 7, 32, 33]) := ⟨mkD⟩
instance i16_19 : WR Tryd.prog 118 u16_19 (rS u16_19r u16_20 [0, 2, 4, 5, 32, 33]) := ⟨mkS⟩
instance i16_22 : WR Tryd.prog 118 u16_22 (rE u16_22r [0, 2, 4, 5, 32, 33]) := ⟨mkE⟩
instance i16_18 : WR Tryd.prog 118 u16_18 (rB 3 u16_19 u16_22 [0, 2, 4, 5, 32, 33]) := ⟨mkB⟩
instance i16_17 : WR Tryd.prog 118 u16_17 (rC (.t 34) .skip (.exit 2) u16_18 [0, 2, 4, 5, 32, 33, 34]) := ⟨mkC⟩
instance i16_16 : WR Tryd.prog 118 u16_16 (rS u16_16r u16_17 [0, 2, 4, 5, 32, 33]) := ⟨mkS⟩
instance i16_15 : WR Tryd.prog 118 u16_15 (rBE 2 (.loop u16_16) [0, 2, 4, 5, 32, 33]) := ⟨mkBE⟩
instance i16_14 : WR Tryd.prog 118 u16_14 (rS u16_14r u16_15 [0, 2, 4, 5]) := ⟨mkS⟩
instance i16_37 : WR Tryd.prog 118 u16_37 (rE u16_37r [0, 2, 4, 5, 8, 9, 59, 60, 63]) := ⟨mkE⟩
instance i16_36 : WR Tryd.prog 118 u16_36 (rS u16_36r u16_37 [0, 2, 4, 5, 8, 59, 60, 63]) := ⟨mkS⟩
instance i16_38 : WR Tryd.prog 118 u16_38 (rE u16_38r [0, 2, 4, 5, 8, 59, 60, 63]) := ⟨mkE⟩
instance i16_35 : WR Tryd.prog 118 u16_35 (rB 7 u16_36 u16_38 [0, 2, 4, 5, 8, 59, 60, 63]) := ⟨mkB⟩
instance i16_34 : WR Tryd.prog 118 u16_34 (rC (.t 64) .skip (.exit 6) u16_35 [0, 2, 4, 5, 8, 59, 60, 63, 64]) := ⟨mkC⟩
instance i16_33 : WR Tryd.prog 118 u16_33 (rS u16_33r u16_34 [0, 2, 4, 5, 8, 59, 60, 63]) := ⟨mkS⟩
instance i16_32 : WR Tryd.prog 118 u16_32 (rBE 6 (.loop u16_33) [0, 2, 4, 5, 8, 59, 60, 63]) := ⟨mkBE⟩
instance i16_31 : WR Tryd.prog 118 u16_31 (rS u16_31r u16_32 [0, 2, 4, 5, 8, 59, 60]) := ⟨mkS⟩
instance i16_39 : WR Tryd.prog 118 u16_39 (rE u16_39r [0, 2, 4, 5, 8, 59, 60]) := ⟨mkE⟩
instance i16_30 : WR Tryd.prog 118 u16_30 (rQ u16_31 u16_39 [0, 2, 4, 5, 8, 59, 60]) := ⟨mkQ⟩
instance i16_29 : WR Tryd.prog 118 u16_29 (rS u16_29r u16_30 [0, 2, 4, 5, 59, 60]) := ⟨mkS⟩
instance i16_40 : WR Tryd.prog 118 u16_40 (rE u16_40r [0, 2, 4, 5, 59, 60]) := ⟨mkE⟩
instance i16_28 : WR Tryd.prog 118 u16_28 (rB 5 u16_29 u16_40 [0, 2, 4, 5, 59, 60]) := ⟨mkB⟩
instance i16_27 : WR Tryd.prog 118 u16_27 (rC (.t 61) .skip (.exit 4) u16_28 [0, 2, 4, 5, 59, 60, 61]) := ⟨mkC⟩
instance i16_26 : WR Tryd.prog 118 u16_26 (rS u16_26r u16_27 [0, 2, 4, 5, 59, 60]) := ⟨mkS⟩
instance i16_25 : WR Tryd.prog 118 u16_25 (rBE 4 (.loop u16_26) [0, 2, 4, 5, 59, 60]) := ⟨mkBE⟩
instance i16_24 : WR Tryd.prog 118 u16_24 (rS u16_24r u16_25 [0, 2, 4, 5]) := ⟨mkS⟩
instance i16_49 : WR Tryd.prog 118 u16_49 (rS u16_49r .ret [2]) := ⟨mkS⟩
instance i16_48 : WR Tryd.prog 118 u16_48 (rCE (.t 115) u16_49 .skip [2, 5, 115]) := ⟨mkCE⟩
instance i16_47 : WR Tryd.prog 118 u16_47 (rS u16_47r u16_48 [0, 2, 4, 5, 10, 11]) := ⟨mkS⟩
instance i16_46 : WR Tryd.prog 118 u16_46 (rS u16_46r u16_47 [0, 2, 4, 5]) := ⟨mkS⟩
instance i16_50 : WR Tryd.prog 118 u16_50 (rS u16_50r .ret [2, 5]) := ⟨mkS⟩
instance i16_45 : WR Tryd.prog 118 u16_45 (rQ u16_46 u16_50 [0, 2, 4, 5]) := ⟨mkQ⟩
instance i16_44 : WR Tryd.prog 118 u16_44 (rS u16_44r u16_45 [0, 2, 4, 5]) := ⟨mkS⟩
instance i16_43 : WR Tryd.prog 118 u16_43 (rS u16_43r u16_44 [0, 2, 4, 5]) := ⟨mkS⟩
instance i16_42 : WR Tryd.prog 118 u16_42 (rS u16_42r u16_43 [0, 2, 4, 5]) := ⟨mkS⟩
instance i16_41 : WR Tryd.prog 118 u16_41 (rS u16_41r u16_42 [0, 2, 4, 5]) := ⟨mkS⟩
instance i16_23 : WR Tryd.prog 118 u16_23 (rQ u16_24 u16_41 [0, 2, 4, 5]) := ⟨mkQ⟩
instance i16_13 : WR Tryd.prog 118 u16_13 (rQ u16_14 u16_23 [0, 2, 4, 5]) := ⟨mkQ⟩
instance i16_4 : WR Tryd.prog 118 u16_4 (rQ u16_5 u16_13 [0, 2, 4, 5]) := ⟨mkQ⟩
instance i16_3 : WR Tryd.prog 118 u16_3 (rS u16_3r u16_4 [0, 2, 4]) := ⟨mkS⟩
instance i16_2 : WR Tryd.prog 118 u16_2 (rS u16_2r u16_3 [0, 2]) := ⟨mkS⟩
instance i16_1 : WR Tryd.prog 118 u16_1 (rS u16_1r u16_2 [0]) := ⟨mkS⟩
attribute [go_sem] u16_11r u16_10r u16_12r u16_7r u16_5r u16_21r u16_20r u16_19r u16_22r u16_16r u16_14r u16_37r u16_36r u16_38r u16_33r u16_31r u16_39r u16_29r u16_40r u16_26r u16_24r u16_49r u16_47r u16_46r u16_50r u16_44r u16_43r u16_42r u16_41r u16_3r u16_2r u16_1r
def DB (s : RS) : Hp := (Sym.nil.upd 0 ⟨0, true, [.snil, .snil, .snil, .snil, .snil, I64 0, I64 0]⟩).upd 1 (rdB s)
theorem DB_n (s : RS) {j : Nat} (h : 2 ≤ j) : DB s j = none := by
  unfold DB; rw [h_ne (by omega), h_ne (by omega)]; rfl
def DH (s : RS) (cs : List DV) (o : Option Nat) (b : Blk) : Hp := optH ((DB s).upd 2 ⟨0, true, cs⟩) o b
theorem DH_0 {s : RS} {cs : List DV} {o : Option Nat} {b : Blk} (h : ∀ i, o = some i → 3 ≤ i) : DH s cs o b 0 = some ⟨0, true, [.snil, .snil, .snil, .snil, .snil, I64 0, I64 0]⟩ := by
  cases o with
  | none => rfl
  | some i => have := h i rfl; simp only [DH, optH]; rw [h_ne (by omega)]; rfl
theorem DH_1 {s : RS} {cs : List DV} {o : Option Nat} {b : Blk} (h : ∀ i, o = some i → 3 ≤ i) : DH s cs o b 1 = some (rdB s) := by
  cases o with
  | none => rfl
  | some i => have := h i rfl; simp only [DH, optH]; rw [h_ne (by omega)]; rfl
theorem DH_2 {s : RS} {cs : List DV} {o : Option Nat} {b : Blk} (h : ∀ i, o = some i → 3 ≤ i) : DH s cs o b 2 = some ⟨0, true, cs⟩ := by
  cases o with
  | none => rfl
  | some i => have := h i rfl; simp only [DH, optH]; rw [h_ne (by omega)]; rfl
theorem DH_r {s s' : RS} {cs : List DV} {o : Option Nat} {b : Blk} (h : ∀ i, o = some i → 3 ≤ i) : (DH s cs o b).upd 1 (rdB s') = DH s' cs o b := by
  funext j
  cases o with
  | none => simp only [DH, DB, optH, Hp.upd]; split <;> (try split) <;> (try split) <;> first | rfl | omega
  | some i => have := h i rfl; simp only [DH, DB, optH, Hp.upd]; split <;> (try split) <;> (try split) <;> first | rfl | omega
theorem decV_nl (o : Option Prg) : (decV o).nl = true := by
  cases o <;> simp [decV, DV.nl, DV.nlL, nlL_ints, nlL_strs, nlL_instrs, nlL_entries, Prg.none]
theorem c_rnumD (s : RS) (hs : s.1.length ≤ 1000000) {cs : List DV} {o : Option Nat} {b : Blk} (h : ∀ i, o = some i → 3 ≤ i) (cc : Nat) (hc : 3 ≤ cc) : AC Tryd.prog 34 [.ptr 1 0] (DH s cs o b) cc (fun v H' c' => v = I64 (rdNum s).1 ∧ H' = DH (rdNum s).2 cs o b) :=
  (c_rnum s hs _ cc 1 (DH_1 h) (by omega)).mono fun v H' c' q => ⟨q.1, by rw [q.2, DH_r h]⟩
theorem c_rcntD (s : RS) (hs : s.1.length ≤ 1000000) {cs : List DV} {o : Option Nat} {b : Blk} (h : ∀ i, o = some i → 3 ≤ i) (cc : Nat) (hc : 3 ≤ cc) : AC Tryd.prog 33 [.ptr 1 0] (DH s cs o b) cc (fun v H' c' => v = I64 ((rdCnt s).1 : Int) ∧ H' = DH (rdCnt s).2 cs o b) :=
  (c_rcnt s hs _ cc 1 (DH_1 h) (by omega)).mono fun v H' c' q => ⟨q.1, by rw [q.2, DH_r h]⟩
theorem c_rnumsD (s : RS) (hs : s.1.length ≤ 1000000) {cs : List DV} {o : Option Nat} {b : Blk} (h : ∀ i, o = some i → 3 ≤ i) (cc : Nat) (hc : 3 ≤ cc) : AC Tryd.prog 35 [.ptr 1 0] (DH s cs o b) cc (fun v H' c' => v = ints (rdNums s).1 ∧ H' = DH (rdNums s).2 cs o b) :=
  (c_rnums s hs _ cc 1 (DH_1 h) (by omega)).mono fun v H' c' q => ⟨q.1, by rw [q.2, DH_r h]⟩
theorem DH_fin {s : RS} {u n : Nat} {o : Option Nat} {pre suf : List DV} {xs ds : List DV} (h1 : ∀ d ∈ pre ++ suf, d.one = true) (hn : o = none → xs = []) (hs : ∀ i, o = some i → 3 ≤ i)
    (hl : xs.length = n) (hu : ∀ x ∈ xs, x.cells.length = u) {b : Blk} : GL (DH s (pre ++ [todoV o n] ++ suf) o ⟨u, true, cellsL xs⟩) ds (DH s (pre ++ [.lst xs] ++ suf) none b) ds :=
  g_fin h1 hn (fun i hi => ⟨by have := hs i hi; omega, DB_n s (by have := hs i hi; omega)⟩) hl hu
theorem DH_s {s : RS} {cs : List DV} {i : Nat} {b : Blk} : DH s cs (some i) b i = some b := h_same
theorem DH_n {s : RS} {cs : List DV} {o : Option Nat} {b : Blk} {j : Nat} (h : 3 ≤ j) (h2 : ∀ i, o = some i → i < j) : DH s cs o b j = none := by
  cases o with
  | none => simp only [DH, optH]; rw [h_ne (by omega), DB_n s (by omega)]
  | some i => have := h2 i rfl; simp only [DH, optH]; rw [h_ne (by omega), h_ne (by omega), DB_n s (by omega)]
theorem no2 {j : Nat} : ∀ i, (none : Option Nat) = some i → i < j := fun i h => by cases h
theorem no3 : ∀ i, (none : Option Nat) = some i → 3 ≤ i := fun i h => by cases h
theorem none_view {ρ : Ren} {v : Value} (h : VRel ρ (.agg [.snil, .snil, .snil, .snil, .snil, I64 0, I64 0]) v) : VRel ρ Prg.none.v v := by
  obtain ⟨b, rfl, hA⟩ := h.agg_inv
  refine .mkAgg ⟨hA.1, fun i x y hx hy => ?_⟩
  match i with
  | 0 => cases hx; exact (hA.2 0 _ y rfl hy).snil_lst
  | 1 => cases hx; exact (hA.2 1 _ y rfl hy).snil_lst
  | 2 => cases hx; exact (hA.2 2 _ y rfl hy).snil_lst
  | 3 => cases hx; exact (hA.2 3 _ y rfl hy).snil_lst
  | 4 => cases hx; exact (hA.2 4 _ y rfl hy).snil_lst
  | 5 => cases hx; exact hA.2 5 _ y rfl hy
  | 6 => cases hx; exact hA.2 6 _ y rfl hy
  | _ + 7 => cases hx
theorem g_none {H : Hp} : ∃ H2, GL H [.tup [.agg [.snil, .snil, .snil, .snil, .snil, I64 0, I64 0], I64 51]] H2 [decV Option.none] :=
  ⟨H, GL.view fun ρ vs h => arel_one (fun v h => h.tup2 fun v h => none_view h) vs h⟩
theorem c_Decode (s : List UInt8) (hs : s.length ≤ 1000000) : PC Tryd.prog 16 [.str s] (decV (decP s)) := by
  refine PC.of mixedU isU16 (Nat.le_of_ble_eq_true rfl) rfl (decV_nl _) ?_
  show IW Tryd.prog 118 u16_1 ⟨argT _, _, _⟩ (rt [.cell 2 7 true, .tmp 3] _)
  repeat' ((first | (with_reducible first | refine wr ?_ | refine i_ret ?_ | refine i_skip ?_ | refine i_exit ?_) | ((with_reducible first | refine k_cb ?_ ?_ | refine k_gb ?_ ?_ | refine k_gb' ?_ ?_) <;> (intro hb; try simp only [hb]))) <;> try simp only [go_sem, Nat.reduceAdd, Nat.reduceLeDiff, Nat.reduceEqDiff, Nat.reduceMul, Nat.reduceSub, ↓reduceIte, Int.reduceLT, Int.reduceLE, Int.reduceGT, Int.reduceGE, Nat.reduceLT, Nat.reduceGT, Int.reduceToNat, reduceCtorEq, Nat.reduceBEq, Int.reduceBEq, Int.reduceBNe, Int.reduceEq, Int.reduceNe, decide_true, decide_false])
  refine AC.call (c_rcntD (s, false) hs (cs := [.snil, .snil, .snil, .snil, .snil, I64 0, I64 0]) (b := ⟨0, true, []⟩) no3 3 (by omega)) ?_
  rintro v H' c1 ⟨rfl, rfl⟩ hc1
  obtain ⟨L1, L2⟩ := rdCnt_len (s, false)
  obtain ⟨n1, hn1⟩ : ∃ n, n = (rdCnt (s, false)).1 := ⟨_, rfl⟩
  obtain ⟨s1, hs1⟩ : ∃ st, st = (rdCnt (s, false)).2 := ⟨_, rfl⟩
  rw [← hn1, ← hs1] at L2 ⊢
  rw [← hs1] at L1
  simp only at L1
  simp only [go_sem, Nat.reduceAdd, Nat.reduceLeDiff, Nat.reduceEqDiff, Nat.reduceMul, Nat.reduceSub, ↓reduceIte, Int.reduceLT, Int.reduceLE, Int.reduceGT, Int.reduceGE, Nat.reduceLT, Nat.reduceGT, Int.reduceToNat, reduceCtorEq, Nat.reduceBEq, Int.reduceBEq, Int.reduceBNe, Int.reduceEq, Int.reduceNe, decide_true, decide_false]
  repeat' ((first | (with_reducible first | refine wr ?_ | refine i_ret ?_ | refine i_skip ?_ | refine i_exit ?_) | ((with_reducible first | refine k_cb ?_ ?_ | refine k_gb ?_ ?_ | refine k_gb' ?_ ?_) <;> (intro hb; try simp only [hb]))) <;> try simp only [go_sem, Nat.reduceAdd, Nat.reduceLeDiff, Nat.reduceEqDiff, Nat.reduceMul, Nat.reduceSub, ↓reduceIte, Int.reduceLT, Int.reduceLE, Int.reduceGT, Int.reduceGE, Nat.reduceLT, Nat.reduceGT, Int.reduceToNat, reduceCtorEq, Nat.reduceBEq, Int.reduceBEq, Int.reduceBNe, Int.reduceEq, Int.reduceNe, decide_true, decide_false])
  refine i_loop (fun q : Nat × Option Nat => [(0, .str s), (2, .ptr 0 0), (4, .ptr 1 0), (5, .ptr 2 0), (16, I64 n1), (17, I64 q.1)]) (fun q => DH (rdMany rdIns q.1 s1).2 [todoV q.2 q.1, .snil, .snil, .snil, .snil, I64 0, I64 0] q.2 ⟨2, true, insC (rdMany rdIns q.1 s1).1⟩) (fun q cc => 3 ≤ cc ∧ q.1 ≤ n1 ∧ (q.2 = none → q.1 = 0) ∧ ∀ i, q.2 = some i → 3 ≤ i ∧ i < cc) (fun q => n1 - q.1) (0, none)
    (by simp [tmLe, tm, Tm.upd]) (Sub.refl _) ⟨by omega, by simp, by simp, by simp⟩ ?_
  rintro ⟨k, o⟩ cc ⟨h3, hk, hno, hso⟩
  simp only at hk hno hso
  have ho3 : ∀ i, o = some i → 3 ≤ i := fun i hi => (hso i hi).1
  obtain ⟨M1, M2⟩ := rdMany_len (f := rdIns) rdIns_len k s1
  by_cases hlt : k < n1
  · have hd : decide ((k : Int) < (n1 : Int)) = true := by simpa using hlt
    have hw : IntKind.i64.wrap ((k : Int) + 1) = ((k + 1 : Nat) : Int) := by rw [w64 (by omega) (by omega)]; omega
    have N1 := rdNum_len (rdMany rdIns k s1).2
    repeat' ((first | (with_reducible first | refine wr ?_ | refine i_ret ?_ | refine i_skip ?_ | refine i_exit ?_) | ((with_reducible first | refine k_cb ?_ ?_ | refine k_gb ?_ ?_ | refine k_gb' ?_ ?_) <;> (intro hb; try simp only [hb]))) <;> try simp only [go_sem, Nat.reduceAdd, Nat.reduceLeDiff, Nat.reduceEqDiff, Nat.reduceMul, Nat.reduceSub, ↓reduceIte, Int.reduceLT, Int.reduceLE, Int.reduceGT, Int.reduceGE, Nat.reduceLT, Nat.reduceGT, Int.reduceToNat, reduceCtorEq, Nat.reduceBEq, Int.reduceBEq, Int.reduceBNe, Int.reduceEq, Int.reduceNe, decide_true, decide_false, hd])
    refine AC.call (c_rnumD _ (by omega) ho3 cc h3) ?_
    rintro v H' c2 ⟨rfl, rfl⟩ hcc
    have hD2 := fun st => DH_2 (s := st) (cs := [todoV o k, .snil, .snil, .snil, .snil, I64 0, I64 0]) (b := ⟨2, true, insC (rdMany rdIns k s1).1⟩) ho3
    simp only [go_sem, Nat.reduceAdd, Nat.reduceLeDiff, Nat.reduceEqDiff, Nat.reduceMul, Nat.reduceSub, ↓reduceIte, Int.reduceLT, Int.reduceLE, Int.reduceGT, Int.reduceGE, Nat.reduceLT, Nat.reduceGT, Int.reduceToNat, reduceCtorEq, Nat.reduceBEq, Int.reduceBEq, Int.reduceBNe, Int.reduceEq, Int.reduceNe, decide_true, decide_false]
    repeat' ((first | (with_reducible first | refine wr ?_ | refine i_ret ?_ | refine i_skip ?_ | refine i_exit ?_) | ((with_reducible first | refine k_cb ?_ ?_ | refine k_gb ?_ ?_ | refine k_gb' ?_ ?_) <;> (intro hb; try simp only [hb]))) <;> try simp only [go_sem, Nat.reduceAdd, Nat.reduceLeDiff, Nat.reduceEqDiff, Nat.reduceMul, Nat.reduceSub, ↓reduceIte, Int.reduceLT, Int.reduceLE, Int.reduceGT, Int.reduceGE, Nat.reduceLT, Nat.reduceGT, Int.reduceToNat, reduceCtorEq, Nat.reduceBEq, Int.reduceBEq, Int.reduceBNe, Int.reduceEq, Int.reduceNe, decide_true, decide_false, hD2])
    refine AC.call (c_rnumD _ (by omega) ho3 _ (by omega)) ?_
    rintro v H' c3 ⟨rfl, rfl⟩ hcc3
    have hL := insC_len2 (rdMany rdIns k s1).1
    rw [M2] at hL
    have est := insC_step s1 k
    have e2 : (rdMany rdIns (k + 1) s1).2 = (rdNum (rdNum (rdMany rdIns k s1).2).2).2 := rfl
    rcases o with _ | id
    · obtain rfl := hno rfl
      have hD2 := fun st => DH_2 (s := st) (cs := [.snil, .snil, .snil, .snil, .snil, I64 0, I64 0]) (b := ⟨2, true, insC (rdMany rdIns 0 s1).1⟩) no3
      have f0 := fun st => DH_n (s := st) (cs := [.snil, .snil, .snil, .snil, .snil, I64 0, I64 0]) (b := ⟨2, true, insC (rdMany rdIns 0 s1).1⟩) (j := c2) (by omega) no2
      have f1 := fun st => DH_n (s := st) (cs := [.snil, .snil, .snil, .snil, .snil, I64 0, I64 0]) (b := ⟨2, true, insC (rdMany rdIns 0 s1).1⟩) (j := c2 + 1) (by omega) no2
      have f2 := fun st => DH_n (s := st) (cs := [.snil, .snil, .snil, .snil, .snil, I64 0, I64 0]) (b := ⟨2, true, insC (rdMany rdIns 0 s1).1⟩) (j := c2 + 2) (by omega) no2
      have ne0 : ¬ 1 = c2 + 6 := by omega
      have ne1 : ¬ 1 = c3 := by omega
      have ne2 : ¬ 2 = c2 + 6 := by omega
      have ne3 : ¬ 2 = c3 := by omega
      have ne4 : ¬ c2 + 6 = 1 := by omega
      have ne5 : ¬ c2 + 6 = 2 := by omega
      have ne6 : ¬ c2 + 6 = c3 := by omega
      have ne7 : ¬ c3 = 1 := by omega
      have ne8 : ¬ c3 = 2 := by omega
      have ne9 : ¬ c3 = c2 + 6 := by omega
      simp only [go_sem, Nat.reduceAdd, Nat.reduceLeDiff, Nat.reduceEqDiff, Nat.reduceMul, Nat.reduceSub, ↓reduceIte, Int.reduceLT, Int.reduceLE, Int.reduceGT, Int.reduceGE, Nat.reduceLT, Nat.reduceGT, Int.reduceToNat, reduceCtorEq, Nat.reduceBEq, Int.reduceBEq, Int.reduceBNe, Int.reduceEq, Int.reduceNe, decide_true, decide_false, hD2, f0, f1, f2, ne0, ne1, ne2, ne3, ne4, ne5, ne6, ne7, ne8, ne9]
      repeat' ((first | (with_reducible first | refine wr ?_ | refine i_ret ?_ | refine i_skip ?_ | refine i_exit ?_) | ((with_reducible first | refine k_cb ?_ ?_ | refine k_gb ?_ ?_ | refine k_gb' ?_ ?_) <;> (intro hb; try simp only [hb])) | ((with_reducible refine x_eval (r_appn' (by decide) (by decide) (by decide)) ?_))) <;> try simp only [go_sem, Nat.reduceAdd, Nat.reduceLeDiff, Nat.reduceEqDiff, Nat.reduceMul, Nat.reduceSub, ↓reduceIte, Int.reduceLT, Int.reduceLE, Int.reduceGT, Int.reduceGE, Nat.reduceLT, Nat.reduceGT, Int.reduceToNat, reduceCtorEq, Nat.reduceBEq, Int.reduceBEq, Int.reduceBNe, Int.reduceEq, Int.reduceNe, decide_true, decide_false, hD2, f0, f1, f2, hw, ne0, ne1, ne2, ne3, ne4, ne5, ne6, ne7, ne8, ne9])
      exact ⟨(1, some c3), rfl, by simp only [est, e2, insC, cellsL, List.map_nil, List.flatMap_nil, rdMany, todoV] at *; (intro j b hj; simp only [DH, DB, optH, Hp.upd, Hp.del, Sym.nil] at hj ⊢; (repeat' split at hj) <;> (repeat' split) <;> first | exact hj | (exfalso; omega) | cases hj), inv ⟨by omega, hlt, by simp, fun i hi => by cases hi; omega⟩, by simp only; omega⟩
    · obtain ⟨i1, i2⟩ := hso id rfl
      have hDs := fun st => DH_s (s := st) (cs := [.slc id 0 k, .snil, .snil, .snil, .snil, I64 0, I64 0]) (i := id) (b := ⟨2, true, insC (rdMany rdIns k s1).1⟩)
      have hD2 := fun st => DH_2 (s := st) (cs := [.slc id 0 k, .snil, .snil, .snil, .snil, I64 0, I64 0]) (b := ⟨2, true, insC (rdMany rdIns k s1).1⟩) ho3
      have hi2 : ∀ i, some id = some i → i < c2 := fun i hi => by cases hi; omega
      have f0 := fun st => DH_n (s := st) (cs := [.slc id 0 k, .snil, .snil, .snil, .snil, I64 0, I64 0]) (b := ⟨2, true, insC (rdMany rdIns k s1).1⟩) (j := c2) (by omega) hi2
      have f1 := fun st => DH_n (s := st) (cs := [.slc id 0 k, .snil, .snil, .snil, .snil, I64 0, I64 0]) (b := ⟨2, true, insC (rdMany rdIns k s1).1⟩) (j := c2 + 1) (by omega) (fun i hi => by have := hi2 i hi; omega)
      have f2 := fun st => DH_n (s := st) (cs := [.slc id 0 k, .snil, .snil, .snil, .snil, I64 0, I64 0]) (b := ⟨2, true, insC (rdMany rdIns k s1).1⟩) (j := c2 + 2) (by omega) (fun i hi => by have := hi2 i hi; omega)
      have ne0 : ¬ 1 = id := by omega
      have ne1 : ¬ 1 = c2 + 6 := by omega
      have ne2 : ¬ 1 = c3 := by omega
      have ne3 : ¬ 2 = id := by omega
      have ne4 : ¬ 2 = c2 + 6 := by omega
      have ne5 : ¬ 2 = c3 := by omega
      have ne6 : ¬ id = 1 := by omega
      have ne7 : ¬ id = 2 := by omega
      have ne8 : ¬ id = c2 + 6 := by omega
      have ne9 : ¬ id = c3 := by omega
      have ne10 : ¬ c2 + 6 = 1 := by omega
      have ne11 : ¬ c2 + 6 = 2 := by omega
      have ne12 : ¬ c2 + 6 = id := by omega
      have ne13 : ¬ c2 + 6 = c3 := by omega
      have ne14 : ¬ c3 = 1 := by omega
      have ne15 : ¬ c3 = 2 := by omega
      have ne16 : ¬ c3 = id := by omega
      have ne17 : ¬ c3 = c2 + 6 := by omega
      simp only [go_sem, Nat.reduceAdd, Nat.reduceLeDiff, Nat.reduceEqDiff, Nat.reduceMul, Nat.reduceSub, ↓reduceIte, Int.reduceLT, Int.reduceLE, Int.reduceGT, Int.reduceGE, Nat.reduceLT, Nat.reduceGT, Int.reduceToNat, reduceCtorEq, Nat.reduceBEq, Int.reduceBEq, Int.reduceBNe, Int.reduceEq, Int.reduceNe, decide_true, decide_false, hD2, hDs, f0, f1, f2, ne0, ne1, ne2, ne3, ne4, ne5, ne6, ne7, ne8, ne9, ne10, ne11, ne12, ne13, ne14, ne15, ne16, ne17]
      repeat' ((first | (with_reducible first | refine wr ?_ | refine i_ret ?_ | refine i_skip ?_ | refine i_exit ?_) | ((with_reducible first | refine k_cb ?_ ?_ | refine k_gb ?_ ?_ | refine k_gb' ?_ ?_) <;> (intro hb; try simp only [hb])) | ((with_reducible refine x_eval (b_appx hL (by omega) (by omega)) ?_))) <;> try simp only [go_sem, Nat.reduceAdd, Nat.reduceLeDiff, Nat.reduceEqDiff, Nat.reduceMul, Nat.reduceSub, ↓reduceIte, Int.reduceLT, Int.reduceLE, Int.reduceGT, Int.reduceGE, Nat.reduceLT, Nat.reduceGT, Int.reduceToNat, reduceCtorEq, Nat.reduceBEq, Int.reduceBEq, Int.reduceBNe, Int.reduceEq, Int.reduceNe, decide_true, decide_false, hD2, hDs, f0, f1, f2, hw, ne0, ne1, ne2, ne3, ne4, ne5, ne6, ne7, ne8, ne9, ne10, ne11, ne12, ne13, ne14, ne15, ne16, ne17])
      exact ⟨(k + 1, some c3), rfl, by simp only [est, e2, todoV]; (intro j b hj; simp only [DH, DB, optH, Hp.upd, Hp.del, Sym.nil] at hj ⊢; (repeat' split at hj) <;> (repeat' split) <;> first | exact hj | (exfalso; omega) | cases hj), inv ⟨by omega, hlt, by simp, fun i hi => by cases hi; omega⟩, by simp only; omega⟩
  have hd : decide ((k : Int) < (n1 : Int)) = false := by simpa using hlt
  obtain rfl : k = n1 := by omega
  repeat' ((first | (with_reducible first | refine wr ?_ | refine i_ret ?_ | refine i_skip ?_ | refine i_exit ?_) | ((with_reducible first | refine k_cb ?_ ?_ | refine k_gb ?_ ?_ | refine k_gb' ?_ ?_) <;> (intro hb; try simp only [hb]))) <;> try simp only [go_sem, Nat.reduceAdd, Nat.reduceLeDiff, Nat.reduceEqDiff, Nat.reduceMul, Nat.reduceSub, ↓reduceIte, Int.reduceLT, Int.reduceLE, Int.reduceGT, Int.reduceGE, Nat.reduceLT, Nat.reduceGT, Int.reduceToNat, reduceCtorEq, Nat.reduceBEq, Int.reduceBEq, Int.reduceBNe, Int.reduceEq, Int.reduceNe, decide_true, decide_false, hd])
  refine AC.ghost (DH_fin (pre := []) (suf := [.snil, .snil, .snil, .snil, I64 0, I64 0]) (xs := (rdMany rdIns k s1).1.map Ins.v) (b := ⟨0, true, []⟩) (by simp [DV.one]) (fun e => by rw [hno e]; rfl) ho3 (by simp [M2]) (ins_unit _)) ?_
  clear hd hlt hk hno hso ho3
  obtain ⟨I, hI⟩ : ∃ I, I = (rdMany rdIns k s1).1 := ⟨_, rfl⟩
  obtain ⟨s2, hs2⟩ : ∃ s, s = (rdMany rdIns k s1).2 := ⟨_, rfl⟩
  rw [← hI, ← hs2]
  rw [← hs2] at M1
  refine AC.call (c_rcntD s2 (by omega) (cs := [inssV I, .snil, .snil, .snil, .snil, I64 0, I64 0]) (b := ⟨0, true, []⟩) no3 cc h3) ?_
  rintro v H' c2 ⟨rfl, rfl⟩ hc2
  obtain ⟨L3, L4⟩ := rdCnt_len s2
  obtain ⟨n2, hn2⟩ : ∃ n, n = (rdCnt s2).1 := ⟨_, rfl⟩
  obtain ⟨s3, hs3⟩ : ∃ st, st = (rdCnt s2).2 := ⟨_, rfl⟩
  rw [← hn2, ← hs3] at L4 ⊢
  rw [← hs3] at L3
  simp only [go_sem, Nat.reduceAdd, Nat.reduceLeDiff, Nat.reduceEqDiff, Nat.reduceMul, Nat.reduceSub, ↓reduceIte, Int.reduceLT, Int.reduceLE, Int.reduceGT, Int.reduceGE, Nat.reduceLT, Nat.reduceGT, Int.reduceToNat, reduceCtorEq, Nat.reduceBEq, Int.reduceBEq, Int.reduceBNe, Int.reduceEq, Int.reduceNe, decide_true, decide_false]
  repeat' ((first | (with_reducible first | refine wr ?_ | refine i_ret ?_ | refine i_skip ?_ | refine i_exit ?_) | ((with_reducible first | refine k_cb ?_ ?_ | refine k_gb ?_ ?_ | refine k_gb' ?_ ?_) <;> (intro hb; try simp only [hb]))) <;> try simp only [go_sem, Nat.reduceAdd, Nat.reduceLeDiff, Nat.reduceEqDiff, Nat.reduceMul, Nat.reduceSub, ↓reduceIte, Int.reduceLT, Int.reduceLE, Int.reduceGT, Int.reduceGE, Nat.reduceLT, Nat.reduceGT, Int.reduceToNat, reduceCtorEq, Nat.reduceBEq, Int.reduceBEq, Int.reduceBNe, Int.reduceEq, Int.reduceNe, decide_true, decide_false])
  refine i_loop (fun q : Nat × Option Nat => [(0, .str s), (2, .ptr 0 0), (4, .ptr 1 0), (5, .ptr 2 0), (32, I64 n2), (33, I64 q.1)]) (fun q => DH (rdMany rdStr q.1 s3).2 [inssV I, todoV q.2 q.1, .snil, .snil, .snil, I64 0, I64 0] q.2 ⟨1, true, cellsL ((rdMany rdStr q.1 s3).1.map DV.str)⟩) (fun q cc => 3 ≤ cc ∧ q.1 ≤ n2 ∧ (q.2 = none → q.1 = 0) ∧ ∀ i, q.2 = some i → 3 ≤ i ∧ i < cc) (fun q => n2 - q.1) (0, none)
    (by simp [tmLe, tm, Tm.upd]) (Sub.refl _) ⟨by omega, by simp, by simp, by simp⟩ ?_
  clear h3 hc2 c2 cc
  rintro ⟨k2, o⟩ cc ⟨h3, hk, hno, hso⟩
  simp only at hk hno hso
  have ho3 : ∀ i, o = some i → 3 ≤ i := fun i hi => (hso i hi).1
  obtain ⟨M3, M4⟩ := rdMany_len (f := rdStr) rdStr_len k2 s3
  by_cases hlt : k2 < n2
  · have hd : decide ((k2 : Int) < (n2 : Int)) = true := by simpa using hlt
    have hw : IntKind.i64.wrap ((k2 : Int) + 1) = ((k2 + 1 : Nat) : Int) := by rw [w64 (by omega) (by omega)]; omega
    obtain ⟨N1, N2⟩ := rdCnt_len (rdMany rdStr k2 s3).2
    repeat' ((first | (with_reducible first | refine wr ?_ | refine i_ret ?_ | refine i_skip ?_ | refine i_exit ?_) | ((with_reducible first | refine k_cb ?_ ?_ | refine k_gb ?_ ?_ | refine k_gb' ?_ ?_) <;> (intro hb; try simp only [hb]))) <;> try simp only [go_sem, Nat.reduceAdd, Nat.reduceLeDiff, Nat.reduceEqDiff, Nat.reduceMul, Nat.reduceSub, ↓reduceIte, Int.reduceLT, Int.reduceLE, Int.reduceGT, Int.reduceGE, Nat.reduceLT, Nat.reduceGT, Int.reduceToNat, reduceCtorEq, Nat.reduceBEq, Int.reduceBEq, Int.reduceBNe, Int.reduceEq, Int.reduceNe, decide_true, decide_false, hd])
    refine AC.call (c_rcntD _ (by omega) ho3 cc h3) ?_
    rintro v H' c2 ⟨rfl, rfl⟩ hcc
    have hL := strC_len (rdMany rdStr k2 s3).1
    rw [M4] at hL
    have est := strC_step s3 k2
    have e2 : (rdMany rdStr (k2 + 1) s3).2 = ((rdCnt (rdMany rdStr k2 s3).2).2.1.drop (rdCnt (rdMany rdStr k2 s3).2).1, (rdCnt (rdMany rdStr k2 s3).2).2.2) := rfl
    have e3 : (rdStr (rdMany rdStr k2 s3).2).1 = (rdCnt (rdMany rdStr k2 s3).2).2.1.take (rdCnt (rdMany rdStr k2 s3).2).1 := rfl
    have T1 := sls_to N2
    have T2 := sls_from N2
    rcases o with _ | id
    · obtain rfl := hno rfl
      have hD1 := fun st => DH_1 (s := st) (cs := [inssV I, .snil, .snil, .snil, .snil, I64 0, I64 0]) (b := ⟨1, true, cellsL ((rdMany rdStr 0 s3).1.map DV.str)⟩) no3
      have hD2 := fun st => DH_2 (s := st) (cs := [inssV I, .snil, .snil, .snil, .snil, I64 0, I64 0]) (b := ⟨1, true, cellsL ((rdMany rdStr 0 s3).1.map DV.str)⟩) no3
      have ne0 : ¬ 1 = c2 + 8 := by omega
      have ne1 : ¬ 1 = c2 + 12 := by omega
      have ne2 : ¬ 2 = c2 + 8 := by omega
      have ne3 : ¬ 2 = c2 + 12 := by omega
      have ne4 : ¬ c2 + 8 = 1 := by omega
      have ne5 : ¬ c2 + 8 = 2 := by omega
      have ne6 : ¬ c2 + 8 = c2 + 12 := by omega
      have ne7 : ¬ c2 + 12 = 1 := by omega
      have ne8 : ¬ c2 + 12 = 2 := by omega
      have ne9 : ¬ c2 + 12 = c2 + 8 := by omega
      simp only [go_sem, Nat.reduceAdd, Nat.reduceLeDiff, Nat.reduceEqDiff, Nat.reduceMul, Nat.reduceSub, ↓reduceIte, Int.reduceLT, Int.reduceLE, Int.reduceGT, Int.reduceGE, Nat.reduceLT, Nat.reduceGT, Int.reduceToNat, reduceCtorEq, Nat.reduceBEq, Int.reduceBEq, Int.reduceBNe, Int.reduceEq, Int.reduceNe, decide_true, decide_false, hD1, hD2, T1, T2, ne0, ne1, ne2, ne3, ne4, ne5, ne6, ne7, ne8, ne9]
      repeat' ((first | (with_reducible first | refine wr ?_ | refine i_ret ?_ | refine i_skip ?_ | refine i_exit ?_) | ((with_reducible first | refine k_cb ?_ ?_ | refine k_gb ?_ ?_ | refine k_gb' ?_ ?_) <;> (intro hb; try simp only [hb])) | ((with_reducible refine x_eval (r_appn' (by decide) (by decide) (by decide)) ?_))) <;> try simp only [go_sem, Nat.reduceAdd, Nat.reduceLeDiff, Nat.reduceEqDiff, Nat.reduceMul, Nat.reduceSub, ↓reduceIte, Int.reduceLT, Int.reduceLE, Int.reduceGT, Int.reduceGE, Nat.reduceLT, Nat.reduceGT, Int.reduceToNat, reduceCtorEq, Nat.reduceBEq, Int.reduceBEq, Int.reduceBNe, Int.reduceEq, Int.reduceNe, decide_true, decide_false, hD1, hD2, hw, T1, T2, ne0, ne1, ne2, ne3, ne4, ne5, ne6, ne7, ne8, ne9])
      exact ⟨(1, some (c2 + 12)), rfl, by simp only [est, e2, e3, cellsL, List.map_nil, List.flatMap_nil, rdMany, todoV] at *; (intro j b hj; simp only [DH, DB, optH, Hp.upd, Hp.del, Sym.nil] at hj ⊢; (repeat' split at hj) <;> (repeat' split) <;> first | exact hj | (exfalso; omega) | cases hj), inv ⟨by omega, hlt, by simp, fun i hi => by cases hi; omega⟩, by simp only; omega⟩
    · obtain ⟨i1, i2⟩ := hso id rfl
      have hDs := fun st => DH_s (s := st) (cs := [inssV I, .slc id 0 k2, .snil, .snil, .snil, I64 0, I64 0]) (i := id) (b := ⟨1, true, cellsL ((rdMany rdStr k2 s3).1.map DV.str)⟩)
      have hD1 := fun st => DH_1 (s := st) (cs := [inssV I, .slc id 0 k2, .snil, .snil, .snil, I64 0, I64 0]) (b := ⟨1, true, cellsL ((rdMany rdStr k2 s3).1.map DV.str)⟩) ho3
      have hD2 := fun st => DH_2 (s := st) (cs := [inssV I, .slc id 0 k2, .snil, .snil, .snil, I64 0, I64 0]) (b := ⟨1, true, cellsL ((rdMany rdStr k2 s3).1.map DV.str)⟩) ho3
      have ne0 : ¬ 1 = id := by omega
      have ne1 : ¬ 1 = c2 + 8 := by omega
      have ne2 : ¬ 1 = c2 + 12 := by omega
      have ne3 : ¬ 2 = id := by omega
      have ne4 : ¬ 2 = c2 + 8 := by omega
      have ne5 : ¬ 2 = c2 + 12 := by omega
      have ne6 : ¬ id = 1 := by omega
      have ne7 : ¬ id = 2 := by omega
      have ne8 : ¬ id = c2 + 8 := by omega
      have ne9 : ¬ id = c2 + 12 := by omega
      have ne10 : ¬ c2 + 8 = 1 := by omega
      have ne11 : ¬ c2 + 8 = 2 := by omega
      have ne12 : ¬ c2 + 8 = id := by omega
      have ne13 : ¬ c2 + 8 = c2 + 12 := by omega
      have ne14 : ¬ c2 + 12 = 1 := by omega
      have ne15 : ¬ c2 + 12 = 2 := by omega
      have ne16 : ¬ c2 + 12 = id := by omega
      have ne17 : ¬ c2 + 12 = c2 + 8 := by omega
      simp only [go_sem, Nat.reduceAdd, Nat.reduceLeDiff, Nat.reduceEqDiff, Nat.reduceMul, Nat.reduceSub, ↓reduceIte, Int.reduceLT, Int.reduceLE, Int.reduceGT, Int.reduceGE, Nat.reduceLT, Nat.reduceGT, Int.reduceToNat, reduceCtorEq, Nat.reduceBEq, Int.reduceBEq, Int.reduceBNe, Int.reduceEq, Int.reduceNe, decide_true, decide_false, hD1, hD2, hDs, T1, T2, ne0, ne1, ne2, ne3, ne4, ne5, ne6, ne7, ne8, ne9, ne10, ne11, ne12, ne13, ne14, ne15, ne16, ne17]
      repeat' ((first | (with_reducible first | refine wr ?_ | refine i_ret ?_ | refine i_skip ?_ | refine i_exit ?_) | ((with_reducible first | refine k_cb ?_ ?_ | refine k_gb ?_ ?_ | refine k_gb' ?_ ?_) <;> (intro hb; try simp only [hb])) | ((with_reducible refine x_eval (b_appx hL (by omega) (by omega)) ?_))) <;> try simp only [go_sem, Nat.reduceAdd, Nat.reduceLeDiff, Nat.reduceEqDiff, Nat.reduceMul, Nat.reduceSub, ↓reduceIte, Int.reduceLT, Int.reduceLE, Int.reduceGT, Int.reduceGE, Nat.reduceLT, Nat.reduceGT, Int.reduceToNat, reduceCtorEq, Nat.reduceBEq, Int.reduceBEq, Int.reduceBNe, Int.reduceEq, Int.reduceNe, decide_true, decide_false, hD1, hD2, hDs, hw, T1, T2, ne0, ne1, ne2, ne3, ne4, ne5, ne6, ne7, ne8, ne9, ne10, ne11, ne12, ne13, ne14, ne15, ne16, ne17])
      exact ⟨(k2 + 1, some (c2 + 12)), rfl, by simp only [est, e2, e3, todoV]; (intro j b hj; simp only [DH, DB, optH, Hp.upd, Hp.del, Sym.nil] at hj ⊢; (repeat' split at hj) <;> (repeat' split) <;> first | exact hj | (exfalso; omega) | cases hj), inv ⟨by omega, hlt, by simp, fun i hi => by cases hi; omega⟩, by simp only; omega⟩
  have hd : decide ((k2 : Int) < (n2 : Int)) = false := by simpa using hlt
  obtain rfl : k2 = n2 := by omega
  repeat' ((first | (with_reducible first | refine wr ?_ | refine i_ret ?_ | refine i_skip ?_ | refine i_exit ?_) | ((with_reducible first | refine k_cb ?_ ?_ | refine k_gb ?_ ?_ | refine k_gb' ?_ ?_) <;> (intro hb; try simp only [hb]))) <;> try simp only [go_sem, Nat.reduceAdd, Nat.reduceLeDiff, Nat.reduceEqDiff, Nat.reduceMul, Nat.reduceSub, ↓reduceIte, Int.reduceLT, Int.reduceLE, Int.reduceGT, Int.reduceGE, Nat.reduceLT, Nat.reduceGT, Int.reduceToNat, reduceCtorEq, Nat.reduceBEq, Int.reduceBEq, Int.reduceBNe, Int.reduceEq, Int.reduceNe, decide_true, decide_false, hd])
  refine AC.ghost (DH_fin (pre := [inssV I]) (suf := [.snil, .snil, .snil, I64 0, I64 0]) (xs := (rdMany rdStr k2 s3).1.map DV.str) (b := ⟨0, true, []⟩) (by simp [DV.one]) (fun e => by rw [hno e]; rfl) ho3 (by simp [M4]) (str_unit _)) ?_
  clear hd hlt hk hno hso ho3
  obtain ⟨S, hS⟩ : ∃ S, S = (rdMany rdStr k2 s3).1 := ⟨_, rfl⟩
  obtain ⟨s4, hs4⟩ : ∃ s, s = (rdMany rdStr k2 s3).2 := ⟨_, rfl⟩
  rw [← hS, ← hs4]
  rw [← hs4] at M3
  refine AC.call (c_rcntD s4 (by omega) (cs := [inssV I, strs S, .snil, .snil, .snil, I64 0, I64 0]) (b := ⟨0, true, []⟩) no3 cc h3) ?_
  rintro v H' c2 ⟨rfl, rfl⟩ hc2
  obtain ⟨L5, L6⟩ := rdCnt_len s4
  obtain ⟨n3, hn3⟩ : ∃ n, n = (rdCnt s4).1 := ⟨_, rfl⟩
  obtain ⟨s5, hs5⟩ : ∃ st, st = (rdCnt s4).2 := ⟨_, rfl⟩
  rw [← hn3, ← hs5] at L6 ⊢
  rw [← hs5] at L5
  simp only [go_sem, Nat.reduceAdd, Nat.reduceLeDiff, Nat.reduceEqDiff, Nat.reduceMul, Nat.reduceSub, ↓reduceIte, Int.reduceLT, Int.reduceLE, Int.reduceGT, Int.reduceGE, Nat.reduceLT, Nat.reduceGT, Int.reduceToNat, reduceCtorEq, Nat.reduceBEq, Int.reduceBEq, Int.reduceBNe, Int.reduceEq, Int.reduceNe, decide_true, decide_false]
  repeat' ((first | (with_reducible first | refine wr ?_ | refine i_ret ?_ | refine i_skip ?_ | refine i_exit ?_) | ((with_reducible first | refine k_cb ?_ ?_ | refine k_gb ?_ ?_ | refine k_gb' ?_ ?_) <;> (intro hb; try simp only [hb]))) <;> try simp only [go_sem, Nat.reduceAdd, Nat.reduceLeDiff, Nat.reduceEqDiff, Nat.reduceMul, Nat.reduceSub, ↓reduceIte, Int.reduceLT, Int.reduceLE, Int.reduceGT, Int.reduceGE, Nat.reduceLT, Nat.reduceGT, Int.reduceToNat, reduceCtorEq, Nat.reduceBEq, Int.reduceBEq, Int.reduceBNe, Int.reduceEq, Int.reduceNe, decide_true, decide_false])
  refine i_loop (fun q : Nat × Option Nat => [(0, .str s), (2, .ptr 0 0), (4, .ptr 1 0), (5, .ptr 2 0), (59, I64 n3), (60, I64 q.1)]) (fun q => DH (rdMany rdEnt q.1 s5).2 [inssV I, strs S, todoV q.2 q.1, .snil, .snil, I64 0, I64 0] q.2 ⟨4, true, cellsL ((rdMany rdEnt q.1 s5).1.map Ent.v)⟩) (fun q cc => 3 ≤ cc ∧ q.1 ≤ n3 ∧ (q.2 = none → q.1 = 0) ∧ ∀ i, q.2 = some i → 3 ≤ i ∧ i < cc) (fun q => n3 - q.1) (0, none)
    (by simp [tmLe, tm, Tm.upd]) (Sub.refl _) ⟨by omega, by simp, by simp, by simp⟩ ?_
  clear h3 hc2 c2 cc
  rintro ⟨k3, o⟩ cc ⟨h3, hk, hno, hso⟩
  simp only at hk hno hso
  have ho3 : ∀ i, o = some i → 3 ≤ i := fun i hi => (hso i hi).1
  obtain ⟨M5, M6⟩ := rdMany_len (f := rdEnt) rdEnt_len k3 s5
  by_cases hlt : k3 < n3
  · have hd : decide ((k3 : Int) < (n3 : Int)) = true := by simpa using hlt
    have hw : IntKind.i64.wrap ((k3 : Int) + 1) = ((k3 + 1 : Nat) : Int) := by rw [w64 (by omega) (by omega)]; omega
    obtain ⟨s6, hs6⟩ : ∃ s, s = (rdMany rdEnt k3 s5).2 := ⟨_, rfl⟩
    rw [← hs6] at M5
    repeat' ((first | (with_reducible first | refine wr ?_ | refine i_ret ?_ | refine i_skip ?_ | refine i_exit ?_) | ((with_reducible first | refine k_cb ?_ ?_ | refine k_gb ?_ ?_ | refine k_gb' ?_ ?_) <;> (intro hb; try simp only [hb]))) <;> try simp only [go_sem, Nat.reduceAdd, Nat.reduceLeDiff, Nat.reduceEqDiff, Nat.reduceMul, Nat.reduceSub, ↓reduceIte, Int.reduceLT, Int.reduceLE, Int.reduceGT, Int.reduceGE, Nat.reduceLT, Nat.reduceGT, Int.reduceToNat, reduceCtorEq, Nat.reduceBEq, Int.reduceBEq, Int.reduceBNe, Int.reduceEq, Int.reduceNe, decide_true, decide_false, hd])
    refine i_loop (fun k : Nat => [(0, .str s), (2, .ptr 0 0), (4, .ptr 1 0), (5, .ptr 2 0), (8, .ptr cc 0), (59, I64 n3), (60, I64 k3), (63, I64 k)]) (fun k => (DH (rdMany rdNum k s6).2 [inssV I, strs S, todoV o k3, .snil, .snil, I64 0, I64 0] o ⟨4, true, cellsL ((rdMany rdEnt k3 s5).1.map Ent.v)⟩).upd cc ⟨0, true, ((rdMany rdNum k s6).1 ++ List.replicate (4 - k) 0).map I64⟩) (fun k c => cc < c ∧ k ≤ 4) (fun k => 4 - k) 0
      (by simp [tmLe, tm, Tm.upd]) (by rw [hs6, h_upd2]; exact Sub.refl _) ⟨by omega, by omega⟩ ?_
    rintro k c ⟨hcc, hk4⟩
    obtain ⟨M7, M8⟩ := rdMany_len (f := rdNum) rdNum_len k s6
    by_cases hlt4 : k < 4
    · have hd4 : decide ((k : Int) < 4) = true := by simp; omega
      have hw4 : IntKind.i64.wrap ((k : Int) + 1) = ((k + 1 : Nat) : Int) := by rw [w64 (by omega) (by omega)]; omega
      repeat' ((first | (with_reducible first | refine wr ?_ | refine i_ret ?_ | refine i_skip ?_ | refine i_exit ?_) | ((with_reducible first | refine k_cb ?_ ?_ | refine k_gb ?_ ?_ | refine k_gb' ?_ ?_) <;> (intro hb; try simp only [hb]))) <;> try simp only [go_sem, Nat.reduceAdd, Nat.reduceLeDiff, Nat.reduceEqDiff, Nat.reduceMul, Nat.reduceSub, ↓reduceIte, Int.reduceLT, Int.reduceLE, Int.reduceGT, Int.reduceGE, Nat.reduceLT, Nat.reduceGT, Int.reduceToNat, reduceCtorEq, Nat.reduceBEq, Int.reduceBEq, Int.reduceBNe, Int.reduceEq, Int.reduceNe, decide_true, decide_false, hd4])
      refine AC.call (c_rnum (rdMany rdNum k s6).2 (by omega) _ c 1 (by rw [h_ne (by omega)]; exact DH_1 ho3) (by omega)) ?_
      rintro v H' c1 ⟨rfl, rfl⟩ hcc1
      have hia := r_iada (id := cc) (off := 0) (sz := 1) (l := 4) (k := .i64) (j := (k : Int)) (by omega) (by omega)
      have hlen : ((rdMany rdNum k s6).1 ++ List.replicate (4 - k) 0).length = 4 := by simp [M8]; omega
      have hle : k + 1 ≤ 4 := hlt4
      have ne0 : ¬ 1 = cc := by omega
      have ne1 : ¬ cc = 1 := by omega
      simp only [go_sem, Nat.reduceAdd, Nat.reduceLeDiff, Nat.reduceEqDiff, Nat.reduceMul, Nat.reduceSub, ↓reduceIte, Int.reduceLT, Int.reduceLE, Int.reduceGT, Int.reduceGE, Nat.reduceLT, Nat.reduceGT, Int.reduceToNat, reduceCtorEq, Nat.reduceBEq, Int.reduceBEq, Int.reduceBNe, Int.reduceEq, Int.reduceNe, decide_true, decide_false, hia, hlen, hle, ne0, ne1]
      repeat' ((first | (with_reducible first | refine wr ?_ | refine i_ret ?_ | refine i_skip ?_ | refine i_exit ?_) | ((with_reducible first | refine k_cb ?_ ?_ | refine k_gb ?_ ?_ | refine k_gb' ?_ ?_) <;> (intro hb; try simp only [hb]))) <;> try simp only [go_sem, Nat.reduceAdd, Nat.reduceLeDiff, Nat.reduceEqDiff, Nat.reduceMul, Nat.reduceSub, ↓reduceIte, Int.reduceLT, Int.reduceLE, Int.reduceGT, Int.reduceGE, Nat.reduceLT, Nat.reduceGT, Int.reduceToNat, reduceCtorEq, Nat.reduceBEq, Int.reduceBEq, Int.reduceBNe, Int.reduceEq, Int.reduceNe, decide_true, decide_false, hia, hw4, hlen, hle, ne0, ne1])
      refine ⟨k + 1, rfl, ?_, inv ⟨by omega, hlt4⟩, by omega⟩
      rw [put_map (by rw [hlen]; omega), set_fill M8 hlt4]
      have q1 : (rdMany rdNum (k + 1) s6).1 = (rdMany rdNum k s6).1 ++ [(rdNum (rdMany rdNum k s6).2).1] := rfl
      have q2 : (rdMany rdNum (k + 1) s6).2 = (rdNum (rdMany rdNum k s6).2).2 := rfl
      simp only [q1, q2]
      rcases o with _ | id
      · (intro j b hj; simp only [DH, DB, optH, Hp.upd, Hp.del, Sym.nil] at hj ⊢; (repeat' split at hj) <;> (repeat' split) <;> first | exact hj | (exfalso; omega) | cases hj)
      · have := hso id rfl
        (intro j b hj; simp only [DH, DB, optH, Hp.upd, Hp.del, Sym.nil] at hj ⊢; (repeat' split at hj) <;> (repeat' split) <;> first | exact hj | (exfalso; omega) | cases hj)
    have hd4 : decide ((k : Int) < 4) = false := by simp; omega
    obtain rfl : k = 4 := by omega
    have ee := rdEnt_many s6
    have hL := entC_len' (rdMany rdEnt k3 s5).1
    rw [M6] at hL
    have est := entC_step s5 k3
    have e2 : (rdMany rdEnt (k3 + 1) s5).2 = (rdEnt (rdMany rdEnt k3 s5).2).2 := rfl
    rw [← hs6] at e2 est
    have ecs : ((rdMany rdNum 4 s6).1 ++ List.replicate (4 - 4) 0).map I64 = [I64 (rdEnt s6).1.mode, I64 (rdEnt s6).1.trigger, I64 (rdEnt s6).1.index, I64 (rdEnt s6).1.pos] := by rw [ee]; rfl
    have est2 : (rdMany rdNum 4 s6).2 = (rdEnt s6).2 := by rw [ee]
    rw [ecs, est2]
    have g0 := r_iada (id := cc) (off := 0) (sz := 1) (l := 4) (k := .i64) (j := 0) (by omega) (by omega)
    have g1 := r_iada (id := cc) (off := 0) (sz := 1) (l := 4) (k := .i64) (j := 1) (by omega) (by omega)
    have g2 := r_iada (id := cc) (off := 0) (sz := 1) (l := 4) (k := .i64) (j := 2) (by omega) (by omega)
    have g3 := r_iada (id := cc) (off := 0) (sz := 1) (l := 4) (k := .i64) (j := 3) (by omega) (by omega)
    rcases o with _ | id
    · obtain rfl := hno rfl
      have h65 : s5 = s6 := hs6.symm
      subst h65
      have hD2 := fun st => DH_2 (s := st) (cs := [inssV I, strs S, .snil, .snil, .snil, I64 0, I64 0]) (b := ⟨4, true, cellsL ((rdMany rdEnt 0 s5).1.map Ent.v)⟩) no3
      have ne0 : ¬ 1 = cc := by omega
      have ne1 : ¬ 1 = c := by omega
      have ne2 : ¬ 1 = c + 1 := by omega
      have ne3 : ¬ 2 = cc := by omega
      have ne4 : ¬ 2 = c := by omega
      have ne5 : ¬ 2 = c + 1 := by omega
      have ne6 : ¬ cc = 1 := by omega
      have ne7 : ¬ cc = 2 := by omega
      have ne8 : ¬ cc = c := by omega
      have ne9 : ¬ cc = c + 1 := by omega
      have ne10 : ¬ c = 1 := by omega
      have ne11 : ¬ c = 2 := by omega
      have ne12 : ¬ c = cc := by omega
      have ne13 : ¬ c = c + 1 := by omega
      have ne14 : ¬ c + 1 = 1 := by omega
      have ne15 : ¬ c + 1 = 2 := by omega
      have ne16 : ¬ c + 1 = cc := by omega
      have ne17 : ¬ c + 1 = c := by omega
      repeat' ((first | (with_reducible first | refine wr ?_ | refine i_ret ?_ | refine i_skip ?_ | refine i_exit ?_) | ((with_reducible first | refine k_cb ?_ ?_ | refine k_gb ?_ ?_ | refine k_gb' ?_ ?_) <;> (intro hb; try simp only [hb])) | ((with_reducible refine k_eval (r_appn' (by decide) (by decide) (by decide)) ?_))) <;> try simp only [go_sem, Nat.reduceAdd, Nat.reduceLeDiff, Nat.reduceEqDiff, Nat.reduceMul, Nat.reduceSub, ↓reduceIte, Int.reduceLT, Int.reduceLE, Int.reduceGT, Int.reduceGE, Nat.reduceLT, Nat.reduceGT, Int.reduceToNat, reduceCtorEq, Nat.reduceBEq, Int.reduceBEq, Int.reduceBNe, Int.reduceEq, Int.reduceNe, decide_true, decide_false, hd4, hD2, hw, g0, g1, g2, g3, ne0, ne1, ne2, ne3, ne4, ne5, ne6, ne7, ne8, ne9, ne10, ne11, ne12, ne13, ne14, ne15, ne16, ne17])
      exact ⟨(1, some (c + 1)), rfl, by simp only [est, e2, cellsL, List.map_nil, List.flatMap_nil, rdMany, todoV, DV.cells, List.nil_append] at *; (intro j b hj; simp only [DH, DB, optH, Hp.upd, Hp.del, Sym.nil] at hj ⊢; (repeat' split at hj) <;> (repeat' split) <;> first | exact hj | (exfalso; omega) | cases hj), inv ⟨by omega, hlt, by simp, fun i hi => by cases hi; omega⟩, by simp only; omega⟩
    · obtain ⟨i1, i2⟩ := hso id rfl
      have hDs := fun st => DH_s (s := st) (cs := [inssV I, strs S, .slc id 0 k3, .snil, .snil, I64 0, I64 0]) (i := id) (b := ⟨4, true, cellsL ((rdMany rdEnt k3 s5).1.map Ent.v)⟩)
      have hD2 := fun st => DH_2 (s := st) (cs := [inssV I, strs S, .slc id 0 k3, .snil, .snil, I64 0, I64 0]) (b := ⟨4, true, cellsL ((rdMany rdEnt k3 s5).1.map Ent.v)⟩) ho3
      have ne0 : ¬ 1 = id := by omega
      have ne1 : ¬ 1 = cc := by omega
      have ne2 : ¬ 1 = c := by omega
      have ne3 : ¬ 1 = c + 1 := by omega
      have ne4 : ¬ 2 = id := by omega
      have ne5 : ¬ 2 = cc := by omega
      have ne6 : ¬ 2 = c := by omega
      have ne7 : ¬ 2 = c + 1 := by omega
      have ne8 : ¬ id = 1 := by omega
      have ne9 : ¬ id = 2 := by omega
      have ne10 : ¬ id = cc := by omega
      have ne11 : ¬ id = c := by omega
      have ne12 : ¬ id = c + 1 := by omega
      have ne13 : ¬ cc = 1 := by omega
      have ne14 : ¬ cc = 2 := by omega
      have ne15 : ¬ cc = id := by omega
      have ne16 : ¬ cc = c := by omega
      have ne17 : ¬ cc = c + 1 := by omega
      have ne18 : ¬ c = 1 := by omega
      have ne19 : ¬ c = 2 := by omega
      have ne20 : ¬ c = id := by omega
      have ne21 : ¬ c = cc := by omega
      have ne22 : ¬ c = c + 1 := by omega
      have ne23 : ¬ c + 1 = 1 := by omega
      have ne24 : ¬ c + 1 = 2 := by omega
      have ne25 : ¬ c + 1 = id := by omega
      have ne26 : ¬ c + 1 = cc := by omega
      have ne27 : ¬ c + 1 = c := by omega
      repeat' ((first | (with_reducible first | refine wr ?_ | refine i_ret ?_ | refine i_skip ?_ | refine i_exit ?_) | ((with_reducible first | refine k_cb ?_ ?_ | refine k_gb ?_ ?_ | refine k_gb' ?_ ?_) <;> (intro hb; try simp only [hb])) | ((with_reducible refine k_eval (b_appx hL (by omega) (by omega)) ?_))) <;> try simp only [go_sem, Nat.reduceAdd, Nat.reduceLeDiff, Nat.reduceEqDiff, Nat.reduceMul, Nat.reduceSub, ↓reduceIte, Int.reduceLT, Int.reduceLE, Int.reduceGT, Int.reduceGE, Nat.reduceLT, Nat.reduceGT, Int.reduceToNat, reduceCtorEq, Nat.reduceBEq, Int.reduceBEq, Int.reduceBNe, Int.reduceEq, Int.reduceNe, decide_true, decide_false, hd4, hD2, hDs, hw, g0, g1, g2, g3, ne0, ne1, ne2, ne3, ne4, ne5, ne6, ne7, ne8, ne9, ne10, ne11, ne12, ne13, ne14, ne15, ne16, ne17, ne18, ne19, ne20, ne21, ne22, ne23, ne24, ne25, ne26, ne27])
      exact ⟨(k3 + 1, some (c + 1)), rfl, by simp only [est, e2, todoV, DV.cells]; (intro j b hj; simp only [DH, DB, optH, Hp.upd, Hp.del, Sym.nil] at hj ⊢; (repeat' split at hj) <;> (repeat' split) <;> first | exact hj | (exfalso; omega) | cases hj), inv ⟨by omega, hlt, by simp, fun i hi => by cases hi; omega⟩, by simp only; omega⟩
  have hd : decide ((k3 : Int) < (n3 : Int)) = false := by simpa using hlt
  obtain rfl : k3 = n3 := by omega
  repeat' ((first | (with_reducible first | refine wr ?_ | refine i_ret ?_ | refine i_skip ?_ | refine i_exit ?_) | ((with_reducible first | refine k_cb ?_ ?_ | refine k_gb ?_ ?_ | refine k_gb' ?_ ?_) <;> (intro hb; try simp only [hb]))) <;> try simp only [go_sem, Nat.reduceAdd, Nat.reduceLeDiff, Nat.reduceEqDiff, Nat.reduceMul, Nat.reduceSub, ↓reduceIte, Int.reduceLT, Int.reduceLE, Int.reduceGT, Int.reduceGE, Nat.reduceLT, Nat.reduceGT, Int.reduceToNat, reduceCtorEq, Nat.reduceBEq, Int.reduceBEq, Int.reduceBNe, Int.reduceEq, Int.reduceNe, decide_true, decide_false, hd])
  refine AC.ghost (DH_fin (pre := [inssV I, strs S]) (suf := [.snil, .snil, I64 0, I64 0]) (xs := (rdMany rdEnt k3 s5).1.map Ent.v) (b := ⟨0, true, []⟩) (by simp [DV.one]) (fun e => by rw [hno e]; rfl) ho3 (by simp [M6]) (ent_unit _)) ?_
  clear hd hlt hk hno hso ho3
  obtain ⟨E, hE⟩ : ∃ E, E = (rdMany rdEnt k3 s5).1 := ⟨_, rfl⟩
  obtain ⟨s6, hs6⟩ : ∃ s, s = (rdMany rdEnt k3 s5).2 := ⟨_, rfl⟩
  rw [← hE, ← hs6]
  rw [← hs6] at M5
  refine AC.call (c_rnumsD s6 (by omega) (cs := [inssV I, strs S, entsV E, .snil, .snil, I64 0, I64 0]) (b := ⟨0, true, []⟩) no3 cc h3) ?_
  rintro v H' c2 ⟨rfl, rfl⟩ hc2
  have hc : ∀ st cs cs', (DH st cs none ⟨0, true, []⟩).upd 2 ⟨0, true, cs'⟩ = DH st cs' none ⟨0, true, []⟩ := fun st cs cs' => h_upd2
  have R1 := rdNums_len s6
  have hD2 := fun st => DH_2 (s := st) (cs := [inssV I, strs S, entsV E, .snil, .snil, I64 0, I64 0]) (b := ⟨0, true, []⟩) no3
  simp only [go_sem, Nat.reduceAdd, Nat.reduceLeDiff, Nat.reduceEqDiff, Nat.reduceMul, Nat.reduceSub, ↓reduceIte, Int.reduceLT, Int.reduceLE, Int.reduceGT, Int.reduceGE, Nat.reduceLT, Nat.reduceGT, Int.reduceToNat, reduceCtorEq, Nat.reduceBEq, Int.reduceBEq, Int.reduceBNe, Int.reduceEq, Int.reduceNe, decide_true, decide_false, hD2]
  repeat' ((first | (with_reducible first | refine wr ?_ | refine i_ret ?_ | refine i_skip ?_ | refine i_exit ?_) | ((with_reducible first | refine k_cb ?_ ?_ | refine k_gb ?_ ?_ | refine k_gb' ?_ ?_) <;> (intro hb; try simp only [hb]))) <;> try simp only [go_sem, Nat.reduceAdd, Nat.reduceLeDiff, Nat.reduceEqDiff, Nat.reduceMul, Nat.reduceSub, ↓reduceIte, Int.reduceLT, Int.reduceLE, Int.reduceGT, Int.reduceGE, Nat.reduceLT, Nat.reduceGT, Int.reduceToNat, reduceCtorEq, Nat.reduceBEq, Int.reduceBEq, Int.reduceBNe, Int.reduceEq, Int.reduceNe, decide_true, decide_false, hD2])
  rw [hc]
  obtain ⟨p7, hp7⟩ : ∃ p, p = (rdNums s6).1 := ⟨_, rfl⟩
  obtain ⟨s7, hs7⟩ : ∃ s, s = (rdNums s6).2 := ⟨_, rfl⟩
  rw [← hp7, ← hs7]
  rw [← hs7] at R1
  refine AC.call (c_rnumsD s7 (by omega) (cs := [inssV I, strs S, entsV E, ints p7, .snil, I64 0, I64 0]) (b := ⟨0, true, []⟩) no3 c2 (by omega)) ?_
  rintro v H' c3 ⟨rfl, rfl⟩ hc3
  have R2 := rdNums_len s7
  have hD2 := fun st => DH_2 (s := st) (cs := [inssV I, strs S, entsV E, ints p7, .snil, I64 0, I64 0]) (b := ⟨0, true, []⟩) no3
  simp only [go_sem, Nat.reduceAdd, Nat.reduceLeDiff, Nat.reduceEqDiff, Nat.reduceMul, Nat.reduceSub, ↓reduceIte, Int.reduceLT, Int.reduceLE, Int.reduceGT, Int.reduceGE, Nat.reduceLT, Nat.reduceGT, Int.reduceToNat, reduceCtorEq, Nat.reduceBEq, Int.reduceBEq, Int.reduceBNe, Int.reduceEq, Int.reduceNe, decide_true, decide_false, hD2]
  repeat' ((first | (with_reducible first | refine wr ?_ | refine i_ret ?_ | refine i_skip ?_ | refine i_exit ?_) | ((with_reducible first | refine k_cb ?_ ?_ | refine k_gb ?_ ?_ | refine k_gb' ?_ ?_) <;> (intro hb; try simp only [hb]))) <;> try simp only [go_sem, Nat.reduceAdd, Nat.reduceLeDiff, Nat.reduceEqDiff, Nat.reduceMul, Nat.reduceSub, ↓reduceIte, Int.reduceLT, Int.reduceLE, Int.reduceGT, Int.reduceGE, Nat.reduceLT, Nat.reduceGT, Int.reduceToNat, reduceCtorEq, Nat.reduceBEq, Int.reduceBEq, Int.reduceBNe, Int.reduceEq, Int.reduceNe, decide_true, decide_false, hD2])
  rw [hc]
  obtain ⟨p8, hp8⟩ : ∃ p, p = (rdNums s7).1 := ⟨_, rfl⟩
  obtain ⟨s8, hs8⟩ : ∃ s, s = (rdNums s7).2 := ⟨_, rfl⟩
  rw [← hp8, ← hs8]
  rw [← hs8] at R2
  refine AC.call (c_rnumD s8 (by omega) (cs := [inssV I, strs S, entsV E, ints p7, ints p8, I64 0, I64 0]) (b := ⟨0, true, []⟩) no3 c3 (by omega)) ?_
  rintro v H' c4 ⟨rfl, rfl⟩ hc4
  have R3 := rdNum_len s8
  have hD2 := fun st => DH_2 (s := st) (cs := [inssV I, strs S, entsV E, ints p7, ints p8, I64 0, I64 0]) (b := ⟨0, true, []⟩) no3
  simp only [go_sem, Nat.reduceAdd, Nat.reduceLeDiff, Nat.reduceEqDiff, Nat.reduceMul, Nat.reduceSub, ↓reduceIte, Int.reduceLT, Int.reduceLE, Int.reduceGT, Int.reduceGE, Nat.reduceLT, Nat.reduceGT, Int.reduceToNat, reduceCtorEq, Nat.reduceBEq, Int.reduceBEq, Int.reduceBNe, Int.reduceEq, Int.reduceNe, decide_true, decide_false, hD2]
  repeat' ((first | (with_reducible first | refine wr ?_ | refine i_ret ?_ | refine i_skip ?_ | refine i_exit ?_) | ((with_reducible first | refine k_cb ?_ ?_ | refine k_gb ?_ ?_ | refine k_gb' ?_ ?_) <;> (intro hb; try simp only [hb]))) <;> try simp only [go_sem, Nat.reduceAdd, Nat.reduceLeDiff, Nat.reduceEqDiff, Nat.reduceMul, Nat.reduceSub, ↓reduceIte, Int.reduceLT, Int.reduceLE, Int.reduceGT, Int.reduceGE, Nat.reduceLT, Nat.reduceGT, Int.reduceToNat, reduceCtorEq, Nat.reduceBEq, Int.reduceBEq, Int.reduceBNe, Int.reduceEq, Int.reduceNe, decide_true, decide_false, hD2])
  rw [hc]
  obtain ⟨p9, hp9⟩ : ∃ p, p = (rdNum s8).1 := ⟨_, rfl⟩
  obtain ⟨s9, hs9⟩ : ∃ s, s = (rdNum s8).2 := ⟨_, rfl⟩
  rw [← hp9, ← hs9]
  rw [← hs9] at R3
  refine AC.call (c_rnumD s9 (by omega) (cs := [inssV I, strs S, entsV E, ints p7, ints p8, I64 p9, I64 0]) (b := ⟨0, true, []⟩) no3 c4 (by omega)) ?_
  rintro v H' c5 ⟨rfl, rfl⟩ hc5
  have hD2 := fun st => DH_2 (s := st) (cs := [inssV I, strs S, entsV E, ints p7, ints p8, I64 p9, I64 0]) (b := ⟨0, true, []⟩) no3
  simp only [go_sem, Nat.reduceAdd, Nat.reduceLeDiff, Nat.reduceEqDiff, Nat.reduceMul, Nat.reduceSub, ↓reduceIte, Int.reduceLT, Int.reduceLE, Int.reduceGT, Int.reduceGE, Nat.reduceLT, Nat.reduceGT, Int.reduceToNat, reduceCtorEq, Nat.reduceBEq, Int.reduceBEq, Int.reduceBNe, Int.reduceEq, Int.reduceNe, decide_true, decide_false, hD2]
  repeat' ((first | (with_reducible first | refine wr ?_ | refine i_ret ?_ | refine i_skip ?_ | refine i_exit ?_) | ((with_reducible first | refine k_cb ?_ ?_ | refine k_gb ?_ ?_ | refine k_gb' ?_ ?_) <;> (intro hb; try simp only [hb]))) <;> try simp only [go_sem, Nat.reduceAdd, Nat.reduceLeDiff, Nat.reduceEqDiff, Nat.reduceMul, Nat.reduceSub, ↓reduceIte, Int.reduceLT, Int.reduceLE, Int.reduceGT, Int.reduceGE, Nat.reduceLT, Nat.reduceGT, Int.reduceToNat, reduceCtorEq, Nat.reduceBEq, Int.reduceBEq, Int.reduceBNe, Int.reduceEq, Int.reduceNe, decide_true, decide_false, hD2])
  rw [hc]
  have hS2 : ∀ x ∈ S, x.length ≤ 140737488355328 := fun x hx => by
    have := rdStr_all k2 s3 (by omega) x (hS ▸ hx)
    omega
  have hI2 : I.length ≤ 9223372036854775807 := by rw [hI, M2]; omega
  have eP : rdPrg (s, false) = (⟨I, S, E, p7, p8, p9, (rdNum s9).1⟩, (rdNum s9).2) := by
    subst hs9 hp9 hs8 hp8 hs7 hp7 hs6 hE hs5 hn3 hs4 hS hs3 hn2 hs2 hI hs1 hn1
    rfl
  obtain ⟨cP, hcP⟩ : ∃ c : Prg, c = ⟨I, S, E, p7, p8, p9, (rdNum s9).1⟩ := ⟨_, rfl⟩
  obtain ⟨sz, hsz⟩ : ∃ x : RS, x = (rdNum s9).2 := ⟨_, rfl⟩
  have hv : DV.agg [inssV I, strs S, entsV E, ints p7, ints p8, I64 p9, DV.int .i64 (rdNum s9).1] = cP.v := by rw [hcP]
  have hcs : [inssV I, strs S, entsV E, ints p7, ints p8, I64 p9, DV.int .i64 (rdNum s9).1] = cP.cs := by rw [hcP]
  rw [hv, hcs, ← hsz]
  rw [← hcP, ← hsz] at eP
  refine AC.call ((c_Encode cP (by rw [hcP]; exact hS2) (by rw [hcP]; exact hI2)).at _ _) ?_
  rintro _ _ _ ⟨rfl, rfl, rfl⟩ -
  have hD0 := DH_0 (s := sz) (cs := cP.cs) (b := ⟨0, true, []⟩) no3
  have hD1 := DH_1 (s := sz) (cs := cP.cs) (b := ⟨0, true, []⟩) no3
  have hD2 := DH_2 (s := sz) (cs := cP.cs) (b := ⟨0, true, []⟩) no3
  have eD : decP s = if sz.2 = true ∨ validM cP ≠ 0 ∨ encV cP ≠ s then Option.none else some cP := by rw [decP, eP]
  rw [eD]
  simp only [go_sem, Nat.reduceAdd, Nat.reduceLeDiff, Nat.reduceEqDiff, Nat.reduceMul, Nat.reduceSub, ↓reduceIte, Int.reduceLT, Int.reduceLE, Int.reduceGT, Int.reduceGE, Nat.reduceLT, Nat.reduceGT, Int.reduceToNat, reduceCtorEq, Nat.reduceBEq, Int.reduceBEq, Int.reduceBNe, Int.reduceEq, Int.reduceNe, decide_true, decide_false]
  cases hb : sz.2
  · by_cases h0 : validM cP = 0
    · have h1 : (validM cP != 0) = false := by simp [h0]
      by_cases h2 : encV cP = s
      · have h3 : (!(encV cP == s)) = false := by simp [h2]
        rw [if_neg (by simp [h0, h2])]
        repeat' ((first | (with_reducible first | refine wr ?_ | refine i_ret ?_ | refine i_skip ?_ | refine i_exit ?_) | ((with_reducible first | refine k_cb ?_ ?_ | refine k_gb ?_ ?_ | refine k_gb' ?_ ?_) <;> (intro hb; try simp only [hb]))) <;> try simp only [go_sem, Nat.reduceAdd, Nat.reduceLeDiff, Nat.reduceEqDiff, Nat.reduceMul, Nat.reduceSub, ↓reduceIte, Int.reduceLT, Int.reduceLE, Int.reduceGT, Int.reduceGE, Nat.reduceLT, Nat.reduceGT, Int.reduceToNat, reduceCtorEq, Nat.reduceBEq, Int.reduceBEq, Int.reduceBNe, Int.reduceEq, Int.reduceNe, decide_true, decide_false, hb, h1, h3, hD0, hD1, hD2])
        rw [k_rv (v := .tup [cP.v, I64 0]) rfl]
        exact pc_ret rfl
      · have h3 : (!(encV cP == s)) = true := by simp [h2]
        rw [if_pos (.inr (.inr h2))]
        repeat' ((first | (with_reducible first | refine wr ?_ | refine i_ret ?_ | refine i_skip ?_ | refine i_exit ?_) | ((with_reducible first | refine k_cb ?_ ?_ | refine k_gb ?_ ?_ | refine k_gb' ?_ ?_) <;> (intro hb; try simp only [hb]))) <;> try simp only [go_sem, Nat.reduceAdd, Nat.reduceLeDiff, Nat.reduceEqDiff, Nat.reduceMul, Nat.reduceSub, ↓reduceIte, Int.reduceLT, Int.reduceLE, Int.reduceGT, Int.reduceGE, Nat.reduceLT, Nat.reduceGT, Int.reduceToNat, reduceCtorEq, Nat.reduceBEq, Int.reduceBEq, Int.reduceBNe, Int.reduceEq, Int.reduceNe, decide_true, decide_false, hb, h1, h3, hD0, hD1, hD2])
        rw [k_rv (v := .tup [.agg [.snil, .snil, .snil, .snil, .snil, I64 0, I64 0], I64 51]) rfl]
        exact g_none
    · have h1 : (validM cP != 0) = true := by simp [h0]
      rw [if_pos (.inr (.inl h0))]
      repeat' ((first | (with_reducible first | refine wr ?_ | refine i_ret ?_ | refine i_skip ?_ | refine i_exit ?_) | ((with_reducible first | refine k_cb ?_ ?_ | refine k_gb ?_ ?_ | refine k_gb' ?_ ?_) <;> (intro hb; try simp only [hb]))) <;> try simp only [go_sem, Nat.reduceAdd, Nat.reduceLeDiff, Nat.reduceEqDiff, Nat.reduceMul, Nat.reduceSub, ↓reduceIte, Int.reduceLT, Int.reduceLE, Int.reduceGT, Int.reduceGE, Nat.reduceLT, Nat.reduceGT, Int.reduceToNat, reduceCtorEq, Nat.reduceBEq, Int.reduceBEq, Int.reduceBNe, Int.reduceEq, Int.reduceNe, decide_true, decide_false, hb, h1, hD0, hD1, hD2])
      rw [k_rv (v := .tup [.agg [.snil, .snil, .snil, .snil, .snil, I64 0, I64 0], I64 51]) rfl]
      exact g_none
  · rw [if_pos (.inl rfl)]
    repeat' ((first | (with_reducible first | refine wr ?_ | refine i_ret ?_ | refine i_skip ?_ | refine i_exit ?_) | ((with_reducible first | refine k_cb ?_ ?_ | refine k_gb ?_ ?_ | refine k_gb' ?_ ?_) <;> (intro hb; try simp only [hb]))) <;> try simp only [go_sem, Nat.reduceAdd, Nat.reduceLeDiff, Nat.reduceEqDiff, Nat.reduceMul, Nat.reduceSub, ↓reduceIte, Int.reduceLT, Int.reduceLE, Int.reduceGT, Int.reduceGE, Nat.reduceLT, Nat.reduceGT, Int.reduceToNat, reduceCtorEq, Nat.reduceBEq, Int.reduceBEq, Int.reduceBNe, Int.reduceEq, Int.reduceNe, decide_true, decide_false, hb, hD0, hD1, hD2])
    rw [k_rv (v := .tup [.agg [.snil, .snil, .snil, .snil, .snil, I64 0, I64 0], I64 51]) rfl]
    exact g_none
end Go.Proofs.YtcallbfckjlagaaDoor
