/-
  HELPERS of the claim: part 6 of its texts.
-/
import Derived.Test.YtcallbfckjlagaaDoorMade
set_option maxHeartbeats 4000000
set_option maxRecDepth 100000
set_option linter.unusedSimpArgs false
set_option linter.unusedVariables false
namespace Go.Proofs.YtcallbfckjlagaaDoor
open Go.Eng (IC IOper DReg IFn IsFn)
open Go.Sym Go.Pb
noncomputable section
def u28_6r : List IOper := [⟨some 7, .pur (.mv (.k (.int .i64 0))), none⟩]
def u28_6 : IC := .reg u28_6r
def u28_5 : IC := .cond (.t 21) u28_6 .skip
def u28_4r : List IOper := [⟨some 16, .pur (.mv (.t 2)), none⟩, ⟨some 17, .pur (.bin .leq (.t 16) (.k (.int .i64 0))), none⟩, ⟨some 18, .pur (.mv (.t 17)), none⟩, ⟨some 19, .pur (.mv (.t 7)), some (18, true)⟩, ⟨some 20, .pur (.bin .gtr (.t 19) (.k (.int .i64 11))), some (18, true)⟩, ⟨some 21, .pur (.pick (.t 18) (.t 20) (.k (.bool false))), none⟩]
def u28_4 : IC := .seq (.reg u28_4r) u28_5
def u28_12r : List IOper := [⟨some 25, .pur (.mv (.t 0)), none⟩, ⟨some 26, .call 52 [.t 25, .k (.int .i64 1)], none⟩, ⟨some 27, .pur (.bld #[.int .i64 0, .int .i64 0] [(0, 1), (1, 1)] [(0, .k (.int .i64 15))]), none⟩, ⟨some 28, .new (.bsl 2 1 #[.int .i64 0, .int .i64 0] [(0, .t 27)]), none⟩, ⟨some 29, .eff (.app 2 16 (.t 26) (.t 28)), none⟩, ⟨some 6, .pur (.mv (.t 29)), none⟩]
def u28_12 : IC := .seq (.reg u28_12r) .ret
def u28_15r : List IOper := [⟨some 32, .pur (.mv (.t 0)), none⟩, ⟨some 33, .call 27 [.t 32, .k (.int .i64 3)], none⟩, ⟨some 34, .pur (.bin .add (.k (.int .i64 16)) (.t 33)), none⟩, ⟨some 35, .pur (.mv (.t 0)), none⟩, ⟨some 36, .call 27 [.t 35, .k (.int .i64 32)], none⟩, ⟨some 37, .pur (.bld #[.int .i64 0, .int .i64 0] [(0, 1), (1, 1)] [(0, .t 34), (1, .t 36)]), none⟩, ⟨some 38, .new (.bsl 2 1 #[.int .i64 0, .int .i64 0] [(0, .t 37)]), none⟩, ⟨some 6, .pur (.mv (.t 38)), none⟩]
def u28_15 : IC := .seq (.reg u28_15r) .ret
def u28_18r : List IOper := [⟨some 41, .pur (.mv (.t 0)), none⟩, ⟨some 42, .call 52 [.t 41, .k (.int .i64 0)], none⟩, ⟨some 43, .pur (.mv (.t 0)), none⟩, ⟨some 44, .call 27 [.t 43, .k (.int .i64 64)], none⟩, ⟨some 45, .pur (.bld #[.int .i64 0, .int .i64 0] [(0, 1), (1, 1)] [(0, .k (.int .i64 19)), (1, .t 44)]), none⟩, ⟨some 46, .new (.bsl 2 1 #[.int .i64 0, .int .i64 0] [(0, .t 45)]), none⟩, ⟨some 47, .eff (.app 2 16 (.t 42) (.t 46)), none⟩, ⟨some 6, .pur (.mv (.t 47)), none⟩]
def u28_18 : IC := .seq (.reg u28_18r) .ret
def u28_22r : List IOper := [⟨some 52, .pur (.mv (.t 8)), none⟩, ⟨some 53, .pur (.mv (.t 0)), none⟩, ⟨some 54, .call 52 [.t 53, .k (.int .i64 0)], none⟩, ⟨some 55, .eff (.app 2 16 (.t 52) (.t 54)), none⟩, ⟨some 56, .pur (.mv (.t 0)), none⟩, ⟨some 57, .call 27 [.t 56, .k (.int .i64 64)], none⟩, ⟨some 58, .pur (.bld #[.int .i64 0, .int .i64 0] [(0, 1), (1, 1)] [(0, .k (.int .i64 20)), (1, .t 57)]), none⟩, ⟨some 59, .new (.bsl 2 1 #[.int .i64 0, .int .i64 0] [(0, .t 58)]), none⟩, ⟨some 60, .eff (.app 2 16 (.t 55) (.t 59)), none⟩, ⟨some 6, .pur (.mv (.t 60)), none⟩]
def u28_22 : IC := .seq (.reg u28_22r) .ret
def u28_21r : List IOper := [⟨some 50, .pur (.mv (.t 0)), none⟩, ⟨some 51, .call 52 [.t 50, .k (.int .i64 0)], none⟩, ⟨some 8, .pur (.mv (.t 51)), none⟩]
def u28_21 : IC := .seq (.reg u28_21r) u28_22
def u28_25r : List IOper := [⟨some 63, .pur (.mv (.t 0)), none⟩, ⟨some 64, .call 52 [.t 63, .k (.int .i64 1)], none⟩, ⟨some 65, .pur (.mv (.t 0)), none⟩, ⟨some 66, .call 27 [.t 65, .k (.int .i64 2)], none⟩, ⟨some 67, .pur (.bld #[.int .i64 0, .int .i64 0] [(0, 1), (1, 1)] [(0, .k (.int .i64 21)), (1, .t 66)]), none⟩, ⟨some 68, .new (.bsl 2 1 #[.int .i64 0, .int .i64 0] [(0, .t 67)]), none⟩, ⟨some 69, .eff (.app 2 16 (.t 64) (.t 68)), none⟩, ⟨some 6, .pur (.mv (.t 69)), none⟩]
def u28_25 : IC := .seq (.reg u28_25r) .ret
def u28_28r : List IOper := [⟨some 72, .pur (.mv (.t 0)), none⟩, ⟨some 73, .call 27 [.t 72, .k (.int .i64 2)], none⟩, ⟨some 74, .pur (.bld #[.int .i64 0, .int .i64 0] [(0, 1), (1, 1)] [(0, .k (.int .i64 22)), (1, .t 73)]), none⟩, ⟨some 75, .new (.bsl 2 1 #[.int .i64 0, .int .i64 0] [(0, .t 74)]), none⟩, ⟨some 6, .pur (.mv (.t 75)), none⟩]
def u28_28 : IC := .seq (.reg u28_28r) .ret
def u28_31r : List IOper := [⟨some 78, .pur (.mv (.t 0)), none⟩, ⟨some 79, .call 27 [.t 78, .k (.int .i64 2)], none⟩, ⟨some 80, .pur (.bin .add (.k (.int .i64 23)) (.t 79)), none⟩, ⟨some 81, .pur (.mv (.t 0)), none⟩, ⟨some 82, .call 27 [.t 81, .k (.int .i64 2)], none⟩, ⟨some 83, .pur (.bld #[.int .i64 0, .int .i64 0] [(0, 1), (1, 1)] [(0, .t 80), (1, .t 82)]), none⟩, ⟨some 84, .new (.bsl 2 1 #[.int .i64 0, .int .i64 0] [(0, .t 83)]), none⟩, ⟨some 6, .pur (.mv (.t 84)), none⟩]
def u28_31 : IC := .seq (.reg u28_31r) .ret
def u28_34r : List IOper := [⟨some 87, .pur (.mv (.t 0)), none⟩, ⟨some 88, .call 27 [.t 87, .k (.int .i64 2)], none⟩, ⟨some 89, .pur (.bld #[.int .i64 0, .int .i64 0] [(0, 1), (1, 1)] [(0, .k (.int .i64 25)), (1, .t 88)]), none⟩, ⟨some 90, .new (.bsl 2 1 #[.int .i64 0, .int .i64 0] [(0, .t 89)]), none⟩, ⟨some 6, .pur (.mv (.t 90)), none⟩]
def u28_34 : IC := .seq (.reg u28_34r) .ret
def u28_37r : List IOper := [⟨some 93, .pur (.mv (.t 0)), none⟩, ⟨some 94, .call 27 [.t 93, .k (.int .i64 3)], none⟩, ⟨some 95, .pur (.bin .add (.k (.int .i64 26)) (.t 94)), none⟩, ⟨some 96, .pur (.mv (.t 0)), none⟩, ⟨some 97, .call 27 [.t 96, .k (.int .i64 64)], none⟩, ⟨some 98, .pur (.bld #[.int .i64 0, .int .i64 0] [(0, 1), (1, 1)] [(0, .t 95), (1, .t 97)]), none⟩, ⟨some 99, .new (.bsl 2 1 #[.int .i64 0, .int .i64 0] [(0, .t 98)]), none⟩, ⟨some 6, .pur (.mv (.t 99)), none⟩]
def u28_37 : IC := .seq (.reg u28_37r) .ret
def u28_40r : List IOper := [⟨some 102, .pur (.mv (.t 0)), none⟩, ⟨some 103, .call 52 [.t 102, .k (.int .i64 1)], none⟩, ⟨some 104, .pur (.mv (.t 0)), none⟩, ⟨some 105, .call 27 [.t 104, .k (.int .i64 2)], none⟩, ⟨some 106, .pur (.bld #[.int .i64 0, .int .i64 0] [(0, 1), (1, 1)] [(0, .k (.int .i64 29)), (1, .t 105)]), none⟩, ⟨some 107, .new (.bsl 2 1 #[.int .i64 0, .int .i64 0] [(0, .t 106)]), none⟩, ⟨some 108, .eff (.app 2 16 (.t 103) (.t 107)), none⟩, ⟨some 6, .pur (.mv (.t 108)), none⟩]
def u28_40 : IC := .seq (.reg u28_40r) .ret
def u28_43r : List IOper := [⟨some 111, .pur (.bld #[.int .i64 0, .int .i64 0] [(0, 1), (1, 1)] [(0, .k (.int .i64 30))]), none⟩, ⟨some 112, .new (.bsl 2 1 #[.int .i64 0, .int .i64 0] [(0, .t 111)]), none⟩, ⟨some 6, .pur (.mv (.t 112)), none⟩]
def u28_43 : IC := .seq (.reg u28_43r) .ret
def u28_48r : List IOper := [⟨some 126, .pur (.mv (.t 9)), none⟩, ⟨some 127, .pur (.mv (.t 1)), none⟩, ⟨some 128, .pur (.mv (.t 9)), none⟩, ⟨some 129, .pur (.len (.t 128)), none⟩, ⟨some 130, .pur (.bin .add (.t 127) (.t 129)), none⟩, ⟨some 131, .pur (.bin .add (.t 130) (.k (.int .i64 1))), none⟩, ⟨some 132, .pur (.mv (.t 10)), none⟩, ⟨some 133, .pur (.len (.t 132)), none⟩, ⟨some 134, .pur (.bin .add (.t 131) (.t 133)), none⟩, ⟨some 135, .pur (.bld #[.int .i64 0, .int .i64 0] [(0, 1), (1, 1)] [(0, .k (.int .i64 13)), (1, .t 134)]), none⟩, ⟨some 136, .new (.bsl 2 1 #[.int .i64 0, .int .i64 0] [(0, .t 135)]), none⟩, ⟨some 137, .eff (.app 2 16 (.t 126) (.t 136)), none⟩, ⟨some 138, .pur (.mv (.t 10)), none⟩, ⟨some 139, .eff (.app 2 16 (.t 137) (.t 138)), none⟩, ⟨some 6, .pur (.mv (.t 139)), none⟩]
def u28_48 : IC := .seq (.reg u28_48r) .ret
def u28_47r : List IOper := [⟨some 117, .pur (.mv (.t 0)), none⟩, ⟨some 118, .pur (.mv (.t 1)), none⟩, ⟨some 119, .pur (.mv (.t 9)), none⟩, ⟨some 120, .pur (.len (.t 119)), none⟩, ⟨some 121, .pur (.bin .add (.t 118) (.t 120)), none⟩, ⟨some 122, .pur (.bin .add (.t 121) (.k (.int .i64 1))), none⟩, ⟨some 123, .pur (.mv (.t 2)), none⟩, ⟨some 124, .pur (.bin .sub (.t 123) (.k (.int .i64 1))), none⟩, ⟨some 125, .call 28 [.t 117, .t 122, .t 124], none⟩, ⟨some 10, .pur (.mv (.t 125)), none⟩]
def u28_47 : IC := .seq (.reg u28_47r) u28_48
def u28_46r : List IOper := [⟨some 115, .pur (.mv (.t 0)), none⟩, ⟨some 116, .call 52 [.t 115, .k (.int .i64 1)], none⟩, ⟨some 9, .pur (.mv (.t 116)), none⟩]
def u28_46 : IC := .seq (.reg u28_46r) u28_47
def u28_52r : List IOper := [⟨some 142, .pur (.bin .eql (.t 22) (.k (.int .i64 14))), none⟩, ⟨some 140, .pur (.mv (.t 142)), none⟩]
def u28_52 : IC := .reg u28_52r
def u28_51 : IC := .cond (.t 140) .skip u28_52
def u28_50r : List IOper := [⟨some 141, .pur (.bin .eql (.t 22) (.k (.int .i64 13))), none⟩, ⟨some 140, .pur (.mv (.t 141)), none⟩]
def u28_50 : IC := .seq (.reg u28_50r) u28_51
def u28_57r : List IOper := [⟨some 162, .pur (.mv (.t 11)), none⟩, ⟨some 163, .pur (.mv (.t 13)), none⟩, ⟨some 164, .pur (.bld #[.int .i64 0, .int .i64 0] [(0, 1), (1, 1)] [(0, .k (.int .i64 14)), (1, .t 163)]), none⟩, ⟨some 165, .new (.bsl 2 1 #[.int .i64 0, .int .i64 0] [(0, .t 164)]), none⟩, ⟨some 166, .eff (.app 2 16 (.t 162) (.t 165)), none⟩, ⟨some 167, .pur (.mv (.t 12)), none⟩, ⟨some 168, .eff (.app 2 16 (.t 166) (.t 167)), none⟩, ⟨some 169, .pur (.mv (.t 1)), none⟩, ⟨some 170, .pur (.mv (.t 11)), none⟩, ⟨some 171, .pur (.len (.t 170)), none⟩, ⟨some 172, .pur (.bin .add (.t 169) (.t 171)), none⟩, ⟨some 173, .pur (.bld #[.int .i64 0, .int .i64 0] [(0, 1), (1, 1)] [(0, .k (.int .i64 12)), (1, .t 172)]), none⟩, ⟨some 174, .new (.bsl 2 1 #[.int .i64 0, .int .i64 0] [(0, .t 173)]), none⟩, ⟨some 175, .eff (.app 2 16 (.t 168) (.t 174)), none⟩, ⟨some 6, .pur (.mv (.t 175)), none⟩]
def u28_57 : IC := .seq (.reg u28_57r) .ret
def u28_56r : List IOper := [⟨some 154, .pur (.mv (.t 1)), none⟩, ⟨some 155, .pur (.mv (.t 11)), none⟩, ⟨some 156, .pur (.len (.t 155)), none⟩, ⟨some 157, .pur (.bin .add (.t 154) (.t 156)), none⟩, ⟨some 158, .pur (.bin .add (.t 157) (.k (.int .i64 2))), none⟩, ⟨some 159, .pur (.mv (.t 12)), none⟩, ⟨some 160, .pur (.len (.t 159)), none⟩, ⟨some 161, .pur (.bin .add (.t 158) (.t 160)), none⟩, ⟨some 13, .pur (.mv (.t 161)), none⟩]
def u28_56 : IC := .seq (.reg u28_56r) u28_57
def u28_55r : List IOper := [⟨some 145, .pur (.mv (.t 0)), none⟩, ⟨some 146, .pur (.mv (.t 1)), none⟩, ⟨some 147, .pur (.mv (.t 11)), none⟩, ⟨some 148, .pur (.len (.t 147)), none⟩, ⟨some 149, .pur (.bin .add (.t 146) (.t 148)), none⟩, ⟨some 150, .pur (.bin .add (.t 149) (.k (.int .i64 1))), none⟩, ⟨some 151, .pur (.mv (.t 2)), none⟩, ⟨some 152, .pur (.bin .sub (.t 151) (.k (.int .i64 1))), none⟩, ⟨some 153, .call 28 [.t 145, .t 150, .t 152], none⟩, ⟨some 12, .pur (.mv (.t 153)), none⟩]
def u28_55 : IC := .seq (.reg u28_55r) u28_56
def u28_54r : List IOper := [⟨some 143, .pur (.mv (.t 0)), none⟩, ⟨some 144, .call 52 [.t 143, .k (.int .i64 0)], none⟩, ⟨some 11, .pur (.mv (.t 144)), none⟩]
def u28_54 : IC := .seq (.reg u28_54r) u28_55
def u28_53 : IC := .cond (.t 140) u28_54 .skip
def u28_49 : IC := .seq u28_50 u28_53
def u28_45 : IC := .cond (.t 113) u28_46 u28_49
def u28_44r : List IOper := [⟨some 114, .pur (.bin .eql (.t 22) (.k (.int .i64 12))), none⟩, ⟨some 113, .pur (.mv (.t 114)), none⟩]
def u28_44 : IC := .seq (.reg u28_44r) u28_45
def u28_42 : IC := .cond (.t 109) u28_43 u28_44
def u28_41r : List IOper := [⟨some 110, .pur (.bin .eql (.t 22) (.k (.int .i64 11))), none⟩, ⟨some 109, .pur (.mv (.t 110)), none⟩]
def u28_41 : IC := .seq (.reg u28_41r) u28_42
def u28_39 : IC := .cond (.t 100) u28_40 u28_41
def u28_38r : List IOper := [⟨some 101, .pur (.bin .eql (.t 22) (.k (.int .i64 10))), none⟩, ⟨some 100, .pur (.mv (.t 101)), none⟩]
def u28_38 : IC := .seq (.reg u28_38r) u28_39
def u28_36 : IC := .cond (.t 91) u28_37 u28_38
def u28_35r : List IOper := [⟨some 92, .pur (.bin .eql (.t 22) (.k (.int .i64 9))), none⟩, ⟨some 91, .pur (.mv (.t 92)), none⟩]
def u28_35 : IC := .seq (.reg u28_35r) u28_36
def u28_33 : IC := .cond (.t 85) u28_34 u28_35
def u28_32r : List IOper := [⟨some 86, .pur (.bin .eql (.t 22) (.k (.int .i64 8))), none⟩, ⟨some 85, .pur (.mv (.t 86)), none⟩]
def u28_32 : IC := .seq (.reg u28_32r) u28_33
def u28_30 : IC := .cond (.t 76) u28_31 u28_32
def u28_29r : List IOper := [⟨some 77, .pur (.bin .eql (.t 22) (.k (.int .i64 7))), none⟩, ⟨some 76, .pur (.mv (.t 77)), none⟩]
def u28_29 : IC := .seq (.reg u28_29r) u28_30
def u28_27 : IC := .cond (.t 70) u28_28 u28_29
def u28_26r : List IOper := [⟨some 71, .pur (.bin .eql (.t 22) (.k (.int .i64 6))), none⟩, ⟨some 70, .pur (.mv (.t 71)), none⟩]
def u28_26 : IC := .seq (.reg u28_26r) u28_27
def u28_24 : IC := .cond (.t 61) u28_25 u28_26
def u28_23r : List IOper := [⟨some 62, .pur (.bin .eql (.t 22) (.k (.int .i64 5))), none⟩, ⟨some 61, .pur (.mv (.t 62)), none⟩]
def u28_23 : IC := .seq (.reg u28_23r) u28_24
def u28_20 : IC := .cond (.t 48) u28_21 u28_23
def u28_19r : List IOper := [⟨some 49, .pur (.bin .eql (.t 22) (.k (.int .i64 4))), none⟩, ⟨some 48, .pur (.mv (.t 49)), none⟩]
def u28_19 : IC := .seq (.reg u28_19r) u28_20
def u28_17 : IC := .cond (.t 39) u28_18 u28_19
def u28_16r : List IOper := [⟨some 40, .pur (.bin .eql (.t 22) (.k (.int .i64 3))), none⟩, ⟨some 39, .pur (.mv (.t 40)), none⟩]
def u28_16 : IC := .seq (.reg u28_16r) u28_17
def u28_14 : IC := .cond (.t 30) u28_15 u28_16
def u28_13r : List IOper := [⟨some 31, .pur (.bin .eql (.t 22) (.k (.int .i64 2))), none⟩, ⟨some 30, .pur (.mv (.t 31)), none⟩]
def u28_13 : IC := .seq (.reg u28_13r) u28_14
def u28_11 : IC := .cond (.t 23) u28_12 u28_13
def u28_10r : List IOper := [⟨some 24, .pur (.bin .eql (.t 22) (.k (.int .i64 1))), none⟩, ⟨some 23, .pur (.mv (.t 24)), none⟩]
def u28_10 : IC := .seq (.reg u28_10r) u28_11
def u28_9 : IC := .blk 0 u28_10
def u28_8r : List IOper := [⟨some 22, .pur (.mv (.t 7)), none⟩]
def u28_8 : IC := .seq (.reg u28_8r) u28_9
def u28_58r : List IOper := [⟨some 176, .pur (.mv (.t 0)), none⟩, ⟨some 177, .call 52 [.t 176, .k (.int .i64 2)], none⟩, ⟨some 178, .pur (.mv (.t 0)), none⟩, ⟨some 179, .call 27 [.t 178, .k (.int .i64 3)], none⟩, ⟨some 180, .pur (.bld #[.int .i64 0, .int .i64 0] [(0, 1), (1, 1)] [(0, .k (.int .i64 3)), (1, .t 179)]), none⟩, ⟨some 181, .new (.bsl 2 1 #[.int .i64 0, .int .i64 0] [(0, .t 180)]), none⟩, ⟨some 182, .eff (.app 2 16 (.t 177) (.t 181)), none⟩, ⟨some 6, .pur (.mv (.t 182)), none⟩]
def u28_58 : IC := .seq (.reg u28_58r) .ret
def u28_7 : IC := .seq u28_8 u28_58
def u28_3 : IC := .seq u28_4 u28_7
def u28_2r : List IOper := [⟨some 14, .pur (.mv (.t 0)), none⟩, ⟨some 15, .call 27 [.t 14, .k (.int .i64 15)], none⟩, ⟨some 7, .pur (.mv (.t 15)), none⟩]
def u28_2 : IC := .seq (.reg u28_2r) u28_3
def u28_1r : List IOper := [⟨some 6, .pur (.mv (.k (.slice none 0 0))), none⟩]
def u28_1 : IC := .seq (.reg u28_1r) u28_2
def u28 : IFn := ⟨183, u28_1, [.tmp 6]⟩
end
theorem isU28 : IsFn Tryd.prog 28 u28 := by unfold IsFn; kernel_rfl
instance i28_6 : WR Tryd.prog 183 u28_6 (rE u28_6r [0, 1, 2]) := ⟨mkE⟩
instance i28_5 : WR Tryd.prog 183 u28_5 (rCE (.t 21) u28_6 .skip [0, 1, 2, 7, 21]) := ⟨mkCE⟩
instance i28_4 : WR Tryd.prog 183 u28_4 (rS u28_4r u28_5 [0, 1, 2, 7]) := ⟨mkS⟩
instance i28_12 : WR Tryd.prog 183 u28_12 (rS u28_12r .ret [0]) := ⟨mkS⟩
instance i28_15 : WR Tryd.prog 183 u28_15 (rS u28_15r .ret [0]) := ⟨mkS⟩
instance i28_18 : WR Tryd.prog 183 u28_18 (rS u28_18r .ret [0]) := ⟨mkS⟩
instance i28_22 : WR Tryd.prog 183 u28_22 (rS u28_22r .ret [0, 8]) := ⟨mkS⟩
instance i28_21 : WR Tryd.prog 183 u28_21 (rS u28_21r u28_22 [0]) := ⟨mkS⟩
instance i28_25 : WR Tryd.prog 183 u28_25 (rS u28_25r .ret [0]) := ⟨mkS⟩
instance i28_28 : WR Tryd.prog 183 u28_28 (rS u28_28r .ret [0]) := ⟨mkS⟩
instance i28_31 : WR Tryd.prog 183 u28_31 (rS u28_31r .ret [0]) := ⟨mkS⟩
instance i28_34 : WR Tryd.prog 183 u28_34 (rS u28_34r .ret [0]) := ⟨mkS⟩
instance i28_37 : WR Tryd.prog 183 u28_37 (rS u28_37r .ret [0]) := ⟨mkS⟩
instance i28_40 : WR Tryd.prog 183 u28_40 (rS u28_40r .ret [0]) := ⟨mkS⟩
instance i28_43 : WR Tryd.prog 183 u28_43 (rS u28_43r .ret []) := ⟨mkS⟩
instance i28_48 : WR Tryd.prog 183 u28_48 (rS u28_48r .ret [1, 9, 10]) := ⟨mkS⟩
instance i28_47 : WR Tryd.prog 183 u28_47 (rS u28_47r u28_48 [0, 1, 2, 9]) := ⟨mkS⟩
instance i28_46 : WR Tryd.prog 183 u28_46 (rS u28_46r u28_47 [0, 1, 2]) := ⟨mkS⟩
instance i28_52 : WR Tryd.prog 183 u28_52 (rE u28_52r [0, 1, 2, 22]) := ⟨mkE⟩
instance i28_51 : WR Tryd.prog 183 u28_51 (rCE (.t 140) .skip u28_52 [0, 1, 2, 22, 140]) := ⟨mkCE⟩
instance i28_50 : WR Tryd.prog 183 u28_50 (rS u28_50r u28_51 [0, 1, 2, 22]) := ⟨mkS⟩
instance i28_57 : WR Tryd.prog 183 u28_57 (rS u28_57r .ret [1, 11, 12, 13]) := ⟨mkS⟩
instance i28_56 : WR Tryd.prog 183 u28_56 (rS u28_56r u28_57 [1, 11, 12]) := ⟨mkS⟩
instance i28_55 : WR Tryd.prog 183 u28_55 (rS u28_55r u28_56 [0, 1, 2, 11]) := ⟨mkS⟩
instance i28_54 : WR Tryd.prog 183 u28_54 (rS u28_54r u28_55 [0, 1, 2]) := ⟨mkS⟩
instance i28_53 : WR Tryd.prog 183 u28_53 (rCE (.t 140) u28_54 .skip [0, 1, 2, 140]) := ⟨mkCE⟩
instance i28_49 : WR Tryd.prog 183 u28_49 (rQ u28_50 u28_53 [0, 1, 2, 22]) := ⟨mkQ⟩
instance i28_45 : WR Tryd.prog 183 u28_45 (rCE (.t 113) u28_46 u28_49 [0, 1, 2, 22, 113]) := ⟨mkCE⟩
instance i28_44 : WR Tryd.prog 183 u28_44 (rS u28_44r u28_45 [0, 1, 2, 22]) := ⟨mkS⟩
instance i28_42 : WR Tryd.prog 183 u28_42 (rCE (.t 109) u28_43 u28_44 [0, 1, 2, 22, 109]) := ⟨mkCE⟩
instance i28_41 : WR Tryd.prog 183 u28_41 (rS u28_41r u28_42 [0, 1, 2, 22]) := ⟨mkS⟩
instance i28_39 : WR Tryd.prog 183 u28_39 (rCE (.t 100) u28_40 u28_41 [0, 1, 2, 22, 100]) := ⟨mkCE⟩
instance i28_38 : WR Tryd.prog 183 u28_38 (rS u28_38r u28_39 [0, 1, 2, 22]) := ⟨mkS⟩
instance i28_36 : WR Tryd.prog 183 u28_36 (rCE (.t 91) u28_37 u28_38 [0, 1, 2, 22, 91]) := ⟨mkCE⟩
instance i28_35 : WR Tryd.prog 183 u28_35 (rS u28_35r u28_36 [0, 1, 2, 22]) := ⟨mkS⟩
instance i28_33 : WR Tryd.prog 183 u28_33 (rCE (.t 85) u28_34 u28_35 [0, 1, 2, 22, 85]) := ⟨mkCE⟩
instance i28_32 : WR Tryd.prog 183 u28_32 (rS u28_32r u28_33 [0, 1, 2, 22]) := ⟨mkS⟩
instance i28_30 : WR Tryd.prog 183 u28_30 (rCE (.t 76) u28_31 u28_32 [0, 1, 2, 22, 76]) := ⟨mkCE⟩
instance i28_29 : WR Tryd.prog 183 u28_29 (rS u28_29r u28_30 [0, 1, 2, 22]) := ⟨mkS⟩
instance i28_27 : WR Tryd.prog 183 u28_27 (rCE (.t 70) u28_28 u28_29 [0, 1, 2, 22, 70]) := ⟨mkCE⟩
instance i28_26 : WR Tryd.prog 183 u28_26 (rS u28_26r u28_27 [0, 1, 2, 22]) := ⟨mkS⟩
instance i28_24 : WR Tryd.prog 183 u28_24 (rCE (.t 61) u28_25 u28_26 [0, 1, 2, 22, 61]) := ⟨mkCE⟩
instance i28_23 : WR Tryd.prog 183 u28_23 (rS u28_23r u28_24 [0, 1, 2, 22]) := ⟨mkS⟩
instance i28_20 : WR Tryd.prog 183 u28_20 (rCE (.t 48) u28_21 u28_23 [0, 1, 2, 22, 48]) := ⟨mkCE⟩
instance i28_19 : WR Tryd.prog 183 u28_19 (rS u28_19r u28_20 [0, 1, 2, 22]) := ⟨mkS⟩
instance i28_17 : WR Tryd.prog 183 u28_17 (rCE (.t 39) u28_18 u28_19 [0, 1, 2, 22, 39]) := ⟨mkCE⟩
instance i28_16 : WR Tryd.prog 183 u28_16 (rS u28_16r u28_17 [0, 1, 2, 22]) := ⟨mkS⟩
instance i28_14 : WR Tryd.prog 183 u28_14 (rCE (.t 30) u28_15 u28_16 [0, 1, 2, 22, 30]) := ⟨mkCE⟩
instance i28_13 : WR Tryd.prog 183 u28_13 (rS u28_13r u28_14 [0, 1, 2, 22]) := ⟨mkS⟩
instance i28_11 : WR Tryd.prog 183 u28_11 (rCE (.t 23) u28_12 u28_13 [0, 1, 2, 22, 23]) := ⟨mkCE⟩
instance i28_10 : WR Tryd.prog 183 u28_10 (rS u28_10r u28_11 [0, 1, 2, 22]) := ⟨mkS⟩
instance i28_9 : WR Tryd.prog 183 u28_9 (rBE 0 u28_10 [0, 1, 2, 22]) := ⟨mkBE⟩
instance i28_8 : WR Tryd.prog 183 u28_8 (rS u28_8r u28_9 [0, 1, 2, 7]) := ⟨mkS⟩
instance i28_58 : WR Tryd.prog 183 u28_58 (rS u28_58r .ret [0]) := ⟨mkS⟩
instance i28_7 : WR Tryd.prog 183 u28_7 (rQ u28_8 u28_58 [0, 1, 2, 7]) := ⟨mkQ⟩
instance i28_3 : WR Tryd.prog 183 u28_3 (rQ u28_4 u28_7 [0, 1, 2, 7]) := ⟨mkQ⟩
instance i28_2 : WR Tryd.prog 183 u28_2 (rS u28_2r u28_3 [0, 1, 2]) := ⟨mkS⟩
instance i28_1 : WR Tryd.prog 183 u28_1 (rS u28_1r u28_2 [0, 1, 2]) := ⟨mkS⟩
attribute [go_sem] u28_6r u28_4r u28_12r u28_15r u28_18r u28_22r u28_21r u28_25r u28_28r u28_31r u28_34r u28_37r u28_40r u28_43r u28_48r u28_47r u28_46r u28_52r u28_50r u28_57r u28_56r u28_55r u28_54r u28_44r u28_41r u28_38r u28_35r u28_32r u28_29r u28_26r u28_23r u28_19r u28_16r u28_13r u28_10r u28_8r u28_58r u28_2r u28_1r
theorem c_stmt (l : List UInt8) (hl : l.length ≤ 100000) : ∀ (d : Nat), d ≤ 2 → ∀ (base p : Nat), base + 10 * d ≤ 100000 → p ≤ l.length → ∀ (H : Hp) (cc t : Nat), H t = some (tapeB l p) → t < cc →
    AC Tryd.prog 28 [.ptr t 0, I64 (base : Int), I64 (d : Int)] H cc (fun v H' c' => ∃ id, cc ≤ id ∧ id < c' ∧ v = .slc id 0 (stmtM l d base p).1.length ∧ H' = (H.upd t (tapeB l (stmtM l d base p).2)).upd id ⟨2, true, insC (stmtM l d base p).1⟩) := by
  intro d
  induction d with
  | zero =>
    intro hd2 base p hbase hp H cc t ht htc
    refine AC.body mixedU isU28 (Nat.le_of_ble_eq_true rfl) fun hfr => ?_
    show IW Tryd.prog 183 u28_1 ⟨argT _, _, _⟩ (rt [.tmp 6] _)
    repeat' ((first | with_reducible refine wr ?_ | with_reducible refine i_ret ?_ | with_reducible refine i_skip ?_ | with_reducible refine i_exit ?_ | ((with_reducible refine k_cb ?_ ?_) <;> (intro hb; try simp only [hb])) | ((with_reducible refine k_gb ?_ ?_) <;> (intro hb; try simp only [hb])) | ((with_reducible refine k_gb' ?_ ?_) <;> (intro hb; try simp only [hb]))) <;> try simp only [go_sem, Nat.reduceAdd, Nat.reduceLeDiff, Nat.reduceEqDiff, Nat.reduceMul, Nat.reduceSub, ↓reduceIte, Int.reduceLT, Int.reduceLE, Int.reduceGT, Int.reduceGE, Nat.reduceLT, Nat.reduceGT, Int.reduceToNat, reduceCtorEq, Nat.reduceBEq, Int.reduceBEq, Int.reduceBNe, Int.reduceEq, Int.reduceNe, decide_true, decide_false])
    refine AC.call (c_next l hl p hp 15 (by omega) (by omega) H cc t ht htc) ?_
    rintro v H' c1 ⟨rfl, rfl⟩ hcc
    have hp1 := nextM_le (n := 15) hp
    have hk := nextM_lt (l := l) (p := p) (n := 15) (by omega)
    have hdl : decide (((0 : Nat) : Int) ≤ 0) = true := rfl
    obtain ⟨k0, p1, e0⟩ : ∃ k0 p1, nextM l p 15 = (k0, p1) := ⟨_, _, rfl⟩
    rw [e0] at hp1 hk ⊢
    simp only at hp1 hk
    have hv : k0 = 1 ∨ k0 = 2 ∨ k0 = 3 ∨ k0 = 4 ∨ k0 = 5 ∨ k0 = 6 ∨ k0 = 7 ∨ k0 = 8 ∨ k0 = 9 ∨ k0 = 10 ∨ k0 = 11 ∨ k0 = 0 ∨ k0 = 12 ∨ k0 = 13 ∨ k0 = 14 := by omega
    rcases hv with rfl | rfl | rfl | rfl | rfl | rfl | rfl | rfl | rfl | rfl | rfl | rfl | rfl | rfl | rfl
    · have nk : ((1 : Nat) : Int) = 1 := rfl
      simp only [go_sem, Nat.reduceAdd, Nat.reduceLeDiff, Nat.reduceEqDiff, Nat.reduceMul, Nat.reduceSub, ↓reduceIte, Int.reduceLT, Int.reduceLE, Int.reduceGT, Int.reduceGE, Nat.reduceLT, Nat.reduceGT, Int.reduceToNat, reduceCtorEq, Nat.reduceBEq, Int.reduceBEq, Int.reduceBNe, Int.reduceEq, Int.reduceNe, decide_true, decide_false, hdl, nk, Int.reduceGT, Int.reduceBEq, Int.reduceLE, decide_true, decide_false]
      repeat' ((first | with_reducible refine wr ?_ | with_reducible refine i_ret ?_ | with_reducible refine i_skip ?_ | with_reducible refine i_exit ?_ | ((with_reducible refine k_cb ?_ ?_) <;> (intro hb; try simp only [hb])) | ((with_reducible refine k_gb ?_ ?_) <;> (intro hb; try simp only [hb])) | ((with_reducible refine k_gb' ?_ ?_) <;> (intro hb; try simp only [hb]))) <;> try simp only [go_sem, Nat.reduceAdd, Nat.reduceLeDiff, Nat.reduceEqDiff, Nat.reduceMul, Nat.reduceSub, ↓reduceIte, Int.reduceLT, Int.reduceLE, Int.reduceGT, Int.reduceGE, Nat.reduceLT, Nat.reduceGT, Int.reduceToNat, reduceCtorEq, Nat.reduceBEq, Int.reduceBEq, Int.reduceBNe, Int.reduceEq, Int.reduceNe, decide_true, decide_false, hdl, nk, Int.reduceGT, Int.reduceBEq, Int.reduceLE, decide_true, decide_false])
      refine AC.call (c_value l hl 1 (by omega) (p1) hp1 _ _ t (by repeat (first | exact h_same | rw [h_ne (by omega)] | rw [h_dne (by omega)])) (by omega)) ?_
      rintro v H' c2 ⟨id1, ia1, ib1, rfl, rfl⟩ hcc2
      have hb1 := valueM_l1 l (p1)
      have hp2 := valueM_le l 1 (p1) hp1
      have ne0 : ¬ t = id1 := by omega
      have ne1 : ¬ t = c2 := by omega
      have ne2 : ¬ t = c2 + 1 := by omega
      have ne3 : ¬ id1 = t := by omega
      have ne4 : ¬ id1 = c2 := by omega
      have ne5 : ¬ id1 = c2 + 1 := by omega
      have ne6 : ¬ c2 = t := by omega
      have ne7 : ¬ c2 = id1 := by omega
      have ne8 : ¬ c2 = c2 + 1 := by omega
      have ne9 : ¬ c2 + 1 = t := by omega
      have ne10 : ¬ c2 + 1 = id1 := by omega
      have ne11 : ¬ c2 + 1 = c2 := by omega
      simp only [go_sem, Nat.reduceAdd, Nat.reduceLeDiff, Nat.reduceEqDiff, Nat.reduceMul, Nat.reduceSub, ↓reduceIte, Int.reduceLT, Int.reduceLE, Int.reduceGT, Int.reduceGE, Nat.reduceLT, Nat.reduceGT, Int.reduceToNat, reduceCtorEq, Nat.reduceBEq, Int.reduceBEq, Int.reduceBNe, Int.reduceEq, Int.reduceNe, decide_true, decide_false, ne0, ne1, ne2, ne3, ne4, ne5, ne6, ne7, ne8, ne9, ne10, ne11]
      repeat' ((first | with_reducible refine wr ?_ | with_reducible refine i_ret ?_ | with_reducible refine i_skip ?_ | with_reducible refine i_exit ?_ | ((with_reducible refine k_cb ?_ ?_) <;> (intro hb; try simp only [hb])) | ((with_reducible refine k_gb ?_ ?_) <;> (intro hb; try simp only [hb])) | ((with_reducible refine k_gb' ?_ ?_) <;> (intro hb; try simp only [hb])) | ((with_reducible refine k_eval (b_appx (insC_len2 _) (by omega) (by omega)) ?_))) <;> try simp only [go_sem, Nat.reduceAdd, Nat.reduceLeDiff, Nat.reduceEqDiff, Nat.reduceMul, Nat.reduceSub, ↓reduceIte, Int.reduceLT, Int.reduceLE, Int.reduceGT, Int.reduceGE, Nat.reduceLT, Nat.reduceGT, Int.reduceToNat, reduceCtorEq, Nat.reduceBEq, Int.reduceBEq, Int.reduceBNe, Int.reduceEq, Int.reduceNe, decide_true, decide_false, ne0, ne1, ne2, ne3, ne4, ne5, ne6, ne7, ne8, ne9, ne10, ne11])
      have es : stmtM l 0 base p = stK l (fun _ p => ([], p)) base 1 p1 := by simp only [stmtM]; rw [e0]; try rfl
      rw [es]
      refine v_end (id := c2 + 1) hfr (by omega) (by omega) htc (by first | rfl | simp only [stK, List.length_append, List.length_singleton]) ?_ ?_ fun j h1 h2 => ?_
      · repeat (first | exact h_same | rw [h_ne (by omega)] | rw [h_dne (by omega)])
      · rw [h_same]; simp only [stK, insC_app, insC_one]
      · repeat (first | rfl | rw [h_ne (by omega)] | rw [h_dne (by omega)])
    · have nk : ((2 : Nat) : Int) = 2 := rfl
      simp only [go_sem, Nat.reduceAdd, Nat.reduceLeDiff, Nat.reduceEqDiff, Nat.reduceMul, Nat.reduceSub, ↓reduceIte, Int.reduceLT, Int.reduceLE, Int.reduceGT, Int.reduceGE, Nat.reduceLT, Nat.reduceGT, Int.reduceToNat, reduceCtorEq, Nat.reduceBEq, Int.reduceBEq, Int.reduceBNe, Int.reduceEq, Int.reduceNe, decide_true, decide_false, hdl, nk, Int.reduceGT, Int.reduceBEq, Int.reduceLE, decide_true, decide_false]
      repeat' ((first | with_reducible refine wr ?_ | with_reducible refine i_ret ?_ | with_reducible refine i_skip ?_ | with_reducible refine i_exit ?_ | ((with_reducible refine k_cb ?_ ?_) <;> (intro hb; try simp only [hb])) | ((with_reducible refine k_gb ?_ ?_) <;> (intro hb; try simp only [hb])) | ((with_reducible refine k_gb' ?_ ?_) <;> (intro hb; try simp only [hb]))) <;> try simp only [go_sem, Nat.reduceAdd, Nat.reduceLeDiff, Nat.reduceEqDiff, Nat.reduceMul, Nat.reduceSub, ↓reduceIte, Int.reduceLT, Int.reduceLE, Int.reduceGT, Int.reduceGE, Nat.reduceLT, Nat.reduceGT, Int.reduceToNat, reduceCtorEq, Nat.reduceBEq, Int.reduceBEq, Int.reduceBNe, Int.reduceEq, Int.reduceNe, decide_true, decide_false, hdl, nk, Int.reduceGT, Int.reduceBEq, Int.reduceLE, decide_true, decide_false])
      refine AC.call (c_next l hl (p1) hp1 3 (by omega) (by omega) _ _ t (by repeat (first | exact h_same | rw [h_ne (by omega)] | rw [h_dne (by omega)])) (by omega)) ?_
      rintro v H' c2 ⟨rfl, rfl⟩ hcc2
      have hq2 := nextM_lt (l := l) (p := p1) (n := 3) (by omega)
      have hp2 := nextM_le (l := l) (p := p1) (n := 3) hp1
      have hadd := w64 (n := 16 + ((nextM l p1 3).1 : Int)) (by omega) (by omega)
      have ne0 : ¬ t = c2 := by omega
      have ne1 : ¬ t = c2 + 1 := by omega
      have ne2 : ¬ c2 = t := by omega
      have ne3 : ¬ c2 = c2 + 1 := by omega
      have ne4 : ¬ c2 + 1 = t := by omega
      have ne5 : ¬ c2 + 1 = c2 := by omega
      simp only [go_sem, Nat.reduceAdd, Nat.reduceLeDiff, Nat.reduceEqDiff, Nat.reduceMul, Nat.reduceSub, ↓reduceIte, Int.reduceLT, Int.reduceLE, Int.reduceGT, Int.reduceGE, Nat.reduceLT, Nat.reduceGT, Int.reduceToNat, reduceCtorEq, Nat.reduceBEq, Int.reduceBEq, Int.reduceBNe, Int.reduceEq, Int.reduceNe, decide_true, decide_false, hadd, ne0, ne1, ne2, ne3, ne4, ne5]
      repeat' ((first | with_reducible refine wr ?_ | with_reducible refine i_ret ?_ | with_reducible refine i_skip ?_ | with_reducible refine i_exit ?_ | ((with_reducible refine k_cb ?_ ?_) <;> (intro hb; try simp only [hb])) | ((with_reducible refine k_gb ?_ ?_) <;> (intro hb; try simp only [hb])) | ((with_reducible refine k_gb' ?_ ?_) <;> (intro hb; try simp only [hb])) | ((with_reducible refine k_eval (b_appx (insC_len2 _) (by omega) (by omega)) ?_))) <;> try simp only [go_sem, Nat.reduceAdd, Nat.reduceLeDiff, Nat.reduceEqDiff, Nat.reduceMul, Nat.reduceSub, ↓reduceIte, Int.reduceLT, Int.reduceLE, Int.reduceGT, Int.reduceGE, Nat.reduceLT, Nat.reduceGT, Int.reduceToNat, reduceCtorEq, Nat.reduceBEq, Int.reduceBEq, Int.reduceBNe, Int.reduceEq, Int.reduceNe, decide_true, decide_false, hadd, ne0, ne1, ne2, ne3, ne4, ne5])
      refine AC.call (c_next l hl ((nextM l p1 3).2) hp2 32 (by omega) (by omega) _ _ t (by repeat (first | exact h_same | rw [h_ne (by omega)] | rw [h_dne (by omega)])) (by omega)) ?_
      rintro v H' c3 ⟨rfl, rfl⟩ hcc3
      have hq3 := nextM_lt (l := l) (p := (nextM l p1 3).2) (n := 32) (by omega)
      have hp3 := nextM_le (l := l) (p := (nextM l p1 3).2) (n := 32) hp2
      have ne0 : ¬ t = c3 := by omega
      have ne1 : ¬ t = c3 + 1 := by omega
      have ne2 : ¬ c3 = t := by omega
      have ne3 : ¬ c3 = c3 + 1 := by omega
      have ne4 : ¬ c3 + 1 = t := by omega
      have ne5 : ¬ c3 + 1 = c3 := by omega
      simp only [go_sem, Nat.reduceAdd, Nat.reduceLeDiff, Nat.reduceEqDiff, Nat.reduceMul, Nat.reduceSub, ↓reduceIte, Int.reduceLT, Int.reduceLE, Int.reduceGT, Int.reduceGE, Nat.reduceLT, Nat.reduceGT, Int.reduceToNat, reduceCtorEq, Nat.reduceBEq, Int.reduceBEq, Int.reduceBNe, Int.reduceEq, Int.reduceNe, decide_true, decide_false, hadd, ne0, ne1, ne2, ne3, ne4, ne5]
      repeat' ((first | with_reducible refine wr ?_ | with_reducible refine i_ret ?_ | with_reducible refine i_skip ?_ | with_reducible refine i_exit ?_ | ((with_reducible refine k_cb ?_ ?_) <;> (intro hb; try simp only [hb])) | ((with_reducible refine k_gb ?_ ?_) <;> (intro hb; try simp only [hb])) | ((with_reducible refine k_gb' ?_ ?_) <;> (intro hb; try simp only [hb])) | ((with_reducible refine k_eval (b_appx (insC_len2 _) (by omega) (by omega)) ?_))) <;> try simp only [go_sem, Nat.reduceAdd, Nat.reduceLeDiff, Nat.reduceEqDiff, Nat.reduceMul, Nat.reduceSub, ↓reduceIte, Int.reduceLT, Int.reduceLE, Int.reduceGT, Int.reduceGE, Nat.reduceLT, Nat.reduceGT, Int.reduceToNat, reduceCtorEq, Nat.reduceBEq, Int.reduceBEq, Int.reduceBNe, Int.reduceEq, Int.reduceNe, decide_true, decide_false, hadd, ne0, ne1, ne2, ne3, ne4, ne5])
      have es : stmtM l 0 base p = stK l (fun _ p => ([], p)) base 2 p1 := by simp only [stmtM]; rw [e0]; try rfl
      rw [es]
      refine v_end (id := c3) hfr (by omega) (by omega) htc (by first | rfl | simp only [stK, List.length_append, List.length_singleton]) ?_ ?_ fun j h1 h2 => ?_
      · repeat (first | exact h_same | rw [h_ne (by omega)] | rw [h_dne (by omega)])
      · rw [h_same]; simp only [stK, insC_app, insC_one]
      · repeat (first | rfl | rw [h_ne (by omega)] | rw [h_dne (by omega)])
    · have nk : ((3 : Nat) : Int) = 3 := rfl
      simp only [go_sem, Nat.reduceAdd, Nat.reduceLeDiff, Nat.reduceEqDiff, Nat.reduceMul, Nat.reduceSub, ↓reduceIte, Int.reduceLT, Int.reduceLE, Int.reduceGT, Int.reduceGE, Nat.reduceLT, Nat.reduceGT, Int.reduceToNat, reduceCtorEq, Nat.reduceBEq, Int.reduceBEq, Int.reduceBNe, Int.reduceEq, Int.reduceNe, decide_true, decide_false, hdl, nk, Int.reduceGT, Int.reduceBEq, Int.reduceLE, decide_true, decide_false]
      repeat' ((first | with_reducible refine wr ?_ | with_reducible refine i_ret ?_ | with_reducible refine i_skip ?_ | with_reducible refine i_exit ?_ | ((with_reducible refine k_cb ?_ ?_) <;> (intro hb; try simp only [hb])) | ((with_reducible refine k_gb ?_ ?_) <;> (intro hb; try simp only [hb])) | ((with_reducible refine k_gb' ?_ ?_) <;> (intro hb; try simp only [hb]))) <;> try simp only [go_sem, Nat.reduceAdd, Nat.reduceLeDiff, Nat.reduceEqDiff, Nat.reduceMul, Nat.reduceSub, ↓reduceIte, Int.reduceLT, Int.reduceLE, Int.reduceGT, Int.reduceGE, Nat.reduceLT, Nat.reduceGT, Int.reduceToNat, reduceCtorEq, Nat.reduceBEq, Int.reduceBEq, Int.reduceBNe, Int.reduceEq, Int.reduceNe, decide_true, decide_false, hdl, nk, Int.reduceGT, Int.reduceBEq, Int.reduceLE, decide_true, decide_false])
      refine AC.call (c_value l hl 0 (by omega) (p1) hp1 _ _ t (by repeat (first | exact h_same | rw [h_ne (by omega)] | rw [h_dne (by omega)])) (by omega)) ?_
      rintro v H' c2 ⟨id1, ia1, ib1, rfl, rfl⟩ hcc2
      have hb1 := valueM_l0 l (p1)
      have hp2 := valueM_le l 0 (p1) hp1
      have ne0 : ¬ t = id1 := by omega
      have ne1 : ¬ t = c2 := by omega
      have ne2 : ¬ t = c2 + 1 := by omega
      have ne3 : ¬ id1 = t := by omega
      have ne4 : ¬ id1 = c2 := by omega
      have ne5 : ¬ id1 = c2 + 1 := by omega
      have ne6 : ¬ c2 = t := by omega
      have ne7 : ¬ c2 = id1 := by omega
      have ne8 : ¬ c2 = c2 + 1 := by omega
      have ne9 : ¬ c2 + 1 = t := by omega
      have ne10 : ¬ c2 + 1 = id1 := by omega
      have ne11 : ¬ c2 + 1 = c2 := by omega
      simp only [go_sem, Nat.reduceAdd, Nat.reduceLeDiff, Nat.reduceEqDiff, Nat.reduceMul, Nat.reduceSub, ↓reduceIte, Int.reduceLT, Int.reduceLE, Int.reduceGT, Int.reduceGE, Nat.reduceLT, Nat.reduceGT, Int.reduceToNat, reduceCtorEq, Nat.reduceBEq, Int.reduceBEq, Int.reduceBNe, Int.reduceEq, Int.reduceNe, decide_true, decide_false, ne0, ne1, ne2, ne3, ne4, ne5, ne6, ne7, ne8, ne9, ne10, ne11]
      repeat' ((first | with_reducible refine wr ?_ | with_reducible refine i_ret ?_ | with_reducible refine i_skip ?_ | with_reducible refine i_exit ?_ | ((with_reducible refine k_cb ?_ ?_) <;> (intro hb; try simp only [hb])) | ((with_reducible refine k_gb ?_ ?_) <;> (intro hb; try simp only [hb])) | ((with_reducible refine k_gb' ?_ ?_) <;> (intro hb; try simp only [hb])) | ((with_reducible refine k_eval (b_appx (insC_len2 _) (by omega) (by omega)) ?_))) <;> try simp only [go_sem, Nat.reduceAdd, Nat.reduceLeDiff, Nat.reduceEqDiff, Nat.reduceMul, Nat.reduceSub, ↓reduceIte, Int.reduceLT, Int.reduceLE, Int.reduceGT, Int.reduceGE, Nat.reduceLT, Nat.reduceGT, Int.reduceToNat, reduceCtorEq, Nat.reduceBEq, Int.reduceBEq, Int.reduceBNe, Int.reduceEq, Int.reduceNe, decide_true, decide_false, ne0, ne1, ne2, ne3, ne4, ne5, ne6, ne7, ne8, ne9, ne10, ne11])
      refine AC.call (c_next l hl ((valueM l 0 p1).2) hp2 64 (by omega) (by omega) _ _ t (by repeat (first | exact h_same | rw [h_ne (by omega)] | rw [h_dne (by omega)])) (by omega)) ?_
      rintro v H' c3 ⟨rfl, rfl⟩ hcc3
      have hq3 := nextM_lt (l := l) (p := (valueM l 0 p1).2) (n := 64) (by omega)
      have hp3 := nextM_le (l := l) (p := (valueM l 0 p1).2) (n := 64) hp2
      have ne0 : ¬ t = id1 := by omega
      have ne1 : ¬ t = c3 := by omega
      have ne2 : ¬ t = c3 + 1 := by omega
      have ne3 : ¬ id1 = t := by omega
      have ne4 : ¬ id1 = c3 := by omega
      have ne5 : ¬ id1 = c3 + 1 := by omega
      have ne6 : ¬ c3 = t := by omega
      have ne7 : ¬ c3 = id1 := by omega
      have ne8 : ¬ c3 = c3 + 1 := by omega
      have ne9 : ¬ c3 + 1 = t := by omega
      have ne10 : ¬ c3 + 1 = id1 := by omega
      have ne11 : ¬ c3 + 1 = c3 := by omega
      simp only [go_sem, Nat.reduceAdd, Nat.reduceLeDiff, Nat.reduceEqDiff, Nat.reduceMul, Nat.reduceSub, ↓reduceIte, Int.reduceLT, Int.reduceLE, Int.reduceGT, Int.reduceGE, Nat.reduceLT, Nat.reduceGT, Int.reduceToNat, reduceCtorEq, Nat.reduceBEq, Int.reduceBEq, Int.reduceBNe, Int.reduceEq, Int.reduceNe, decide_true, decide_false, ne0, ne1, ne2, ne3, ne4, ne5, ne6, ne7, ne8, ne9, ne10, ne11]
      repeat' ((first | with_reducible refine wr ?_ | with_reducible refine i_ret ?_ | with_reducible refine i_skip ?_ | with_reducible refine i_exit ?_ | ((with_reducible refine k_cb ?_ ?_) <;> (intro hb; try simp only [hb])) | ((with_reducible refine k_gb ?_ ?_) <;> (intro hb; try simp only [hb])) | ((with_reducible refine k_gb' ?_ ?_) <;> (intro hb; try simp only [hb])) | ((with_reducible refine k_eval (b_appx (insC_len2 _) (by omega) (by omega)) ?_))) <;> try simp only [go_sem, Nat.reduceAdd, Nat.reduceLeDiff, Nat.reduceEqDiff, Nat.reduceMul, Nat.reduceSub, ↓reduceIte, Int.reduceLT, Int.reduceLE, Int.reduceGT, Int.reduceGE, Nat.reduceLT, Nat.reduceGT, Int.reduceToNat, reduceCtorEq, Nat.reduceBEq, Int.reduceBEq, Int.reduceBNe, Int.reduceEq, Int.reduceNe, decide_true, decide_false, ne0, ne1, ne2, ne3, ne4, ne5, ne6, ne7, ne8, ne9, ne10, ne11])
      have es : stmtM l 0 base p = stK l (fun _ p => ([], p)) base 3 p1 := by simp only [stmtM]; rw [e0]; try rfl
      rw [es]
      refine v_end (id := c3 + 1) hfr (by omega) (by omega) htc (by first | rfl | simp only [stK, List.length_append, List.length_singleton]) ?_ ?_ fun j h1 h2 => ?_
      · repeat (first | exact h_same | rw [h_ne (by omega)] | rw [h_dne (by omega)])
      · rw [h_same]; simp only [stK, insC_app, insC_one]
      · repeat (first | rfl | rw [h_ne (by omega)] | rw [h_dne (by omega)])
    · have nk : ((4 : Nat) : Int) = 4 := rfl
      simp only [go_sem, Nat.reduceAdd, Nat.reduceLeDiff, Nat.reduceEqDiff, Nat.reduceMul, Nat.reduceSub, ↓reduceIte, Int.reduceLT, Int.reduceLE, Int.reduceGT, Int.reduceGE, Nat.reduceLT, Nat.reduceGT, Int.reduceToNat, reduceCtorEq, Nat.reduceBEq, Int.reduceBEq, Int.reduceBNe, Int.reduceEq, Int.reduceNe, decide_true, decide_false, hdl, nk, Int.reduceGT, Int.reduceBEq, Int.reduceLE, decide_true, decide_false]
      repeat' ((first | with_reducible refine wr ?_ | with_reducible refine i_ret ?_ | with_reducible refine i_skip ?_ | with_reducible refine i_exit ?_ | ((with_reducible refine k_cb ?_ ?_) <;> (intro hb; try simp only [hb])) | ((with_reducible refine k_gb ?_ ?_) <;> (intro hb; try simp only [hb])) | ((with_reducible refine k_gb' ?_ ?_) <;> (intro hb; try simp only [hb]))) <;> try simp only [go_sem, Nat.reduceAdd, Nat.reduceLeDiff, Nat.reduceEqDiff, Nat.reduceMul, Nat.reduceSub, ↓reduceIte, Int.reduceLT, Int.reduceLE, Int.reduceGT, Int.reduceGE, Nat.reduceLT, Nat.reduceGT, Int.reduceToNat, reduceCtorEq, Nat.reduceBEq, Int.reduceBEq, Int.reduceBNe, Int.reduceEq, Int.reduceNe, decide_true, decide_false, hdl, nk, Int.reduceGT, Int.reduceBEq, Int.reduceLE, decide_true, decide_false])
      refine AC.call (c_value l hl 0 (by omega) (p1) hp1 _ _ t (by repeat (first | exact h_same | rw [h_ne (by omega)] | rw [h_dne (by omega)])) (by omega)) ?_
      rintro v H' c2 ⟨id1, ia1, ib1, rfl, rfl⟩ hcc2
      have hb1 := valueM_l0 l (p1)
      have hp2 := valueM_le l 0 (p1) hp1
      have ne0 : ¬ t = id1 := by omega
      have ne1 : ¬ t = c2 := by omega
      have ne2 : ¬ t = c2 + 1 := by omega
      have ne3 : ¬ id1 = t := by omega
      have ne4 : ¬ id1 = c2 := by omega
      have ne5 : ¬ id1 = c2 + 1 := by omega
      have ne6 : ¬ c2 = t := by omega
      have ne7 : ¬ c2 = id1 := by omega
      have ne8 : ¬ c2 = c2 + 1 := by omega
      have ne9 : ¬ c2 + 1 = t := by omega
      have ne10 : ¬ c2 + 1 = id1 := by omega
      have ne11 : ¬ c2 + 1 = c2 := by omega
      simp only [go_sem, Nat.reduceAdd, Nat.reduceLeDiff, Nat.reduceEqDiff, Nat.reduceMul, Nat.reduceSub, ↓reduceIte, Int.reduceLT, Int.reduceLE, Int.reduceGT, Int.reduceGE, Nat.reduceLT, Nat.reduceGT, Int.reduceToNat, reduceCtorEq, Nat.reduceBEq, Int.reduceBEq, Int.reduceBNe, Int.reduceEq, Int.reduceNe, decide_true, decide_false, ne0, ne1, ne2, ne3, ne4, ne5, ne6, ne7, ne8, ne9, ne10, ne11]
      repeat' ((first | with_reducible refine wr ?_ | with_reducible refine i_ret ?_ | with_reducible refine i_skip ?_ | with_reducible refine i_exit ?_ | ((with_reducible refine k_cb ?_ ?_) <;> (intro hb; try simp only [hb])) | ((with_reducible refine k_gb ?_ ?_) <;> (intro hb; try simp only [hb])) | ((with_reducible refine k_gb' ?_ ?_) <;> (intro hb; try simp only [hb])) | ((with_reducible refine k_eval (b_appx (insC_len2 _) (by omega) (by omega)) ?_))) <;> try simp only [go_sem, Nat.reduceAdd, Nat.reduceLeDiff, Nat.reduceEqDiff, Nat.reduceMul, Nat.reduceSub, ↓reduceIte, Int.reduceLT, Int.reduceLE, Int.reduceGT, Int.reduceGE, Nat.reduceLT, Nat.reduceGT, Int.reduceToNat, reduceCtorEq, Nat.reduceBEq, Int.reduceBEq, Int.reduceBNe, Int.reduceEq, Int.reduceNe, decide_true, decide_false, ne0, ne1, ne2, ne3, ne4, ne5, ne6, ne7, ne8, ne9, ne10, ne11])
      refine AC.call (c_value l hl 0 (by omega) ((valueM l 0 p1).2) hp2 _ _ t (by repeat (first | exact h_same | rw [h_ne (by omega)] | rw [h_dne (by omega)])) (by omega)) ?_
      rintro v H' c3 ⟨id2, ia2, ib2, rfl, rfl⟩ hcc3
      have hb2 := valueM_l0 l ((valueM l 0 p1).2)
      have hp3 := valueM_le l 0 ((valueM l 0 p1).2) hp2
      have hl2 := insC_len2 (valueM l 0 ((valueM l 0 p1).2)).1
      have hle2 : (valueM l 0 ((valueM l 0 p1).2)).1.length * 2 ≤ (insC (valueM l 0 ((valueM l 0 p1).2)).1).length := by omega
      have htk := List.take_of_length_le (l := insC (valueM l 0 ((valueM l 0 p1).2)).1) (i := (valueM l 0 ((valueM l 0 p1).2)).1.length * 2) (by omega)
      have ne0 : ¬ t = id1 := by omega
      have ne1 : ¬ t = id2 := by omega
      have ne2 : ¬ t = c3 := by omega
      have ne3 : ¬ t = c3 + 1 := by omega
      have ne4 : ¬ id1 = t := by omega
      have ne5 : ¬ id1 = id2 := by omega
      have ne6 : ¬ id1 = c3 := by omega
      have ne7 : ¬ id1 = c3 + 1 := by omega
      have ne8 : ¬ id2 = t := by omega
      have ne9 : ¬ id2 = id1 := by omega
      have ne10 : ¬ id2 = c3 := by omega
      have ne11 : ¬ id2 = c3 + 1 := by omega
      have ne12 : ¬ c3 = t := by omega
      have ne13 : ¬ c3 = id1 := by omega
      have ne14 : ¬ c3 = id2 := by omega
      have ne15 : ¬ c3 = c3 + 1 := by omega
      have ne16 : ¬ c3 + 1 = t := by omega
      have ne17 : ¬ c3 + 1 = id1 := by omega
      have ne18 : ¬ c3 + 1 = id2 := by omega
      have ne19 : ¬ c3 + 1 = c3 := by omega
      simp only [go_sem, Nat.reduceAdd, Nat.reduceLeDiff, Nat.reduceEqDiff, Nat.reduceMul, Nat.reduceSub, ↓reduceIte, Int.reduceLT, Int.reduceLE, Int.reduceGT, Int.reduceGE, Nat.reduceLT, Nat.reduceGT, Int.reduceToNat, reduceCtorEq, Nat.reduceBEq, Int.reduceBEq, Int.reduceBNe, Int.reduceEq, Int.reduceNe, decide_true, decide_false, hle2, htk, ne0, ne1, ne2, ne3, ne4, ne5, ne6, ne7, ne8, ne9, ne10, ne11, ne12, ne13, ne14, ne15, ne16, ne17, ne18, ne19]
      repeat' ((first | with_reducible refine wr ?_ | with_reducible refine i_ret ?_ | with_reducible refine i_skip ?_ | with_reducible refine i_exit ?_ | ((with_reducible refine k_cb ?_ ?_) <;> (intro hb; try simp only [hb])) | ((with_reducible refine k_gb ?_ ?_) <;> (intro hb; try simp only [hb])) | ((with_reducible refine k_gb' ?_ ?_) <;> (intro hb; try simp only [hb])) | ((with_reducible refine k_eval (b_appx (insC_len2 _) (by omega) (by omega)) ?_))) <;> try simp only [go_sem, Nat.reduceAdd, Nat.reduceLeDiff, Nat.reduceEqDiff, Nat.reduceMul, Nat.reduceSub, ↓reduceIte, Int.reduceLT, Int.reduceLE, Int.reduceGT, Int.reduceGE, Nat.reduceLT, Nat.reduceGT, Int.reduceToNat, reduceCtorEq, Nat.reduceBEq, Int.reduceBEq, Int.reduceBNe, Int.reduceEq, Int.reduceNe, decide_true, decide_false, hle2, htk, ne0, ne1, ne2, ne3, ne4, ne5, ne6, ne7, ne8, ne9, ne10, ne11, ne12, ne13, ne14, ne15, ne16, ne17, ne18, ne19])
      refine AC.call (c_next l hl ((valueM l 0 ((valueM l 0 p1).2)).2) hp3 64 (by omega) (by omega) _ _ t (by repeat (first | exact h_same | rw [h_ne (by omega)] | rw [h_dne (by omega)])) (by omega)) ?_
      rintro v H' c4 ⟨rfl, rfl⟩ hcc4
      have hq4 := nextM_lt (l := l) (p := (valueM l 0 ((valueM l 0 p1).2)).2) (n := 64) (by omega)
      have hp4 := nextM_le (l := l) (p := (valueM l 0 ((valueM l 0 p1).2)).2) (n := 64) hp3
      have hl3 := insL2 (valueM l 0 p1).1 (valueM l 0 ((valueM l 0 p1).2)).1
      have ne0 : ¬ t = c3 := by omega
      have ne1 : ¬ t = c4 := by omega
      have ne2 : ¬ t = c4 + 1 := by omega
      have ne3 : ¬ c3 = t := by omega
      have ne4 : ¬ c3 = c4 := by omega
      have ne5 : ¬ c3 = c4 + 1 := by omega
      have ne6 : ¬ c4 = t := by omega
      have ne7 : ¬ c4 = c3 := by omega
      have ne8 : ¬ c4 = c4 + 1 := by omega
      have ne9 : ¬ c4 + 1 = t := by omega
      have ne10 : ¬ c4 + 1 = c3 := by omega
      have ne11 : ¬ c4 + 1 = c4 := by omega
      simp only [go_sem, Nat.reduceAdd, Nat.reduceLeDiff, Nat.reduceEqDiff, Nat.reduceMul, Nat.reduceSub, ↓reduceIte, Int.reduceLT, Int.reduceLE, Int.reduceGT, Int.reduceGE, Nat.reduceLT, Nat.reduceGT, Int.reduceToNat, reduceCtorEq, Nat.reduceBEq, Int.reduceBEq, Int.reduceBNe, Int.reduceEq, Int.reduceNe, decide_true, decide_false, ne0, ne1, ne2, ne3, ne4, ne5, ne6, ne7, ne8, ne9, ne10, ne11]
      repeat' ((first | with_reducible refine wr ?_ | with_reducible refine i_ret ?_ | with_reducible refine i_skip ?_ | with_reducible refine i_exit ?_ | ((with_reducible refine k_cb ?_ ?_) <;> (intro hb; try simp only [hb])) | ((with_reducible refine k_gb ?_ ?_) <;> (intro hb; try simp only [hb])) | ((with_reducible refine k_gb' ?_ ?_) <;> (intro hb; try simp only [hb])) | ((with_reducible refine k_eval (b_appx (insC_len2 _) (by omega) (by omega)) ?_)) | ((with_reducible refine k_eval (b_appx hl3 (by omega) (by omega)) ?_))) <;> try simp only [go_sem, Nat.reduceAdd, Nat.reduceLeDiff, Nat.reduceEqDiff, Nat.reduceMul, Nat.reduceSub, ↓reduceIte, Int.reduceLT, Int.reduceLE, Int.reduceGT, Int.reduceGE, Nat.reduceLT, Nat.reduceGT, Int.reduceToNat, reduceCtorEq, Nat.reduceBEq, Int.reduceBEq, Int.reduceBNe, Int.reduceEq, Int.reduceNe, decide_true, decide_false, ne0, ne1, ne2, ne3, ne4, ne5, ne6, ne7, ne8, ne9, ne10, ne11])
      have es : stmtM l 0 base p = stK l (fun _ p => ([], p)) base 4 p1 := by simp only [stmtM]; rw [e0]; try rfl
      rw [es]
      refine v_end (id := c4 + 1) hfr (by omega) (by omega) htc (by first | rfl | simp only [stK, List.length_append, List.length_singleton]) ?_ ?_ fun j h1 h2 => ?_
      · repeat (first | exact h_same | rw [h_ne (by omega)] | rw [h_dne (by omega)])
      · rw [h_same]; simp only [stK, insC_app, insC_one]
      · repeat (first | rfl | rw [h_ne (by omega)] | rw [h_dne (by omega)])
    · have nk : ((5 : Nat) : Int) = 5 := rfl
      simp only [go_sem, Nat.reduceAdd, Nat.reduceLeDiff, Nat.reduceEqDiff, Nat.reduceMul, Nat.reduceSub, ↓reduceIte, Int.reduceLT, Int.reduceLE, Int.reduceGT, Int.reduceGE, Nat.reduceLT, Nat.reduceGT, Int.reduceToNat, reduceCtorEq, Nat.reduceBEq, Int.reduceBEq, Int.reduceBNe, Int.reduceEq, Int.reduceNe, decide_true, decide_false, hdl, nk, Int.reduceGT, Int.reduceBEq, Int.reduceLE, decide_true, decide_false]
      repeat' ((first | with_reducible refine wr ?_ | with_reducible refine i_ret ?_ | with_reducible refine i_skip ?_ | with_reducible refine i_exit ?_ | ((with_reducible refine k_cb ?_ ?_) <;> (intro hb; try simp only [hb])) | ((with_reducible refine k_gb ?_ ?_) <;> (intro hb; try simp only [hb])) | ((with_reducible refine k_gb' ?_ ?_) <;> (intro hb; try simp only [hb]))) <;> try simp only [go_sem, Nat.reduceAdd, Nat.reduceLeDiff, Nat.reduceEqDiff, Nat.reduceMul, Nat.reduceSub, ↓reduceIte, Int.reduceLT, Int.reduceLE, Int.reduceGT, Int.reduceGE, Nat.reduceLT, Nat.reduceGT, Int.reduceToNat, reduceCtorEq, Nat.reduceBEq, Int.reduceBEq, Int.reduceBNe, Int.reduceEq, Int.reduceNe, decide_true, decide_false, hdl, nk, Int.reduceGT, Int.reduceBEq, Int.reduceLE, decide_true, decide_false])
      refine AC.call (c_value l hl 1 (by omega) (p1) hp1 _ _ t (by repeat (first | exact h_same | rw [h_ne (by omega)] | rw [h_dne (by omega)])) (by omega)) ?_
      rintro v H' c2 ⟨id1, ia1, ib1, rfl, rfl⟩ hcc2
      have hb1 := valueM_l1 l (p1)
      have hp2 := valueM_le l 1 (p1) hp1
      have ne0 : ¬ t = id1 := by omega
      have ne1 : ¬ t = c2 := by omega
      have ne2 : ¬ t = c2 + 1 := by omega
      have ne3 : ¬ id1 = t := by omega
      have ne4 : ¬ id1 = c2 := by omega
      have ne5 : ¬ id1 = c2 + 1 := by omega
      have ne6 : ¬ c2 = t := by omega
      have ne7 : ¬ c2 = id1 := by omega
      have ne8 : ¬ c2 = c2 + 1 := by omega
      have ne9 : ¬ c2 + 1 = t := by omega
      have ne10 : ¬ c2 + 1 = id1 := by omega
      have ne11 : ¬ c2 + 1 = c2 := by omega
      simp only [go_sem, Nat.reduceAdd, Nat.reduceLeDiff, Nat.reduceEqDiff, Nat.reduceMul, Nat.reduceSub, ↓reduceIte, Int.reduceLT, Int.reduceLE, Int.reduceGT, Int.reduceGE, Nat.reduceLT, Nat.reduceGT, Int.reduceToNat, reduceCtorEq, Nat.reduceBEq, Int.reduceBEq, Int.reduceBNe, Int.reduceEq, Int.reduceNe, decide_true, decide_false, ne0, ne1, ne2, ne3, ne4, ne5, ne6, ne7, ne8, ne9, ne10, ne11]
      repeat' ((first | with_reducible refine wr ?_ | with_reducible refine i_ret ?_ | with_reducible refine i_skip ?_ | with_reducible refine i_exit ?_ | ((with_reducible refine k_cb ?_ ?_) <;> (intro hb; try simp only [hb])) | ((with_reducible refine k_gb ?_ ?_) <;> (intro hb; try simp only [hb])) | ((with_reducible refine k_gb' ?_ ?_) <;> (intro hb; try simp only [hb])) | ((with_reducible refine k_eval (b_appx (insC_len2 _) (by omega) (by omega)) ?_))) <;> try simp only [go_sem, Nat.reduceAdd, Nat.reduceLeDiff, Nat.reduceEqDiff, Nat.reduceMul, Nat.reduceSub, ↓reduceIte, Int.reduceLT, Int.reduceLE, Int.reduceGT, Int.reduceGE, Nat.reduceLT, Nat.reduceGT, Int.reduceToNat, reduceCtorEq, Nat.reduceBEq, Int.reduceBEq, Int.reduceBNe, Int.reduceEq, Int.reduceNe, decide_true, decide_false, ne0, ne1, ne2, ne3, ne4, ne5, ne6, ne7, ne8, ne9, ne10, ne11])
      refine AC.call (c_next l hl ((valueM l 1 p1).2) hp2 2 (by omega) (by omega) _ _ t (by repeat (first | exact h_same | rw [h_ne (by omega)] | rw [h_dne (by omega)])) (by omega)) ?_
      rintro v H' c3 ⟨rfl, rfl⟩ hcc3
      have hq3 := nextM_lt (l := l) (p := (valueM l 1 p1).2) (n := 2) (by omega)
      have hp3 := nextM_le (l := l) (p := (valueM l 1 p1).2) (n := 2) hp2
      have ne0 : ¬ t = id1 := by omega
      have ne1 : ¬ t = c3 := by omega
      have ne2 : ¬ t = c3 + 1 := by omega
      have ne3 : ¬ id1 = t := by omega
      have ne4 : ¬ id1 = c3 := by omega
      have ne5 : ¬ id1 = c3 + 1 := by omega
      have ne6 : ¬ c3 = t := by omega
      have ne7 : ¬ c3 = id1 := by omega
      have ne8 : ¬ c3 = c3 + 1 := by omega
      have ne9 : ¬ c3 + 1 = t := by omega
      have ne10 : ¬ c3 + 1 = id1 := by omega
      have ne11 : ¬ c3 + 1 = c3 := by omega
      simp only [go_sem, Nat.reduceAdd, Nat.reduceLeDiff, Nat.reduceEqDiff, Nat.reduceMul, Nat.reduceSub, ↓reduceIte, Int.reduceLT, Int.reduceLE, Int.reduceGT, Int.reduceGE, Nat.reduceLT, Nat.reduceGT, Int.reduceToNat, reduceCtorEq, Nat.reduceBEq, Int.reduceBEq, Int.reduceBNe, Int.reduceEq, Int.reduceNe, decide_true, decide_false, ne0, ne1, ne2, ne3, ne4, ne5, ne6, ne7, ne8, ne9, ne10, ne11]
      repeat' ((first | with_reducible refine wr ?_ | with_reducible refine i_ret ?_ | with_reducible refine i_skip ?_ | with_reducible refine i_exit ?_ | ((with_reducible refine k_cb ?_ ?_) <;> (intro hb; try simp only [hb])) | ((with_reducible refine k_gb ?_ ?_) <;> (intro hb; try simp only [hb])) | ((with_reducible refine k_gb' ?_ ?_) <;> (intro hb; try simp only [hb])) | ((with_reducible refine k_eval (b_appx (insC_len2 _) (by omega) (by omega)) ?_))) <;> try simp only [go_sem, Nat.reduceAdd, Nat.reduceLeDiff, Nat.reduceEqDiff, Nat.reduceMul, Nat.reduceSub, ↓reduceIte, Int.reduceLT, Int.reduceLE, Int.reduceGT, Int.reduceGE, Nat.reduceLT, Nat.reduceGT, Int.reduceToNat, reduceCtorEq, Nat.reduceBEq, Int.reduceBEq, Int.reduceBNe, Int.reduceEq, Int.reduceNe, decide_true, decide_false, ne0, ne1, ne2, ne3, ne4, ne5, ne6, ne7, ne8, ne9, ne10, ne11])
      have es : stmtM l 0 base p = stK l (fun _ p => ([], p)) base 5 p1 := by simp only [stmtM]; rw [e0]; try rfl
      rw [es]
      refine v_end (id := c3 + 1) hfr (by omega) (by omega) htc (by first | rfl | simp only [stK, List.length_append, List.length_singleton]) ?_ ?_ fun j h1 h2 => ?_
      · repeat (first | exact h_same | rw [h_ne (by omega)] | rw [h_dne (by omega)])
      · rw [h_same]; simp only [stK, insC_app, insC_one]
      · repeat (first | rfl | rw [h_ne (by omega)] | rw [h_dne (by omega)])
    · have nk : ((6 : Nat) : Int) = 6 := rfl
      simp only [go_sem, Nat.reduceAdd, Nat.reduceLeDiff, Nat.reduceEqDiff, Nat.reduceMul, Nat.reduceSub, ↓reduceIte, Int.reduceLT, Int.reduceLE, Int.reduceGT, Int.reduceGE, Nat.reduceLT, Nat.reduceGT, Int.reduceToNat, reduceCtorEq, Nat.reduceBEq, Int.reduceBEq, Int.reduceBNe, Int.reduceEq, Int.reduceNe, decide_true, decide_false, hdl, nk, Int.reduceGT, Int.reduceBEq, Int.reduceLE, decide_true, decide_false]
      repeat' ((first | with_reducible refine wr ?_ | with_reducible refine i_ret ?_ | with_reducible refine i_skip ?_ | with_reducible refine i_exit ?_ | ((with_reducible refine k_cb ?_ ?_) <;> (intro hb; try simp only [hb])) | ((with_reducible refine k_gb ?_ ?_) <;> (intro hb; try simp only [hb])) | ((with_reducible refine k_gb' ?_ ?_) <;> (intro hb; try simp only [hb]))) <;> try simp only [go_sem, Nat.reduceAdd, Nat.reduceLeDiff, Nat.reduceEqDiff, Nat.reduceMul, Nat.reduceSub, ↓reduceIte, Int.reduceLT, Int.reduceLE, Int.reduceGT, Int.reduceGE, Nat.reduceLT, Nat.reduceGT, Int.reduceToNat, reduceCtorEq, Nat.reduceBEq, Int.reduceBEq, Int.reduceBNe, Int.reduceEq, Int.reduceNe, decide_true, decide_false, hdl, nk, Int.reduceGT, Int.reduceBEq, Int.reduceLE, decide_true, decide_false])
      refine AC.call (c_next l hl (p1) hp1 2 (by omega) (by omega) _ _ t (by repeat (first | exact h_same | rw [h_ne (by omega)] | rw [h_dne (by omega)])) (by omega)) ?_
      rintro v H' c2 ⟨rfl, rfl⟩ hcc2
      have hq2 := nextM_lt (l := l) (p := p1) (n := 2) (by omega)
      have hp2 := nextM_le (l := l) (p := p1) (n := 2) hp1
      have ne0 : ¬ t = c2 := by omega
      have ne1 : ¬ t = c2 + 1 := by omega
      have ne2 : ¬ c2 = t := by omega
      have ne3 : ¬ c2 = c2 + 1 := by omega
      have ne4 : ¬ c2 + 1 = t := by omega
      have ne5 : ¬ c2 + 1 = c2 := by omega
      simp only [go_sem, Nat.reduceAdd, Nat.reduceLeDiff, Nat.reduceEqDiff, Nat.reduceMul, Nat.reduceSub, ↓reduceIte, Int.reduceLT, Int.reduceLE, Int.reduceGT, Int.reduceGE, Nat.reduceLT, Nat.reduceGT, Int.reduceToNat, reduceCtorEq, Nat.reduceBEq, Int.reduceBEq, Int.reduceBNe, Int.reduceEq, Int.reduceNe, decide_true, decide_false, ne0, ne1, ne2, ne3, ne4, ne5]
      repeat' ((first | with_reducible refine wr ?_ | with_reducible refine i_ret ?_ | with_reducible refine i_skip ?_ | with_reducible refine i_exit ?_ | ((with_reducible refine k_cb ?_ ?_) <;> (intro hb; try simp only [hb])) | ((with_reducible refine k_gb ?_ ?_) <;> (intro hb; try simp only [hb])) | ((with_reducible refine k_gb' ?_ ?_) <;> (intro hb; try simp only [hb])) | ((with_reducible refine k_eval (b_appx (insC_len2 _) (by omega) (by omega)) ?_))) <;> try simp only [go_sem, Nat.reduceAdd, Nat.reduceLeDiff, Nat.reduceEqDiff, Nat.reduceMul, Nat.reduceSub, ↓reduceIte, Int.reduceLT, Int.reduceLE, Int.reduceGT, Int.reduceGE, Nat.reduceLT, Nat.reduceGT, Int.reduceToNat, reduceCtorEq, Nat.reduceBEq, Int.reduceBEq, Int.reduceBNe, Int.reduceEq, Int.reduceNe, decide_true, decide_false, ne0, ne1, ne2, ne3, ne4, ne5])
      have es : stmtM l 0 base p = stK l (fun _ p => ([], p)) base 6 p1 := by simp only [stmtM]; rw [e0]; try rfl
      rw [es]
      refine v_end (id := c2) hfr (by omega) (by omega) htc (by first | rfl | simp only [stK, List.length_append, List.length_singleton]) ?_ ?_ fun j h1 h2 => ?_
      · repeat (first | exact h_same | rw [h_ne (by omega)] | rw [h_dne (by omega)])
      · rw [h_same]; simp only [stK, insC_app, insC_one]
      · repeat (first | rfl | rw [h_ne (by omega)] | rw [h_dne (by omega)])
    · have nk : ((7 : Nat) : Int) = 7 := rfl
      simp only [go_sem, Nat.reduceAdd, Nat.reduceLeDiff, Nat.reduceEqDiff, Nat.reduceMul, Nat.reduceSub, ↓reduceIte, Int.reduceLT, Int.reduceLE, Int.reduceGT, Int.reduceGE, Nat.reduceLT, Nat.reduceGT, Int.reduceToNat, reduceCtorEq, Nat.reduceBEq, Int.reduceBEq, Int.reduceBNe, Int.reduceEq, Int.reduceNe, decide_true, decide_false, hdl, nk, Int.reduceGT, Int.reduceBEq, Int.reduceLE, decide_true, decide_false]
      repeat' ((first | with_reducible refine wr ?_ | with_reducible refine i_ret ?_ | with_reducible refine i_skip ?_ | with_reducible refine i_exit ?_ | ((with_reducible refine k_cb ?_ ?_) <;> (intro hb; try simp only [hb])) | ((with_reducible refine k_gb ?_ ?_) <;> (intro hb; try simp only [hb])) | ((with_reducible refine k_gb' ?_ ?_) <;> (intro hb; try simp only [hb]))) <;> try simp only [go_sem, Nat.reduceAdd, Nat.reduceLeDiff, Nat.reduceEqDiff, Nat.reduceMul, Nat.reduceSub, ↓reduceIte, Int.reduceLT, Int.reduceLE, Int.reduceGT, Int.reduceGE, Nat.reduceLT, Nat.reduceGT, Int.reduceToNat, reduceCtorEq, Nat.reduceBEq, Int.reduceBEq, Int.reduceBNe, Int.reduceEq, Int.reduceNe, decide_true, decide_false, hdl, nk, Int.reduceGT, Int.reduceBEq, Int.reduceLE, decide_true, decide_false])
      refine AC.call (c_next l hl (p1) hp1 2 (by omega) (by omega) _ _ t (by repeat (first | exact h_same | rw [h_ne (by omega)] | rw [h_dne (by omega)])) (by omega)) ?_
      rintro v H' c2 ⟨rfl, rfl⟩ hcc2
      have hq2 := nextM_lt (l := l) (p := p1) (n := 2) (by omega)
      have hp2 := nextM_le (l := l) (p := p1) (n := 2) hp1
      have hadd := w64 (n := 23 + ((nextM l p1 2).1 : Int)) (by omega) (by omega)
      have ne0 : ¬ t = c2 := by omega
      have ne1 : ¬ t = c2 + 1 := by omega
      have ne2 : ¬ c2 = t := by omega
      have ne3 : ¬ c2 = c2 + 1 := by omega
      have ne4 : ¬ c2 + 1 = t := by omega
      have ne5 : ¬ c2 + 1 = c2 := by omega
      simp only [go_sem, Nat.reduceAdd, Nat.reduceLeDiff, Nat.reduceEqDiff, Nat.reduceMul, Nat.reduceSub, ↓reduceIte, Int.reduceLT, Int.reduceLE, Int.reduceGT, Int.reduceGE, Nat.reduceLT, Nat.reduceGT, Int.reduceToNat, reduceCtorEq, Nat.reduceBEq, Int.reduceBEq, Int.reduceBNe, Int.reduceEq, Int.reduceNe, decide_true, decide_false, hadd, ne0, ne1, ne2, ne3, ne4, ne5]
      repeat' ((first | with_reducible refine wr ?_ | with_reducible refine i_ret ?_ | with_reducible refine i_skip ?_ | with_reducible refine i_exit ?_ | ((with_reducible refine k_cb ?_ ?_) <;> (intro hb; try simp only [hb])) | ((with_reducible refine k_gb ?_ ?_) <;> (intro hb; try simp only [hb])) | ((with_reducible refine k_gb' ?_ ?_) <;> (intro hb; try simp only [hb])) | ((with_reducible refine k_eval (b_appx (insC_len2 _) (by omega) (by omega)) ?_))) <;> try simp only [go_sem, Nat.reduceAdd, Nat.reduceLeDiff, Nat.reduceEqDiff, Nat.reduceMul, Nat.reduceSub, ↓reduceIte, Int.reduceLT, Int.reduceLE, Int.reduceGT, Int.reduceGE, Nat.reduceLT, Nat.reduceGT, Int.reduceToNat, reduceCtorEq, Nat.reduceBEq, Int.reduceBEq, Int.reduceBNe, Int.reduceEq, Int.reduceNe, decide_true, decide_false, hadd, ne0, ne1, ne2, ne3, ne4, ne5])
      refine AC.call (c_next l hl ((nextM l p1 2).2) hp2 2 (by omega) (by omega) _ _ t (by repeat (first | exact h_same | rw [h_ne (by omega)] | rw [h_dne (by omega)])) (by omega)) ?_
      rintro v H' c3 ⟨rfl, rfl⟩ hcc3
      have hq3 := nextM_lt (l := l) (p := (nextM l p1 2).2) (n := 2) (by omega)
      have hp3 := nextM_le (l := l) (p := (nextM l p1 2).2) (n := 2) hp2
      have ne0 : ¬ t = c3 := by omega
      have ne1 : ¬ t = c3 + 1 := by omega
      have ne2 : ¬ c3 = t := by omega
      have ne3 : ¬ c3 = c3 + 1 := by omega
      have ne4 : ¬ c3 + 1 = t := by omega
      have ne5 : ¬ c3 + 1 = c3 := by omega
      simp only [go_sem, Nat.reduceAdd, Nat.reduceLeDiff, Nat.reduceEqDiff, Nat.reduceMul, Nat.reduceSub, ↓reduceIte, Int.reduceLT, Int.reduceLE, Int.reduceGT, Int.reduceGE, Nat.reduceLT, Nat.reduceGT, Int.reduceToNat, reduceCtorEq, Nat.reduceBEq, Int.reduceBEq, Int.reduceBNe, Int.reduceEq, Int.reduceNe, decide_true, decide_false, hadd, ne0, ne1, ne2, ne3, ne4, ne5]
      repeat' ((first | with_reducible refine wr ?_ | with_reducible refine i_ret ?_ | with_reducible refine i_skip ?_ | with_reducible refine i_exit ?_ | ((with_reducible refine k_cb ?_ ?_) <;> (intro hb; try simp only [hb])) | ((with_reducible refine k_gb ?_ ?_) <;> (intro hb; try simp only [hb])) | ((with_reducible refine k_gb' ?_ ?_) <;> (intro hb; try simp only [hb])) | ((with_reducible refine k_eval (b_appx (insC_len2 _) (by omega) (by omega)) ?_))) <;> try simp only [go_sem, Nat.reduceAdd, Nat.reduceLeDiff, Nat.reduceEqDiff, Nat.reduceMul, Nat.reduceSub, ↓reduceIte, Int.reduceLT, Int.reduceLE, Int.reduceGT, Int.reduceGE, Nat.reduceLT, Nat.reduceGT, Int.reduceToNat, reduceCtorEq, Nat.reduceBEq, Int.reduceBEq, Int.reduceBNe, Int.reduceEq, Int.reduceNe, decide_true, decide_false, hadd, ne0, ne1, ne2, ne3, ne4, ne5])
      have es : stmtM l 0 base p = stK l (fun _ p => ([], p)) base 7 p1 := by simp only [stmtM]; rw [e0]; try rfl
      rw [es]
      refine v_end (id := c3) hfr (by omega) (by omega) htc (by first | rfl | simp only [stK, List.length_append, List.length_singleton]) ?_ ?_ fun j h1 h2 => ?_
      · repeat (first | exact h_same | rw [h_ne (by omega)] | rw [h_dne (by omega)])
      · rw [h_same]; simp only [stK, insC_app, insC_one]
      · repeat (first | rfl | rw [h_ne (by omega)] | rw [h_dne (by omega)])
    · have nk : ((8 : Nat) : Int) = 8 := rfl
      simp only [go_sem, Nat.reduceAdd, Nat.reduceLeDiff, Nat.reduceEqDiff, Nat.reduceMul, Nat.reduceSub, ↓reduceIte, Int.reduceLT, Int.reduceLE, Int.reduceGT, Int.reduceGE, Nat.reduceLT, Nat.reduceGT, Int.reduceToNat, reduceCtorEq, Nat.reduceBEq, Int.reduceBEq, Int.reduceBNe, Int.reduceEq, Int.reduceNe, decide_true, decide_false, hdl, nk, Int.reduceGT, Int.reduceBEq, Int.reduceLE, decide_true, decide_false]
      repeat' ((first | with_reducible refine wr ?_ | with_reducible refine i_ret ?_ | with_reducible refine i_skip ?_ | with_reducible refine i_exit ?_ | ((with_reducible refine k_cb ?_ ?_) <;> (intro hb; try simp only [hb])) | ((with_reducible refine k_gb ?_ ?_) <;> (intro hb; try simp only [hb])) | ((with_reducible refine k_gb' ?_ ?_) <;> (intro hb; try simp only [hb]))) <;> try simp only [go_sem, Nat.reduceAdd, Nat.reduceLeDiff, Nat.reduceEqDiff, Nat.reduceMul, Nat.reduceSub, ↓reduceIte, Int.reduceLT, Int.reduceLE, Int.reduceGT, Int.reduceGE, Nat.reduceLT, Nat.reduceGT, Int.reduceToNat, reduceCtorEq, Nat.reduceBEq, Int.reduceBEq, Int.reduceBNe, Int.reduceEq, Int.reduceNe, decide_true, decide_false, hdl, nk, Int.reduceGT, Int.reduceBEq, Int.reduceLE, decide_true, decide_false])
      refine AC.call (c_next l hl (p1) hp1 2 (by omega) (by omega) _ _ t (by repeat (first | exact h_same | rw [h_ne (by omega)] | rw [h_dne (by omega)])) (by omega)) ?_
      rintro v H' c2 ⟨rfl, rfl⟩ hcc2
      have hq2 := nextM_lt (l := l) (p := p1) (n := 2) (by omega)
      have hp2 := nextM_le (l := l) (p := p1) (n := 2) hp1
      have ne0 : ¬ t = c2 := by omega
      have ne1 : ¬ t = c2 + 1 := by omega
      have ne2 : ¬ c2 = t := by omega
      have ne3 : ¬ c2 = c2 + 1 := by omega
      have ne4 : ¬ c2 + 1 = t := by omega
      have ne5 : ¬ c2 + 1 = c2 := by omega
      simp only [go_sem, Nat.reduceAdd, Nat.reduceLeDiff, Nat.reduceEqDiff, Nat.reduceMul, Nat.reduceSub, ↓reduceIte, Int.reduceLT, Int.reduceLE, Int.reduceGT, Int.reduceGE, Nat.reduceLT, Nat.reduceGT, Int.reduceToNat, reduceCtorEq, Nat.reduceBEq, Int.reduceBEq, Int.reduceBNe, Int.reduceEq, Int.reduceNe, decide_true, decide_false, ne0, ne1, ne2, ne3, ne4, ne5]
      repeat' ((first | with_reducible refine wr ?_ | with_reducible refine i_ret ?_ | with_reducible refine i_skip ?_ | with_reducible refine i_exit ?_ | ((with_reducible refine k_cb ?_ ?_) <;> (intro hb; try simp only [hb])) | ((with_reducible refine k_gb ?_ ?_) <;> (intro hb; try simp only [hb])) | ((with_reducible refine k_gb' ?_ ?_) <;> (intro hb; try simp only [hb])) | ((with_reducible refine k_eval (b_appx (insC_len2 _) (by omega) (by omega)) ?_))) <;> try simp only [go_sem, Nat.reduceAdd, Nat.reduceLeDiff, Nat.reduceEqDiff, Nat.reduceMul, Nat.reduceSub, ↓reduceIte, Int.reduceLT, Int.reduceLE, Int.reduceGT, Int.reduceGE, Nat.reduceLT, Nat.reduceGT, Int.reduceToNat, reduceCtorEq, Nat.reduceBEq, Int.reduceBEq, Int.reduceBNe, Int.reduceEq, Int.reduceNe, decide_true, decide_false, ne0, ne1, ne2, ne3, ne4, ne5])
      have es : stmtM l 0 base p = stK l (fun _ p => ([], p)) base 8 p1 := by simp only [stmtM]; rw [e0]; try rfl
      rw [es]
      refine v_end (id := c2) hfr (by omega) (by omega) htc (by first | rfl | simp only [stK, List.length_append, List.length_singleton]) ?_ ?_ fun j h1 h2 => ?_
      · repeat (first | exact h_same | rw [h_ne (by omega)] | rw [h_dne (by omega)])
      · rw [h_same]; simp only [stK, insC_app, insC_one]
      · repeat (first | rfl | rw [h_ne (by omega)] | rw [h_dne (by omega)])
    · have nk : ((9 : Nat) : Int) = 9 := rfl
      simp only [go_sem, Nat.reduceAdd, Nat.reduceLeDiff, Nat.reduceEqDiff, Nat.reduceMul, Nat.reduceSub, ↓reduceIte, Int.reduceLT, Int.reduceLE, Int.reduceGT, Int.reduceGE, Nat.reduceLT, Nat.reduceGT, Int.reduceToNat, reduceCtorEq, Nat.reduceBEq, Int.reduceBEq, Int.reduceBNe, Int.reduceEq, Int.reduceNe, decide_true, decide_false, hdl, nk, Int.reduceGT, Int.reduceBEq, Int.reduceLE, decide_true, decide_false]
      repeat' ((first | with_reducible refine wr ?_ | with_reducible refine i_ret ?_ | with_reducible refine i_skip ?_ | with_reducible refine i_exit ?_ | ((with_reducible refine k_cb ?_ ?_) <;> (intro hb; try simp only [hb])) | ((with_reducible refine k_gb ?_ ?_) <;> (intro hb; try simp only [hb])) | ((with_reducible refine k_gb' ?_ ?_) <;> (intro hb; try simp only [hb]))) <;> try simp only [go_sem, Nat.reduceAdd, Nat.reduceLeDiff, Nat.reduceEqDiff, Nat.reduceMul, Nat.reduceSub, ↓reduceIte, Int.reduceLT, Int.reduceLE, Int.reduceGT, Int.reduceGE, Nat.reduceLT, Nat.reduceGT, Int.reduceToNat, reduceCtorEq, Nat.reduceBEq, Int.reduceBEq, Int.reduceBNe, Int.reduceEq, Int.reduceNe, decide_true, decide_false, hdl, nk, Int.reduceGT, Int.reduceBEq, Int.reduceLE, decide_true, decide_false])
      refine AC.call (c_next l hl (p1) hp1 3 (by omega) (by omega) _ _ t (by repeat (first | exact h_same | rw [h_ne (by omega)] | rw [h_dne (by omega)])) (by omega)) ?_
      rintro v H' c2 ⟨rfl, rfl⟩ hcc2
      have hq2 := nextM_lt (l := l) (p := p1) (n := 3) (by omega)
      have hp2 := nextM_le (l := l) (p := p1) (n := 3) hp1
      have hadd := w64 (n := 26 + ((nextM l p1 3).1 : Int)) (by omega) (by omega)
      have ne0 : ¬ t = c2 := by omega
      have ne1 : ¬ t = c2 + 1 := by omega
      have ne2 : ¬ c2 = t := by omega
      have ne3 : ¬ c2 = c2 + 1 := by omega
      have ne4 : ¬ c2 + 1 = t := by omega
      have ne5 : ¬ c2 + 1 = c2 := by omega
      simp only [go_sem, Nat.reduceAdd, Nat.reduceLeDiff, Nat.reduceEqDiff, Nat.reduceMul, Nat.reduceSub, ↓reduceIte, Int.reduceLT, Int.reduceLE, Int.reduceGT, Int.reduceGE, Nat.reduceLT, Nat.reduceGT, Int.reduceToNat, reduceCtorEq, Nat.reduceBEq, Int.reduceBEq, Int.reduceBNe, Int.reduceEq, Int.reduceNe, decide_true, decide_false, hadd, ne0, ne1, ne2, ne3, ne4, ne5]
      repeat' ((first | with_reducible refine wr ?_ | with_reducible refine i_ret ?_ | with_reducible refine i_skip ?_ | with_reducible refine i_exit ?_ | ((with_reducible refine k_cb ?_ ?_) <;> (intro hb; try simp only [hb])) | ((with_reducible refine k_gb ?_ ?_) <;> (intro hb; try simp only [hb])) | ((with_reducible refine k_gb' ?_ ?_) <;> (intro hb; try simp only [hb])) | ((with_reducible refine k_eval (b_appx (insC_len2 _) (by omega) (by omega)) ?_))) <;> try simp only [go_sem, Nat.reduceAdd, Nat.reduceLeDiff, Nat.reduceEqDiff, Nat.reduceMul, Nat.reduceSub, ↓reduceIte, Int.reduceLT, Int.reduceLE, Int.reduceGT, Int.reduceGE, Nat.reduceLT, Nat.reduceGT, Int.reduceToNat, reduceCtorEq, Nat.reduceBEq, Int.reduceBEq, Int.reduceBNe, Int.reduceEq, Int.reduceNe, decide_true, decide_false, hadd, ne0, ne1, ne2, ne3, ne4, ne5])
      refine AC.call (c_next l hl ((nextM l p1 3).2) hp2 64 (by omega) (by omega) _ _ t (by repeat (first | exact h_same | rw [h_ne (by omega)] | rw [h_dne (by omega)])) (by omega)) ?_
      rintro v H' c3 ⟨rfl, rfl⟩ hcc3
      have hq3 := nextM_lt (l := l) (p := (nextM l p1 3).2) (n := 64) (by omega)
      have hp3 := nextM_le (l := l) (p := (nextM l p1 3).2) (n := 64) hp2
      have ne0 : ¬ t = c3 := by omega
      have ne1 : ¬ t = c3 + 1 := by omega
      have ne2 : ¬ c3 = t := by omega
      have ne3 : ¬ c3 = c3 + 1 := by omega
      have ne4 : ¬ c3 + 1 = t := by omega
      have ne5 : ¬ c3 + 1 = c3 := by omega
      simp only [go_sem, Nat.reduceAdd, Nat.reduceLeDiff, Nat.reduceEqDiff, Nat.reduceMul, Nat.reduceSub, ↓reduceIte, Int.reduceLT, Int.reduceLE, Int.reduceGT, Int.reduceGE, Nat.reduceLT, Nat.reduceGT, Int.reduceToNat, reduceCtorEq, Nat.reduceBEq, Int.reduceBEq, Int.reduceBNe, Int.reduceEq, Int.reduceNe, decide_true, decide_false, hadd, ne0, ne1, ne2, ne3, ne4, ne5]
      repeat' ((first | with_reducible refine wr ?_ | with_reducible refine i_ret ?_ | with_reducible refine i_skip ?_ | with_reducible refine i_exit ?_ | ((with_reducible refine k_cb ?_ ?_) <;> (intro hb; try simp only [hb])) | ((with_reducible refine k_gb ?_ ?_) <;> (intro hb; try simp only [hb])) | ((with_reducible refine k_gb' ?_ ?_) <;> (intro hb; try simp only [hb])) | ((with_reducible refine k_eval (b_appx (insC_len2 _) (by omega) (by omega)) ?_))) <;> try simp only [go_sem, Nat.reduceAdd, Nat.reduceLeDiff, Nat.reduceEqDiff, Nat.reduceMul, Nat.reduceSub, ↓reduceIte, Int.reduceLT, Int.reduceLE, Int.reduceGT, Int.reduceGE, Nat.reduceLT, Nat.reduceGT, Int.reduceToNat, reduceCtorEq, Nat.reduceBEq, Int.reduceBEq, Int.reduceBNe, Int.reduceEq, Int.reduceNe, decide_true, decide_false, hadd, ne0, ne1, ne2, ne3, ne4, ne5])
      have es : stmtM l 0 base p = stK l (fun _ p => ([], p)) base 9 p1 := by simp only [stmtM]; rw [e0]; try rfl
      rw [es]
      refine v_end (id := c3) hfr (by omega) (by omega) htc (by first | rfl | simp only [stK, List.length_append, List.length_singleton]) ?_ ?_ fun j h1 h2 => ?_
      · repeat (first | exact h_same | rw [h_ne (by omega)] | rw [h_dne (by omega)])
      · rw [h_same]; simp only [stK, insC_app, insC_one]
      · repeat (first | rfl | rw [h_ne (by omega)] | rw [h_dne (by omega)])
    · have nk : ((10 : Nat) : Int) = 10 := rfl
      simp only [go_sem, Nat.reduceAdd, Nat.reduceLeDiff, Nat.reduceEqDiff, Nat.reduceMul, Nat.reduceSub, ↓reduceIte, Int.reduceLT, Int.reduceLE, Int.reduceGT, Int.reduceGE, Nat.reduceLT, Nat.reduceGT, Int.reduceToNat, reduceCtorEq, Nat.reduceBEq, Int.reduceBEq, Int.reduceBNe, Int.reduceEq, Int.reduceNe, decide_true, decide_false, hdl, nk, Int.reduceGT, Int.reduceBEq, Int.reduceLE, decide_true, decide_false]
      repeat' ((first | with_reducible refine wr ?_ | with_reducible refine i_ret ?_ | with_reducible refine i_skip ?_ | with_reducible refine i_exit ?_ | ((with_reducible refine k_cb ?_ ?_) <;> (intro hb; try simp only [hb])) | ((with_reducible refine k_gb ?_ ?_) <;> (intro hb; try simp only [hb])) | ((with_reducible refine k_gb' ?_ ?_) <;> (intro hb; try simp only [hb]))) <;> try simp only [go_sem, Nat.reduceAdd, Nat.reduceLeDiff, Nat.reduceEqDiff, Nat.reduceMul, Nat.reduceSub, ↓reduceIte, Int.reduceLT, Int.reduceLE, Int.reduceGT, Int.reduceGE, Nat.reduceLT, Nat.reduceGT, Int.reduceToNat, reduceCtorEq, Nat.reduceBEq, Int.reduceBEq, Int.reduceBNe, Int.reduceEq, Int.reduceNe, decide_true, decide_false, hdl, nk, Int.reduceGT, Int.reduceBEq, Int.reduceLE, decide_true, decide_false])
      refine AC.call (c_value l hl 1 (by omega) (p1) hp1 _ _ t (by repeat (first | exact h_same | rw [h_ne (by omega)] | rw [h_dne (by omega)])) (by omega)) ?_
      rintro v H' c2 ⟨id1, ia1, ib1, rfl, rfl⟩ hcc2
      have hb1 := valueM_l1 l (p1)
      have hp2 := valueM_le l 1 (p1) hp1
      have ne0 : ¬ t = id1 := by omega
      have ne1 : ¬ t = c2 := by omega
      have ne2 : ¬ t = c2 + 1 := by omega
      have ne3 : ¬ id1 = t := by omega
      have ne4 : ¬ id1 = c2 := by omega
      have ne5 : ¬ id1 = c2 + 1 := by omega
      have ne6 : ¬ c2 = t := by omega
      have ne7 : ¬ c2 = id1 := by omega
      have ne8 : ¬ c2 = c2 + 1 := by omega
      have ne9 : ¬ c2 + 1 = t := by omega
      have ne10 : ¬ c2 + 1 = id1 := by omega
      have ne11 : ¬ c2 + 1 = c2 := by omega
      simp only [go_sem, Nat.reduceAdd, Nat.reduceLeDiff, Nat.reduceEqDiff, Nat.reduceMul, Nat.reduceSub, ↓reduceIte, Int.reduceLT, Int.reduceLE, Int.reduceGT, Int.reduceGE, Nat.reduceLT, Nat.reduceGT, Int.reduceToNat, reduceCtorEq, Nat.reduceBEq, Int.reduceBEq, Int.reduceBNe, Int.reduceEq, Int.reduceNe, decide_true, decide_false, ne0, ne1, ne2, ne3, ne4, ne5, ne6, ne7, ne8, ne9, ne10, ne11]
      repeat' ((first | with_reducible refine wr ?_ | with_reducible refine i_ret ?_ | with_reducible refine i_skip ?_ | with_reducible refine i_exit ?_ | ((with_reducible refine k_cb ?_ ?_) <;> (intro hb; try simp only [hb])) | ((with_reducible refine k_gb ?_ ?_) <;> (intro hb; try simp only [hb])) | ((with_reducible refine k_gb' ?_ ?_) <;> (intro hb; try simp only [hb])) | ((with_reducible refine k_eval (b_appx (insC_len2 _) (by omega) (by omega)) ?_))) <;> try simp only [go_sem, Nat.reduceAdd, Nat.reduceLeDiff, Nat.reduceEqDiff, Nat.reduceMul, Nat.reduceSub, ↓reduceIte, Int.reduceLT, Int.reduceLE, Int.reduceGT, Int.reduceGE, Nat.reduceLT, Nat.reduceGT, Int.reduceToNat, reduceCtorEq, Nat.reduceBEq, Int.reduceBEq, Int.reduceBNe, Int.reduceEq, Int.reduceNe, decide_true, decide_false, ne0, ne1, ne2, ne3, ne4, ne5, ne6, ne7, ne8, ne9, ne10, ne11])
      refine AC.call (c_next l hl ((valueM l 1 p1).2) hp2 2 (by omega) (by omega) _ _ t (by repeat (first | exact h_same | rw [h_ne (by omega)] | rw [h_dne (by omega)])) (by omega)) ?_
      rintro v H' c3 ⟨rfl, rfl⟩ hcc3
      have hq3 := nextM_lt (l := l) (p := (valueM l 1 p1).2) (n := 2) (by omega)
      have hp3 := nextM_le (l := l) (p := (valueM l 1 p1).2) (n := 2) hp2
      have ne0 : ¬ t = id1 := by omega
      have ne1 : ¬ t = c3 := by omega
      have ne2 : ¬ t = c3 + 1 := by omega
      have ne3 : ¬ id1 = t := by omega
      have ne4 : ¬ id1 = c3 := by omega
      have ne5 : ¬ id1 = c3 + 1 := by omega
      have ne6 : ¬ c3 = t := by omega
      have ne7 : ¬ c3 = id1 := by omega
      have ne8 : ¬ c3 = c3 + 1 := by omega
      have ne9 : ¬ c3 + 1 = t := by omega
      have ne10 : ¬ c3 + 1 = id1 := by omega
      have ne11 : ¬ c3 + 1 = c3 := by omega
      simp only [go_sem, Nat.reduceAdd, Nat.reduceLeDiff, Nat.reduceEqDiff, Nat.reduceMul, Nat.reduceSub, ↓reduceIte, Int.reduceLT, Int.reduceLE, Int.reduceGT, Int.reduceGE, Nat.reduceLT, Nat.reduceGT, Int.reduceToNat, reduceCtorEq, Nat.reduceBEq, Int.reduceBEq, Int.reduceBNe, Int.reduceEq, Int.reduceNe, decide_true, decide_false, ne0, ne1, ne2, ne3, ne4, ne5, ne6, ne7, ne8, ne9, ne10, ne11]
      repeat' ((first | with_reducible refine wr ?_ | with_reducible refine i_ret ?_ | with_reducible refine i_skip ?_ | with_reducible refine i_exit ?_ | ((with_reducible refine k_cb ?_ ?_) <;> (intro hb; try simp only [hb])) | ((with_reducible refine k_gb ?_ ?_) <;> (intro hb; try simp only [hb])) | ((with_reducible refine k_gb' ?_ ?_) <;> (intro hb; try simp only [hb])) | ((with_reducible refine k_eval (b_appx (insC_len2 _) (by omega) (by omega)) ?_))) <;> try simp only [go_sem, Nat.reduceAdd, Nat.reduceLeDiff, Nat.reduceEqDiff, Nat.reduceMul, Nat.reduceSub, ↓reduceIte, Int.reduceLT, Int.reduceLE, Int.reduceGT, Int.reduceGE, Nat.reduceLT, Nat.reduceGT, Int.reduceToNat, reduceCtorEq, Nat.reduceBEq, Int.reduceBEq, Int.reduceBNe, Int.reduceEq, Int.reduceNe, decide_true, decide_false, ne0, ne1, ne2, ne3, ne4, ne5, ne6, ne7, ne8, ne9, ne10, ne11])
      have es : stmtM l 0 base p = stK l (fun _ p => ([], p)) base 10 p1 := by simp only [stmtM]; rw [e0]; try rfl
      rw [es]
      refine v_end (id := c3 + 1) hfr (by omega) (by omega) htc (by first | rfl | simp only [stK, List.length_append, List.length_singleton]) ?_ ?_ fun j h1 h2 => ?_
      · repeat (first | exact h_same | rw [h_ne (by omega)] | rw [h_dne (by omega)])
      · rw [h_same]; simp only [stK, insC_app, insC_one]
      · repeat (first | rfl | rw [h_ne (by omega)] | rw [h_dne (by omega)])
    · have nk : ((11 : Nat) : Int) = 11 := rfl
      simp only [go_sem, Nat.reduceAdd, Nat.reduceLeDiff, Nat.reduceEqDiff, Nat.reduceMul, Nat.reduceSub, ↓reduceIte, Int.reduceLT, Int.reduceLE, Int.reduceGT, Int.reduceGE, Nat.reduceLT, Nat.reduceGT, Int.reduceToNat, reduceCtorEq, Nat.reduceBEq, Int.reduceBEq, Int.reduceBNe, Int.reduceEq, Int.reduceNe, decide_true, decide_false, hdl, nk, Int.reduceGT, Int.reduceBEq, Int.reduceLE, decide_true, decide_false]
      repeat' ((first | with_reducible refine wr ?_ | with_reducible refine i_ret ?_ | with_reducible refine i_skip ?_ | with_reducible refine i_exit ?_ | ((with_reducible refine k_cb ?_ ?_) <;> (intro hb; try simp only [hb])) | ((with_reducible refine k_gb ?_ ?_) <;> (intro hb; try simp only [hb])) | ((with_reducible refine k_gb' ?_ ?_) <;> (intro hb; try simp only [hb]))) <;> try simp only [go_sem, Nat.reduceAdd, Nat.reduceLeDiff, Nat.reduceEqDiff, Nat.reduceMul, Nat.reduceSub, ↓reduceIte, Int.reduceLT, Int.reduceLE, Int.reduceGT, Int.reduceGE, Nat.reduceLT, Nat.reduceGT, Int.reduceToNat, reduceCtorEq, Nat.reduceBEq, Int.reduceBEq, Int.reduceBNe, Int.reduceEq, Int.reduceNe, decide_true, decide_false, hdl, nk, Int.reduceGT, Int.reduceBEq, Int.reduceLE, decide_true, decide_false])
      have es : stmtM l 0 base p = stK l (fun _ p => ([], p)) base 11 p1 := by simp only [stmtM]; rw [e0]; try rfl
      rw [es]
      refine v_end (id := c1) hfr (by omega) (by omega) htc (by first | rfl | simp only [stK, List.length_append, List.length_singleton]) ?_ ?_ fun j h1 h2 => ?_
      · repeat (first | exact h_same | rw [h_ne (by omega)] | rw [h_dne (by omega)])
      · rw [h_same]; simp only [stK, insC_app, insC_one]
      · repeat (first | rfl | rw [h_ne (by omega)] | rw [h_dne (by omega)])
    · have nk : ((0 : Nat) : Int) = 0 := rfl
      simp only [go_sem, Nat.reduceAdd, Nat.reduceLeDiff, Nat.reduceEqDiff, Nat.reduceMul, Nat.reduceSub, ↓reduceIte, Int.reduceLT, Int.reduceLE, Int.reduceGT, Int.reduceGE, Nat.reduceLT, Nat.reduceGT, Int.reduceToNat, reduceCtorEq, Nat.reduceBEq, Int.reduceBEq, Int.reduceBNe, Int.reduceEq, Int.reduceNe, decide_true, decide_false, hdl, nk, Int.reduceGT, Int.reduceBEq, Int.reduceLE, decide_true, decide_false]
      repeat' ((first | with_reducible refine wr ?_ | with_reducible refine i_ret ?_ | with_reducible refine i_skip ?_ | with_reducible refine i_exit ?_ | ((with_reducible refine k_cb ?_ ?_) <;> (intro hb; try simp only [hb])) | ((with_reducible refine k_gb ?_ ?_) <;> (intro hb; try simp only [hb])) | ((with_reducible refine k_gb' ?_ ?_) <;> (intro hb; try simp only [hb]))) <;> try simp only [go_sem, Nat.reduceAdd, Nat.reduceLeDiff, Nat.reduceEqDiff, Nat.reduceMul, Nat.reduceSub, ↓reduceIte, Int.reduceLT, Int.reduceLE, Int.reduceGT, Int.reduceGE, Nat.reduceLT, Nat.reduceGT, Int.reduceToNat, reduceCtorEq, Nat.reduceBEq, Int.reduceBEq, Int.reduceBNe, Int.reduceEq, Int.reduceNe, decide_true, decide_false, hdl, nk, Int.reduceGT, Int.reduceBEq, Int.reduceLE, decide_true, decide_false])
      refine AC.call (c_value l hl 2 (by omega) (p1) hp1 _ _ t (by repeat (first | exact h_same | rw [h_ne (by omega)] | rw [h_dne (by omega)])) (by omega)) ?_
      rintro v H' c2 ⟨id1, ia1, ib1, rfl, rfl⟩ hcc2
      have hb1 := valueM_l2 l (p1)
      have hp2 := valueM_le l 2 (p1) hp1
      have ne0 : ¬ t = id1 := by omega
      have ne1 : ¬ t = c2 := by omega
      have ne2 : ¬ t = c2 + 1 := by omega
      have ne3 : ¬ id1 = t := by omega
      have ne4 : ¬ id1 = c2 := by omega
      have ne5 : ¬ id1 = c2 + 1 := by omega
      have ne6 : ¬ c2 = t := by omega
      have ne7 : ¬ c2 = id1 := by omega
      have ne8 : ¬ c2 = c2 + 1 := by omega
      have ne9 : ¬ c2 + 1 = t := by omega
      have ne10 : ¬ c2 + 1 = id1 := by omega
      have ne11 : ¬ c2 + 1 = c2 := by omega
      simp only [go_sem, Nat.reduceAdd, Nat.reduceLeDiff, Nat.reduceEqDiff, Nat.reduceMul, Nat.reduceSub, ↓reduceIte, Int.reduceLT, Int.reduceLE, Int.reduceGT, Int.reduceGE, Nat.reduceLT, Nat.reduceGT, Int.reduceToNat, reduceCtorEq, Nat.reduceBEq, Int.reduceBEq, Int.reduceBNe, Int.reduceEq, Int.reduceNe, decide_true, decide_false, ne0, ne1, ne2, ne3, ne4, ne5, ne6, ne7, ne8, ne9, ne10, ne11]
      repeat' ((first | with_reducible refine wr ?_ | with_reducible refine i_ret ?_ | with_reducible refine i_skip ?_ | with_reducible refine i_exit ?_ | ((with_reducible refine k_cb ?_ ?_) <;> (intro hb; try simp only [hb])) | ((with_reducible refine k_gb ?_ ?_) <;> (intro hb; try simp only [hb])) | ((with_reducible refine k_gb' ?_ ?_) <;> (intro hb; try simp only [hb])) | ((with_reducible refine k_eval (b_appx (insC_len2 _) (by omega) (by omega)) ?_))) <;> try simp only [go_sem, Nat.reduceAdd, Nat.reduceLeDiff, Nat.reduceEqDiff, Nat.reduceMul, Nat.reduceSub, ↓reduceIte, Int.reduceLT, Int.reduceLE, Int.reduceGT, Int.reduceGE, Nat.reduceLT, Nat.reduceGT, Int.reduceToNat, reduceCtorEq, Nat.reduceBEq, Int.reduceBEq, Int.reduceBNe, Int.reduceEq, Int.reduceNe, decide_true, decide_false, ne0, ne1, ne2, ne3, ne4, ne5, ne6, ne7, ne8, ne9, ne10, ne11])
      refine AC.call (c_next l hl ((valueM l 2 p1).2) hp2 3 (by omega) (by omega) _ _ t (by repeat (first | exact h_same | rw [h_ne (by omega)] | rw [h_dne (by omega)])) (by omega)) ?_
      rintro v H' c3 ⟨rfl, rfl⟩ hcc3
      have hq3 := nextM_lt (l := l) (p := (valueM l 2 p1).2) (n := 3) (by omega)
      have hp3 := nextM_le (l := l) (p := (valueM l 2 p1).2) (n := 3) hp2
      have ne0 : ¬ t = id1 := by omega
      have ne1 : ¬ t = c3 := by omega
      have ne2 : ¬ t = c3 + 1 := by omega
      have ne3 : ¬ id1 = t := by omega
      have ne4 : ¬ id1 = c3 := by omega
      have ne5 : ¬ id1 = c3 + 1 := by omega
      have ne6 : ¬ c3 = t := by omega
      have ne7 : ¬ c3 = id1 := by omega
      have ne8 : ¬ c3 = c3 + 1 := by omega
      have ne9 : ¬ c3 + 1 = t := by omega
      have ne10 : ¬ c3 + 1 = id1 := by omega
      have ne11 : ¬ c3 + 1 = c3 := by omega
      simp only [go_sem, Nat.reduceAdd, Nat.reduceLeDiff, Nat.reduceEqDiff, Nat.reduceMul, Nat.reduceSub, ↓reduceIte, Int.reduceLT, Int.reduceLE, Int.reduceGT, Int.reduceGE, Nat.reduceLT, Nat.reduceGT, Int.reduceToNat, reduceCtorEq, Nat.reduceBEq, Int.reduceBEq, Int.reduceBNe, Int.reduceEq, Int.reduceNe, decide_true, decide_false, ne0, ne1, ne2, ne3, ne4, ne5, ne6, ne7, ne8, ne9, ne10, ne11]
      repeat' ((first | with_reducible refine wr ?_ | with_reducible refine i_ret ?_ | with_reducible refine i_skip ?_ | with_reducible refine i_exit ?_ | ((with_reducible refine k_cb ?_ ?_) <;> (intro hb; try simp only [hb])) | ((with_reducible refine k_gb ?_ ?_) <;> (intro hb; try simp only [hb])) | ((with_reducible refine k_gb' ?_ ?_) <;> (intro hb; try simp only [hb])) | ((with_reducible refine k_eval (b_appx (insC_len2 _) (by omega) (by omega)) ?_))) <;> try simp only [go_sem, Nat.reduceAdd, Nat.reduceLeDiff, Nat.reduceEqDiff, Nat.reduceMul, Nat.reduceSub, ↓reduceIte, Int.reduceLT, Int.reduceLE, Int.reduceGT, Int.reduceGE, Nat.reduceLT, Nat.reduceGT, Int.reduceToNat, reduceCtorEq, Nat.reduceBEq, Int.reduceBEq, Int.reduceBNe, Int.reduceEq, Int.reduceNe, decide_true, decide_false, ne0, ne1, ne2, ne3, ne4, ne5, ne6, ne7, ne8, ne9, ne10, ne11])
      have es : stmtM l 0 base p = stK l (fun _ p => ([], p)) base 0 p1 := by simp only [stmtM]; rw [e0]; try rfl
      rw [es]
      refine v_end (id := c3 + 1) hfr (by omega) (by omega) htc (by first | rfl | simp only [stK, List.length_append, List.length_singleton]) ?_ ?_ fun j h1 h2 => ?_
      · repeat (first | exact h_same | rw [h_ne (by omega)] | rw [h_dne (by omega)])
      · rw [h_same]; simp only [stK, insC_app, insC_one]
      · repeat (first | rfl | rw [h_ne (by omega)] | rw [h_dne (by omega)])
    · have nk : ((12 : Nat) : Int) = 12 := rfl
      simp only [go_sem, Nat.reduceAdd, Nat.reduceLeDiff, Nat.reduceEqDiff, Nat.reduceMul, Nat.reduceSub, ↓reduceIte, Int.reduceLT, Int.reduceLE, Int.reduceGT, Int.reduceGE, Nat.reduceLT, Nat.reduceGT, Int.reduceToNat, reduceCtorEq, Nat.reduceBEq, Int.reduceBEq, Int.reduceBNe, Int.reduceEq, Int.reduceNe, decide_true, decide_false, hdl, nk, Int.reduceGT, Int.reduceBEq, Int.reduceLE, decide_true, decide_false]
      repeat' ((first | with_reducible refine wr ?_ | with_reducible refine i_ret ?_ | with_reducible refine i_skip ?_ | with_reducible refine i_exit ?_ | ((with_reducible refine k_cb ?_ ?_) <;> (intro hb; try simp only [hb])) | ((with_reducible refine k_gb ?_ ?_) <;> (intro hb; try simp only [hb])) | ((with_reducible refine k_gb' ?_ ?_) <;> (intro hb; try simp only [hb]))) <;> try simp only [go_sem, Nat.reduceAdd, Nat.reduceLeDiff, Nat.reduceEqDiff, Nat.reduceMul, Nat.reduceSub, ↓reduceIte, Int.reduceLT, Int.reduceLE, Int.reduceGT, Int.reduceGE, Nat.reduceLT, Nat.reduceGT, Int.reduceToNat, reduceCtorEq, Nat.reduceBEq, Int.reduceBEq, Int.reduceBNe, Int.reduceEq, Int.reduceNe, decide_true, decide_false, hdl, nk, Int.reduceGT, Int.reduceBEq, Int.reduceLE, decide_true, decide_false])
      refine AC.call (c_value l hl 2 (by omega) (p1) hp1 _ _ t (by repeat (first | exact h_same | rw [h_ne (by omega)] | rw [h_dne (by omega)])) (by omega)) ?_
      rintro v H' c2 ⟨id1, ia1, ib1, rfl, rfl⟩ hcc2
      have hb1 := valueM_l2 l (p1)
      have hp2 := valueM_le l 2 (p1) hp1
      have ne0 : ¬ t = id1 := by omega
      have ne1 : ¬ t = c2 := by omega
      have ne2 : ¬ t = c2 + 1 := by omega
      have ne3 : ¬ id1 = t := by omega
      have ne4 : ¬ id1 = c2 := by omega
      have ne5 : ¬ id1 = c2 + 1 := by omega
      have ne6 : ¬ c2 = t := by omega
      have ne7 : ¬ c2 = id1 := by omega
      have ne8 : ¬ c2 = c2 + 1 := by omega
      have ne9 : ¬ c2 + 1 = t := by omega
      have ne10 : ¬ c2 + 1 = id1 := by omega
      have ne11 : ¬ c2 + 1 = c2 := by omega
      simp only [go_sem, Nat.reduceAdd, Nat.reduceLeDiff, Nat.reduceEqDiff, Nat.reduceMul, Nat.reduceSub, ↓reduceIte, Int.reduceLT, Int.reduceLE, Int.reduceGT, Int.reduceGE, Nat.reduceLT, Nat.reduceGT, Int.reduceToNat, reduceCtorEq, Nat.reduceBEq, Int.reduceBEq, Int.reduceBNe, Int.reduceEq, Int.reduceNe, decide_true, decide_false, ne0, ne1, ne2, ne3, ne4, ne5, ne6, ne7, ne8, ne9, ne10, ne11]
      repeat' ((first | with_reducible refine wr ?_ | with_reducible refine i_ret ?_ | with_reducible refine i_skip ?_ | with_reducible refine i_exit ?_ | ((with_reducible refine k_cb ?_ ?_) <;> (intro hb; try simp only [hb])) | ((with_reducible refine k_gb ?_ ?_) <;> (intro hb; try simp only [hb])) | ((with_reducible refine k_gb' ?_ ?_) <;> (intro hb; try simp only [hb])) | ((with_reducible refine k_eval (b_appx (insC_len2 _) (by omega) (by omega)) ?_))) <;> try simp only [go_sem, Nat.reduceAdd, Nat.reduceLeDiff, Nat.reduceEqDiff, Nat.reduceMul, Nat.reduceSub, ↓reduceIte, Int.reduceLT, Int.reduceLE, Int.reduceGT, Int.reduceGE, Nat.reduceLT, Nat.reduceGT, Int.reduceToNat, reduceCtorEq, Nat.reduceBEq, Int.reduceBEq, Int.reduceBNe, Int.reduceEq, Int.reduceNe, decide_true, decide_false, ne0, ne1, ne2, ne3, ne4, ne5, ne6, ne7, ne8, ne9, ne10, ne11])
      refine AC.call (c_next l hl ((valueM l 2 p1).2) hp2 3 (by omega) (by omega) _ _ t (by repeat (first | exact h_same | rw [h_ne (by omega)] | rw [h_dne (by omega)])) (by omega)) ?_
      rintro v H' c3 ⟨rfl, rfl⟩ hcc3
      have hq3 := nextM_lt (l := l) (p := (valueM l 2 p1).2) (n := 3) (by omega)
      have hp3 := nextM_le (l := l) (p := (valueM l 2 p1).2) (n := 3) hp2
      have ne0 : ¬ t = id1 := by omega
      have ne1 : ¬ t = c3 := by omega
      have ne2 : ¬ t = c3 + 1 := by omega
      have ne3 : ¬ id1 = t := by omega
      have ne4 : ¬ id1 = c3 := by omega
      have ne5 : ¬ id1 = c3 + 1 := by omega
      have ne6 : ¬ c3 = t := by omega
      have ne7 : ¬ c3 = id1 := by omega
      have ne8 : ¬ c3 = c3 + 1 := by omega
      have ne9 : ¬ c3 + 1 = t := by omega
      have ne10 : ¬ c3 + 1 = id1 := by omega
      have ne11 : ¬ c3 + 1 = c3 := by omega
      simp only [go_sem, Nat.reduceAdd, Nat.reduceLeDiff, Nat.reduceEqDiff, Nat.reduceMul, Nat.reduceSub, ↓reduceIte, Int.reduceLT, Int.reduceLE, Int.reduceGT, Int.reduceGE, Nat.reduceLT, Nat.reduceGT, Int.reduceToNat, reduceCtorEq, Nat.reduceBEq, Int.reduceBEq, Int.reduceBNe, Int.reduceEq, Int.reduceNe, decide_true, decide_false, ne0, ne1, ne2, ne3, ne4, ne5, ne6, ne7, ne8, ne9, ne10, ne11]
      repeat' ((first | with_reducible refine wr ?_ | with_reducible refine i_ret ?_ | with_reducible refine i_skip ?_ | with_reducible refine i_exit ?_ | ((with_reducible refine k_cb ?_ ?_) <;> (intro hb; try simp only [hb])) | ((with_reducible refine k_gb ?_ ?_) <;> (intro hb; try simp only [hb])) | ((with_reducible refine k_gb' ?_ ?_) <;> (intro hb; try simp only [hb])) | ((with_reducible refine k_eval (b_appx (insC_len2 _) (by omega) (by omega)) ?_))) <;> try simp only [go_sem, Nat.reduceAdd, Nat.reduceLeDiff, Nat.reduceEqDiff, Nat.reduceMul, Nat.reduceSub, ↓reduceIte, Int.reduceLT, Int.reduceLE, Int.reduceGT, Int.reduceGE, Nat.reduceLT, Nat.reduceGT, Int.reduceToNat, reduceCtorEq, Nat.reduceBEq, Int.reduceBEq, Int.reduceBNe, Int.reduceEq, Int.reduceNe, decide_true, decide_false, ne0, ne1, ne2, ne3, ne4, ne5, ne6, ne7, ne8, ne9, ne10, ne11])
      have es : stmtM l 0 base p = stK l (fun _ p => ([], p)) base 0 p1 := by simp only [stmtM]; rw [e0]; try rfl
      rw [es]
      refine v_end (id := c3 + 1) hfr (by omega) (by omega) htc (by first | rfl | simp only [stK, List.length_append, List.length_singleton]) ?_ ?_ fun j h1 h2 => ?_
      · repeat (first | exact h_same | rw [h_ne (by omega)] | rw [h_dne (by omega)])
      · rw [h_same]; simp only [stK, insC_app, insC_one]
      · repeat (first | rfl | rw [h_ne (by omega)] | rw [h_dne (by omega)])
    · have nk : ((13 : Nat) : Int) = 13 := rfl
      simp only [go_sem, Nat.reduceAdd, Nat.reduceLeDiff, Nat.reduceEqDiff, Nat.reduceMul, Nat.reduceSub, ↓reduceIte, Int.reduceLT, Int.reduceLE, Int.reduceGT, Int.reduceGE, Nat.reduceLT, Nat.reduceGT, Int.reduceToNat, reduceCtorEq, Nat.reduceBEq, Int.reduceBEq, Int.reduceBNe, Int.reduceEq, Int.reduceNe, decide_true, decide_false, hdl, nk, Int.reduceGT, Int.reduceBEq, Int.reduceLE, decide_true, decide_false]
      repeat' ((first | with_reducible refine wr ?_ | with_reducible refine i_ret ?_ | with_reducible refine i_skip ?_ | with_reducible refine i_exit ?_ | ((with_reducible refine k_cb ?_ ?_) <;> (intro hb; try simp only [hb])) | ((with_reducible refine k_gb ?_ ?_) <;> (intro hb; try simp only [hb])) | ((with_reducible refine k_gb' ?_ ?_) <;> (intro hb; try simp only [hb]))) <;> try simp only [go_sem, Nat.reduceAdd, Nat.reduceLeDiff, Nat.reduceEqDiff, Nat.reduceMul, Nat.reduceSub, ↓reduceIte, Int.reduceLT, Int.reduceLE, Int.reduceGT, Int.reduceGE, Nat.reduceLT, Nat.reduceGT, Int.reduceToNat, reduceCtorEq, Nat.reduceBEq, Int.reduceBEq, Int.reduceBNe, Int.reduceEq, Int.reduceNe, decide_true, decide_false, hdl, nk, Int.reduceGT, Int.reduceBEq, Int.reduceLE, decide_true, decide_false])
      refine AC.call (c_value l hl 2 (by omega) (p1) hp1 _ _ t (by repeat (first | exact h_same | rw [h_ne (by omega)] | rw [h_dne (by omega)])) (by omega)) ?_
      rintro v H' c2 ⟨id1, ia1, ib1, rfl, rfl⟩ hcc2
      have hb1 := valueM_l2 l (p1)
      have hp2 := valueM_le l 2 (p1) hp1
      have ne0 : ¬ t = id1 := by omega
      have ne1 : ¬ t = c2 := by omega
      have ne2 : ¬ t = c2 + 1 := by omega
      have ne3 : ¬ id1 = t := by omega
      have ne4 : ¬ id1 = c2 := by omega
      have ne5 : ¬ id1 = c2 + 1 := by omega
      have ne6 : ¬ c2 = t := by omega
      have ne7 : ¬ c2 = id1 := by omega
      have ne8 : ¬ c2 = c2 + 1 := by omega
      have ne9 : ¬ c2 + 1 = t := by omega
      have ne10 : ¬ c2 + 1 = id1 := by omega
      have ne11 : ¬ c2 + 1 = c2 := by omega
      simp only [go_sem, Nat.reduceAdd, Nat.reduceLeDiff, Nat.reduceEqDiff, Nat.reduceMul, Nat.reduceSub, ↓reduceIte, Int.reduceLT, Int.reduceLE, Int.reduceGT, Int.reduceGE, Nat.reduceLT, Nat.reduceGT, Int.reduceToNat, reduceCtorEq, Nat.reduceBEq, Int.reduceBEq, Int.reduceBNe, Int.reduceEq, Int.reduceNe, decide_true, decide_false, ne0, ne1, ne2, ne3, ne4, ne5, ne6, ne7, ne8, ne9, ne10, ne11]
      repeat' ((first | with_reducible refine wr ?_ | with_reducible refine i_ret ?_ | with_reducible refine i_skip ?_ | with_reducible refine i_exit ?_ | ((with_reducible refine k_cb ?_ ?_) <;> (intro hb; try simp only [hb])) | ((with_reducible refine k_gb ?_ ?_) <;> (intro hb; try simp only [hb])) | ((with_reducible refine k_gb' ?_ ?_) <;> (intro hb; try simp only [hb])) | ((with_reducible refine k_eval (b_appx (insC_len2 _) (by omega) (by omega)) ?_))) <;> try simp only [go_sem, Nat.reduceAdd, Nat.reduceLeDiff, Nat.reduceEqDiff, Nat.reduceMul, Nat.reduceSub, ↓reduceIte, Int.reduceLT, Int.reduceLE, Int.reduceGT, Int.reduceGE, Nat.reduceLT, Nat.reduceGT, Int.reduceToNat, reduceCtorEq, Nat.reduceBEq, Int.reduceBEq, Int.reduceBNe, Int.reduceEq, Int.reduceNe, decide_true, decide_false, ne0, ne1, ne2, ne3, ne4, ne5, ne6, ne7, ne8, ne9, ne10, ne11])
      refine AC.call (c_next l hl ((valueM l 2 p1).2) hp2 3 (by omega) (by omega) _ _ t (by repeat (first | exact h_same | rw [h_ne (by omega)] | rw [h_dne (by omega)])) (by omega)) ?_
      rintro v H' c3 ⟨rfl, rfl⟩ hcc3
      have hq3 := nextM_lt (l := l) (p := (valueM l 2 p1).2) (n := 3) (by omega)
      have hp3 := nextM_le (l := l) (p := (valueM l 2 p1).2) (n := 3) hp2
      have ne0 : ¬ t = id1 := by omega
      have ne1 : ¬ t = c3 := by omega
      have ne2 : ¬ t = c3 + 1 := by omega
      have ne3 : ¬ id1 = t := by omega
      have ne4 : ¬ id1 = c3 := by omega
      have ne5 : ¬ id1 = c3 + 1 := by omega
      have ne6 : ¬ c3 = t := by omega
      have ne7 : ¬ c3 = id1 := by omega
      have ne8 : ¬ c3 = c3 + 1 := by omega
      have ne9 : ¬ c3 + 1 = t := by omega
      have ne10 : ¬ c3 + 1 = id1 := by omega
      have ne11 : ¬ c3 + 1 = c3 := by omega
      simp only [go_sem, Nat.reduceAdd, Nat.reduceLeDiff, Nat.reduceEqDiff, Nat.reduceMul, Nat.reduceSub, ↓reduceIte, Int.reduceLT, Int.reduceLE, Int.reduceGT, Int.reduceGE, Nat.reduceLT, Nat.reduceGT, Int.reduceToNat, reduceCtorEq, Nat.reduceBEq, Int.reduceBEq, Int.reduceBNe, Int.reduceEq, Int.reduceNe, decide_true, decide_false, ne0, ne1, ne2, ne3, ne4, ne5, ne6, ne7, ne8, ne9, ne10, ne11]
      repeat' ((first | with_reducible refine wr ?_ | with_reducible refine i_ret ?_ | with_reducible refine i_skip ?_ | with_reducible refine i_exit ?_ | ((with_reducible refine k_cb ?_ ?_) <;> (intro hb; try simp only [hb])) | ((with_reducible refine k_gb ?_ ?_) <;> (intro hb; try simp only [hb])) | ((with_reducible refine k_gb' ?_ ?_) <;> (intro hb; try simp only [hb])) | ((with_reducible refine k_eval (b_appx (insC_len2 _) (by omega) (by omega)) ?_))) <;> try simp only [go_sem, Nat.reduceAdd, Nat.reduceLeDiff, Nat.reduceEqDiff, Nat.reduceMul, Nat.reduceSub, ↓reduceIte, Int.reduceLT, Int.reduceLE, Int.reduceGT, Int.reduceGE, Nat.reduceLT, Nat.reduceGT, Int.reduceToNat, reduceCtorEq, Nat.reduceBEq, Int.reduceBEq, Int.reduceBNe, Int.reduceEq, Int.reduceNe, decide_true, decide_false, ne0, ne1, ne2, ne3, ne4, ne5, ne6, ne7, ne8, ne9, ne10, ne11])
      have es : stmtM l 0 base p = stK l (fun _ p => ([], p)) base 0 p1 := by simp only [stmtM]; rw [e0]; try rfl
      rw [es]
      refine v_end (id := c3 + 1) hfr (by omega) (by omega) htc (by first | rfl | simp only [stK, List.length_append, List.length_singleton]) ?_ ?_ fun j h1 h2 => ?_
      · repeat (first | exact h_same | rw [h_ne (by omega)] | rw [h_dne (by omega)])
      · rw [h_same]; simp only [stK, insC_app, insC_one]
      · repeat (first | rfl | rw [h_ne (by omega)] | rw [h_dne (by omega)])
    · have nk : ((14 : Nat) : Int) = 14 := rfl
      simp only [go_sem, Nat.reduceAdd, Nat.reduceLeDiff, Nat.reduceEqDiff, Nat.reduceMul, Nat.reduceSub, ↓reduceIte, Int.reduceLT, Int.reduceLE, Int.reduceGT, Int.reduceGE, Nat.reduceLT, Nat.reduceGT, Int.reduceToNat, reduceCtorEq, Nat.reduceBEq, Int.reduceBEq, Int.reduceBNe, Int.reduceEq, Int.reduceNe, decide_true, decide_false, hdl, nk, Int.reduceGT, Int.reduceBEq, Int.reduceLE, decide_true, decide_false]
      repeat' ((first | with_reducible refine wr ?_ | with_reducible refine i_ret ?_ | with_reducible refine i_skip ?_ | with_reducible refine i_exit ?_ | ((with_reducible refine k_cb ?_ ?_) <;> (intro hb; try simp only [hb])) | ((with_reducible refine k_gb ?_ ?_) <;> (intro hb; try simp only [hb])) | ((with_reducible refine k_gb' ?_ ?_) <;> (intro hb; try simp only [hb]))) <;> try simp only [go_sem, Nat.reduceAdd, Nat.reduceLeDiff, Nat.reduceEqDiff, Nat.reduceMul, Nat.reduceSub, ↓reduceIte, Int.reduceLT, Int.reduceLE, Int.reduceGT, Int.reduceGE, Nat.reduceLT, Nat.reduceGT, Int.reduceToNat, reduceCtorEq, Nat.reduceBEq, Int.reduceBEq, Int.reduceBNe, Int.reduceEq, Int.reduceNe, decide_true, decide_false, hdl, nk, Int.reduceGT, Int.reduceBEq, Int.reduceLE, decide_true, decide_false])
      refine AC.call (c_value l hl 2 (by omega) (p1) hp1 _ _ t (by repeat (first | exact h_same | rw [h_ne (by omega)] | rw [h_dne (by omega)])) (by omega)) ?_
      rintro v H' c2 ⟨id1, ia1, ib1, rfl, rfl⟩ hcc2
      have hb1 := valueM_l2 l (p1)
      have hp2 := valueM_le l 2 (p1) hp1
      have ne0 : ¬ t = id1 := by omega
      have ne1 : ¬ t = c2 := by omega
      have ne2 : ¬ t = c2 + 1 := by omega
      have ne3 : ¬ id1 = t := by omega
      have ne4 : ¬ id1 = c2 := by omega
      have ne5 : ¬ id1 = c2 + 1 := by omega
      have ne6 : ¬ c2 = t := by omega
      have ne7 : ¬ c2 = id1 := by omega
      have ne8 : ¬ c2 = c2 + 1 := by omega
      have ne9 : ¬ c2 + 1 = t := by omega
      have ne10 : ¬ c2 + 1 = id1 := by omega
      have ne11 : ¬ c2 + 1 = c2 := by omega
      simp only [go_sem, Nat.reduceAdd, Nat.reduceLeDiff, Nat.reduceEqDiff, Nat.reduceMul, Nat.reduceSub, ↓reduceIte, Int.reduceLT, Int.reduceLE, Int.reduceGT, Int.reduceGE, Nat.reduceLT, Nat.reduceGT, Int.reduceToNat, reduceCtorEq, Nat.reduceBEq, Int.reduceBEq, Int.reduceBNe, Int.reduceEq, Int.reduceNe, decide_true, decide_false, ne0, ne1, ne2, ne3, ne4, ne5, ne6, ne7, ne8, ne9, ne10, ne11]
      repeat' ((first | with_reducible refine wr ?_ | with_reducible refine i_ret ?_ | with_reducible refine i_skip ?_ | with_reducible refine i_exit ?_ | ((with_reducible refine k_cb ?_ ?_) <;> (intro hb; try simp only [hb])) | ((with_reducible refine k_gb ?_ ?_) <;> (intro hb; try simp only [hb])) | ((with_reducible refine k_gb' ?_ ?_) <;> (intro hb; try simp only [hb])) | ((with_reducible refine k_eval (b_appx (insC_len2 _) (by omega) (by omega)) ?_))) <;> try simp only [go_sem, Nat.reduceAdd, Nat.reduceLeDiff, Nat.reduceEqDiff, Nat.reduceMul, Nat.reduceSub, ↓reduceIte, Int.reduceLT, Int.reduceLE, Int.reduceGT, Int.reduceGE, Nat.reduceLT, Nat.reduceGT, Int.reduceToNat, reduceCtorEq, Nat.reduceBEq, Int.reduceBEq, Int.reduceBNe, Int.reduceEq, Int.reduceNe, decide_true, decide_false, ne0, ne1, ne2, ne3, ne4, ne5, ne6, ne7, ne8, ne9, ne10, ne11])
      refine AC.call (c_next l hl ((valueM l 2 p1).2) hp2 3 (by omega) (by omega) _ _ t (by repeat (first | exact h_same | rw [h_ne (by omega)] | rw [h_dne (by omega)])) (by omega)) ?_
      rintro v H' c3 ⟨rfl, rfl⟩ hcc3
      have hq3 := nextM_lt (l := l) (p := (valueM l 2 p1).2) (n := 3) (by omega)
      have hp3 := nextM_le (l := l) (p := (valueM l 2 p1).2) (n := 3) hp2
      have ne0 : ¬ t = id1 := by omega
      have ne1 : ¬ t = c3 := by omega
      have ne2 : ¬ t = c3 + 1 := by omega
      have ne3 : ¬ id1 = t := by omega
      have ne4 : ¬ id1 = c3 := by omega
      have ne5 : ¬ id1 = c3 + 1 := by omega
      have ne6 : ¬ c3 = t := by omega
      have ne7 : ¬ c3 = id1 := by omega
      have ne8 : ¬ c3 = c3 + 1 := by omega
      have ne9 : ¬ c3 + 1 = t := by omega
      have ne10 : ¬ c3 + 1 = id1 := by omega
      have ne11 : ¬ c3 + 1 = c3 := by omega
      simp only [go_sem, Nat.reduceAdd, Nat.reduceLeDiff, Nat.reduceEqDiff, Nat.reduceMul, Nat.reduceSub, ↓reduceIte, Int.reduceLT, Int.reduceLE, Int.reduceGT, Int.reduceGE, Nat.reduceLT, Nat.reduceGT, Int.reduceToNat, reduceCtorEq, Nat.reduceBEq, Int.reduceBEq, Int.reduceBNe, Int.reduceEq, Int.reduceNe, decide_true, decide_false, ne0, ne1, ne2, ne3, ne4, ne5, ne6, ne7, ne8, ne9, ne10, ne11]
      repeat' ((first | with_reducible refine wr ?_ | with_reducible refine i_ret ?_ | with_reducible refine i_skip ?_ | with_reducible refine i_exit ?_ | ((with_reducible refine k_cb ?_ ?_) <;> (intro hb; try simp only [hb])) | ((with_reducible refine k_gb ?_ ?_) <;> (intro hb; try simp only [hb])) | ((with_reducible refine k_gb' ?_ ?_) <;> (intro hb; try simp only [hb])) | ((with_reducible refine k_eval (b_appx (insC_len2 _) (by omega) (by omega)) ?_))) <;> try simp only [go_sem, Nat.reduceAdd, Nat.reduceLeDiff, Nat.reduceEqDiff, Nat.reduceMul, Nat.reduceSub, ↓reduceIte, Int.reduceLT, Int.reduceLE, Int.reduceGT, Int.reduceGE, Nat.reduceLT, Nat.reduceGT, Int.reduceToNat, reduceCtorEq, Nat.reduceBEq, Int.reduceBEq, Int.reduceBNe, Int.reduceEq, Int.reduceNe, decide_true, decide_false, ne0, ne1, ne2, ne3, ne4, ne5, ne6, ne7, ne8, ne9, ne10, ne11])
      have es : stmtM l 0 base p = stK l (fun _ p => ([], p)) base 0 p1 := by simp only [stmtM]; rw [e0]; try rfl
      rw [es]
      refine v_end (id := c3 + 1) hfr (by omega) (by omega) htc (by first | rfl | simp only [stK, List.length_append, List.length_singleton]) ?_ ?_ fun j h1 h2 => ?_
      · repeat (first | exact h_same | rw [h_ne (by omega)] | rw [h_dne (by omega)])
      · rw [h_same]; simp only [stK, insC_app, insC_one]
      · repeat (first | rfl | rw [h_ne (by omega)] | rw [h_dne (by omega)])
  | succ d ih =>
    intro hd2 base p hbase hp H cc t ht htc
    refine AC.body mixedU isU28 (Nat.le_of_ble_eq_true rfl) fun hfr => ?_
    show IW Tryd.prog 183 u28_1 ⟨argT _, _, _⟩ (rt [.tmp 6] _)
    repeat' ((first | with_reducible refine wr ?_ | with_reducible refine i_ret ?_ | with_reducible refine i_skip ?_ | with_reducible refine i_exit ?_ | ((with_reducible refine k_cb ?_ ?_) <;> (intro hb; try simp only [hb])) | ((with_reducible refine k_gb ?_ ?_) <;> (intro hb; try simp only [hb])) | ((with_reducible refine k_gb' ?_ ?_) <;> (intro hb; try simp only [hb]))) <;> try simp only [go_sem, Nat.reduceAdd, Nat.reduceLeDiff, Nat.reduceEqDiff, Nat.reduceMul, Nat.reduceSub, ↓reduceIte, Int.reduceLT, Int.reduceLE, Int.reduceGT, Int.reduceGE, Nat.reduceLT, Nat.reduceGT, Int.reduceToNat, reduceCtorEq, Nat.reduceBEq, Int.reduceBEq, Int.reduceBNe, Int.reduceEq, Int.reduceNe, decide_true, decide_false])
    refine AC.call (c_next l hl p hp 15 (by omega) (by omega) H cc t ht htc) ?_
    rintro v H' c1 ⟨rfl, rfl⟩ hcc
    have hp1 := nextM_le (n := 15) hp
    have hk := nextM_lt (l := l) (p := p) (n := 15) (by omega)
    have hdl : decide (((d + 1 : Nat) : Int) ≤ 0) = false := decide_eq_false (by omega)
    have hw1 := w64 (n := ((d + 1 : Nat) : Int) - 1) (by omega) (by omega)
    have hw2 : ((d + 1 : Nat) : Int) - 1 = (d : Int) := by omega
    rw [hw2] at hw1
    obtain ⟨k0, p1, e0⟩ : ∃ k0 p1, nextM l p 15 = (k0, p1) := ⟨_, _, rfl⟩
    rw [e0] at hp1 hk ⊢
    simp only at hp1 hk
    have hv : k0 = 1 ∨ k0 = 2 ∨ k0 = 3 ∨ k0 = 4 ∨ k0 = 5 ∨ k0 = 6 ∨ k0 = 7 ∨ k0 = 8 ∨ k0 = 9 ∨ k0 = 10 ∨ k0 = 11 ∨ k0 = 0 ∨ k0 = 12 ∨ k0 = 13 ∨ k0 = 14 := by omega
    rcases hv with rfl | rfl | rfl | rfl | rfl | rfl | rfl | rfl | rfl | rfl | rfl | rfl | rfl | rfl | rfl
    · have nk : ((1 : Nat) : Int) = 1 := rfl
      simp only [go_sem, Nat.reduceAdd, Nat.reduceLeDiff, Nat.reduceEqDiff, Nat.reduceMul, Nat.reduceSub, ↓reduceIte, Int.reduceLT, Int.reduceLE, Int.reduceGT, Int.reduceGE, Nat.reduceLT, Nat.reduceGT, Int.reduceToNat, reduceCtorEq, Nat.reduceBEq, Int.reduceBEq, Int.reduceBNe, Int.reduceEq, Int.reduceNe, decide_true, decide_false, hdl, nk, Int.reduceGT, Int.reduceBEq, Int.reduceLE, decide_true, decide_false, hw2, hw1]
      repeat' ((first | with_reducible refine wr ?_ | with_reducible refine i_ret ?_ | with_reducible refine i_skip ?_ | with_reducible refine i_exit ?_ | ((with_reducible refine k_cb ?_ ?_) <;> (intro hb; try simp only [hb])) | ((with_reducible refine k_gb ?_ ?_) <;> (intro hb; try simp only [hb])) | ((with_reducible refine k_gb' ?_ ?_) <;> (intro hb; try simp only [hb]))) <;> try simp only [go_sem, Nat.reduceAdd, Nat.reduceLeDiff, Nat.reduceEqDiff, Nat.reduceMul, Nat.reduceSub, ↓reduceIte, Int.reduceLT, Int.reduceLE, Int.reduceGT, Int.reduceGE, Nat.reduceLT, Nat.reduceGT, Int.reduceToNat, reduceCtorEq, Nat.reduceBEq, Int.reduceBEq, Int.reduceBNe, Int.reduceEq, Int.reduceNe, decide_true, decide_false, hdl, nk, Int.reduceGT, Int.reduceBEq, Int.reduceLE, decide_true, decide_false, hw2, hw1])
      refine AC.call (c_value l hl 1 (by omega) (p1) hp1 _ _ t (by repeat (first | exact h_same | rw [h_ne (by omega)] | rw [h_dne (by omega)])) (by omega)) ?_
      rintro v H' c2 ⟨id1, ia1, ib1, rfl, rfl⟩ hcc2
      have hb1 := valueM_l1 l (p1)
      have hp2 := valueM_le l 1 (p1) hp1
      have ne0 : ¬ t = id1 := by omega
      have ne1 : ¬ t = c2 := by omega
      have ne2 : ¬ t = c2 + 1 := by omega
      have ne3 : ¬ id1 = t := by omega
      have ne4 : ¬ id1 = c2 := by omega
      have ne5 : ¬ id1 = c2 + 1 := by omega
      have ne6 : ¬ c2 = t := by omega
      have ne7 : ¬ c2 = id1 := by omega
      have ne8 : ¬ c2 = c2 + 1 := by omega
      have ne9 : ¬ c2 + 1 = t := by omega
      have ne10 : ¬ c2 + 1 = id1 := by omega
      have ne11 : ¬ c2 + 1 = c2 := by omega
      simp only [go_sem, Nat.reduceAdd, Nat.reduceLeDiff, Nat.reduceEqDiff, Nat.reduceMul, Nat.reduceSub, ↓reduceIte, Int.reduceLT, Int.reduceLE, Int.reduceGT, Int.reduceGE, Nat.reduceLT, Nat.reduceGT, Int.reduceToNat, reduceCtorEq, Nat.reduceBEq, Int.reduceBEq, Int.reduceBNe, Int.reduceEq, Int.reduceNe, decide_true, decide_false, ne0, ne1, ne2, ne3, ne4, ne5, ne6, ne7, ne8, ne9, ne10, ne11]
      repeat' ((first | with_reducible refine wr ?_ | with_reducible refine i_ret ?_ | with_reducible refine i_skip ?_ | with_reducible refine i_exit ?_ | ((with_reducible refine k_cb ?_ ?_) <;> (intro hb; try simp only [hb])) | ((with_reducible refine k_gb ?_ ?_) <;> (intro hb; try simp only [hb])) | ((with_reducible refine k_gb' ?_ ?_) <;> (intro hb; try simp only [hb])) | ((with_reducible refine k_eval (b_appx (insC_len2 _) (by omega) (by omega)) ?_))) <;> try simp only [go_sem, Nat.reduceAdd, Nat.reduceLeDiff, Nat.reduceEqDiff, Nat.reduceMul, Nat.reduceSub, ↓reduceIte, Int.reduceLT, Int.reduceLE, Int.reduceGT, Int.reduceGE, Nat.reduceLT, Nat.reduceGT, Int.reduceToNat, reduceCtorEq, Nat.reduceBEq, Int.reduceBEq, Int.reduceBNe, Int.reduceEq, Int.reduceNe, decide_true, decide_false, ne0, ne1, ne2, ne3, ne4, ne5, ne6, ne7, ne8, ne9, ne10, ne11])
      have es : stmtM l (d + 1) base p = stK l (stmtM l d) base 1 p1 := by simp only [stmtM]; rw [e0]; try rfl
      rw [es]
      refine v_end (id := c2 + 1) hfr (by omega) (by omega) htc (by first | rfl | simp only [stK, List.length_append, List.length_singleton]) ?_ ?_ fun j h1 h2 => ?_
      · repeat (first | exact h_same | rw [h_ne (by omega)] | rw [h_dne (by omega)])
      · rw [h_same]; simp only [stK, insC_app, insC_one]
      · repeat (first | rfl | rw [h_ne (by omega)] | rw [h_dne (by omega)])
    · have nk : ((2 : Nat) : Int) = 2 := rfl
      simp only [go_sem, Nat.reduceAdd, Nat.reduceLeDiff, Nat.reduceEqDiff, Nat.reduceMul, Nat.reduceSub, ↓reduceIte, Int.reduceLT, Int.reduceLE, Int.reduceGT, Int.reduceGE, Nat.reduceLT, Nat.reduceGT, Int.reduceToNat, reduceCtorEq, Nat.reduceBEq, Int.reduceBEq, Int.reduceBNe, Int.reduceEq, Int.reduceNe, decide_true, decide_false, hdl, nk, Int.reduceGT, Int.reduceBEq, Int.reduceLE, decide_true, decide_false, hw2, hw1]
      repeat' ((first | with_reducible refine wr ?_ | with_reducible refine i_ret ?_ | with_reducible refine i_skip ?_ | with_reducible refine i_exit ?_ | ((with_reducible refine k_cb ?_ ?_) <;> (intro hb; try simp only [hb])) | ((with_reducible refine k_gb ?_ ?_) <;> (intro hb; try simp only [hb])) | ((with_reducible refine k_gb' ?_ ?_) <;> (intro hb; try simp only [hb]))) <;> try simp only [go_sem, Nat.reduceAdd, Nat.reduceLeDiff, Nat.reduceEqDiff, Nat.reduceMul, Nat.reduceSub, ↓reduceIte, Int.reduceLT, Int.reduceLE, Int.reduceGT, Int.reduceGE, Nat.reduceLT, Nat.reduceGT, Int.reduceToNat, reduceCtorEq, Nat.reduceBEq, Int.reduceBEq, Int.reduceBNe, Int.reduceEq, Int.reduceNe, decide_true, decide_false, hdl, nk, Int.reduceGT, Int.reduceBEq, Int.reduceLE, decide_true, decide_false, hw2, hw1])
      refine AC.call (c_next l hl (p1) hp1 3 (by omega) (by omega) _ _ t (by repeat (first | exact h_same | rw [h_ne (by omega)] | rw [h_dne (by omega)])) (by omega)) ?_
      rintro v H' c2 ⟨rfl, rfl⟩ hcc2
      have hq2 := nextM_lt (l := l) (p := p1) (n := 3) (by omega)
      have hp2 := nextM_le (l := l) (p := p1) (n := 3) hp1
      have hadd := w64 (n := 16 + ((nextM l p1 3).1 : Int)) (by omega) (by omega)
      have ne0 : ¬ t = c2 := by omega
      have ne1 : ¬ t = c2 + 1 := by omega
      have ne2 : ¬ c2 = t := by omega
      have ne3 : ¬ c2 = c2 + 1 := by omega
      have ne4 : ¬ c2 + 1 = t := by omega
      have ne5 : ¬ c2 + 1 = c2 := by omega
      simp only [go_sem, Nat.reduceAdd, Nat.reduceLeDiff, Nat.reduceEqDiff, Nat.reduceMul, Nat.reduceSub, ↓reduceIte, Int.reduceLT, Int.reduceLE, Int.reduceGT, Int.reduceGE, Nat.reduceLT, Nat.reduceGT, Int.reduceToNat, reduceCtorEq, Nat.reduceBEq, Int.reduceBEq, Int.reduceBNe, Int.reduceEq, Int.reduceNe, decide_true, decide_false, hadd, ne0, ne1, ne2, ne3, ne4, ne5]
      repeat' ((first | with_reducible refine wr ?_ | with_reducible refine i_ret ?_ | with_reducible refine i_skip ?_ | with_reducible refine i_exit ?_ | ((with_reducible refine k_cb ?_ ?_) <;> (intro hb; try simp only [hb])) | ((with_reducible refine k_gb ?_ ?_) <;> (intro hb; try simp only [hb])) | ((with_reducible refine k_gb' ?_ ?_) <;> (intro hb; try simp only [hb])) | ((with_reducible refine k_eval (b_appx (insC_len2 _) (by omega) (by omega)) ?_))) <;> try simp only [go_sem, Nat.reduceAdd, Nat.reduceLeDiff, Nat.reduceEqDiff, Nat.reduceMul, Nat.reduceSub, ↓reduceIte, Int.reduceLT, Int.reduceLE, Int.reduceGT, Int.reduceGE, Nat.reduceLT, Nat.reduceGT, Int.reduceToNat, reduceCtorEq, Nat.reduceBEq, Int.reduceBEq, Int.reduceBNe, Int.reduceEq, Int.reduceNe, decide_true, decide_false, hadd, ne0, ne1, ne2, ne3, ne4, ne5])
      refine AC.call (c_next l hl ((nextM l p1 3).2) hp2 32 (by omega) (by omega) _ _ t (by repeat (first | exact h_same | rw [h_ne (by omega)] | rw [h_dne (by omega)])) (by omega)) ?_
      rintro v H' c3 ⟨rfl, rfl⟩ hcc3
      have hq3 := nextM_lt (l := l) (p := (nextM l p1 3).2) (n := 32) (by omega)
      have hp3 := nextM_le (l := l) (p := (nextM l p1 3).2) (n := 32) hp2
      have ne0 : ¬ t = c3 := by omega
      have ne1 : ¬ t = c3 + 1 := by omega
      have ne2 : ¬ c3 = t := by omega
      have ne3 : ¬ c3 = c3 + 1 := by omega
      have ne4 : ¬ c3 + 1 = t := by omega
      have ne5 : ¬ c3 + 1 = c3 := by omega
      simp only [go_sem, Nat.reduceAdd, Nat.reduceLeDiff, Nat.reduceEqDiff, Nat.reduceMul, Nat.reduceSub, ↓reduceIte, Int.reduceLT, Int.reduceLE, Int.reduceGT, Int.reduceGE, Nat.reduceLT, Nat.reduceGT, Int.reduceToNat, reduceCtorEq, Nat.reduceBEq, Int.reduceBEq, Int.reduceBNe, Int.reduceEq, Int.reduceNe, decide_true, decide_false, hadd, ne0, ne1, ne2, ne3, ne4, ne5]
      repeat' ((first | with_reducible refine wr ?_ | with_reducible refine i_ret ?_ | with_reducible refine i_skip ?_ | with_reducible refine i_exit ?_ | ((with_reducible refine k_cb ?_ ?_) <;> (intro hb; try simp only [hb])) | ((with_reducible refine k_gb ?_ ?_) <;> (intro hb; try simp only [hb])) | ((with_reducible refine k_gb' ?_ ?_) <;> (intro hb; try simp only [hb])) | ((with_reducible refine k_eval (b_appx (insC_len2 _) (by omega) (by omega)) ?_))) <;> try simp only [go_sem, Nat.reduceAdd, Nat.reduceLeDiff, Nat.reduceEqDiff, Nat.reduceMul, Nat.reduceSub, ↓reduceIte, Int.reduceLT, Int.reduceLE, Int.reduceGT, Int.reduceGE, Nat.reduceLT, Nat.reduceGT, Int.reduceToNat, reduceCtorEq, Nat.reduceBEq, Int.reduceBEq, Int.reduceBNe, Int.reduceEq, Int.reduceNe, decide_true, decide_false, hadd, ne0, ne1, ne2, ne3, ne4, ne5])
      have es : stmtM l (d + 1) base p = stK l (stmtM l d) base 2 p1 := by simp only [stmtM]; rw [e0]; try rfl
      rw [es]
      refine v_end (id := c3) hfr (by omega) (by omega) htc (by first | rfl | simp only [stK, List.length_append, List.length_singleton]) ?_ ?_ fun j h1 h2 => ?_
      · repeat (first | exact h_same | rw [h_ne (by omega)] | rw [h_dne (by omega)])
      · rw [h_same]; simp only [stK, insC_app, insC_one]
      · repeat (first | rfl | rw [h_ne (by omega)] | rw [h_dne (by omega)])
    · have nk : ((3 : Nat) : Int) = 3 := rfl
      simp only [go_sem, Nat.reduceAdd, Nat.reduceLeDiff, Nat.reduceEqDiff, Nat.reduceMul, Nat.reduceSub, ↓reduceIte, Int.reduceLT, Int.reduceLE, Int.reduceGT, Int.reduceGE, Nat.reduceLT, Nat.reduceGT, Int.reduceToNat, reduceCtorEq, Nat.reduceBEq, Int.reduceBEq, Int.reduceBNe, Int.reduceEq, Int.reduceNe, decide_true, decide_false, hdl, nk, Int.reduceGT, Int.reduceBEq, Int.reduceLE, decide_true, decide_false, hw2, hw1]
      repeat' ((first | with_reducible refine wr ?_ | with_reducible refine i_ret ?_ | with_reducible refine i_skip ?_ | with_reducible refine i_exit ?_ | ((with_reducible refine k_cb ?_ ?_) <;> (intro hb; try simp only [hb])) | ((with_reducible refine k_gb ?_ ?_) <;> (intro hb; try simp only [hb])) | ((with_reducible refine k_gb' ?_ ?_) <;> (intro hb; try simp only [hb]))) <;> try simp only [go_sem, Nat.reduceAdd, Nat.reduceLeDiff, Nat.reduceEqDiff, Nat.reduceMul, Nat.reduceSub, ↓reduceIte, Int.reduceLT, Int.reduceLE, Int.reduceGT, Int.reduceGE, Nat.reduceLT, Nat.reduceGT, Int.reduceToNat, reduceCtorEq, Nat.reduceBEq, Int.reduceBEq, Int.reduceBNe, Int.reduceEq, Int.reduceNe, decide_true, decide_false, hdl, nk, Int.reduceGT, Int.reduceBEq, Int.reduceLE, decide_true, decide_false, hw2, hw1])
      refine AC.call (c_value l hl 0 (by omega) (p1) hp1 _ _ t (by repeat (first | exact h_same | rw [h_ne (by omega)] | rw [h_dne (by omega)])) (by omega)) ?_
      rintro v H' c2 ⟨id1, ia1, ib1, rfl, rfl⟩ hcc2
      have hb1 := valueM_l0 l (p1)
      have hp2 := valueM_le l 0 (p1) hp1
      have ne0 : ¬ t = id1 := by omega
      have ne1 : ¬ t = c2 := by omega
      have ne2 : ¬ t = c2 + 1 := by omega
      have ne3 : ¬ id1 = t := by omega
      have ne4 : ¬ id1 = c2 := by omega
      have ne5 : ¬ id1 = c2 + 1 := by omega
      have ne6 : ¬ c2 = t := by omega
      have ne7 : ¬ c2 = id1 := by omega
      have ne8 : ¬ c2 = c2 + 1 := by omega
      have ne9 : ¬ c2 + 1 = t := by omega
      have ne10 : ¬ c2 + 1 = id1 := by omega
      have ne11 : ¬ c2 + 1 = c2 := by omega
      simp only [go_sem, Nat.reduceAdd, Nat.reduceLeDiff, Nat.reduceEqDiff, Nat.reduceMul, Nat.reduceSub, ↓reduceIte, Int.reduceLT, Int.reduceLE, Int.reduceGT, Int.reduceGE, Nat.reduceLT, Nat.reduceGT, Int.reduceToNat, reduceCtorEq, Nat.reduceBEq, Int.reduceBEq, Int.reduceBNe, Int.reduceEq, Int.reduceNe, decide_true, decide_false, ne0, ne1, ne2, ne3, ne4, ne5, ne6, ne7, ne8, ne9, ne10, ne11]
      repeat' ((first | with_reducible refine wr ?_ | with_reducible refine i_ret ?_ | with_reducible refine i_skip ?_ | with_reducible refine i_exit ?_ | ((with_reducible refine k_cb ?_ ?_) <;> (intro hb; try simp only [hb])) | ((with_reducible refine k_gb ?_ ?_) <;> (intro hb; try simp only [hb])) | ((with_reducible refine k_gb' ?_ ?_) <;> (intro hb; try simp only [hb])) | ((with_reducible refine k_eval (b_appx (insC_len2 _) (by omega) (by omega)) ?_))) <;> try simp only [go_sem, Nat.reduceAdd, Nat.reduceLeDiff, Nat.reduceEqDiff, Nat.reduceMul, Nat.reduceSub, ↓reduceIte, Int.reduceLT, Int.reduceLE, Int.reduceGT, Int.reduceGE, Nat.reduceLT, Nat.reduceGT, Int.reduceToNat, reduceCtorEq, Nat.reduceBEq, Int.reduceBEq, Int.reduceBNe, Int.reduceEq, Int.reduceNe, decide_true, decide_false, ne0, ne1, ne2, ne3, ne4, ne5, ne6, ne7, ne8, ne9, ne10, ne11])
      refine AC.call (c_next l hl ((valueM l 0 p1).2) hp2 64 (by omega) (by omega) _ _ t (by repeat (first | exact h_same | rw [h_ne (by omega)] | rw [h_dne (by omega)])) (by omega)) ?_
      rintro v H' c3 ⟨rfl, rfl⟩ hcc3
      have hq3 := nextM_lt (l := l) (p := (valueM l 0 p1).2) (n := 64) (by omega)
      have hp3 := nextM_le (l := l) (p := (valueM l 0 p1).2) (n := 64) hp2
      have ne0 : ¬ t = id1 := by omega
      have ne1 : ¬ t = c3 := by omega
      have ne2 : ¬ t = c3 + 1 := by omega
      have ne3 : ¬ id1 = t := by omega
      have ne4 : ¬ id1 = c3 := by omega
      have ne5 : ¬ id1 = c3 + 1 := by omega
      have ne6 : ¬ c3 = t := by omega
      have ne7 : ¬ c3 = id1 := by omega
      have ne8 : ¬ c3 = c3 + 1 := by omega
      have ne9 : ¬ c3 + 1 = t := by omega
      have ne10 : ¬ c3 + 1 = id1 := by omega
      have ne11 : ¬ c3 + 1 = c3 := by omega
      simp only [go_sem, Nat.reduceAdd, Nat.reduceLeDiff, Nat.reduceEqDiff, Nat.reduceMul, Nat.reduceSub, ↓reduceIte, Int.reduceLT, Int.reduceLE, Int.reduceGT, Int.reduceGE, Nat.reduceLT, Nat.reduceGT, Int.reduceToNat, reduceCtorEq, Nat.reduceBEq, Int.reduceBEq, Int.reduceBNe, Int.reduceEq, Int.reduceNe, decide_true, decide_false, ne0, ne1, ne2, ne3, ne4, ne5, ne6, ne7, ne8, ne9, ne10, ne11]
      repeat' ((first | with_reducible refine wr ?_ | with_reducible refine i_ret ?_ | with_reducible refine i_skip ?_ | with_reducible refine i_exit ?_ | ((with_reducible refine k_cb ?_ ?_) <;> (intro hb; try simp only [hb])) | ((with_reducible refine k_gb ?_ ?_) <;> (intro hb; try simp only [hb])) | ((with_reducible refine k_gb' ?_ ?_) <;> (intro hb; try simp only [hb])) | ((with_reducible refine k_eval (b_appx (insC_len2 _) (by omega) (by omega)) ?_))) <;> try simp only [go_sem, Nat.reduceAdd, Nat.reduceLeDiff, Nat.reduceEqDiff, Nat.reduceMul, Nat.reduceSub, ↓reduceIte, Int.reduceLT, Int.reduceLE, Int.reduceGT, Int.reduceGE, Nat.reduceLT, Nat.reduceGT, Int.reduceToNat, reduceCtorEq, Nat.reduceBEq, Int.reduceBEq, Int.reduceBNe, Int.reduceEq, Int.reduceNe, decide_true, decide_false, ne0, ne1, ne2, ne3, ne4, ne5, ne6, ne7, ne8, ne9, ne10, ne11])
      have es : stmtM l (d + 1) base p = stK l (stmtM l d) base 3 p1 := by simp only [stmtM]; rw [e0]; try rfl
      rw [es]
      refine v_end (id := c3 + 1) hfr (by omega) (by omega) htc (by first | rfl | simp only [stK, List.length_append, List.length_singleton]) ?_ ?_ fun j h1 h2 => ?_
      · repeat (first | exact h_same | rw [h_ne (by omega)] | rw [h_dne (by omega)])
      · rw [h_same]; simp only [stK, insC_app, insC_one]
      · repeat (first | rfl | rw [h_ne (by omega)] | rw [h_dne (by omega)])
    · have nk : ((4 : Nat) : Int) = 4 := rfl
      simp only [go_sem, Nat.reduceAdd, Nat.reduceLeDiff, Nat.reduceEqDiff, Nat.reduceMul, Nat.reduceSub, ↓reduceIte, Int.reduceLT, Int.reduceLE, Int.reduceGT, Int.reduceGE, Nat.reduceLT, Nat.reduceGT, Int.reduceToNat, reduceCtorEq, Nat.reduceBEq, Int.reduceBEq, Int.reduceBNe, Int.reduceEq, Int.reduceNe, decide_true, decide_false, hdl, nk, Int.reduceGT, Int.reduceBEq, Int.reduceLE, decide_true, decide_false, hw2, hw1]
      repeat' ((first | with_reducible refine wr ?_ | with_reducible refine i_ret ?_ | with_reducible refine i_skip ?_ | with_reducible refine i_exit ?_ | ((with_reducible refine k_cb ?_ ?_) <;> (intro hb; try simp only [hb])) | ((with_reducible refine k_gb ?_ ?_) <;> (intro hb; try simp only [hb])) | ((with_reducible refine k_gb' ?_ ?_) <;> (intro hb; try simp only [hb]))) <;> try simp only [go_sem, Nat.reduceAdd, Nat.reduceLeDiff, Nat.reduceEqDiff, Nat.reduceMul, Nat.reduceSub, ↓reduceIte, Int.reduceLT, Int.reduceLE, Int.reduceGT, Int.reduceGE, Nat.reduceLT, Nat.reduceGT, Int.reduceToNat, reduceCtorEq, Nat.reduceBEq, Int.reduceBEq, Int.reduceBNe, Int.reduceEq, Int.reduceNe, decide_true, decide_false, hdl, nk, Int.reduceGT, Int.reduceBEq, Int.reduceLE, decide_true, decide_false, hw2, hw1])
      refine AC.call (c_value l hl 0 (by omega) (p1) hp1 _ _ t (by repeat (first | exact h_same | rw [h_ne (by omega)] | rw [h_dne (by omega)])) (by omega)) ?_
      rintro v H' c2 ⟨id1, ia1, ib1, rfl, rfl⟩ hcc2
      have hb1 := valueM_l0 l (p1)
      have hp2 := valueM_le l 0 (p1) hp1
      have ne0 : ¬ t = id1 := by omega
      have ne1 : ¬ t = c2 := by omega
      have ne2 : ¬ t = c2 + 1 := by omega
      have ne3 : ¬ id1 = t := by omega
      have ne4 : ¬ id1 = c2 := by omega
      have ne5 : ¬ id1 = c2 + 1 := by omega
      have ne6 : ¬ c2 = t := by omega
      have ne7 : ¬ c2 = id1 := by omega
      have ne8 : ¬ c2 = c2 + 1 := by omega
      have ne9 : ¬ c2 + 1 = t := by omega
      have ne10 : ¬ c2 + 1 = id1 := by omega
      have ne11 : ¬ c2 + 1 = c2 := by omega
      simp only [go_sem, Nat.reduceAdd, Nat.reduceLeDiff, Nat.reduceEqDiff, Nat.reduceMul, Nat.reduceSub, ↓reduceIte, Int.reduceLT, Int.reduceLE, Int.reduceGT, Int.reduceGE, Nat.reduceLT, Nat.reduceGT, Int.reduceToNat, reduceCtorEq, Nat.reduceBEq, Int.reduceBEq, Int.reduceBNe, Int.reduceEq, Int.reduceNe, decide_true, decide_false, ne0, ne1, ne2, ne3, ne4, ne5, ne6, ne7, ne8, ne9, ne10, ne11]
      repeat' ((first | with_reducible refine wr ?_ | with_reducible refine i_ret ?_ | with_reducible refine i_skip ?_ | with_reducible refine i_exit ?_ | ((with_reducible refine k_cb ?_ ?_) <;> (intro hb; try simp only [hb])) | ((with_reducible refine k_gb ?_ ?_) <;> (intro hb; try simp only [hb])) | ((with_reducible refine k_gb' ?_ ?_) <;> (intro hb; try simp only [hb])) | ((with_reducible refine k_eval (b_appx (insC_len2 _) (by omega) (by omega)) ?_))) <;> try simp only [go_sem, Nat.reduceAdd, Nat.reduceLeDiff, Nat.reduceEqDiff, Nat.reduceMul, Nat.reduceSub, ↓reduceIte, Int.reduceLT, Int.reduceLE, Int.reduceGT, Int.reduceGE, Nat.reduceLT, Nat.reduceGT, Int.reduceToNat, reduceCtorEq, Nat.reduceBEq, Int.reduceBEq, Int.reduceBNe, Int.reduceEq, Int.reduceNe, decide_true, decide_false, ne0, ne1, ne2, ne3, ne4, ne5, ne6, ne7, ne8, ne9, ne10, ne11])
      refine AC.call (c_value l hl 0 (by omega) ((valueM l 0 p1).2) hp2 _ _ t (by repeat (first | exact h_same | rw [h_ne (by omega)] | rw [h_dne (by omega)])) (by omega)) ?_
      rintro v H' c3 ⟨id2, ia2, ib2, rfl, rfl⟩ hcc3
      have hb2 := valueM_l0 l ((valueM l 0 p1).2)
      have hp3 := valueM_le l 0 ((valueM l 0 p1).2) hp2
      have hl2 := insC_len2 (valueM l 0 ((valueM l 0 p1).2)).1
      have hle2 : (valueM l 0 ((valueM l 0 p1).2)).1.length * 2 ≤ (insC (valueM l 0 ((valueM l 0 p1).2)).1).length := by omega
      have htk := List.take_of_length_le (l := insC (valueM l 0 ((valueM l 0 p1).2)).1) (i := (valueM l 0 ((valueM l 0 p1).2)).1.length * 2) (by omega)
      have ne0 : ¬ t = id1 := by omega
      have ne1 : ¬ t = id2 := by omega
      have ne2 : ¬ t = c3 := by omega
      have ne3 : ¬ t = c3 + 1 := by omega
      have ne4 : ¬ id1 = t := by omega
      have ne5 : ¬ id1 = id2 := by omega
      have ne6 : ¬ id1 = c3 := by omega
      have ne7 : ¬ id1 = c3 + 1 := by omega
      have ne8 : ¬ id2 = t := by omega
      have ne9 : ¬ id2 = id1 := by omega
      have ne10 : ¬ id2 = c3 := by omega
      have ne11 : ¬ id2 = c3 + 1 := by omega
      have ne12 : ¬ c3 = t := by omega
      have ne13 : ¬ c3 = id1 := by omega
      have ne14 : ¬ c3 = id2 := by omega
      have ne15 : ¬ c3 = c3 + 1 := by omega
      have ne16 : ¬ c3 + 1 = t := by omega
      have ne17 : ¬ c3 + 1 = id1 := by omega
      have ne18 : ¬ c3 + 1 = id2 := by omega
      have ne19 : ¬ c3 + 1 = c3 := by omega
      simp only [go_sem, Nat.reduceAdd, Nat.reduceLeDiff, Nat.reduceEqDiff, Nat.reduceMul, Nat.reduceSub, ↓reduceIte, Int.reduceLT, Int.reduceLE, Int.reduceGT, Int.reduceGE, Nat.reduceLT, Nat.reduceGT, Int.reduceToNat, reduceCtorEq, Nat.reduceBEq, Int.reduceBEq, Int.reduceBNe, Int.reduceEq, Int.reduceNe, decide_true, decide_false, hle2, htk, ne0, ne1, ne2, ne3, ne4, ne5, ne6, ne7, ne8, ne9, ne10, ne11, ne12, ne13, ne14, ne15, ne16, ne17, ne18, ne19]
      repeat' ((first | with_reducible refine wr ?_ | with_reducible refine i_ret ?_ | with_reducible refine i_skip ?_ | with_reducible refine i_exit ?_ | ((with_reducible refine k_cb ?_ ?_) <;> (intro hb; try simp only [hb])) | ((with_reducible refine k_gb ?_ ?_) <;> (intro hb; try simp only [hb])) | ((with_reducible refine k_gb' ?_ ?_) <;> (intro hb; try simp only [hb])) | ((with_reducible refine k_eval (b_appx (insC_len2 _) (by omega) (by omega)) ?_))) <;> try simp only [go_sem, Nat.reduceAdd, Nat.reduceLeDiff, Nat.reduceEqDiff, Nat.reduceMul, Nat.reduceSub, ↓reduceIte, Int.reduceLT, Int.reduceLE, Int.reduceGT, Int.reduceGE, Nat.reduceLT, Nat.reduceGT, Int.reduceToNat, reduceCtorEq, Nat.reduceBEq, Int.reduceBEq, Int.reduceBNe, Int.reduceEq, Int.reduceNe, decide_true, decide_false, hle2, htk, ne0, ne1, ne2, ne3, ne4, ne5, ne6, ne7, ne8, ne9, ne10, ne11, ne12, ne13, ne14, ne15, ne16, ne17, ne18, ne19])
      refine AC.call (c_next l hl ((valueM l 0 ((valueM l 0 p1).2)).2) hp3 64 (by omega) (by omega) _ _ t (by repeat (first | exact h_same | rw [h_ne (by omega)] | rw [h_dne (by omega)])) (by omega)) ?_
      rintro v H' c4 ⟨rfl, rfl⟩ hcc4
      have hq4 := nextM_lt (l := l) (p := (valueM l 0 ((valueM l 0 p1).2)).2) (n := 64) (by omega)
      have hp4 := nextM_le (l := l) (p := (valueM l 0 ((valueM l 0 p1).2)).2) (n := 64) hp3
      have hl3 := insL2 (valueM l 0 p1).1 (valueM l 0 ((valueM l 0 p1).2)).1
      have ne0 : ¬ t = c3 := by omega
      have ne1 : ¬ t = c4 := by omega
      have ne2 : ¬ t = c4 + 1 := by omega
      have ne3 : ¬ c3 = t := by omega
      have ne4 : ¬ c3 = c4 := by omega
      have ne5 : ¬ c3 = c4 + 1 := by omega
      have ne6 : ¬ c4 = t := by omega
      have ne7 : ¬ c4 = c3 := by omega
      have ne8 : ¬ c4 = c4 + 1 := by omega
      have ne9 : ¬ c4 + 1 = t := by omega
      have ne10 : ¬ c4 + 1 = c3 := by omega
      have ne11 : ¬ c4 + 1 = c4 := by omega
      simp only [go_sem, Nat.reduceAdd, Nat.reduceLeDiff, Nat.reduceEqDiff, Nat.reduceMul, Nat.reduceSub, ↓reduceIte, Int.reduceLT, Int.reduceLE, Int.reduceGT, Int.reduceGE, Nat.reduceLT, Nat.reduceGT, Int.reduceToNat, reduceCtorEq, Nat.reduceBEq, Int.reduceBEq, Int.reduceBNe, Int.reduceEq, Int.reduceNe, decide_true, decide_false, ne0, ne1, ne2, ne3, ne4, ne5, ne6, ne7, ne8, ne9, ne10, ne11]
      repeat' ((first | with_reducible refine wr ?_ | with_reducible refine i_ret ?_ | with_reducible refine i_skip ?_ | with_reducible refine i_exit ?_ | ((with_reducible refine k_cb ?_ ?_) <;> (intro hb; try simp only [hb])) | ((with_reducible refine k_gb ?_ ?_) <;> (intro hb; try simp only [hb])) | ((with_reducible refine k_gb' ?_ ?_) <;> (intro hb; try simp only [hb])) | ((with_reducible refine k_eval (b_appx (insC_len2 _) (by omega) (by omega)) ?_)) | ((with_reducible refine k_eval (b_appx hl3 (by omega) (by omega)) ?_))) <;> try simp only [go_sem, Nat.reduceAdd, Nat.reduceLeDiff, Nat.reduceEqDiff, Nat.reduceMul, Nat.reduceSub, ↓reduceIte, Int.reduceLT, Int.reduceLE, Int.reduceGT, Int.reduceGE, Nat.reduceLT, Nat.reduceGT, Int.reduceToNat, reduceCtorEq, Nat.reduceBEq, Int.reduceBEq, Int.reduceBNe, Int.reduceEq, Int.reduceNe, decide_true, decide_false, ne0, ne1, ne2, ne3, ne4, ne5, ne6, ne7, ne8, ne9, ne10, ne11])
      have es : stmtM l (d + 1) base p = stK l (stmtM l d) base 4 p1 := by simp only [stmtM]; rw [e0]; try rfl
      rw [es]
      refine v_end (id := c4 + 1) hfr (by omega) (by omega) htc (by first | rfl | simp only [stK, List.length_append, List.length_singleton]) ?_ ?_ fun j h1 h2 => ?_
      · repeat (first | exact h_same | rw [h_ne (by omega)] | rw [h_dne (by omega)])
      · rw [h_same]; simp only [stK, insC_app, insC_one]
      · repeat (first | rfl | rw [h_ne (by omega)] | rw [h_dne (by omega)])
    · have nk : ((5 : Nat) : Int) = 5 := rfl
      simp only [go_sem, Nat.reduceAdd, Nat.reduceLeDiff, Nat.reduceEqDiff, Nat.reduceMul, Nat.reduceSub, ↓reduceIte, Int.reduceLT, Int.reduceLE, Int.reduceGT, Int.reduceGE, Nat.reduceLT, Nat.reduceGT, Int.reduceToNat, reduceCtorEq, Nat.reduceBEq, Int.reduceBEq, Int.reduceBNe, Int.reduceEq, Int.reduceNe, decide_true, decide_false, hdl, nk, Int.reduceGT, Int.reduceBEq, Int.reduceLE, decide_true, decide_false, hw2, hw1]
      repeat' ((first | with_reducible refine wr ?_ | with_reducible refine i_ret ?_ | with_reducible refine i_skip ?_ | with_reducible refine i_exit ?_ | ((with_reducible refine k_cb ?_ ?_) <;> (intro hb; try simp only [hb])) | ((with_reducible refine k_gb ?_ ?_) <;> (intro hb; try simp only [hb])) | ((with_reducible refine k_gb' ?_ ?_) <;> (intro hb; try simp only [hb]))) <;> try simp only [go_sem, Nat.reduceAdd, Nat.reduceLeDiff, Nat.reduceEqDiff, Nat.reduceMul, Nat.reduceSub, ↓reduceIte, Int.reduceLT, Int.reduceLE, Int.reduceGT, Int.reduceGE, Nat.reduceLT, Nat.reduceGT, Int.reduceToNat, reduceCtorEq, Nat.reduceBEq, Int.reduceBEq, Int.reduceBNe, Int.reduceEq, Int.reduceNe, decide_true, decide_false, hdl, nk, Int.reduceGT, Int.reduceBEq, Int.reduceLE, decide_true, decide_false, hw2, hw1])
      refine AC.call (c_value l hl 1 (by omega) (p1) hp1 _ _ t (by repeat (first | exact h_same | rw [h_ne (by omega)] | rw [h_dne (by omega)])) (by omega)) ?_
      rintro v H' c2 ⟨id1, ia1, ib1, rfl, rfl⟩ hcc2
      have hb1 := valueM_l1 l (p1)
      have hp2 := valueM_le l 1 (p1) hp1
      have ne0 : ¬ t = id1 := by omega
      have ne1 : ¬ t = c2 := by omega
      have ne2 : ¬ t = c2 + 1 := by omega
      have ne3 : ¬ id1 = t := by omega
      have ne4 : ¬ id1 = c2 := by omega
      have ne5 : ¬ id1 = c2 + 1 := by omega
      have ne6 : ¬ c2 = t := by omega
      have ne7 : ¬ c2 = id1 := by omega
      have ne8 : ¬ c2 = c2 + 1 := by omega
      have ne9 : ¬ c2 + 1 = t := by omega
      have ne10 : ¬ c2 + 1 = id1 := by omega
      have ne11 : ¬ c2 + 1 = c2 := by omega
      simp only [go_sem, Nat.reduceAdd, Nat.reduceLeDiff, Nat.reduceEqDiff, Nat.reduceMul, Nat.reduceSub, ↓reduceIte, Int.reduceLT, Int.reduceLE, Int.reduceGT, Int.reduceGE, Nat.reduceLT, Nat.reduceGT, Int.reduceToNat, reduceCtorEq, Nat.reduceBEq, Int.reduceBEq, Int.reduceBNe, Int.reduceEq, Int.reduceNe, decide_true, decide_false, ne0, ne1, ne2, ne3, ne4, ne5, ne6, ne7, ne8, ne9, ne10, ne11]
      repeat' ((first | with_reducible refine wr ?_ | with_reducible refine i_ret ?_ | with_reducible refine i_skip ?_ | with_reducible refine i_exit ?_ | ((with_reducible refine k_cb ?_ ?_) <;> (intro hb; try simp only [hb])) | ((with_reducible refine k_gb ?_ ?_) <;> (intro hb; try simp only [hb])) | ((with_reducible refine k_gb' ?_ ?_) <;> (intro hb; try simp only [hb])) | ((with_reducible refine k_eval (b_appx (insC_len2 _) (by omega) (by omega)) ?_))) <;> try simp only [go_sem, Nat.reduceAdd, Nat.reduceLeDiff, Nat.reduceEqDiff, Nat.reduceMul, Nat.reduceSub, ↓reduceIte, Int.reduceLT, Int.reduceLE, Int.reduceGT, Int.reduceGE, Nat.reduceLT, Nat.reduceGT, Int.reduceToNat, reduceCtorEq, Nat.reduceBEq, Int.reduceBEq, Int.reduceBNe, Int.reduceEq, Int.reduceNe, decide_true, decide_false, ne0, ne1, ne2, ne3, ne4, ne5, ne6, ne7, ne8, ne9, ne10, ne11])
      refine AC.call (c_next l hl ((valueM l 1 p1).2) hp2 2 (by omega) (by omega) _ _ t (by repeat (first | exact h_same | rw [h_ne (by omega)] | rw [h_dne (by omega)])) (by omega)) ?_
      rintro v H' c3 ⟨rfl, rfl⟩ hcc3
      have hq3 := nextM_lt (l := l) (p := (valueM l 1 p1).2) (n := 2) (by omega)
      have hp3 := nextM_le (l := l) (p := (valueM l 1 p1).2) (n := 2) hp2
      have ne0 : ¬ t = id1 := by omega
      have ne1 : ¬ t = c3 := by omega
      have ne2 : ¬ t = c3 + 1 := by omega
      have ne3 : ¬ id1 = t := by omega
      have ne4 : ¬ id1 = c3 := by omega
      have ne5 : ¬ id1 = c3 + 1 := by omega
      have ne6 : ¬ c3 = t := by omega
      have ne7 : ¬ c3 = id1 := by omega
      have ne8 : ¬ c3 = c3 + 1 := by omega
      have ne9 : ¬ c3 + 1 = t := by omega
      have ne10 : ¬ c3 + 1 = id1 := by omega
      have ne11 : ¬ c3 + 1 = c3 := by omega
      simp only [go_sem, Nat.reduceAdd, Nat.reduceLeDiff, Nat.reduceEqDiff, Nat.reduceMul, Nat.reduceSub, ↓reduceIte, Int.reduceLT, Int.reduceLE, Int.reduceGT, Int.reduceGE, Nat.reduceLT, Nat.reduceGT, Int.reduceToNat, reduceCtorEq, Nat.reduceBEq, Int.reduceBEq, Int.reduceBNe, Int.reduceEq, Int.reduceNe, decide_true, decide_false, ne0, ne1, ne2, ne3, ne4, ne5, ne6, ne7, ne8, ne9, ne10, ne11]
      repeat' ((first | with_reducible refine wr ?_ | with_reducible refine i_ret ?_ | with_reducible refine i_skip ?_ | with_reducible refine i_exit ?_ | ((with_reducible refine k_cb ?_ ?_) <;> (intro hb; try simp only [hb])) | ((with_reducible refine k_gb ?_ ?_) <;> (intro hb; try simp only [hb])) | ((with_reducible refine k_gb' ?_ ?_) <;> (intro hb; try simp only [hb])) | ((with_reducible refine k_eval (b_appx (insC_len2 _) (by omega) (by omega)) ?_))) <;> try simp only [go_sem, Nat.reduceAdd, Nat.reduceLeDiff, Nat.reduceEqDiff, Nat.reduceMul, Nat.reduceSub, ↓reduceIte, Int.reduceLT, Int.reduceLE, Int.reduceGT, Int.reduceGE, Nat.reduceLT, Nat.reduceGT, Int.reduceToNat, reduceCtorEq, Nat.reduceBEq, Int.reduceBEq, Int.reduceBNe, Int.reduceEq, Int.reduceNe, decide_true, decide_false, ne0, ne1, ne2, ne3, ne4, ne5, ne6, ne7, ne8, ne9, ne10, ne11])
      have es : stmtM l (d + 1) base p = stK l (stmtM l d) base 5 p1 := by simp only [stmtM]; rw [e0]; try rfl
      rw [es]
      refine v_end (id := c3 + 1) hfr (by omega) (by omega) htc (by first | rfl | simp only [stK, List.length_append, List.length_singleton]) ?_ ?_ fun j h1 h2 => ?_
      · repeat (first | exact h_same | rw [h_ne (by omega)] | rw [h_dne (by omega)])
      · rw [h_same]; simp only [stK, insC_app, insC_one]
      · repeat (first | rfl | rw [h_ne (by omega)] | rw [h_dne (by omega)])
    · have nk : ((6 : Nat) : Int) = 6 := rfl
      simp only [go_sem, Nat.reduceAdd, Nat.reduceLeDiff, Nat.reduceEqDiff, Nat.reduceMul, Nat.reduceSub, ↓reduceIte, Int.reduceLT, Int.reduceLE, Int.reduceGT, Int.reduceGE, Nat.reduceLT, Nat.reduceGT, Int.reduceToNat, reduceCtorEq, Nat.reduceBEq, Int.reduceBEq, Int.reduceBNe, Int.reduceEq, Int.reduceNe, decide_true, decide_false, hdl, nk, Int.reduceGT, Int.reduceBEq, Int.reduceLE, decide_true, decide_false, hw2, hw1]
      repeat' ((first | with_reducible refine wr ?_ | with_reducible refine i_ret ?_ | with_reducible refine i_skip ?_ | with_reducible refine i_exit ?_ | ((with_reducible refine k_cb ?_ ?_) <;> (intro hb; try simp only [hb])) | ((with_reducible refine k_gb ?_ ?_) <;> (intro hb; try simp only [hb])) | ((with_reducible refine k_gb' ?_ ?_) <;> (intro hb; try simp only [hb]))) <;> try simp only [go_sem, Nat.reduceAdd, Nat.reduceLeDiff, Nat.reduceEqDiff, Nat.reduceMul, Nat.reduceSub, ↓reduceIte, Int.reduceLT, Int.reduceLE, Int.reduceGT, Int.reduceGE, Nat.reduceLT, Nat.reduceGT, Int.reduceToNat, reduceCtorEq, Nat.reduceBEq, Int.reduceBEq, Int.reduceBNe, Int.reduceEq, Int.reduceNe, decide_true, decide_false, hdl, nk, Int.reduceGT, Int.reduceBEq, Int.reduceLE, decide_true, decide_false, hw2, hw1])
      refine AC.call (c_next l hl (p1) hp1 2 (by omega) (by omega) _ _ t (by repeat (first | exact h_same | rw [h_ne (by omega)] | rw [h_dne (by omega)])) (by omega)) ?_
      rintro v H' c2 ⟨rfl, rfl⟩ hcc2
      have hq2 := nextM_lt (l := l) (p := p1) (n := 2) (by omega)
      have hp2 := nextM_le (l := l) (p := p1) (n := 2) hp1
      have ne0 : ¬ t = c2 := by omega
      have ne1 : ¬ t = c2 + 1 := by omega
      have ne2 : ¬ c2 = t := by omega
      have ne3 : ¬ c2 = c2 + 1 := by omega
      have ne4 : ¬ c2 + 1 = t := by omega
      have ne5 : ¬ c2 + 1 = c2 := by omega
      simp only [go_sem, Nat.reduceAdd, Nat.reduceLeDiff, Nat.reduceEqDiff, Nat.reduceMul, Nat.reduceSub, ↓reduceIte, Int.reduceLT, Int.reduceLE, Int.reduceGT, Int.reduceGE, Nat.reduceLT, Nat.reduceGT, Int.reduceToNat, reduceCtorEq, Nat.reduceBEq, Int.reduceBEq, Int.reduceBNe, Int.reduceEq, Int.reduceNe, decide_true, decide_false, ne0, ne1, ne2, ne3, ne4, ne5]
      repeat' ((first | with_reducible refine wr ?_ | with_reducible refine i_ret ?_ | with_reducible refine i_skip ?_ | with_reducible refine i_exit ?_ | ((with_reducible refine k_cb ?_ ?_) <;> (intro hb; try simp only [hb])) | ((with_reducible refine k_gb ?_ ?_) <;> (intro hb; try simp only [hb])) | ((with_reducible refine k_gb' ?_ ?_) <;> (intro hb; try simp only [hb])) | ((with_reducible refine k_eval (b_appx (insC_len2 _) (by omega) (by omega)) ?_))) <;> try simp only [go_sem, Nat.reduceAdd, Nat.reduceLeDiff, Nat.reduceEqDiff, Nat.reduceMul, Nat.reduceSub, ↓reduceIte, Int.reduceLT, Int.reduceLE, Int.reduceGT, Int.reduceGE, Nat.reduceLT, Nat.reduceGT, Int.reduceToNat, reduceCtorEq, Nat.reduceBEq, Int.reduceBEq, Int.reduceBNe, Int.reduceEq, Int.reduceNe, decide_true, decide_false, ne0, ne1, ne2, ne3, ne4, ne5])
      have es : stmtM l (d + 1) base p = stK l (stmtM l d) base 6 p1 := by simp only [stmtM]; rw [e0]; try rfl
      rw [es]
      refine v_end (id := c2) hfr (by omega) (by omega) htc (by first | rfl | simp only [stK, List.length_append, List.length_singleton]) ?_ ?_ fun j h1 h2 => ?_
      · repeat (first | exact h_same | rw [h_ne (by omega)] | rw [h_dne (by omega)])
      · rw [h_same]; simp only [stK, insC_app, insC_one]
      · repeat (first | rfl | rw [h_ne (by omega)] | rw [h_dne (by omega)])
    · have nk : ((7 : Nat) : Int) = 7 := rfl
      simp only [go_sem, Nat.reduceAdd, Nat.reduceLeDiff, Nat.reduceEqDiff, Nat.reduceMul, Nat.reduceSub, ↓reduceIte, Int.reduceLT, Int.reduceLE, Int.reduceGT, Int.reduceGE, Nat.reduceLT, Nat.reduceGT, Int.reduceToNat, reduceCtorEq, Nat.reduceBEq, Int.reduceBEq, Int.reduceBNe, Int.reduceEq, Int.reduceNe, decide_true, decide_false, hdl, nk, Int.reduceGT, Int.reduceBEq, Int.reduceLE, decide_true, decide_false, hw2, hw1]
      repeat' ((first | with_reducible refine wr ?_ | with_reducible refine i_ret ?_ | with_reducible refine i_skip ?_ | with_reducible refine i_exit ?_ | ((with_reducible refine k_cb ?_ ?_) <;> (intro hb; try simp only [hb])) | ((with_reducible refine k_gb ?_ ?_) <;> (intro hb; try simp only [hb])) | ((with_reducible refine k_gb' ?_ ?_) <;> (intro hb; try simp only [hb]))) <;> try simp only [go_sem, Nat.reduceAdd, Nat.reduceLeDiff, Nat.reduceEqDiff, Nat.reduceMul, Nat.reduceSub, ↓reduceIte, Int.reduceLT, Int.reduceLE, Int.reduceGT, Int.reduceGE, Nat.reduceLT, Nat.reduceGT, Int.reduceToNat, reduceCtorEq, Nat.reduceBEq, Int.reduceBEq, Int.reduceBNe, Int.reduceEq, Int.reduceNe, decide_true, decide_false, hdl, nk, Int.reduceGT, Int.reduceBEq, Int.reduceLE, decide_true, decide_false, hw2, hw1])
      refine AC.call (c_next l hl (p1) hp1 2 (by omega) (by omega) _ _ t (by repeat (first | exact h_same | rw [h_ne (by omega)] | rw [h_dne (by omega)])) (by omega)) ?_
      rintro v H' c2 ⟨rfl, rfl⟩ hcc2
      have hq2 := nextM_lt (l := l) (p := p1) (n := 2) (by omega)
      have hp2 := nextM_le (l := l) (p := p1) (n := 2) hp1
      have hadd := w64 (n := 23 + ((nextM l p1 2).1 : Int)) (by omega) (by omega)
      have ne0 : ¬ t = c2 := by omega
      have ne1 : ¬ t = c2 + 1 := by omega
      have ne2 : ¬ c2 = t := by omega
      have ne3 : ¬ c2 = c2 + 1 := by omega
      have ne4 : ¬ c2 + 1 = t := by omega
      have ne5 : ¬ c2 + 1 = c2 := by omega
      simp only [go_sem, Nat.reduceAdd, Nat.reduceLeDiff, Nat.reduceEqDiff, Nat.reduceMul, Nat.reduceSub, ↓reduceIte, Int.reduceLT, Int.reduceLE, Int.reduceGT, Int.reduceGE, Nat.reduceLT, Nat.reduceGT, Int.reduceToNat, reduceCtorEq, Nat.reduceBEq, Int.reduceBEq, Int.reduceBNe, Int.reduceEq, Int.reduceNe, decide_true, decide_false, hadd, ne0, ne1, ne2, ne3, ne4, ne5]
      repeat' ((first | with_reducible refine wr ?_ | with_reducible refine i_ret ?_ | with_reducible refine i_skip ?_ | with_reducible refine i_exit ?_ | ((with_reducible refine k_cb ?_ ?_) <;> (intro hb; try simp only [hb])) | ((with_reducible refine k_gb ?_ ?_) <;> (intro hb; try simp only [hb])) | ((with_reducible refine k_gb' ?_ ?_) <;> (intro hb; try simp only [hb])) | ((with_reducible refine k_eval (b_appx (insC_len2 _) (by omega) (by omega)) ?_))) <;> try simp only [go_sem, Nat.reduceAdd, Nat.reduceLeDiff, Nat.reduceEqDiff, Nat.reduceMul, Nat.reduceSub, ↓reduceIte, Int.reduceLT, Int.reduceLE, Int.reduceGT, Int.reduceGE, Nat.reduceLT, Nat.reduceGT, Int.reduceToNat, reduceCtorEq, Nat.reduceBEq, Int.reduceBEq, Int.reduceBNe, Int.reduceEq, Int.reduceNe, decide_true, decide_false, hadd, ne0, ne1, ne2, ne3, ne4, ne5])
      refine AC.call (c_next l hl ((nextM l p1 2).2) hp2 2 (by omega) (by omega) _ _ t (by repeat (first | exact h_same | rw [h_ne (by omega)] | rw [h_dne (by omega)])) (by omega)) ?_
      rintro v H' c3 ⟨rfl, rfl⟩ hcc3
      have hq3 := nextM_lt (l := l) (p := (nextM l p1 2).2) (n := 2) (by omega)
      have hp3 := nextM_le (l := l) (p := (nextM l p1 2).2) (n := 2) hp2
      have ne0 : ¬ t = c3 := by omega
      have ne1 : ¬ t = c3 + 1 := by omega
      have ne2 : ¬ c3 = t := by omega
      have ne3 : ¬ c3 = c3 + 1 := by omega
      have ne4 : ¬ c3 + 1 = t := by omega
      have ne5 : ¬ c3 + 1 = c3 := by omega
      simp only [go_sem, Nat.reduceAdd, Nat.reduceLeDiff, Nat.reduceEqDiff, Nat.reduceMul, Nat.reduceSub, ↓reduceIte, Int.reduceLT, Int.reduceLE, Int.reduceGT, Int.reduceGE, Nat.reduceLT, Nat.reduceGT, Int.reduceToNat, reduceCtorEq, Nat.reduceBEq, Int.reduceBEq, Int.reduceBNe, Int.reduceEq, Int.reduceNe, decide_true, decide_false, hadd, ne0, ne1, ne2, ne3, ne4, ne5]
      repeat' ((first | with_reducible refine wr ?_ | with_reducible refine i_ret ?_ | with_reducible refine i_skip ?_ | with_reducible refine i_exit ?_ | ((with_reducible refine k_cb ?_ ?_) <;> (intro hb; try simp only [hb])) | ((with_reducible refine k_gb ?_ ?_) <;> (intro hb; try simp only [hb])) | ((with_reducible refine k_gb' ?_ ?_) <;> (intro hb; try simp only [hb])) | ((with_reducible refine k_eval (b_appx (insC_len2 _) (by omega) (by omega)) ?_))) <;> try simp only [go_sem, Nat.reduceAdd, Nat.reduceLeDiff, Nat.reduceEqDiff, Nat.reduceMul, Nat.reduceSub, ↓reduceIte, Int.reduceLT, Int.reduceLE, Int.reduceGT, Int.reduceGE, Nat.reduceLT, Nat.reduceGT, Int.reduceToNat, reduceCtorEq, Nat.reduceBEq, Int.reduceBEq, Int.reduceBNe, Int.reduceEq, Int.reduceNe, decide_true, decide_false, hadd, ne0, ne1, ne2, ne3, ne4, ne5])
      have es : stmtM l (d + 1) base p = stK l (stmtM l d) base 7 p1 := by simp only [stmtM]; rw [e0]; try rfl
      rw [es]
      refine v_end (id := c3) hfr (by omega) (by omega) htc (by first | rfl | simp only [stK, List.length_append, List.length_singleton]) ?_ ?_ fun j h1 h2 => ?_
      · repeat (first | exact h_same | rw [h_ne (by omega)] | rw [h_dne (by omega)])
      · rw [h_same]; simp only [stK, insC_app, insC_one]
      · repeat (first | rfl | rw [h_ne (by omega)] | rw [h_dne (by omega)])
    · have nk : ((8 : Nat) : Int) = 8 := rfl
      simp only [go_sem, Nat.reduceAdd, Nat.reduceLeDiff, Nat.reduceEqDiff, Nat.reduceMul, Nat.reduceSub, ↓reduceIte, Int.reduceLT, Int.reduceLE, Int.reduceGT, Int.reduceGE, Nat.reduceLT, Nat.reduceGT, Int.reduceToNat, reduceCtorEq, Nat.reduceBEq, Int.reduceBEq, Int.reduceBNe, Int.reduceEq, Int.reduceNe, decide_true, decide_false, hdl, nk, Int.reduceGT, Int.reduceBEq, Int.reduceLE, decide_true, decide_false, hw2, hw1]
      repeat' ((first | with_reducible refine wr ?_ | with_reducible refine i_ret ?_ | with_reducible refine i_skip ?_ | with_reducible refine i_exit ?_ | ((with_reducible refine k_cb ?_ ?_) <;> (intro hb; try simp only [hb])) | ((with_reducible refine k_gb ?_ ?_) <;> (intro hb; try simp only [hb])) | ((with_reducible refine k_gb' ?_ ?_) <;> (intro hb; try simp only [hb]))) <;> try simp only [go_sem, Nat.reduceAdd, Nat.reduceLeDiff, Nat.reduceEqDiff, Nat.reduceMul, Nat.reduceSub, ↓reduceIte, Int.reduceLT, Int.reduceLE, Int.reduceGT, Int.reduceGE, Nat.reduceLT, Nat.reduceGT, Int.reduceToNat, reduceCtorEq, Nat.reduceBEq, Int.reduceBEq, Int.reduceBNe, Int.reduceEq, Int.reduceNe, decide_true, decide_false, hdl, nk, Int.reduceGT, Int.reduceBEq, Int.reduceLE, decide_true, decide_false, hw2, hw1])
      refine AC.call (c_next l hl (p1) hp1 2 (by omega) (by omega) _ _ t (by repeat (first | exact h_same | rw [h_ne (by omega)] | rw [h_dne (by omega)])) (by omega)) ?_
      rintro v H' c2 ⟨rfl, rfl⟩ hcc2
      have hq2 := nextM_lt (l := l) (p := p1) (n := 2) (by omega)
      have hp2 := nextM_le (l := l) (p := p1) (n := 2) hp1
      have ne0 : ¬ t = c2 := by omega
      have ne1 : ¬ t = c2 + 1 := by omega
      have ne2 : ¬ c2 = t := by omega
      have ne3 : ¬ c2 = c2 + 1 := by omega
      have ne4 : ¬ c2 + 1 = t := by omega
      have ne5 : ¬ c2 + 1 = c2 := by omega
      simp only [go_sem, Nat.reduceAdd, Nat.reduceLeDiff, Nat.reduceEqDiff, Nat.reduceMul, Nat.reduceSub, ↓reduceIte, Int.reduceLT, Int.reduceLE, Int.reduceGT, Int.reduceGE, Nat.reduceLT, Nat.reduceGT, Int.reduceToNat, reduceCtorEq, Nat.reduceBEq, Int.reduceBEq, Int.reduceBNe, Int.reduceEq, Int.reduceNe, decide_true, decide_false, ne0, ne1, ne2, ne3, ne4, ne5]
      repeat' ((first | with_reducible refine wr ?_ | with_reducible refine i_ret ?_ | with_reducible refine i_skip ?_ | with_reducible refine i_exit ?_ | ((with_reducible refine k_cb ?_ ?_) <;> (intro hb; try simp only [hb])) | ((with_reducible refine k_gb ?_ ?_) <;> (intro hb; try simp only [hb])) | ((with_reducible refine k_gb' ?_ ?_) <;> (intro hb; try simp only [hb])) | ((with_reducible refine k_eval (b_appx (insC_len2 _) (by omega) (by omega)) ?_))) <;> try simp only [go_sem, Nat.reduceAdd, Nat.reduceLeDiff, Nat.reduceEqDiff, Nat.reduceMul, Nat.reduceSub, ↓reduceIte, Int.reduceLT, Int.reduceLE, Int.reduceGT, Int.reduceGE, Nat.reduceLT, Nat.reduceGT, Int.reduceToNat, reduceCtorEq, Nat.reduceBEq, Int.reduceBEq, Int.reduceBNe, Int.reduceEq, Int.reduceNe, decide_true, decide_false, ne0, ne1, ne2, ne3, ne4, ne5])
      have es : stmtM l (d + 1) base p = stK l (stmtM l d) base 8 p1 := by simp only [stmtM]; rw [e0]; try rfl
      rw [es]
      refine v_end (id := c2) hfr (by omega) (by omega) htc (by first | rfl | simp only [stK, List.length_append, List.length_singleton]) ?_ ?_ fun j h1 h2 => ?_
      · repeat (first | exact h_same | rw [h_ne (by omega)] | rw [h_dne (by omega)])
      · rw [h_same]; simp only [stK, insC_app, insC_one]
      · repeat (first | rfl | rw [h_ne (by omega)] | rw [h_dne (by omega)])
    · have nk : ((9 : Nat) : Int) = 9 := rfl
      simp only [go_sem, Nat.reduceAdd, Nat.reduceLeDiff, Nat.reduceEqDiff, Nat.reduceMul, Nat.reduceSub, ↓reduceIte, Int.reduceLT, Int.reduceLE, Int.reduceGT, Int.reduceGE, Nat.reduceLT, Nat.reduceGT, Int.reduceToNat, reduceCtorEq, Nat.reduceBEq, Int.reduceBEq, Int.reduceBNe, Int.reduceEq, Int.reduceNe, decide_true, decide_false, hdl, nk, Int.reduceGT, Int.reduceBEq, Int.reduceLE, decide_true, decide_false, hw2, hw1]
      repeat' ((first | with_reducible refine wr ?_ | with_reducible refine i_ret ?_ | with_reducible refine i_skip ?_ | with_reducible refine i_exit ?_ | ((with_reducible refine k_cb ?_ ?_) <;> (intro hb; try simp only [hb])) | ((with_reducible refine k_gb ?_ ?_) <;> (intro hb; try simp only [hb])) | ((with_reducible refine k_gb' ?_ ?_) <;> (intro hb; try simp only [hb]))) <;> try simp only [go_sem, Nat.reduceAdd, Nat.reduceLeDiff, Nat.reduceEqDiff, Nat.reduceMul, Nat.reduceSub, ↓reduceIte, Int.reduceLT, Int.reduceLE, Int.reduceGT, Int.reduceGE, Nat.reduceLT, Nat.reduceGT, Int.reduceToNat, reduceCtorEq, Nat.reduceBEq, Int.reduceBEq, Int.reduceBNe, Int.reduceEq, Int.reduceNe, decide_true, decide_false, hdl, nk, Int.reduceGT, Int.reduceBEq, Int.reduceLE, decide_true, decide_false, hw2, hw1])
      refine AC.call (c_next l hl (p1) hp1 3 (by omega) (by omega) _ _ t (by repeat (first | exact h_same | rw [h_ne (by omega)] | rw [h_dne (by omega)])) (by omega)) ?_
      rintro v H' c2 ⟨rfl, rfl⟩ hcc2
      have hq2 := nextM_lt (l := l) (p := p1) (n := 3) (by omega)
      have hp2 := nextM_le (l := l) (p := p1) (n := 3) hp1
      have hadd := w64 (n := 26 + ((nextM l p1 3).1 : Int)) (by omega) (by omega)
      have ne0 : ¬ t = c2 := by omega
      have ne1 : ¬ t = c2 + 1 := by omega
      have ne2 : ¬ c2 = t := by omega
      have ne3 : ¬ c2 = c2 + 1 := by omega
      have ne4 : ¬ c2 + 1 = t := by omega
      have ne5 : ¬ c2 + 1 = c2 := by omega
      simp only [go_sem, Nat.reduceAdd, Nat.reduceLeDiff, Nat.reduceEqDiff, Nat.reduceMul, Nat.reduceSub, ↓reduceIte, Int.reduceLT, Int.reduceLE, Int.reduceGT, Int.reduceGE, Nat.reduceLT, Nat.reduceGT, Int.reduceToNat, reduceCtorEq, Nat.reduceBEq, Int.reduceBEq, Int.reduceBNe, Int.reduceEq, Int.reduceNe, decide_true, decide_false, hadd, ne0, ne1, ne2, ne3, ne4, ne5]
      repeat' ((first | with_reducible refine wr ?_ | with_reducible refine i_ret ?_ | with_reducible refine i_skip ?_ | with_reducible refine i_exit ?_ | ((with_reducible refine k_cb ?_ ?_) <;> (intro hb; try simp only [hb])) | ((with_reducible refine k_gb ?_ ?_) <;> (intro hb; try simp only [hb])) | ((with_reducible refine k_gb' ?_ ?_) <;> (intro hb; try simp only [hb])) | ((with_reducible refine k_eval (b_appx (insC_len2 _) (by omega) (by omega)) ?_))) <;> try simp only [go_sem, Nat.reduceAdd, Nat.reduceLeDiff, Nat.reduceEqDiff, Nat.reduceMul, Nat.reduceSub, ↓reduceIte, Int.reduceLT, Int.reduceLE, Int.reduceGT, Int.reduceGE, Nat.reduceLT, Nat.reduceGT, Int.reduceToNat, reduceCtorEq, Nat.reduceBEq, Int.reduceBEq, Int.reduceBNe, Int.reduceEq, Int.reduceNe, decide_true, decide_false, hadd, ne0, ne1, ne2, ne3, ne4, ne5])
      refine AC.call (c_next l hl ((nextM l p1 3).2) hp2 64 (by omega) (by omega) _ _ t (by repeat (first | exact h_same | rw [h_ne (by omega)] | rw [h_dne (by omega)])) (by omega)) ?_
      rintro v H' c3 ⟨rfl, rfl⟩ hcc3
      have hq3 := nextM_lt (l := l) (p := (nextM l p1 3).2) (n := 64) (by omega)
      have hp3 := nextM_le (l := l) (p := (nextM l p1 3).2) (n := 64) hp2
      have ne0 : ¬ t = c3 := by omega
      have ne1 : ¬ t = c3 + 1 := by omega
      have ne2 : ¬ c3 = t := by omega
      have ne3 : ¬ c3 = c3 + 1 := by omega
      have ne4 : ¬ c3 + 1 = t := by omega
      have ne5 : ¬ c3 + 1 = c3 := by omega
      simp only [go_sem, Nat.reduceAdd, Nat.reduceLeDiff, Nat.reduceEqDiff, Nat.reduceMul, Nat.reduceSub, ↓reduceIte, Int.reduceLT, Int.reduceLE, Int.reduceGT, Int.reduceGE, Nat.reduceLT, Nat.reduceGT, Int.reduceToNat, reduceCtorEq, Nat.reduceBEq, Int.reduceBEq, Int.reduceBNe, Int.reduceEq, Int.reduceNe, decide_true, decide_false, hadd, ne0, ne1, ne2, ne3, ne4, ne5]
      repeat' ((first | with_reducible refine wr ?_ | with_reducible refine i_ret ?_ | with_reducible refine i_skip ?_ | with_reducible refine i_exit ?_ | ((with_reducible refine k_cb ?_ ?_) <;> (intro hb; try simp only [hb])) | ((with_reducible refine k_gb ?_ ?_) <;> (intro hb; try simp only [hb])) | ((with_reducible refine k_gb' ?_ ?_) <;> (intro hb; try simp only [hb])) | ((with_reducible refine k_eval (b_appx (insC_len2 _) (by omega) (by omega)) ?_))) <;> try simp only [go_sem, Nat.reduceAdd, Nat.reduceLeDiff, Nat.reduceEqDiff, Nat.reduceMul, Nat.reduceSub, ↓reduceIte, Int.reduceLT, Int.reduceLE, Int.reduceGT, Int.reduceGE, Nat.reduceLT, Nat.reduceGT, Int.reduceToNat, reduceCtorEq, Nat.reduceBEq, Int.reduceBEq, Int.reduceBNe, Int.reduceEq, Int.reduceNe, decide_true, decide_false, hadd, ne0, ne1, ne2, ne3, ne4, ne5])
      have es : stmtM l (d + 1) base p = stK l (stmtM l d) base 9 p1 := by simp only [stmtM]; rw [e0]; try rfl
      rw [es]
      refine v_end (id := c3) hfr (by omega) (by omega) htc (by first | rfl | simp only [stK, List.length_append, List.length_singleton]) ?_ ?_ fun j h1 h2 => ?_
      · repeat (first | exact h_same | rw [h_ne (by omega)] | rw [h_dne (by omega)])
      · rw [h_same]; simp only [stK, insC_app, insC_one]
      · repeat (first | rfl | rw [h_ne (by omega)] | rw [h_dne (by omega)])
    · have nk : ((10 : Nat) : Int) = 10 := rfl
      simp only [go_sem, Nat.reduceAdd, Nat.reduceLeDiff, Nat.reduceEqDiff, Nat.reduceMul, Nat.reduceSub, ↓reduceIte, Int.reduceLT, Int.reduceLE, Int.reduceGT, Int.reduceGE, Nat.reduceLT, Nat.reduceGT, Int.reduceToNat, reduceCtorEq, Nat.reduceBEq, Int.reduceBEq, Int.reduceBNe, Int.reduceEq, Int.reduceNe, decide_true, decide_false, hdl, nk, Int.reduceGT, Int.reduceBEq, Int.reduceLE, decide_true, decide_false, hw2, hw1]
      repeat' ((first | with_reducible refine wr ?_ | with_reducible refine i_ret ?_ | with_reducible refine i_skip ?_ | with_reducible refine i_exit ?_ | ((with_reducible refine k_cb ?_ ?_) <;> (intro hb; try simp only [hb])) | ((with_reducible refine k_gb ?_ ?_) <;> (intro hb; try simp only [hb])) | ((with_reducible refine k_gb' ?_ ?_) <;> (intro hb; try simp only [hb]))) <;> try simp only [go_sem, Nat.reduceAdd, Nat.reduceLeDiff, Nat.reduceEqDiff, Nat.reduceMul, Nat.reduceSub, ↓reduceIte, Int.reduceLT, Int.reduceLE, Int.reduceGT, Int.reduceGE, Nat.reduceLT, Nat.reduceGT, Int.reduceToNat, reduceCtorEq, Nat.reduceBEq, Int.reduceBEq, Int.reduceBNe, Int.reduceEq, Int.reduceNe, decide_true, decide_false, hdl, nk, Int.reduceGT, Int.reduceBEq, Int.reduceLE, decide_true, decide_false, hw2, hw1])
      refine AC.call (c_value l hl 1 (by omega) (p1) hp1 _ _ t (by repeat (first | exact h_same | rw [h_ne (by omega)] | rw [h_dne (by omega)])) (by omega)) ?_
      rintro v H' c2 ⟨id1, ia1, ib1, rfl, rfl⟩ hcc2
      have hb1 := valueM_l1 l (p1)
      have hp2 := valueM_le l 1 (p1) hp1
      have ne0 : ¬ t = id1 := by omega
      have ne1 : ¬ t = c2 := by omega
      have ne2 : ¬ t = c2 + 1 := by omega
      have ne3 : ¬ id1 = t := by omega
      have ne4 : ¬ id1 = c2 := by omega
      have ne5 : ¬ id1 = c2 + 1 := by omega
      have ne6 : ¬ c2 = t := by omega
      have ne7 : ¬ c2 = id1 := by omega
      have ne8 : ¬ c2 = c2 + 1 := by omega
      have ne9 : ¬ c2 + 1 = t := by omega
      have ne10 : ¬ c2 + 1 = id1 := by omega
      have ne11 : ¬ c2 + 1 = c2 := by omega
      simp only [go_sem, Nat.reduceAdd, Nat.reduceLeDiff, Nat.reduceEqDiff, Nat.reduceMul, Nat.reduceSub, ↓reduceIte, Int.reduceLT, Int.reduceLE, Int.reduceGT, Int.reduceGE, Nat.reduceLT, Nat.reduceGT, Int.reduceToNat, reduceCtorEq, Nat.reduceBEq, Int.reduceBEq, Int.reduceBNe, Int.reduceEq, Int.reduceNe, decide_true, decide_false, ne0, ne1, ne2, ne3, ne4, ne5, ne6, ne7, ne8, ne9, ne10, ne11]
      repeat' ((first | with_reducible refine wr ?_ | with_reducible refine i_ret ?_ | with_reducible refine i_skip ?_ | with_reducible refine i_exit ?_ | ((with_reducible refine k_cb ?_ ?_) <;> (intro hb; try simp only [hb])) | ((with_reducible refine k_gb ?_ ?_) <;> (intro hb; try simp only [hb])) | ((with_reducible refine k_gb' ?_ ?_) <;> (intro hb; try simp only [hb])) | ((with_reducible refine k_eval (b_appx (insC_len2 _) (by omega) (by omega)) ?_))) <;> try simp only [go_sem, Nat.reduceAdd, Nat.reduceLeDiff, Nat.reduceEqDiff, Nat.reduceMul, Nat.reduceSub, ↓reduceIte, Int.reduceLT, Int.reduceLE, Int.reduceGT, Int.reduceGE, Nat.reduceLT, Nat.reduceGT, Int.reduceToNat, reduceCtorEq, Nat.reduceBEq, Int.reduceBEq, Int.reduceBNe, Int.reduceEq, Int.reduceNe, decide_true, decide_false, ne0, ne1, ne2, ne3, ne4, ne5, ne6, ne7, ne8, ne9, ne10, ne11])
      refine AC.call (c_next l hl ((valueM l 1 p1).2) hp2 2 (by omega) (by omega) _ _ t (by repeat (first | exact h_same | rw [h_ne (by omega)] | rw [h_dne (by omega)])) (by omega)) ?_
      rintro v H' c3 ⟨rfl, rfl⟩ hcc3
      have hq3 := nextM_lt (l := l) (p := (valueM l 1 p1).2) (n := 2) (by omega)
      have hp3 := nextM_le (l := l) (p := (valueM l 1 p1).2) (n := 2) hp2
      have ne0 : ¬ t = id1 := by omega
      have ne1 : ¬ t = c3 := by omega
      have ne2 : ¬ t = c3 + 1 := by omega
      have ne3 : ¬ id1 = t := by omega
      have ne4 : ¬ id1 = c3 := by omega
      have ne5 : ¬ id1 = c3 + 1 := by omega
      have ne6 : ¬ c3 = t := by omega
      have ne7 : ¬ c3 = id1 := by omega
      have ne8 : ¬ c3 = c3 + 1 := by omega
      have ne9 : ¬ c3 + 1 = t := by omega
      have ne10 : ¬ c3 + 1 = id1 := by omega
      have ne11 : ¬ c3 + 1 = c3 := by omega
      simp only [go_sem, Nat.reduceAdd, Nat.reduceLeDiff, Nat.reduceEqDiff, Nat.reduceMul, Nat.reduceSub, ↓reduceIte, Int.reduceLT, Int.reduceLE, Int.reduceGT, Int.reduceGE, Nat.reduceLT, Nat.reduceGT, Int.reduceToNat, reduceCtorEq, Nat.reduceBEq, Int.reduceBEq, Int.reduceBNe, Int.reduceEq, Int.reduceNe, decide_true, decide_false, ne0, ne1, ne2, ne3, ne4, ne5, ne6, ne7, ne8, ne9, ne10, ne11]
      repeat' ((first | with_reducible refine wr ?_ | with_reducible refine i_ret ?_ | with_reducible refine i_skip ?_ | with_reducible refine i_exit ?_ | ((with_reducible refine k_cb ?_ ?_) <;> (intro hb; try simp only [hb])) | ((with_reducible refine k_gb ?_ ?_) <;> (intro hb; try simp only [hb])) | ((with_reducible refine k_gb' ?_ ?_) <;> (intro hb; try simp only [hb])) | ((with_reducible refine k_eval (b_appx (insC_len2 _) (by omega) (by omega)) ?_))) <;> try simp only [go_sem, Nat.reduceAdd, Nat.reduceLeDiff, Nat.reduceEqDiff, Nat.reduceMul, Nat.reduceSub, ↓reduceIte, Int.reduceLT, Int.reduceLE, Int.reduceGT, Int.reduceGE, Nat.reduceLT, Nat.reduceGT, Int.reduceToNat, reduceCtorEq, Nat.reduceBEq, Int.reduceBEq, Int.reduceBNe, Int.reduceEq, Int.reduceNe, decide_true, decide_false, ne0, ne1, ne2, ne3, ne4, ne5, ne6, ne7, ne8, ne9, ne10, ne11])
      have es : stmtM l (d + 1) base p = stK l (stmtM l d) base 10 p1 := by simp only [stmtM]; rw [e0]; try rfl
      rw [es]
      refine v_end (id := c3 + 1) hfr (by omega) (by omega) htc (by first | rfl | simp only [stK, List.length_append, List.length_singleton]) ?_ ?_ fun j h1 h2 => ?_
      · repeat (first | exact h_same | rw [h_ne (by omega)] | rw [h_dne (by omega)])
      · rw [h_same]; simp only [stK, insC_app, insC_one]
      · repeat (first | rfl | rw [h_ne (by omega)] | rw [h_dne (by omega)])
    · have nk : ((11 : Nat) : Int) = 11 := rfl
      simp only [go_sem, Nat.reduceAdd, Nat.reduceLeDiff, Nat.reduceEqDiff, Nat.reduceMul, Nat.reduceSub, ↓reduceIte, Int.reduceLT, Int.reduceLE, Int.reduceGT, Int.reduceGE, Nat.reduceLT, Nat.reduceGT, Int.reduceToNat, reduceCtorEq, Nat.reduceBEq, Int.reduceBEq, Int.reduceBNe, Int.reduceEq, Int.reduceNe, decide_true, decide_false, hdl, nk, Int.reduceGT, Int.reduceBEq, Int.reduceLE, decide_true, decide_false, hw2, hw1]
      repeat' ((first | with_reducible refine wr ?_ | with_reducible refine i_ret ?_ | with_reducible refine i_skip ?_ | with_reducible refine i_exit ?_ | ((with_reducible refine k_cb ?_ ?_) <;> (intro hb; try simp only [hb])) | ((with_reducible refine k_gb ?_ ?_) <;> (intro hb; try simp only [hb])) | ((with_reducible refine k_gb' ?_ ?_) <;> (intro hb; try simp only [hb]))) <;> try simp only [go_sem, Nat.reduceAdd, Nat.reduceLeDiff, Nat.reduceEqDiff, Nat.reduceMul, Nat.reduceSub, ↓reduceIte, Int.reduceLT, Int.reduceLE, Int.reduceGT, Int.reduceGE, Nat.reduceLT, Nat.reduceGT, Int.reduceToNat, reduceCtorEq, Nat.reduceBEq, Int.reduceBEq, Int.reduceBNe, Int.reduceEq, Int.reduceNe, decide_true, decide_false, hdl, nk, Int.reduceGT, Int.reduceBEq, Int.reduceLE, decide_true, decide_false, hw2, hw1])
      have es : stmtM l (d + 1) base p = stK l (stmtM l d) base 11 p1 := by simp only [stmtM]; rw [e0]; try rfl
      rw [es]
      refine v_end (id := c1) hfr (by omega) (by omega) htc (by first | rfl | simp only [stK, List.length_append, List.length_singleton]) ?_ ?_ fun j h1 h2 => ?_
      · repeat (first | exact h_same | rw [h_ne (by omega)] | rw [h_dne (by omega)])
      · rw [h_same]; simp only [stK, insC_app, insC_one]
      · repeat (first | rfl | rw [h_ne (by omega)] | rw [h_dne (by omega)])
    · have nk : ((0 : Nat) : Int) = 0 := rfl
      simp only [go_sem, Nat.reduceAdd, Nat.reduceLeDiff, Nat.reduceEqDiff, Nat.reduceMul, Nat.reduceSub, ↓reduceIte, Int.reduceLT, Int.reduceLE, Int.reduceGT, Int.reduceGE, Nat.reduceLT, Nat.reduceGT, Int.reduceToNat, reduceCtorEq, Nat.reduceBEq, Int.reduceBEq, Int.reduceBNe, Int.reduceEq, Int.reduceNe, decide_true, decide_false, hdl, nk, Int.reduceGT, Int.reduceBEq, Int.reduceLE, decide_true, decide_false, hw2, hw1]
      repeat' ((first | with_reducible refine wr ?_ | with_reducible refine i_ret ?_ | with_reducible refine i_skip ?_ | with_reducible refine i_exit ?_ | ((with_reducible refine k_cb ?_ ?_) <;> (intro hb; try simp only [hb])) | ((with_reducible refine k_gb ?_ ?_) <;> (intro hb; try simp only [hb])) | ((with_reducible refine k_gb' ?_ ?_) <;> (intro hb; try simp only [hb]))) <;> try simp only [go_sem, Nat.reduceAdd, Nat.reduceLeDiff, Nat.reduceEqDiff, Nat.reduceMul, Nat.reduceSub, ↓reduceIte, Int.reduceLT, Int.reduceLE, Int.reduceGT, Int.reduceGE, Nat.reduceLT, Nat.reduceGT, Int.reduceToNat, reduceCtorEq, Nat.reduceBEq, Int.reduceBEq, Int.reduceBNe, Int.reduceEq, Int.reduceNe, decide_true, decide_false, hdl, nk, Int.reduceGT, Int.reduceBEq, Int.reduceLE, decide_true, decide_false, hw2, hw1])
      refine AC.call (c_value l hl 2 (by omega) (p1) hp1 _ _ t (by repeat (first | exact h_same | rw [h_ne (by omega)] | rw [h_dne (by omega)])) (by omega)) ?_
      rintro v H' c2 ⟨id1, ia1, ib1, rfl, rfl⟩ hcc2
      have hb1 := valueM_l2 l (p1)
      have hp2 := valueM_le l 2 (p1) hp1
      have ne0 : ¬ t = id1 := by omega
      have ne1 : ¬ t = c2 := by omega
      have ne2 : ¬ t = c2 + 1 := by omega
      have ne3 : ¬ id1 = t := by omega
      have ne4 : ¬ id1 = c2 := by omega
      have ne5 : ¬ id1 = c2 + 1 := by omega
      have ne6 : ¬ c2 = t := by omega
      have ne7 : ¬ c2 = id1 := by omega
      have ne8 : ¬ c2 = c2 + 1 := by omega
      have ne9 : ¬ c2 + 1 = t := by omega
      have ne10 : ¬ c2 + 1 = id1 := by omega
      have ne11 : ¬ c2 + 1 = c2 := by omega
      simp only [go_sem, Nat.reduceAdd, Nat.reduceLeDiff, Nat.reduceEqDiff, Nat.reduceMul, Nat.reduceSub, ↓reduceIte, Int.reduceLT, Int.reduceLE, Int.reduceGT, Int.reduceGE, Nat.reduceLT, Nat.reduceGT, Int.reduceToNat, reduceCtorEq, Nat.reduceBEq, Int.reduceBEq, Int.reduceBNe, Int.reduceEq, Int.reduceNe, decide_true, decide_false, ne0, ne1, ne2, ne3, ne4, ne5, ne6, ne7, ne8, ne9, ne10, ne11]
      repeat' ((first | with_reducible refine wr ?_ | with_reducible refine i_ret ?_ | with_reducible refine i_skip ?_ | with_reducible refine i_exit ?_ | ((with_reducible refine k_cb ?_ ?_) <;> (intro hb; try simp only [hb])) | ((with_reducible refine k_gb ?_ ?_) <;> (intro hb; try simp only [hb])) | ((with_reducible refine k_gb' ?_ ?_) <;> (intro hb; try simp only [hb])) | ((with_reducible refine k_eval (b_appx (insC_len2 _) (by omega) (by omega)) ?_))) <;> try simp only [go_sem, Nat.reduceAdd, Nat.reduceLeDiff, Nat.reduceEqDiff, Nat.reduceMul, Nat.reduceSub, ↓reduceIte, Int.reduceLT, Int.reduceLE, Int.reduceGT, Int.reduceGE, Nat.reduceLT, Nat.reduceGT, Int.reduceToNat, reduceCtorEq, Nat.reduceBEq, Int.reduceBEq, Int.reduceBNe, Int.reduceEq, Int.reduceNe, decide_true, decide_false, ne0, ne1, ne2, ne3, ne4, ne5, ne6, ne7, ne8, ne9, ne10, ne11])
      refine AC.call (c_next l hl ((valueM l 2 p1).2) hp2 3 (by omega) (by omega) _ _ t (by repeat (first | exact h_same | rw [h_ne (by omega)] | rw [h_dne (by omega)])) (by omega)) ?_
      rintro v H' c3 ⟨rfl, rfl⟩ hcc3
      have hq3 := nextM_lt (l := l) (p := (valueM l 2 p1).2) (n := 3) (by omega)
      have hp3 := nextM_le (l := l) (p := (valueM l 2 p1).2) (n := 3) hp2
      have ne0 : ¬ t = id1 := by omega
      have ne1 : ¬ t = c3 := by omega
      have ne2 : ¬ t = c3 + 1 := by omega
      have ne3 : ¬ id1 = t := by omega
      have ne4 : ¬ id1 = c3 := by omega
      have ne5 : ¬ id1 = c3 + 1 := by omega
      have ne6 : ¬ c3 = t := by omega
      have ne7 : ¬ c3 = id1 := by omega
      have ne8 : ¬ c3 = c3 + 1 := by omega
      have ne9 : ¬ c3 + 1 = t := by omega
      have ne10 : ¬ c3 + 1 = id1 := by omega
      have ne11 : ¬ c3 + 1 = c3 := by omega
      simp only [go_sem, Nat.reduceAdd, Nat.reduceLeDiff, Nat.reduceEqDiff, Nat.reduceMul, Nat.reduceSub, ↓reduceIte, Int.reduceLT, Int.reduceLE, Int.reduceGT, Int.reduceGE, Nat.reduceLT, Nat.reduceGT, Int.reduceToNat, reduceCtorEq, Nat.reduceBEq, Int.reduceBEq, Int.reduceBNe, Int.reduceEq, Int.reduceNe, decide_true, decide_false, ne0, ne1, ne2, ne3, ne4, ne5, ne6, ne7, ne8, ne9, ne10, ne11]
      repeat' ((first | with_reducible refine wr ?_ | with_reducible refine i_ret ?_ | with_reducible refine i_skip ?_ | with_reducible refine i_exit ?_ | ((with_reducible refine k_cb ?_ ?_) <;> (intro hb; try simp only [hb])) | ((with_reducible refine k_gb ?_ ?_) <;> (intro hb; try simp only [hb])) | ((with_reducible refine k_gb' ?_ ?_) <;> (intro hb; try simp only [hb])) | ((with_reducible refine k_eval (b_appx (insC_len2 _) (by omega) (by omega)) ?_))) <;> try simp only [go_sem, Nat.reduceAdd, Nat.reduceLeDiff, Nat.reduceEqDiff, Nat.reduceMul, Nat.reduceSub, ↓reduceIte, Int.reduceLT, Int.reduceLE, Int.reduceGT, Int.reduceGE, Nat.reduceLT, Nat.reduceGT, Int.reduceToNat, reduceCtorEq, Nat.reduceBEq, Int.reduceBEq, Int.reduceBNe, Int.reduceEq, Int.reduceNe, decide_true, decide_false, ne0, ne1, ne2, ne3, ne4, ne5, ne6, ne7, ne8, ne9, ne10, ne11])
      have es : stmtM l (d + 1) base p = stK l (stmtM l d) base 0 p1 := by simp only [stmtM]; rw [e0]; try rfl
      rw [es]
      refine v_end (id := c3 + 1) hfr (by omega) (by omega) htc (by first | rfl | simp only [stK, List.length_append, List.length_singleton]) ?_ ?_ fun j h1 h2 => ?_
      · repeat (first | exact h_same | rw [h_ne (by omega)] | rw [h_dne (by omega)])
      · rw [h_same]; simp only [stK, insC_app, insC_one]
      · repeat (first | rfl | rw [h_ne (by omega)] | rw [h_dne (by omega)])
    · have nk : ((12 : Nat) : Int) = 12 := rfl
      simp only [go_sem, Nat.reduceAdd, Nat.reduceLeDiff, Nat.reduceEqDiff, Nat.reduceMul, Nat.reduceSub, ↓reduceIte, Int.reduceLT, Int.reduceLE, Int.reduceGT, Int.reduceGE, Nat.reduceLT, Nat.reduceGT, Int.reduceToNat, reduceCtorEq, Nat.reduceBEq, Int.reduceBEq, Int.reduceBNe, Int.reduceEq, Int.reduceNe, decide_true, decide_false, hdl, nk, Int.reduceGT, Int.reduceBEq, Int.reduceLE, decide_true, decide_false, hw2, hw1]
      repeat' ((first | with_reducible refine wr ?_ | with_reducible refine i_ret ?_ | with_reducible refine i_skip ?_ | with_reducible refine i_exit ?_ | ((with_reducible refine k_cb ?_ ?_) <;> (intro hb; try simp only [hb])) | ((with_reducible refine k_gb ?_ ?_) <;> (intro hb; try simp only [hb])) | ((with_reducible refine k_gb' ?_ ?_) <;> (intro hb; try simp only [hb]))) <;> try simp only [go_sem, Nat.reduceAdd, Nat.reduceLeDiff, Nat.reduceEqDiff, Nat.reduceMul, Nat.reduceSub, ↓reduceIte, Int.reduceLT, Int.reduceLE, Int.reduceGT, Int.reduceGE, Nat.reduceLT, Nat.reduceGT, Int.reduceToNat, reduceCtorEq, Nat.reduceBEq, Int.reduceBEq, Int.reduceBNe, Int.reduceEq, Int.reduceNe, decide_true, decide_false, hdl, nk, Int.reduceGT, Int.reduceBEq, Int.reduceLE, decide_true, decide_false, hw2, hw1])
      refine AC.call (c_value l hl 1 (by omega) (p1) hp1 _ _ t (by repeat (first | exact h_same | rw [h_ne (by omega)] | rw [h_dne (by omega)])) (by omega)) ?_
      rintro v H' c2 ⟨id1, ia1, ib1, rfl, rfl⟩ hcc2
      have hb1 := valueM_l1 l (p1)
      have hp2 := valueM_le l 1 (p1) hp1
      have hs1 := w_sum (a := base) (b := (valueM l 1 p1).1.length) (by omega)
      have hs2 := w_sum (a := base + (valueM l 1 p1).1.length) (b := 1) (by omega)
      have one : ((1 : Nat) : Int) = 1 := rfl
      rw [one] at hs2
      have ne0 : ¬ t = id1 := by omega
      have ne1 : ¬ t = c2 := by omega
      have ne2 : ¬ t = c2 + 1 := by omega
      have ne3 : ¬ id1 = t := by omega
      have ne4 : ¬ id1 = c2 := by omega
      have ne5 : ¬ id1 = c2 + 1 := by omega
      have ne6 : ¬ c2 = t := by omega
      have ne7 : ¬ c2 = id1 := by omega
      have ne8 : ¬ c2 = c2 + 1 := by omega
      have ne9 : ¬ c2 + 1 = t := by omega
      have ne10 : ¬ c2 + 1 = id1 := by omega
      have ne11 : ¬ c2 + 1 = c2 := by omega
      simp only [go_sem, Nat.reduceAdd, Nat.reduceLeDiff, Nat.reduceEqDiff, Nat.reduceMul, Nat.reduceSub, ↓reduceIte, Int.reduceLT, Int.reduceLE, Int.reduceGT, Int.reduceGE, Nat.reduceLT, Nat.reduceGT, Int.reduceToNat, reduceCtorEq, Nat.reduceBEq, Int.reduceBEq, Int.reduceBNe, Int.reduceEq, Int.reduceNe, decide_true, decide_false, hs1, hs2, hw2, hw1, ne0, ne1, ne2, ne3, ne4, ne5, ne6, ne7, ne8, ne9, ne10, ne11]
      repeat' ((first | with_reducible refine wr ?_ | with_reducible refine i_ret ?_ | with_reducible refine i_skip ?_ | with_reducible refine i_exit ?_ | ((with_reducible refine k_cb ?_ ?_) <;> (intro hb; try simp only [hb])) | ((with_reducible refine k_gb ?_ ?_) <;> (intro hb; try simp only [hb])) | ((with_reducible refine k_gb' ?_ ?_) <;> (intro hb; try simp only [hb])) | ((with_reducible refine k_eval (b_appx (insC_len2 _) (by omega) (by omega)) ?_))) <;> try simp only [go_sem, Nat.reduceAdd, Nat.reduceLeDiff, Nat.reduceEqDiff, Nat.reduceMul, Nat.reduceSub, ↓reduceIte, Int.reduceLT, Int.reduceLE, Int.reduceGT, Int.reduceGE, Nat.reduceLT, Nat.reduceGT, Int.reduceToNat, reduceCtorEq, Nat.reduceBEq, Int.reduceBEq, Int.reduceBNe, Int.reduceEq, Int.reduceNe, decide_true, decide_false, hs1, hs2, hw2, hw1, ne0, ne1, ne2, ne3, ne4, ne5, ne6, ne7, ne8, ne9, ne10, ne11])
      refine AC.call (ih (by omega) (base + (valueM l 1 p1).1.length + 1) ((valueM l 1 p1).2) (by omega) hp2 _ _ t (by repeat (first | exact h_same | rw [h_ne (by omega)] | rw [h_dne (by omega)])) (by omega)) ?_
      rintro v H' c3 ⟨id2, ia2, ib2, rfl, rfl⟩ hcc3
      have hb2 := stmtM_len l d (base + (valueM l 1 p1).1.length + 1) ((valueM l 1 p1).2)
      have hs3 := w_sum (a := base + (valueM l 1 p1).1.length + 1) (b := (stmtM l d (base + (valueM l 1 p1).1.length + 1) (valueM l 1 p1).2).1.length) (by omega)
      have hl2 := insC_len2 (stmtM l d (base + (valueM l 1 p1).1.length + 1) (valueM l 1 p1).2).1
      have hle2 : (stmtM l d (base + (valueM l 1 p1).1.length + 1) (valueM l 1 p1).2).1.length * 2 ≤ (insC (stmtM l d (base + (valueM l 1 p1).1.length + 1) (valueM l 1 p1).2).1).length := by omega
      have htk := List.take_of_length_le (l := insC (stmtM l d (base + (valueM l 1 p1).1.length + 1) (valueM l 1 p1).2).1) (i := (stmtM l d (base + (valueM l 1 p1).1.length + 1) (valueM l 1 p1).2).1.length * 2) (by omega)
      have hl3 := fun x y => insL1 (valueM l 1 p1).1 x y
      have hl4 := fun x y => insL3 (valueM l 1 p1).1 (stmtM l d (base + (valueM l 1 p1).1.length + 1) (valueM l 1 p1).2).1 x y
      have ne0 : ¬ t = id1 := by omega
      have ne1 : ¬ t = id2 := by omega
      have ne2 : ¬ t = c3 := by omega
      have ne3 : ¬ t = c3 + 1 := by omega
      have ne4 : ¬ t = c3 + 2 := by omega
      have ne5 : ¬ id1 = t := by omega
      have ne6 : ¬ id1 = id2 := by omega
      have ne7 : ¬ id1 = c3 := by omega
      have ne8 : ¬ id1 = c3 + 1 := by omega
      have ne9 : ¬ id1 = c3 + 2 := by omega
      have ne10 : ¬ id2 = t := by omega
      have ne11 : ¬ id2 = id1 := by omega
      have ne12 : ¬ id2 = c3 := by omega
      have ne13 : ¬ id2 = c3 + 1 := by omega
      have ne14 : ¬ id2 = c3 + 2 := by omega
      have ne15 : ¬ c3 = t := by omega
      have ne16 : ¬ c3 = id1 := by omega
      have ne17 : ¬ c3 = id2 := by omega
      have ne18 : ¬ c3 = c3 + 1 := by omega
      have ne19 : ¬ c3 = c3 + 2 := by omega
      have ne20 : ¬ c3 + 1 = t := by omega
      have ne21 : ¬ c3 + 1 = id1 := by omega
      have ne22 : ¬ c3 + 1 = id2 := by omega
      have ne23 : ¬ c3 + 1 = c3 := by omega
      have ne24 : ¬ c3 + 1 = c3 + 2 := by omega
      have ne25 : ¬ c3 + 2 = t := by omega
      have ne26 : ¬ c3 + 2 = id1 := by omega
      have ne27 : ¬ c3 + 2 = id2 := by omega
      have ne28 : ¬ c3 + 2 = c3 := by omega
      have ne29 : ¬ c3 + 2 = c3 + 1 := by omega
      simp only [go_sem, Nat.reduceAdd, Nat.reduceLeDiff, Nat.reduceEqDiff, Nat.reduceMul, Nat.reduceSub, ↓reduceIte, Int.reduceLT, Int.reduceLE, Int.reduceGT, Int.reduceGE, Nat.reduceLT, Nat.reduceGT, Int.reduceToNat, reduceCtorEq, Nat.reduceBEq, Int.reduceBEq, Int.reduceBNe, Int.reduceEq, Int.reduceNe, decide_true, decide_false, hs1, hs2, hs3, hle2, htk, ne0, ne1, ne2, ne3, ne4, ne5, ne6, ne7, ne8, ne9, ne10, ne11, ne12, ne13, ne14, ne15, ne16, ne17, ne18, ne19, ne20, ne21, ne22, ne23, ne24, ne25, ne26, ne27, ne28, ne29]
      repeat' ((first | with_reducible refine wr ?_ | with_reducible refine i_ret ?_ | with_reducible refine i_skip ?_ | with_reducible refine i_exit ?_ | ((with_reducible refine k_cb ?_ ?_) <;> (intro hb; try simp only [hb])) | ((with_reducible refine k_gb ?_ ?_) <;> (intro hb; try simp only [hb])) | ((with_reducible refine k_gb' ?_ ?_) <;> (intro hb; try simp only [hb])) | ((with_reducible refine k_eval (b_appx (insC_len2 _) (by omega) (by omega)) ?_)) | ((with_reducible refine k_eval (b_appx (hl3 _ _) (by omega) (by omega)) ?_)) | ((with_reducible refine k_eval (b_appx (hl4 _ _) (by omega) (by omega)) ?_))) <;> try simp only [go_sem, Nat.reduceAdd, Nat.reduceLeDiff, Nat.reduceEqDiff, Nat.reduceMul, Nat.reduceSub, ↓reduceIte, Int.reduceLT, Int.reduceLE, Int.reduceGT, Int.reduceGE, Nat.reduceLT, Nat.reduceGT, Int.reduceToNat, reduceCtorEq, Nat.reduceBEq, Int.reduceBEq, Int.reduceBNe, Int.reduceEq, Int.reduceNe, decide_true, decide_false, hs1, hs2, hs3, hle2, htk, ne0, ne1, ne2, ne3, ne4, ne5, ne6, ne7, ne8, ne9, ne10, ne11, ne12, ne13, ne14, ne15, ne16, ne17, ne18, ne19, ne20, ne21, ne22, ne23, ne24, ne25, ne26, ne27, ne28, ne29])
      have es : stmtM l (d + 1) base p = stK l (stmtM l d) base 12 p1 := by simp only [stmtM]; rw [e0]; try rfl
      rw [es]
      refine v_end (id := c3 + 2) hfr (by omega) (by omega) htc (by first | rfl | simp only [stK, List.length_append, List.length_singleton]) ?_ ?_ fun j h1 h2 => ?_
      · repeat (first | exact h_same | rw [h_ne (by omega)] | rw [h_dne (by omega)])
      · rw [h_same]; simp only [stK, insC_app, insC_one]
      · repeat (first | rfl | rw [h_ne (by omega)] | rw [h_dne (by omega)])
    · have nk : ((13 : Nat) : Int) = 13 := rfl
      simp only [go_sem, Nat.reduceAdd, Nat.reduceLeDiff, Nat.reduceEqDiff, Nat.reduceMul, Nat.reduceSub, ↓reduceIte, Int.reduceLT, Int.reduceLE, Int.reduceGT, Int.reduceGE, Nat.reduceLT, Nat.reduceGT, Int.reduceToNat, reduceCtorEq, Nat.reduceBEq, Int.reduceBEq, Int.reduceBNe, Int.reduceEq, Int.reduceNe, decide_true, decide_false, hdl, nk, Int.reduceGT, Int.reduceBEq, Int.reduceLE, decide_true, decide_false, hw2, hw1]
      repeat' ((first | with_reducible refine wr ?_ | with_reducible refine i_ret ?_ | with_reducible refine i_skip ?_ | with_reducible refine i_exit ?_ | ((with_reducible refine k_cb ?_ ?_) <;> (intro hb; try simp only [hb])) | ((with_reducible refine k_gb ?_ ?_) <;> (intro hb; try simp only [hb])) | ((with_reducible refine k_gb' ?_ ?_) <;> (intro hb; try simp only [hb]))) <;> try simp only [go_sem, Nat.reduceAdd, Nat.reduceLeDiff, Nat.reduceEqDiff, Nat.reduceMul, Nat.reduceSub, ↓reduceIte, Int.reduceLT, Int.reduceLE, Int.reduceGT, Int.reduceGE, Nat.reduceLT, Nat.reduceGT, Int.reduceToNat, reduceCtorEq, Nat.reduceBEq, Int.reduceBEq, Int.reduceBNe, Int.reduceEq, Int.reduceNe, decide_true, decide_false, hdl, nk, Int.reduceGT, Int.reduceBEq, Int.reduceLE, decide_true, decide_false, hw2, hw1])
      refine AC.call (c_value l hl 0 (by omega) (p1) hp1 _ _ t (by repeat (first | exact h_same | rw [h_ne (by omega)] | rw [h_dne (by omega)])) (by omega)) ?_
      rintro v H' c2 ⟨id1, ia1, ib1, rfl, rfl⟩ hcc2
      have hb1 := valueM_l0 l (p1)
      have hp2 := valueM_le l 0 (p1) hp1
      have hs1 := w_sum (a := base) (b := (valueM l 0 p1).1.length) (by omega)
      have hs2 := w_sum (a := base + (valueM l 0 p1).1.length) (b := 1) (by omega)
      have one : ((1 : Nat) : Int) = 1 := rfl
      rw [one] at hs2
      have ne0 : ¬ t = id1 := by omega
      have ne1 : ¬ t = c2 := by omega
      have ne2 : ¬ t = c2 + 1 := by omega
      have ne3 : ¬ id1 = t := by omega
      have ne4 : ¬ id1 = c2 := by omega
      have ne5 : ¬ id1 = c2 + 1 := by omega
      have ne6 : ¬ c2 = t := by omega
      have ne7 : ¬ c2 = id1 := by omega
      have ne8 : ¬ c2 = c2 + 1 := by omega
      have ne9 : ¬ c2 + 1 = t := by omega
      have ne10 : ¬ c2 + 1 = id1 := by omega
      have ne11 : ¬ c2 + 1 = c2 := by omega
      simp only [go_sem, Nat.reduceAdd, Nat.reduceLeDiff, Nat.reduceEqDiff, Nat.reduceMul, Nat.reduceSub, ↓reduceIte, Int.reduceLT, Int.reduceLE, Int.reduceGT, Int.reduceGE, Nat.reduceLT, Nat.reduceGT, Int.reduceToNat, reduceCtorEq, Nat.reduceBEq, Int.reduceBEq, Int.reduceBNe, Int.reduceEq, Int.reduceNe, decide_true, decide_false, hs1, hs2, hw2, hw1, ne0, ne1, ne2, ne3, ne4, ne5, ne6, ne7, ne8, ne9, ne10, ne11]
      repeat' ((first | with_reducible refine wr ?_ | with_reducible refine i_ret ?_ | with_reducible refine i_skip ?_ | with_reducible refine i_exit ?_ | ((with_reducible refine k_cb ?_ ?_) <;> (intro hb; try simp only [hb])) | ((with_reducible refine k_gb ?_ ?_) <;> (intro hb; try simp only [hb])) | ((with_reducible refine k_gb' ?_ ?_) <;> (intro hb; try simp only [hb])) | ((with_reducible refine k_eval (b_appx (insC_len2 _) (by omega) (by omega)) ?_))) <;> try simp only [go_sem, Nat.reduceAdd, Nat.reduceLeDiff, Nat.reduceEqDiff, Nat.reduceMul, Nat.reduceSub, ↓reduceIte, Int.reduceLT, Int.reduceLE, Int.reduceGT, Int.reduceGE, Nat.reduceLT, Nat.reduceGT, Int.reduceToNat, reduceCtorEq, Nat.reduceBEq, Int.reduceBEq, Int.reduceBNe, Int.reduceEq, Int.reduceNe, decide_true, decide_false, hs1, hs2, hw2, hw1, ne0, ne1, ne2, ne3, ne4, ne5, ne6, ne7, ne8, ne9, ne10, ne11])
      refine AC.call (ih (by omega) (base + (valueM l 0 p1).1.length + 1) ((valueM l 0 p1).2) (by omega) hp2 _ _ t (by repeat (first | exact h_same | rw [h_ne (by omega)] | rw [h_dne (by omega)])) (by omega)) ?_
      rintro v H' c3 ⟨id2, ia2, ib2, rfl, rfl⟩ hcc3
      have hb2 := stmtM_len l d (base + (valueM l 0 p1).1.length + 1) ((valueM l 0 p1).2)
      have hs4 := w_sum (a := base + (valueM l 0 p1).1.length) (b := 2) (by omega)
      have two : ((2 : Nat) : Int) = 2 := rfl
      rw [two] at hs4
      have hs3 := w_sum (a := base + (valueM l 0 p1).1.length + 2) (b := (stmtM l d (base + (valueM l 0 p1).1.length + 1) (valueM l 0 p1).2).1.length) (by omega)
      have hl2 := insC_len2 (stmtM l d (base + (valueM l 0 p1).1.length + 1) (valueM l 0 p1).2).1
      have hle2 : (stmtM l d (base + (valueM l 0 p1).1.length + 1) (valueM l 0 p1).2).1.length * 2 ≤ (insC (stmtM l d (base + (valueM l 0 p1).1.length + 1) (valueM l 0 p1).2).1).length := by omega
      have htk := List.take_of_length_le (l := insC (stmtM l d (base + (valueM l 0 p1).1.length + 1) (valueM l 0 p1).2).1) (i := (stmtM l d (base + (valueM l 0 p1).1.length + 1) (valueM l 0 p1).2).1.length * 2) (by omega)
      have hl3 := fun x y => insL1 (valueM l 0 p1).1 x y
      have hl4 := fun x y => insL3 (valueM l 0 p1).1 (stmtM l d (base + (valueM l 0 p1).1.length + 1) (valueM l 0 p1).2).1 x y
      have ne0 : ¬ t = id1 := by omega
      have ne1 : ¬ t = id2 := by omega
      have ne2 : ¬ t = c3 := by omega
      have ne3 : ¬ t = c3 + 1 := by omega
      have ne4 : ¬ t = c3 + 2 := by omega
      have ne5 : ¬ t = c3 + 3 := by omega
      have ne6 : ¬ t = c3 + 4 := by omega
      have ne7 : ¬ id1 = t := by omega
      have ne8 : ¬ id1 = id2 := by omega
      have ne9 : ¬ id1 = c3 := by omega
      have ne10 : ¬ id1 = c3 + 1 := by omega
      have ne11 : ¬ id1 = c3 + 2 := by omega
      have ne12 : ¬ id1 = c3 + 3 := by omega
      have ne13 : ¬ id1 = c3 + 4 := by omega
      have ne14 : ¬ id2 = t := by omega
      have ne15 : ¬ id2 = id1 := by omega
      have ne16 : ¬ id2 = c3 := by omega
      have ne17 : ¬ id2 = c3 + 1 := by omega
      have ne18 : ¬ id2 = c3 + 2 := by omega
      have ne19 : ¬ id2 = c3 + 3 := by omega
      have ne20 : ¬ id2 = c3 + 4 := by omega
      have ne21 : ¬ c3 = t := by omega
      have ne22 : ¬ c3 = id1 := by omega
      have ne23 : ¬ c3 = id2 := by omega
      have ne24 : ¬ c3 = c3 + 1 := by omega
      have ne25 : ¬ c3 = c3 + 2 := by omega
      have ne26 : ¬ c3 = c3 + 3 := by omega
      have ne27 : ¬ c3 = c3 + 4 := by omega
      have ne28 : ¬ c3 + 1 = t := by omega
      have ne29 : ¬ c3 + 1 = id1 := by omega
      have ne30 : ¬ c3 + 1 = id2 := by omega
      have ne31 : ¬ c3 + 1 = c3 := by omega
      have ne32 : ¬ c3 + 1 = c3 + 2 := by omega
      have ne33 : ¬ c3 + 1 = c3 + 3 := by omega
      have ne34 : ¬ c3 + 1 = c3 + 4 := by omega
      have ne35 : ¬ c3 + 2 = t := by omega
      have ne36 : ¬ c3 + 2 = id1 := by omega
      have ne37 : ¬ c3 + 2 = id2 := by omega
      have ne38 : ¬ c3 + 2 = c3 := by omega
      have ne39 : ¬ c3 + 2 = c3 + 1 := by omega
      have ne40 : ¬ c3 + 2 = c3 + 3 := by omega
      have ne41 : ¬ c3 + 2 = c3 + 4 := by omega
      have ne42 : ¬ c3 + 3 = t := by omega
      have ne43 : ¬ c3 + 3 = id1 := by omega
      have ne44 : ¬ c3 + 3 = id2 := by omega
      have ne45 : ¬ c3 + 3 = c3 := by omega
      have ne46 : ¬ c3 + 3 = c3 + 1 := by omega
      have ne47 : ¬ c3 + 3 = c3 + 2 := by omega
      have ne48 : ¬ c3 + 3 = c3 + 4 := by omega
      have ne49 : ¬ c3 + 4 = t := by omega
      have ne50 : ¬ c3 + 4 = id1 := by omega
      have ne51 : ¬ c3 + 4 = id2 := by omega
      have ne52 : ¬ c3 + 4 = c3 := by omega
      have ne53 : ¬ c3 + 4 = c3 + 1 := by omega
      have ne54 : ¬ c3 + 4 = c3 + 2 := by omega
      have ne55 : ¬ c3 + 4 = c3 + 3 := by omega
      simp only [go_sem, Nat.reduceAdd, Nat.reduceLeDiff, Nat.reduceEqDiff, Nat.reduceMul, Nat.reduceSub, ↓reduceIte, Int.reduceLT, Int.reduceLE, Int.reduceGT, Int.reduceGE, Nat.reduceLT, Nat.reduceGT, Int.reduceToNat, reduceCtorEq, Nat.reduceBEq, Int.reduceBEq, Int.reduceBNe, Int.reduceEq, Int.reduceNe, decide_true, decide_false, hs1, hs2, hs3, hs4, hle2, htk, ne0, ne1, ne2, ne3, ne4, ne5, ne6, ne7, ne8, ne9, ne10, ne11, ne12, ne13, ne14, ne15, ne16, ne17, ne18, ne19, ne20, ne21, ne22, ne23, ne24, ne25, ne26, ne27, ne28, ne29, ne30, ne31, ne32, ne33, ne34, ne35, ne36, ne37, ne38, ne39, ne40, ne41, ne42, ne43, ne44, ne45, ne46, ne47, ne48, ne49, ne50, ne51, ne52, ne53, ne54, ne55]
      repeat' ((first | with_reducible refine wr ?_ | with_reducible refine i_ret ?_ | with_reducible refine i_skip ?_ | with_reducible refine i_exit ?_ | ((with_reducible refine k_cb ?_ ?_) <;> (intro hb; try simp only [hb])) | ((with_reducible refine k_gb ?_ ?_) <;> (intro hb; try simp only [hb])) | ((with_reducible refine k_gb' ?_ ?_) <;> (intro hb; try simp only [hb])) | ((with_reducible refine k_eval (b_appx (insC_len2 _) (by omega) (by omega)) ?_)) | ((with_reducible refine k_eval (b_appx (hl3 _ _) (by omega) (by omega)) ?_)) | ((with_reducible refine k_eval (b_appx (hl4 _ _) (by omega) (by omega)) ?_))) <;> try simp only [go_sem, Nat.reduceAdd, Nat.reduceLeDiff, Nat.reduceEqDiff, Nat.reduceMul, Nat.reduceSub, ↓reduceIte, Int.reduceLT, Int.reduceLE, Int.reduceGT, Int.reduceGE, Nat.reduceLT, Nat.reduceGT, Int.reduceToNat, reduceCtorEq, Nat.reduceBEq, Int.reduceBEq, Int.reduceBNe, Int.reduceEq, Int.reduceNe, decide_true, decide_false, hs1, hs2, hs3, hs4, hle2, htk, ne0, ne1, ne2, ne3, ne4, ne5, ne6, ne7, ne8, ne9, ne10, ne11, ne12, ne13, ne14, ne15, ne16, ne17, ne18, ne19, ne20, ne21, ne22, ne23, ne24, ne25, ne26, ne27, ne28, ne29, ne30, ne31, ne32, ne33, ne34, ne35, ne36, ne37, ne38, ne39, ne40, ne41, ne42, ne43, ne44, ne45, ne46, ne47, ne48, ne49, ne50, ne51, ne52, ne53, ne54, ne55])
      have es : stmtM l (d + 1) base p = stK l (stmtM l d) base 13 p1 := by simp only [stmtM]; rw [e0]; try rfl
      rw [es]
      refine v_end (id := c3 + 4) hfr (by omega) (by omega) htc (by first | rfl | simp only [stK, List.length_append, List.length_singleton]) ?_ ?_ fun j h1 h2 => ?_
      · repeat (first | exact h_same | rw [h_ne (by omega)] | rw [h_dne (by omega)])
      · rw [h_same]; simp only [stK, insC_app, insC_one]
      · repeat (first | rfl | rw [h_ne (by omega)] | rw [h_dne (by omega)])
    · have nk : ((14 : Nat) : Int) = 14 := rfl
      simp only [go_sem, Nat.reduceAdd, Nat.reduceLeDiff, Nat.reduceEqDiff, Nat.reduceMul, Nat.reduceSub, ↓reduceIte, Int.reduceLT, Int.reduceLE, Int.reduceGT, Int.reduceGE, Nat.reduceLT, Nat.reduceGT, Int.reduceToNat, reduceCtorEq, Nat.reduceBEq, Int.reduceBEq, Int.reduceBNe, Int.reduceEq, Int.reduceNe, decide_true, decide_false, hdl, nk, Int.reduceGT, Int.reduceBEq, Int.reduceLE, decide_true, decide_false, hw2, hw1]
      repeat' ((first | with_reducible refine wr ?_ | with_reducible refine i_ret ?_ | with_reducible refine i_skip ?_ | with_reducible refine i_exit ?_ | ((with_reducible refine k_cb ?_ ?_) <;> (intro hb; try simp only [hb])) | ((with_reducible refine k_gb ?_ ?_) <;> (intro hb; try simp only [hb])) | ((with_reducible refine k_gb' ?_ ?_) <;> (intro hb; try simp only [hb]))) <;> try simp only [go_sem, Nat.reduceAdd, Nat.reduceLeDiff, Nat.reduceEqDiff, Nat.reduceMul, Nat.reduceSub, ↓reduceIte, Int.reduceLT, Int.reduceLE, Int.reduceGT, Int.reduceGE, Nat.reduceLT, Nat.reduceGT, Int.reduceToNat, reduceCtorEq, Nat.reduceBEq, Int.reduceBEq, Int.reduceBNe, Int.reduceEq, Int.reduceNe, decide_true, decide_false, hdl, nk, Int.reduceGT, Int.reduceBEq, Int.reduceLE, decide_true, decide_false, hw2, hw1])
      refine AC.call (c_value l hl 0 (by omega) (p1) hp1 _ _ t (by repeat (first | exact h_same | rw [h_ne (by omega)] | rw [h_dne (by omega)])) (by omega)) ?_
      rintro v H' c2 ⟨id1, ia1, ib1, rfl, rfl⟩ hcc2
      have hb1 := valueM_l0 l (p1)
      have hp2 := valueM_le l 0 (p1) hp1
      have hs1 := w_sum (a := base) (b := (valueM l 0 p1).1.length) (by omega)
      have hs2 := w_sum (a := base + (valueM l 0 p1).1.length) (b := 1) (by omega)
      have one : ((1 : Nat) : Int) = 1 := rfl
      rw [one] at hs2
      have ne0 : ¬ t = id1 := by omega
      have ne1 : ¬ t = c2 := by omega
      have ne2 : ¬ t = c2 + 1 := by omega
      have ne3 : ¬ id1 = t := by omega
      have ne4 : ¬ id1 = c2 := by omega
      have ne5 : ¬ id1 = c2 + 1 := by omega
      have ne6 : ¬ c2 = t := by omega
      have ne7 : ¬ c2 = id1 := by omega
      have ne8 : ¬ c2 = c2 + 1 := by omega
      have ne9 : ¬ c2 + 1 = t := by omega
      have ne10 : ¬ c2 + 1 = id1 := by omega
      have ne11 : ¬ c2 + 1 = c2 := by omega
      simp only [go_sem, Nat.reduceAdd, Nat.reduceLeDiff, Nat.reduceEqDiff, Nat.reduceMul, Nat.reduceSub, ↓reduceIte, Int.reduceLT, Int.reduceLE, Int.reduceGT, Int.reduceGE, Nat.reduceLT, Nat.reduceGT, Int.reduceToNat, reduceCtorEq, Nat.reduceBEq, Int.reduceBEq, Int.reduceBNe, Int.reduceEq, Int.reduceNe, decide_true, decide_false, hs1, hs2, hw2, hw1, ne0, ne1, ne2, ne3, ne4, ne5, ne6, ne7, ne8, ne9, ne10, ne11]
      repeat' ((first | with_reducible refine wr ?_ | with_reducible refine i_ret ?_ | with_reducible refine i_skip ?_ | with_reducible refine i_exit ?_ | ((with_reducible refine k_cb ?_ ?_) <;> (intro hb; try simp only [hb])) | ((with_reducible refine k_gb ?_ ?_) <;> (intro hb; try simp only [hb])) | ((with_reducible refine k_gb' ?_ ?_) <;> (intro hb; try simp only [hb])) | ((with_reducible refine k_eval (b_appx (insC_len2 _) (by omega) (by omega)) ?_))) <;> try simp only [go_sem, Nat.reduceAdd, Nat.reduceLeDiff, Nat.reduceEqDiff, Nat.reduceMul, Nat.reduceSub, ↓reduceIte, Int.reduceLT, Int.reduceLE, Int.reduceGT, Int.reduceGE, Nat.reduceLT, Nat.reduceGT, Int.reduceToNat, reduceCtorEq, Nat.reduceBEq, Int.reduceBEq, Int.reduceBNe, Int.reduceEq, Int.reduceNe, decide_true, decide_false, hs1, hs2, hw2, hw1, ne0, ne1, ne2, ne3, ne4, ne5, ne6, ne7, ne8, ne9, ne10, ne11])
      refine AC.call (ih (by omega) (base + (valueM l 0 p1).1.length + 1) ((valueM l 0 p1).2) (by omega) hp2 _ _ t (by repeat (first | exact h_same | rw [h_ne (by omega)] | rw [h_dne (by omega)])) (by omega)) ?_
      rintro v H' c3 ⟨id2, ia2, ib2, rfl, rfl⟩ hcc3
      have hb2 := stmtM_len l d (base + (valueM l 0 p1).1.length + 1) ((valueM l 0 p1).2)
      have hs4 := w_sum (a := base + (valueM l 0 p1).1.length) (b := 2) (by omega)
      have two : ((2 : Nat) : Int) = 2 := rfl
      rw [two] at hs4
      have hs3 := w_sum (a := base + (valueM l 0 p1).1.length + 2) (b := (stmtM l d (base + (valueM l 0 p1).1.length + 1) (valueM l 0 p1).2).1.length) (by omega)
      have hl2 := insC_len2 (stmtM l d (base + (valueM l 0 p1).1.length + 1) (valueM l 0 p1).2).1
      have hle2 : (stmtM l d (base + (valueM l 0 p1).1.length + 1) (valueM l 0 p1).2).1.length * 2 ≤ (insC (stmtM l d (base + (valueM l 0 p1).1.length + 1) (valueM l 0 p1).2).1).length := by omega
      have htk := List.take_of_length_le (l := insC (stmtM l d (base + (valueM l 0 p1).1.length + 1) (valueM l 0 p1).2).1) (i := (stmtM l d (base + (valueM l 0 p1).1.length + 1) (valueM l 0 p1).2).1.length * 2) (by omega)
      have hl3 := fun x y => insL1 (valueM l 0 p1).1 x y
      have hl4 := fun x y => insL3 (valueM l 0 p1).1 (stmtM l d (base + (valueM l 0 p1).1.length + 1) (valueM l 0 p1).2).1 x y
      have ne0 : ¬ t = id1 := by omega
      have ne1 : ¬ t = id2 := by omega
      have ne2 : ¬ t = c3 := by omega
      have ne3 : ¬ t = c3 + 1 := by omega
      have ne4 : ¬ t = c3 + 2 := by omega
      have ne5 : ¬ t = c3 + 3 := by omega
      have ne6 : ¬ t = c3 + 4 := by omega
      have ne7 : ¬ id1 = t := by omega
      have ne8 : ¬ id1 = id2 := by omega
      have ne9 : ¬ id1 = c3 := by omega
      have ne10 : ¬ id1 = c3 + 1 := by omega
      have ne11 : ¬ id1 = c3 + 2 := by omega
      have ne12 : ¬ id1 = c3 + 3 := by omega
      have ne13 : ¬ id1 = c3 + 4 := by omega
      have ne14 : ¬ id2 = t := by omega
      have ne15 : ¬ id2 = id1 := by omega
      have ne16 : ¬ id2 = c3 := by omega
      have ne17 : ¬ id2 = c3 + 1 := by omega
      have ne18 : ¬ id2 = c3 + 2 := by omega
      have ne19 : ¬ id2 = c3 + 3 := by omega
      have ne20 : ¬ id2 = c3 + 4 := by omega
      have ne21 : ¬ c3 = t := by omega
      have ne22 : ¬ c3 = id1 := by omega
      have ne23 : ¬ c3 = id2 := by omega
      have ne24 : ¬ c3 = c3 + 1 := by omega
      have ne25 : ¬ c3 = c3 + 2 := by omega
      have ne26 : ¬ c3 = c3 + 3 := by omega
      have ne27 : ¬ c3 = c3 + 4 := by omega
      have ne28 : ¬ c3 + 1 = t := by omega
      have ne29 : ¬ c3 + 1 = id1 := by omega
      have ne30 : ¬ c3 + 1 = id2 := by omega
      have ne31 : ¬ c3 + 1 = c3 := by omega
      have ne32 : ¬ c3 + 1 = c3 + 2 := by omega
      have ne33 : ¬ c3 + 1 = c3 + 3 := by omega
      have ne34 : ¬ c3 + 1 = c3 + 4 := by omega
      have ne35 : ¬ c3 + 2 = t := by omega
      have ne36 : ¬ c3 + 2 = id1 := by omega
      have ne37 : ¬ c3 + 2 = id2 := by omega
      have ne38 : ¬ c3 + 2 = c3 := by omega
      have ne39 : ¬ c3 + 2 = c3 + 1 := by omega
      have ne40 : ¬ c3 + 2 = c3 + 3 := by omega
      have ne41 : ¬ c3 + 2 = c3 + 4 := by omega
      have ne42 : ¬ c3 + 3 = t := by omega
      have ne43 : ¬ c3 + 3 = id1 := by omega
      have ne44 : ¬ c3 + 3 = id2 := by omega
      have ne45 : ¬ c3 + 3 = c3 := by omega
      have ne46 : ¬ c3 + 3 = c3 + 1 := by omega
      have ne47 : ¬ c3 + 3 = c3 + 2 := by omega
      have ne48 : ¬ c3 + 3 = c3 + 4 := by omega
      have ne49 : ¬ c3 + 4 = t := by omega
      have ne50 : ¬ c3 + 4 = id1 := by omega
      have ne51 : ¬ c3 + 4 = id2 := by omega
      have ne52 : ¬ c3 + 4 = c3 := by omega
      have ne53 : ¬ c3 + 4 = c3 + 1 := by omega
      have ne54 : ¬ c3 + 4 = c3 + 2 := by omega
      have ne55 : ¬ c3 + 4 = c3 + 3 := by omega
      simp only [go_sem, Nat.reduceAdd, Nat.reduceLeDiff, Nat.reduceEqDiff, Nat.reduceMul, Nat.reduceSub, ↓reduceIte, Int.reduceLT, Int.reduceLE, Int.reduceGT, Int.reduceGE, Nat.reduceLT, Nat.reduceGT, Int.reduceToNat, reduceCtorEq, Nat.reduceBEq, Int.reduceBEq, Int.reduceBNe, Int.reduceEq, Int.reduceNe, decide_true, decide_false, hs1, hs2, hs3, hs4, hle2, htk, ne0, ne1, ne2, ne3, ne4, ne5, ne6, ne7, ne8, ne9, ne10, ne11, ne12, ne13, ne14, ne15, ne16, ne17, ne18, ne19, ne20, ne21, ne22, ne23, ne24, ne25, ne26, ne27, ne28, ne29, ne30, ne31, ne32, ne33, ne34, ne35, ne36, ne37, ne38, ne39, ne40, ne41, ne42, ne43, ne44, ne45, ne46, ne47, ne48, ne49, ne50, ne51, ne52, ne53, ne54, ne55]
      repeat' ((first | with_reducible refine wr ?_ | with_reducible refine i_ret ?_ | with_reducible refine i_skip ?_ | with_reducible refine i_exit ?_ | ((with_reducible refine k_cb ?_ ?_) <;> (intro hb; try simp only [hb])) | ((with_reducible refine k_gb ?_ ?_) <;> (intro hb; try simp only [hb])) | ((with_reducible refine k_gb' ?_ ?_) <;> (intro hb; try simp only [hb])) | ((with_reducible refine k_eval (b_appx (insC_len2 _) (by omega) (by omega)) ?_)) | ((with_reducible refine k_eval (b_appx (hl3 _ _) (by omega) (by omega)) ?_)) | ((with_reducible refine k_eval (b_appx (hl4 _ _) (by omega) (by omega)) ?_))) <;> try simp only [go_sem, Nat.reduceAdd, Nat.reduceLeDiff, Nat.reduceEqDiff, Nat.reduceMul, Nat.reduceSub, ↓reduceIte, Int.reduceLT, Int.reduceLE, Int.reduceGT, Int.reduceGE, Nat.reduceLT, Nat.reduceGT, Int.reduceToNat, reduceCtorEq, Nat.reduceBEq, Int.reduceBEq, Int.reduceBNe, Int.reduceEq, Int.reduceNe, decide_true, decide_false, hs1, hs2, hs3, hs4, hle2, htk, ne0, ne1, ne2, ne3, ne4, ne5, ne6, ne7, ne8, ne9, ne10, ne11, ne12, ne13, ne14, ne15, ne16, ne17, ne18, ne19, ne20, ne21, ne22, ne23, ne24, ne25, ne26, ne27, ne28, ne29, ne30, ne31, ne32, ne33, ne34, ne35, ne36, ne37, ne38, ne39, ne40, ne41, ne42, ne43, ne44, ne45, ne46, ne47, ne48, ne49, ne50, ne51, ne52, ne53, ne54, ne55])
      have es : stmtM l (d + 1) base p = stK l (stmtM l d) base 14 p1 := by simp only [stmtM]; rw [e0]; try rfl
      rw [es]
      refine v_end (id := c3 + 4) hfr (by omega) (by omega) htc (by first | rfl | simp only [stK, List.length_append, List.length_singleton]) ?_ ?_ fun j h1 h2 => ?_
      · repeat (first | exact h_same | rw [h_ne (by omega)] | rw [h_dne (by omega)])
      · rw [h_same]; simp only [stK, insC_app, insC_one]
      · repeat (first | rfl | rw [h_ne (by omega)] | rw [h_dne (by omega)])
end Go.Proofs.YtcallbfckjlagaaDoor
set_option linter.unusedVariables false
set_option linter.unusedSimpArgs false
namespace Go.Pb
open Go.Sym
theorem stK_ne {l : List UInt8} {rec : Nat → Nat → List Ins × Nat} {base k p : Nat} : 1 ≤ (stK l rec base k p).1.length := by
  unfold stK
  split <;> simp only [List.length_append, List.length_singleton] <;> omega
theorem stmtM_ne {l : List UInt8} {d base p : Nat} : 1 ≤ (stmtM l d base p).1.length := by
  cases d with
  | zero => simp only [stmtM]; exact stK_ne
  | succ d => simp only [stmtM]; exact stK_ne
def keysM : List Ent := [⟨0, 1, 0, 0⟩, ⟨0, 2, 0, 0⟩, ⟨0, 3, 3, 0⟩, ⟨0, 5, 1, 0⟩, ⟨0, 6, 0, 0⟩, ⟨1, 1, 0, 0⟩, ⟨1, 3, 3, 0⟩, ⟨1, 4, 63, 0⟩, ⟨1, 6, 1, 0⟩]
def mdB (l : List UInt8) : Nat → List Ins × Nat → List Ins × Nat
  | 0, x => x
  | n + 1, x => ((mdB l n x).1 ++ (stmtM l 2 (mdB l n x).1.length (mdB l n x).2).1, (stmtM l 2 (mdB l n x).1.length (mdB l n x).2).2)
structure MS where
  I : List Ins
  E : List Ent
  p : Nat
def mdH (l : List UInt8) (key : Ent) (x : MS) (p : Nat) : MS :=
  ⟨(mdB l (nextM l p 4).1 (x.I, (nextM l p 4).2)).1 ++ [⟨31, 0⟩], x.E ++ [⟨key.mode, key.trigger, key.index, (x.I.length : Int)⟩], (mdB l (nextM l p 4).1 (x.I, (nextM l p 4).2)).2⟩
def mdI (l : List UInt8) (key : Ent) (i : Nat) (x : MS) : MS :=
  if i = 0 then mdH l key x x.p else if (nextM l x.p 2).1 = 0 then ⟨x.I, x.E, (nextM l x.p 2).2⟩ else mdH l key x (nextM l x.p 2).2
def mdK (l : List UInt8) : Nat → MS
  | 0 => ⟨[], [], (nextM l (nextM l 0 4).2 4).2⟩
  | i + 1 => mdI l (keysM.getD i ⟨0, 0, 0, 0⟩) i (mdK l i)
def mdP (l : List UInt8) : List Int := [((nextM l 0 4).1 : Int), ((nextM l (nextM l 0 4).2 4).1 : Int)]
def mdS : List (List UInt8) := [[103, 111], [111, 118, 101, 114]]
def mdV : List Int := [0, 5, -3]
def madeT (t : List UInt8) : Prg := ⟨(mdK t 9).I, mdS, (mdK t 9).E, mdP t, mdV, 2, 2⟩
def madeM (l : List UInt8) : Prg := madeT (l.take 200)
theorem mdB_pos {l : List UInt8} {x : List Ins × Nat} (h : x.2 ≤ l.length) : ∀ n, (mdB l n x).2 ≤ l.length
  | 0 => h
  | n + 1 => stmtM_le l 2 _ _ (mdB_pos h n)
theorem mdB_len {l : List UInt8} {x : List Ins × Nat} : ∀ n, (mdB l n x).1.length ≤ x.1.length + 16 * n
  | 0 => by simp [mdB]
  | n + 1 => by
    have := mdB_len (l := l) (x := x) n
    have := stmtM_len l 2 (mdB l n x).1.length (mdB l n x).2
    simp only [mdB, List.length_append]; omega
theorem mdH_p {l : List UInt8} {key : Ent} {x : MS} {p : Nat} (h : p ≤ l.length) : (mdH l key x p).p ≤ l.length := mdB_pos (x := (x.I, (nextM l p 4).2)) (nextM_le h) _
theorem mdH_I {l : List UInt8} {key : Ent} {x : MS} {p : Nat} : (mdH l key x p).I.length ≤ x.I.length + 49 := by
  have := mdB_len (l := l) (x := (x.I, (nextM l p 4).2)) (nextM l p 4).1
  have := nextM_lt (l := l) (p := p) (n := 4) (by omega)
  simp only [mdH, List.length_append, List.length_singleton]; simp only at *; omega
theorem mdK_bd {l : List UInt8} : ∀ i, (mdK l i).p ≤ l.length ∧ (mdK l i).I.length ≤ 49 * i ∧ (mdK l i).E.length ≤ i
  | 0 => ⟨nextM_le (nextM_le (Nat.zero_le _)), by simp [mdK], by simp [mdK]⟩
  | i + 1 => by
    obtain ⟨a, b, c⟩ := mdK_bd (l := l) i
    simp only [mdK, mdI]
    split
    · exact ⟨mdH_p a, by have := mdH_I (l := l) (key := keysM.getD i ⟨0, 0, 0, 0⟩) (x := mdK l i) (p := (mdK l i).p); omega, by simp only [mdH, List.length_append, List.length_singleton]; omega⟩
    · split
      · exact ⟨nextM_le a, by simp only; omega, by simp only; omega⟩
      · exact ⟨mdH_p (nextM_le a), by have := mdH_I (l := l) (key := keysM.getD i ⟨0, 0, 0, 0⟩) (x := mdK l i) (p := (nextM l (mdK l i).p 2).2); omega, by simp only [mdH, List.length_append, List.length_singleton]; omega⟩
theorem entC_snoc (l : List Ent) (e : Ent) : cellsL ((l ++ [e]).map Ent.v) = cellsL (l.map Ent.v) ++ [I64 e.mode, I64 e.trigger, I64 e.index, I64 e.pos] := by
  rw [List.map_append, cellsL_append]; simp [cellsL, DV.cells]
theorem entC_nil {l : List Ent} (h : l = []) : cellsL (l.map Ent.v) = [] := by rw [h]; rfl
theorem insC_nil {l : List Ins} (h : l = []) : insC l = [] := by rw [h]; rfl
theorem len_nil {α : Type} {l : List α} (h : l = []) : l.length = 0 := by rw [h]; rfl
theorem slc_to {H : Hp} {sz n : Nat} {xs : List DV} (h : n ≤ xs.length) (hu : unit sz xs = true) : slcR H sz (.lst xs) none (some (.int .i64 (n : Int))) = some (.lst (xs.take n)) := by
  have h1 : boundOf xs.length (some (.int .i64 (n : Int))) = some n := by simp [boundOf]
  have h2 : boundOf 0 none = some 0 := by simp [boundOf]
  simp only [slcR, h1, h2, hu, h, Nat.zero_le, and_self, if_true, List.drop_zero, Nat.sub_zero]
theorem unit_bytes (l : List UInt8) : unit 1 (bytesC l) = true := unit_iff.2 (fun x hx => by obtain ⟨b, -, rfl⟩ := List.mem_map.1 hx; rfl)
theorem slc_bytes {H : Hp} {n : Nat} {l : List UInt8} (h : n ≤ l.length) : slcR H 1 (.lst (bytesC l)) none (some (.int .i64 (n : Int))) = some (.lst (bytesC (l.take n))) := by
  rw [slc_to (by rw [bytesC_len]; exact h) (unit_bytes l)]
  simp [bytesC, List.map_take]
def delO (H : Hp) : Option Nat → Hp
  | none => H
  | some i => H.del i
theorem r_lentodo {o : Option Nat} {n : Nat} (h : o = none → n = 0) : lenR (todoV o n) = some (I64 (n : Int)) := by
  cases o with
  | none => rw [h rfl]; rfl
  | some i => rfl
theorem r_apptodo {H : Hp} {c sz bytes n m : Nat} {o : Option Nat} {cs src : List DV} (hn : o = none → n = 0 ∧ cs = []) (hb : ∀ i, o = some i → H i = some ⟨sz, true, cs⟩) (hl : cs.length = n * sz) (hm : 1 ≤ m) (h2 : (n + m) * bytes ≤ 140737488355328) (h3 : n + m ≤ 9223372036854775807) :
    appR H c sz bytes (todoV o n) m src = some (.slc c 0 (n + m), (delO H o).upd c ⟨sz, true, cs ++ src⟩, c + 1) := by
  cases o with
  | none =>
    obtain ⟨rfl, rfl⟩ := hn rfl
    rw [todo_n, r_appn' (by omega) (by simpa using h2) (by omega)]
    simp [delO]
  | some i => rw [todo_s, r_apps, hb i rfl, b_appx hl h2 h3]; rfl
theorem delO_ne {H : Hp} {o : Option Nat} {j : Nat} (h : ∀ i, o = some i → ¬ j = i) : delO H o j = H j := by
  cases o with
  | none => rfl
  | some i => exact h_dne (h i rfl)
def MH (k : Nat) (l : List UInt8) (p : Nat) (S P V : DV) (I : List Ins) (E : List Ent) (o1 o2 : Option Nat) : Hp :=
  optH (optH (((Sym.nil.upd 0 ⟨0, true, [.snil, .snil, .snil, .snil, .snil, I64 0, I64 0]⟩).upd 1 (tapeB l p)).upd k ⟨0, true, [todoV o1 I.length, S, todoV o2 E.length, P, V, I64 2, I64 2]⟩) o1 ⟨2, true, insC I⟩) o2 ⟨4, true, cellsL (E.map Ent.v)⟩
structure MO (k : Nat) (o1 o2 : Option Nat) (cc : Nat) : Prop where
  k2 : 2 ≤ k
  kc : k < cc
  a : ∀ i, o1 = some i → k < i ∧ i < cc
  b : ∀ i, o2 = some i → k < i ∧ i < cc
  ne : ∀ i, o1 = some i → o2 ≠ some i
theorem optH_ne {H : Hp} {o : Option Nat} {b : Blk} {j : Nat} (h : ∀ i, o = some i → ¬ j = i) : optH H o b j = H j := by
  cases o with
  | none => rfl
  | some i => exact h_ne (h i rfl)
section
variable {l : List UInt8} {k p : Nat} {S P V : DV} {I : List Ins} {E : List Ent} {o1 o2 : Option Nat} {cc : Nat}
theorem MH_0 (h : MO k o1 o2 cc) : MH k l p S P V I E o1 o2 0 = some ⟨0, true, [.snil, .snil, .snil, .snil, .snil, I64 0, I64 0]⟩ := by
  have := h.k2
  unfold MH; rw [optH_ne (fun i hi => by have := h.b i hi; omega), optH_ne (fun i hi => by have := h.a i hi; omega), h_ne (by omega)]; rfl
theorem MH_1 (h : MO k o1 o2 cc) : MH k l p S P V I E o1 o2 1 = some (tapeB l p) := by
  have := h.k2
  unfold MH; rw [optH_ne (fun i hi => by have := h.b i hi; omega), optH_ne (fun i hi => by have := h.a i hi; omega), h_ne (by omega)]; rfl
theorem MH_k (h : MO k o1 o2 cc) : MH k l p S P V I E o1 o2 k = some ⟨0, true, [todoV o1 I.length, S, todoV o2 E.length, P, V, I64 2, I64 2]⟩ := by
  unfold MH; rw [optH_ne (fun i hi => by have := h.b i hi; omega), optH_ne (fun i hi => by have := h.a i hi; omega), h_same]
theorem MH_a (h : MO k o1 o2 cc) {i : Nat} (hi : o1 = some i) : MH k l p S P V I E o1 o2 i = some ⟨2, true, insC I⟩ := by
  unfold MH; rw [optH_ne (fun j hj e => h.ne i hi (by rw [e]; exact hj))]; subst hi; exact h_same
theorem MH_b {i : Nat} (hi : o2 = some i) : MH k l p S P V I E o1 o2 i = some ⟨4, true, cellsL (E.map Ent.v)⟩ := by
  unfold MH; subst hi; exact h_same
theorem MH_n (h : MO k o1 o2 cc) {j : Nat} (hc : cc ≤ j) : MH k l p S P V I E o1 o2 j = none := by
  have := h.k2
  have := h.kc
  unfold MH; rw [optH_ne (fun i hi => by have := h.b i hi; omega), optH_ne (fun i hi => by have := h.a i hi; omega), h_ne (by omega), h_ne (by omega), h_ne (by omega)]; rfl
theorem MH_t {p' : Nat} (h : MO k o1 o2 cc) : (MH k l p S P V I E o1 o2).upd 1 (tapeB l p') = MH k l p' S P V I E o1 o2 := by
  have hk := h.k2
  funext j
  by_cases e : j = 1
  · subst e; rw [h_same, MH_1 h]
  · rw [h_ne e]
    unfold MH
    by_cases e2 : o2 = some j
    · subst e2; simp only [optH, h_same]
    · have q2 : ∀ (X : Hp) b, optH X o2 b j = X j := fun X b => optH_ne (fun i hi e3 => e2 (by rw [e3]; exact hi))
      rw [q2, q2]
      by_cases e1 : o1 = some j
      · subst e1; simp only [optH, h_same]
      · have q1 : ∀ (X : Hp) b, optH X o1 b j = X j := fun X b => optH_ne (fun i hi e3 => e1 (by rw [e3]; exact hi))
        rw [q1, q1]
        by_cases ek : j = k
        · subst ek; rw [h_same, h_same]
        · rw [h_ne ek, h_ne ek, h_ne e, h_ne e]
theorem MH_sub {H : Hp} (h0 : H 0 = some ⟨0, true, [.snil, .snil, .snil, .snil, .snil, I64 0, I64 0]⟩) (h1 : H 1 = some (tapeB l p)) (hk : H k = some ⟨0, true, [todoV o1 I.length, S, todoV o2 E.length, P, V, I64 2, I64 2]⟩)
    (ha : ∀ i, o1 = some i → H i = some ⟨2, true, insC I⟩) (hb : ∀ i, o2 = some i → H i = some ⟨4, true, cellsL (E.map Ent.v)⟩) : Sub (MH k l p S P V I E o1 o2) H := by
  intro j b hj
  unfold MH at hj
  by_cases e2 : o2 = some j
  · subst e2; simp only [optH, h_same] at hj; rw [hb j rfl]; exact hj
  · rw [optH_ne (fun i hi e3 => e2 (by rw [e3]; exact hi))] at hj
    by_cases e1 : o1 = some j
    · subst e1; simp only [optH, h_same] at hj; rw [ha j rfl]; exact hj
    · rw [optH_ne (fun i hi e3 => e1 (by rw [e3]; exact hi))] at hj
      by_cases ek : j = k
      · subst ek; rw [h_same] at hj; rw [hk]; exact hj
      · rw [h_ne ek] at hj
        by_cases e : j = 1
        · subst e; rw [h_same] at hj; rw [h1]; exact hj
        · rw [h_ne e] at hj
          by_cases e0 : j = 0
          · subst e0; rw [h_same] at hj; rw [h0]; exact hj
          · rw [h_ne e0] at hj; cases hj
theorem MO.mono (h : MO k o1 o2 cc) {c2 : Nat} (hc : cc ≤ c2) : MO k o1 o2 c2 :=
  ⟨h.k2, by have := h.kc; omega, fun i hi => by have := h.a i hi; omega, fun i hi => by have := h.b i hi; omega, h.ne⟩
end
end Go.Pb
set_option maxHeartbeats 4000000
set_option maxRecDepth 100000
set_option linter.unusedSimpArgs false
set_option linter.unusedVariables false
namespace Go.Proofs.YtcallbfckjlagaaDoor
open Go.Eng (IC IOper DReg IFn IsFn)
open Go.Sym Go.Pb
noncomputable section
def u10_10 : IC := .cond (.t 37) .skip (.exit 0)
def u10_9r : List IOper := [⟨some 34, .pur (.mv (.t 6)), none⟩, ⟨some 35, .pur (.mv (.t 5)), none⟩, ⟨some 36, .pur (.len (.t 35)), none⟩, ⟨some 37, .pur (.bin .lss (.t 34) (.t 36)), none⟩]
def u10_9 : IC := .seq (.reg u10_9r) u10_10
def u10_14 : IC := .cond (.t 46) (.exit 1) .skip
def u10_13r : List IOper := [⟨some 40, .pur (.mv (.t 6)), none⟩, ⟨some 41, .pur (.bin .gtr (.t 40) (.k (.int .i64 0))), none⟩, ⟨some 42, .pur (.mv (.t 41)), none⟩, ⟨some 43, .pur (.mv (.t 3)), some (42, true)⟩, ⟨some 44, .call 27 [.t 43, .k (.int .i64 2)], some (42, true)⟩, ⟨some 45, .pur (.bin .eql (.t 44) (.k (.int .i64 0))), some (42, true)⟩, ⟨some 46, .pur (.pick (.t 42) (.t 45) (.k (.bool false))), none⟩]
def u10_13 : IC := .seq (.reg u10_13r) u10_14
def u10_23 : IC := .cond (.t 64) .skip (.exit 2)
def u10_22r : List IOper := [⟨some 63, .pur (.mv (.t 8)), none⟩, ⟨some 64, .pur (.bin .gtr (.t 63) (.k (.int .i64 0))), none⟩]
def u10_22 : IC := .seq (.reg u10_22r) u10_23
def u10_25r : DReg := ⟨[⟨some 67, .pur (.fad 0 (.t 4)), none⟩, ⟨some 68, .pur (.ld 1 false (.t 67)), none⟩, ⟨some 69, .pur (.mv (.t 3)), none⟩, ⟨some 70, .pur (.fad 0 (.t 4)), none⟩, ⟨some 71, .pur (.ld 1 false (.t 70)), none⟩, ⟨some 72, .pur (.len (.t 71)), none⟩, ⟨some 73, .call 28 [.t 69, .t 72, .k (.int .i64 2)], none⟩, ⟨some 74, .eff (.app 2 16 (.t 68) (.t 73)), none⟩, ⟨some 75, .pur (.fad 0 (.t 4)), none⟩, ⟨none, .eff (.st 1 (.t 75) (.t 74)), none⟩], [[], [0], [], [], [3], [4, 3], [2, 5, 4, 3], [1, 6, 0, 2, 5, 4, 3], [0, 1, 2, 3, 4, 5, 6, 7], [8, 7, 0, 1, 2, 3, 4, 5, 6]], [(0, none), (1, none), (2, none), (3, none), (4, none), (5, none), (6, some [0, 1]), (7, some []), (8, none), (9, some [])]⟩
def u10_25 : IC := .drw 10 u10_25r
def u10_26r : List IOper := [⟨some 65, .pur (.mv (.t 8)), none⟩, ⟨some 66, .pur (.bin .sub (.t 65) (.k (.int .i64 1))), none⟩, ⟨some 8, .pur (.mv (.t 66)), none⟩]
def u10_26 : IC := .reg u10_26r
def u10_24 : IC := .seq (.blk 3 u10_25) u10_26
def u10_21 : IC := .seq u10_22 u10_24
def u10_20 : IC := .blk 2 (.loop u10_21)
def u10_19r : List IOper := [⟨some 61, .pur (.mv (.t 3)), none⟩, ⟨some 62, .call 27 [.t 61, .k (.int .i64 4)], none⟩, ⟨some 8, .pur (.mv (.t 62)), none⟩]
def u10_19 : IC := .seq (.reg u10_19r) u10_20
def u10_27r : List IOper := [⟨some 76, .pur (.fad 0 (.t 4)), none⟩, ⟨some 77, .pur (.ld 1 false (.t 76)), none⟩, ⟨some 78, .pur (.bld #[.int .i64 0, .int .i64 0] [(0, 1), (1, 1)] [(0, .k (.int .i64 31))]), none⟩, ⟨some 79, .new (.bsl 2 1 #[.int .i64 0, .int .i64 0] [(0, .t 78)]), none⟩, ⟨some 80, .eff (.app 2 16 (.t 77) (.t 79)), none⟩, ⟨some 81, .pur (.fad 0 (.t 4)), none⟩, ⟨none, .eff (.st 1 (.t 81) (.t 80)), none⟩]
def u10_27 : IC := .reg u10_27r
def u10_18 : IC := .seq u10_19 u10_27
def u10_17r : List IOper := [⟨some 55, .pur (.fad 2 (.t 4)), none⟩, ⟨some 56, .pur (.ld 1 false (.t 55)), none⟩, ⟨some 57, .pur (.ld 4 true (.t 7)), none⟩, ⟨some 58, .new (.bsl 4 1 #[.int .i64 0, .int .i64 0, .int .i64 0, .int .i64 0] [(0, .t 57)]), none⟩, ⟨some 59, .eff (.app 4 32 (.t 56) (.t 58)), none⟩, ⟨some 60, .pur (.fad 2 (.t 4)), none⟩, ⟨none, .eff (.st 1 (.t 60) (.t 59)), none⟩]
def u10_17 : IC := .seq (.reg u10_17r) u10_18
def u10_16r : List IOper := [⟨some 51, .pur (.fad 0 (.t 4)), none⟩, ⟨some 52, .pur (.ld 1 false (.t 51)), none⟩, ⟨some 53, .pur (.len (.t 52)), none⟩, ⟨some 54, .pur (.fad 3 (.t 7)), none⟩, ⟨none, .eff (.st 1 (.t 54) (.t 53)), none⟩]
def u10_16 : IC := .seq (.reg u10_16r) u10_17
def u10_15r : List IOper := [⟨some 47, .pur (.mv (.t 5)), none⟩, ⟨some 48, .pur (.mv (.t 6)), none⟩, ⟨some 49, .pur (.iad 4 (.t 47) (.t 48)), none⟩, ⟨some 50, .pur (.ld 4 true (.t 49)), none⟩, ⟨some 7, .new (.box (.k (.agg #[.int .i64 0, .int .i64 0, .int .i64 0, .int .i64 0]))), none⟩, ⟨none, .eff (.st 4 (.t 7) (.t 50)), none⟩]
def u10_15 : IC := .seq (.reg u10_15r) u10_16
def u10_12 : IC := .seq u10_13 u10_15
def u10_28r : List IOper := [⟨some 38, .pur (.mv (.t 6)), none⟩, ⟨some 39, .pur (.bin .add (.t 38) (.k (.int .i64 1))), none⟩, ⟨some 6, .pur (.mv (.t 39)), none⟩]
def u10_28 : IC := .reg u10_28r
def u10_11 : IC := .seq (.blk 1 u10_12) u10_28
def u10_8 : IC := .seq u10_9 u10_11
def u10_7 : IC := .blk 0 (.loop u10_8)
def u10_6r : List IOper := [⟨some 6, .pur (.mv (.k (.int .i64 0))), none⟩]
def u10_6 : IC := .seq (.reg u10_6r) u10_7
def u10_29r : List IOper := [⟨some 82, .pur (.ld 7 true (.t 4)), none⟩, ⟨none, .eff (.st 7 (.t 2) (.t 82)), none⟩]
def u10_29 : IC := .seq (.reg u10_29r) .ret
def u10_5 : IC := .seq u10_6 u10_29
def u10_4r : List IOper := [⟨some 24, .pur (.bld #[.int .i64 0, .int .i64 0, .int .i64 0, .int .i64 0] [(0, 1), (1, 1), (2, 1), (3, 1)] [(1, .k (.int .i64 1))]), none⟩, ⟨some 25, .pur (.bld #[.int .i64 0, .int .i64 0, .int .i64 0, .int .i64 0] [(0, 1), (1, 1), (2, 1), (3, 1)] [(1, .k (.int .i64 2))]), none⟩, ⟨some 26, .pur (.bld #[.int .i64 0, .int .i64 0, .int .i64 0, .int .i64 0] [(0, 1), (1, 1), (2, 1), (3, 1)] [(1, .k (.int .i64 3)), (2, .k (.int .i64 3))]), none⟩, ⟨some 27, .pur (.bld #[.int .i64 0, .int .i64 0, .int .i64 0, .int .i64 0] [(0, 1), (1, 1), (2, 1), (3, 1)] [(1, .k (.int .i64 5)), (2, .k (.int .i64 1))]), none⟩, ⟨some 28, .pur (.bld #[.int .i64 0, .int .i64 0, .int .i64 0, .int .i64 0] [(0, 1), (1, 1), (2, 1), (3, 1)] [(1, .k (.int .i64 6))]), none⟩, ⟨some 29, .pur (.bld #[.int .i64 0, .int .i64 0, .int .i64 0, .int .i64 0] [(0, 1), (1, 1), (2, 1), (3, 1)] [(0, .k (.int .i64 1)), (1, .k (.int .i64 1))]), none⟩, ⟨some 30, .pur (.bld #[.int .i64 0, .int .i64 0, .int .i64 0, .int .i64 0] [(0, 1), (1, 1), (2, 1), (3, 1)] [(0, .k (.int .i64 1)), (1, .k (.int .i64 3)), (2, .k (.int .i64 3))]), none⟩, ⟨some 31, .pur (.bld #[.int .i64 0, .int .i64 0, .int .i64 0, .int .i64 0] [(0, 1), (1, 1), (2, 1), (3, 1)] [(0, .k (.int .i64 1)), (1, .k (.int .i64 4)), (2, .k (.int .i64 63))]), none⟩, ⟨some 32, .pur (.bld #[.int .i64 0, .int .i64 0, .int .i64 0, .int .i64 0] [(0, 1), (1, 1), (2, 1), (3, 1)] [(0, .k (.int .i64 1)), (1, .k (.int .i64 6)), (2, .k (.int .i64 1))]), none⟩, ⟨some 33, .new (.bsl 4 9 #[.int .i64 0, .int .i64 0, .int .i64 0, .int .i64 0] [(0, .t 24), (1, .t 25), (2, .t 26), (3, .t 27), (4, .t 28), (5, .t 29), (6, .t 30), (7, .t 31), (8, .t 32)]), none⟩, ⟨some 5, .pur (.mv (.t 33)), none⟩]
def u10_4 : IC := .seq (.reg u10_4r) u10_5
def u10_3r : List IOper := [⟨some 16, .new (.bsl 1 2 #[.string ⟨#[]⟩] [(0, .k (.string ⟨#[103, 111]⟩)), (1, .k (.string ⟨#[111, 118, 101, 114]⟩))]), none⟩, ⟨some 17, .pur (.mv (.t 3)), none⟩, ⟨some 18, .call 27 [.t 17, .k (.int .i64 4)], none⟩, ⟨some 19, .pur (.mv (.t 3)), none⟩, ⟨some 20, .call 27 [.t 19, .k (.int .i64 4)], none⟩, ⟨some 21, .new (.bsl 1 2 #[.int .i64 0] [(0, .t 18), (1, .t 20)]), none⟩, ⟨some 22, .new (.bsl 1 3 #[.int .i64 0] [(0, .k (.int .i64 0)), (1, .k (.int .i64 5)), (2, .k (.int .i64 (-3)))]), none⟩, ⟨some 23, .pur (.bld #[.slice none 0 0, .slice none 0 0, .slice none 0 0, .slice none 0 0, .slice none 0 0, .int .i64 0, .int .i64 0] [(0, 1), (1, 1), (2, 1), (3, 1), (4, 1), (5, 1), (6, 1)] [(1, .t 16), (3, .t 21), (4, .t 22), (5, .k (.int .i64 2)), (6, .k (.int .i64 2))]), none⟩, ⟨some 4, .new (.box (.k (.agg #[.slice none 0 0, .slice none 0 0, .slice none 0 0, .slice none 0 0, .slice none 0 0, .int .i64 0, .int .i64 0]))), none⟩, ⟨none, .eff (.st 7 (.t 4) (.t 23)), none⟩]
def u10_3 : IC := .seq (.reg u10_3r) u10_4
def u10_2r : List IOper := [⟨some 9, .pur (.mv (.t 0)), none⟩, ⟨some 10, .pur (.mv (.t 0)), none⟩, ⟨some 11, .pur (.len (.t 10)), none⟩, ⟨some 12, .pur (.mn (.t 11) (.k (.int .i64 200))), none⟩, ⟨some 13, .pur (.slc 1 (.t 9) none (some (.t 12))), none⟩, ⟨some 14, .pur (.bld #[.slice none 0 0, .int .i64 0] [(0, 1), (1, 1)] [(0, .t 13)]), none⟩, ⟨some 15, .new (.box (.t 14)), none⟩, ⟨some 3, .pur (.mv (.t 15)), none⟩]
def u10_2 : IC := .seq (.reg u10_2r) u10_3
def u10_1r : List IOper := [⟨some 2, .new (.box (.k (.agg #[.slice none 0 0, .slice none 0 0, .slice none 0 0, .slice none 0 0, .slice none 0 0, .int .i64 0, .int .i64 0]))), none⟩]
def u10_1 : IC := .seq (.reg u10_1r) u10_2
def u10 : IFn := ⟨83, u10_1, [.cell 2 7 true]⟩
end
theorem isU10 : IsFn Tryd.prog 10 u10 := by unfold IsFn; kernel_rfl
instance i10_10 : WR Tryd.prog 83 u10_10 (rCE (.t 37) .skip (.exit 0) [2, 3, 4, 5, 6, 37]) := ⟨mkCE⟩
instance i10_9 : WR Tryd.prog 83 u10_9 (rS u10_9r u10_10 [2, 3, 4, 5, 6]) := ⟨mkS⟩
instance i10_14 : WR Tryd.prog 83 u10_14 (rCE (.t 46) (.exit 1) .skip [2, 3, 4, 5, 6, 46]) := ⟨mkCE⟩
instance i10_13 : WR Tryd.prog 83 u10_13 (rS u10_13r u10_14 [2, 3, 4, 5, 6]) := ⟨mkS⟩
instance i10_23 : WR Tryd.prog 83 u10_23 (rCE (.t 64) .skip (.exit 2) [2, 3, 4, 5, 6, 8, 64]) := ⟨mkCE⟩
instance i10_22 : WR Tryd.prog 83 u10_22 (rS u10_22r u10_23 [2, 3, 4, 5, 6, 8]) := ⟨mkS⟩
instance i10_25 : WR Tryd.prog 83 u10_25 (rDE 10 u10_25r [2, 3, 4, 5, 6, 8]) := ⟨mkDE⟩
instance i10_26 : WR Tryd.prog 83 u10_26 (rE u10_26r [2, 3, 4, 5, 6, 8]) := ⟨mkE⟩
instance i10_24 : WR Tryd.prog 83 u10_24 (rB 3 u10_25 u10_26 [2, 3, 4, 5, 6, 8]) := ⟨mkB⟩
instance i10_21 : WR Tryd.prog 83 u10_21 (rQ u10_22 u10_24 [2, 3, 4, 5, 6, 8]) := ⟨mkQ⟩
instance i10_20 : WR Tryd.prog 83 u10_20 (rBE 2 (.loop u10_21) [2, 3, 4, 5, 6, 8]) := ⟨mkBE⟩
instance i10_19 : WR Tryd.prog 83 u10_19 (rS u10_19r u10_20 [2, 3, 4, 5, 6]) := ⟨mkS⟩
instance i10_27 : WR Tryd.prog 83 u10_27 (rE u10_27r [2, 3, 4, 5, 6]) := ⟨mkE⟩
instance i10_18 : WR Tryd.prog 83 u10_18 (rQ u10_19 u10_27 [2, 3, 4, 5, 6]) := ⟨mkQ⟩
instance i10_17 : WR Tryd.prog 83 u10_17 (rS u10_17r u10_18 [2, 3, 4, 5, 6, 7]) := ⟨mkS⟩
instance i10_16 : WR Tryd.prog 83 u10_16 (rS u10_16r u10_17 [2, 3, 4, 5, 6, 7]) := ⟨mkS⟩
instance i10_15 : WR Tryd.prog 83 u10_15 (rS u10_15r u10_16 [2, 3, 4, 5, 6]) := ⟨mkS⟩
instance i10_12 : WR Tryd.prog 83 u10_12 (rQ u10_13 u10_15 [2, 3, 4, 5, 6]) := ⟨mkQ⟩
instance i10_28 : WR Tryd.prog 83 u10_28 (rE u10_28r [2, 3, 4, 5, 6]) := ⟨mkE⟩
instance i10_11 : WR Tryd.prog 83 u10_11 (rB 1 u10_12 u10_28 [2, 3, 4, 5, 6]) := ⟨mkB⟩
instance i10_8 : WR Tryd.prog 83 u10_8 (rQ u10_9 u10_11 [2, 3, 4, 5, 6]) := ⟨mkQ⟩
instance i10_7 : WR Tryd.prog 83 u10_7 (rBE 0 (.loop u10_8) [2, 3, 4, 5, 6]) := ⟨mkBE⟩
instance i10_6 : WR Tryd.prog 83 u10_6 (rS u10_6r u10_7 [2, 3, 4, 5]) := ⟨mkS⟩
instance i10_29 : WR Tryd.prog 83 u10_29 (rS u10_29r .ret [2, 4]) := ⟨mkS⟩
instance i10_5 : WR Tryd.prog 83 u10_5 (rQ u10_6 u10_29 [2, 3, 4, 5]) := ⟨mkQ⟩
instance i10_4 : WR Tryd.prog 83 u10_4 (rS u10_4r u10_5 [2, 3, 4]) := ⟨mkS⟩
instance i10_3 : WR Tryd.prog 83 u10_3 (rS u10_3r u10_4 [2, 3]) := ⟨mkS⟩
instance i10_2 : WR Tryd.prog 83 u10_2 (rS u10_2r u10_3 [0, 2]) := ⟨mkS⟩
instance i10_1 : WR Tryd.prog 83 u10_1 (rS u10_1r u10_2 [0]) := ⟨mkS⟩
attribute [go_sem] u10_9r u10_13r u10_22r u10_25r u10_26r u10_19r u10_27r u10_17r u10_16r u10_15r u10_28r u10_6r u10_29r u10_4r u10_3r u10_2r u10_1r
theorem c_Made (l : List UInt8) (hl : l.length ≤ 9223372036854775807) : PC Tryd.prog 10 [.lst (bytesC l)] (madeM l).v := by
  have nlb : DV.nlL (bytesC l) = true := nlL_map (fun _ => rfl) l
  refine PC.of mixedU isU10 (Nat.le_of_ble_eq_true rfl) (by simp [DV.nlL, DV.nl, nlb]) (by simp [DV.nlL, DV.nl, nlL_ints, nlL_strs, nlL_instrs, nlL_entries]) ?_
  show IW Tryd.prog 83 u10_1 ⟨argT _, _, _⟩ (rt [.cell 2 7 true] _)
  have hlen := bytesC_len l
  obtain ⟨t, ht⟩ : ∃ t, t = l.take 200 := ⟨_, rfl⟩
  have htl : t.length ≤ 200 := by rw [ht, List.length_take]; omega
  have hmn : (if (200 : Int) < ((l.length : Nat) : Int) then (200 : Int) else ((l.length : Nat) : Int)) = ((t.length : Nat) : Int) := by
    rw [ht, List.length_take]; split <;> omega
  have hsl : ∀ H, slcR H 1 (.lst (bytesC l)) none (some (I64 (t.length : Int))) = some (.lst (bytesC t)) := fun H => by
    have e : l.take t.length = t := by rw [ht, List.length_take]; by_cases h : 200 ≤ l.length
                                       · rw [Nat.min_eq_left h]
                                       · rw [Nat.min_eq_right (by omega), List.take_of_length_le (Nat.le_refl _), List.take_of_length_le (by omega)]
    rw [slc_bytes (by rw [ht, List.length_take]; omega), e]
  repeat' ((first | with_reducible refine wr ?_ | with_reducible refine i_ret ?_ | with_reducible refine i_skip ?_ | with_reducible refine i_exit ?_ | ((with_reducible refine k_cb ?_ ?_) <;> (intro hb; try simp only [hb])) | ((with_reducible refine k_gb ?_ ?_) <;> (intro hb; try simp only [hb])) | ((with_reducible refine k_gb' ?_ ?_) <;> (intro hb; try simp only [hb]))) <;> try simp only [go_sem, Nat.reduceAdd, Nat.reduceLeDiff, Nat.reduceEqDiff, Nat.reduceMul, Nat.reduceSub, ↓reduceIte, Int.reduceLT, Int.reduceLE, Int.reduceGT, Int.reduceGE, Nat.reduceLT, Nat.reduceGT, Int.reduceToNat, reduceCtorEq, Nat.reduceBEq, Int.reduceBEq, Int.reduceBNe, Int.reduceEq, Int.reduceNe, decide_true, decide_false, hlen, hmn, hsl])
  refine AC.call (c_next t (by omega) 0 (by omega) 4 (by omega) (by omega) _ _ 1 rfl (by omega)) ?_
  rintro v H' c1 ⟨rfl, rfl⟩ hc1
  have hp1 := nextM_le (l := t) (p := 0) (n := 4) (by omega)
  simp only [go_sem, Nat.reduceAdd, Nat.reduceLeDiff, Nat.reduceEqDiff, Nat.reduceMul, Nat.reduceSub, ↓reduceIte, Int.reduceLT, Int.reduceLE, Int.reduceGT, Int.reduceGE, Nat.reduceLT, Nat.reduceGT, Int.reduceToNat, reduceCtorEq, Nat.reduceBEq, Int.reduceBEq, Int.reduceBNe, Int.reduceEq, Int.reduceNe, decide_true, decide_false]
  repeat' ((first | with_reducible refine wr ?_ | with_reducible refine i_ret ?_ | with_reducible refine i_skip ?_ | with_reducible refine i_exit ?_ | ((with_reducible refine k_cb ?_ ?_) <;> (intro hb; try simp only [hb])) | ((with_reducible refine k_gb ?_ ?_) <;> (intro hb; try simp only [hb])) | ((with_reducible refine k_gb' ?_ ?_) <;> (intro hb; try simp only [hb]))) <;> try simp only [go_sem, Nat.reduceAdd, Nat.reduceLeDiff, Nat.reduceEqDiff, Nat.reduceMul, Nat.reduceSub, ↓reduceIte, Int.reduceLT, Int.reduceLE, Int.reduceGT, Int.reduceGE, Nat.reduceLT, Nat.reduceGT, Int.reduceToNat, reduceCtorEq, Nat.reduceBEq, Int.reduceBEq, Int.reduceBNe, Int.reduceEq, Int.reduceNe, decide_true, decide_false])
  refine AC.call (c_next t (by omega) _ hp1 4 (by omega) (by omega) _ _ 1 h_same (by omega)) ?_
  rintro v H' c2 ⟨rfl, rfl⟩ hc2
  have hp2 := nextM_le (l := t) (p := (nextM t 0 4).2) (n := 4) hp1
  rw [h_upd2]
  have ne0 : ¬ 0 = c2 := by omega
  have ne1 : ¬ 0 = c2 + 1 := by omega
  have ne2 : ¬ 0 = c2 + 2 := by omega
  have ne3 : ¬ 0 = c2 + 3 := by omega
  have ne4 : ¬ 1 = c2 := by omega
  have ne5 : ¬ 1 = c2 + 1 := by omega
  have ne6 : ¬ 1 = c2 + 2 := by omega
  have ne7 : ¬ 1 = c2 + 3 := by omega
  have ne8 : ¬ 2 = c2 := by omega
  have ne9 : ¬ 2 = c2 + 1 := by omega
  have ne10 : ¬ 2 = c2 + 2 := by omega
  have ne11 : ¬ 2 = c2 + 3 := by omega
  have ne12 : ¬ c2 = 0 := by omega
  have ne13 : ¬ c2 = 1 := by omega
  have ne14 : ¬ c2 = 2 := by omega
  have ne15 : ¬ c2 = c2 + 1 := by omega
  have ne16 : ¬ c2 = c2 + 2 := by omega
  have ne17 : ¬ c2 = c2 + 3 := by omega
  have ne18 : ¬ c2 + 1 = 0 := by omega
  have ne19 : ¬ c2 + 1 = 1 := by omega
  have ne20 : ¬ c2 + 1 = 2 := by omega
  have ne21 : ¬ c2 + 1 = c2 := by omega
  have ne22 : ¬ c2 + 1 = c2 + 2 := by omega
  have ne23 : ¬ c2 + 1 = c2 + 3 := by omega
  have ne24 : ¬ c2 + 2 = 0 := by omega
  have ne25 : ¬ c2 + 2 = 1 := by omega
  have ne26 : ¬ c2 + 2 = 2 := by omega
  have ne27 : ¬ c2 + 2 = c2 := by omega
  have ne28 : ¬ c2 + 2 = c2 + 1 := by omega
  have ne29 : ¬ c2 + 2 = c2 + 3 := by omega
  have ne30 : ¬ c2 + 3 = 0 := by omega
  have ne31 : ¬ c2 + 3 = 1 := by omega
  have ne32 : ¬ c2 + 3 = 2 := by omega
  have ne33 : ¬ c2 + 3 = c2 := by omega
  have ne34 : ¬ c2 + 3 = c2 + 1 := by omega
  have ne35 : ¬ c2 + 3 = c2 + 2 := by omega
  simp only [go_sem, Nat.reduceAdd, Nat.reduceLeDiff, Nat.reduceEqDiff, Nat.reduceMul, Nat.reduceSub, ↓reduceIte, Int.reduceLT, Int.reduceLE, Int.reduceGT, Int.reduceGE, Nat.reduceLT, Nat.reduceGT, Int.reduceToNat, reduceCtorEq, Nat.reduceBEq, Int.reduceBEq, Int.reduceBNe, Int.reduceEq, Int.reduceNe, decide_true, decide_false, ne0, ne1, ne2, ne3, ne4, ne5, ne6, ne7, ne8, ne9, ne10, ne11, ne12, ne13, ne14, ne15, ne16, ne17, ne18, ne19, ne20, ne21, ne22, ne23, ne24, ne25, ne26, ne27, ne28, ne29, ne30, ne31, ne32, ne33, ne34, ne35]
  repeat' ((first | with_reducible refine wr ?_ | with_reducible refine i_ret ?_ | with_reducible refine i_skip ?_ | with_reducible refine i_exit ?_ | ((with_reducible refine k_cb ?_ ?_) <;> (intro hb; try simp only [hb])) | ((with_reducible refine k_gb ?_ ?_) <;> (intro hb; try simp only [hb])) | ((with_reducible refine k_gb' ?_ ?_) <;> (intro hb; try simp only [hb]))) <;> try simp only [go_sem, Nat.reduceAdd, Nat.reduceLeDiff, Nat.reduceEqDiff, Nat.reduceMul, Nat.reduceSub, ↓reduceIte, Int.reduceLT, Int.reduceLE, Int.reduceGT, Int.reduceGE, Nat.reduceLT, Nat.reduceGT, Int.reduceToNat, reduceCtorEq, Nat.reduceBEq, Int.reduceBEq, Int.reduceBNe, Int.reduceEq, Int.reduceNe, decide_true, decide_false, ne0, ne1, ne2, ne3, ne4, ne5, ne6, ne7, ne8, ne9, ne10, ne11, ne12, ne13, ne14, ne15, ne16, ne17, ne18, ne19, ne20, ne21, ne22, ne23, ne24, ne25, ne26, ne27, ne28, ne29, ne30, ne31, ne32, ne33, ne34, ne35])
  have hkk : ∃ k, k = c2 + 1 + 1 := ⟨_, rfl⟩
  have hkeys : (entsV keysM) = entsV keysM := rfl
  refine IW.keep [2, 3, 4, 5, 6] [.ptr 0 0, .ptr 1 0, .ptr (c2 + 1 + 1) 0, entsV keysM, I64 0]
    (H' := MH (c2 + 1 + 1) t (nextM t (nextM t 0 4).2 4).2 (strs mdS) (ints (mdP t)) (ints mdV) [] [] none none)
    ((g_cell (a := 2) (k := c2 + 1 + 1) (u := 1) (u' := 1) (pre := [.snil]) (suf := [.snil, .slc c2 0 2, .slc (c2 + 1) 0 3, I64 2, I64 2]) (xs := mdS.map DV.str) (junk := []) (by simp only [go_sem, ne0, ne1, ne2, ne3, ne4, ne5, ne6, ne7, ne8, ne9, ne10, ne11, ne12, ne13, ne14, ne15, ne16, ne17, ne18, ne19, ne20, ne21, ne22, ne23, ne24, ne25, ne26, ne27, ne28, ne29, ne30, ne31, ne32, ne33, ne34, ne35, List.cons_append, List.nil_append]; rfl) (by simp only [go_sem, ne0, ne1, ne2, ne3, ne4, ne5, ne6, ne7, ne8, ne9, ne10, ne11, ne12, ne13, ne14, ne15, ne16, ne17, ne18, ne19, ne20, ne21, ne22, ne23, ne24, ne25, ne26, ne27, ne28, ne29, ne30, ne31, ne32, ne33, ne34, ne35]; rfl) (by simp [DV.one]) rfl (str_unit _) (by omega)).trans
    ((g_cell (a := c2) (k := c2 + 1 + 1) (u := 1) (u' := 1) (pre := [.snil, strs mdS, .snil]) (suf := [.slc (c2 + 1) 0 3, I64 2, I64 2]) (xs := (mdP t).map I64) (junk := []) (by simp only [go_sem, ne0, ne1, ne2, ne3, ne4, ne5, ne6, ne7, ne8, ne9, ne10, ne11, ne12, ne13, ne14, ne15, ne16, ne17, ne18, ne19, ne20, ne21, ne22, ne23, ne24, ne25, ne26, ne27, ne28, ne29, ne30, ne31, ne32, ne33, ne34, ne35, List.cons_append, List.nil_append]; rfl) (by simp only [go_sem, ne0, ne1, ne2, ne3, ne4, ne5, ne6, ne7, ne8, ne9, ne10, ne11, ne12, ne13, ne14, ne15, ne16, ne17, ne18, ne19, ne20, ne21, ne22, ne23, ne24, ne25, ne26, ne27, ne28, ne29, ne30, ne31, ne32, ne33, ne34, ne35]; rfl) (by simp [DV.one]) rfl (ints_unit _) (by omega)).trans
    ((g_cell (a := c2 + 1) (k := c2 + 1 + 1) (u := 1) (u' := 1) (pre := [.snil, strs mdS, .snil, ints (mdP t)]) (suf := [I64 2, I64 2]) (xs := mdV.map I64) (junk := []) (by simp only [go_sem, ne0, ne1, ne2, ne3, ne4, ne5, ne6, ne7, ne8, ne9, ne10, ne11, ne12, ne13, ne14, ne15, ne16, ne17, ne18, ne19, ne20, ne21, ne22, ne23, ne24, ne25, ne26, ne27, ne28, ne29, ne30, ne31, ne32, ne33, ne34, ne35, List.cons_append, List.nil_append]; rfl) (by simp only [go_sem, ne0, ne1, ne2, ne3, ne4, ne5, ne6, ne7, ne8, ne9, ne10, ne11, ne12, ne13, ne14, ne15, ne16, ne17, ne18, ne19, ne20, ne21, ne22, ne23, ne24, ne25, ne26, ne27, ne28, ne29, ne30, ne31, ne32, ne33, ne34, ne35]; rfl) (by simp [DV.one]) rfl (ints_unit _) (by omega)).trans
    (GL.frzS (id := c2 + 1 + 1 + 1) (b := ⟨4, true, cellsL (keysM.map Ent.v)⟩) (by simp only [go_sem, ne0, ne1, ne2, ne3, ne4, ne5, ne6, ne7, ne8, ne9, ne10, ne11, ne12, ne13, ne14, ne15, ne16, ne17, ne18, ne19, ne20, ne21, ne22, ne23, ne24, ne25, ne26, ne27, ne28, ne29, ne30, ne31, ne32, ne33, ne34, ne35]; rfl) rfl (fun j => ?_) (.cons _ _ _ _ (.same _) (.cons _ _ _ _ (.same _) (.cons _ _ _ _ (.same _) (.cons _ _ _ _ (fz_slc (u := 4) rfl (ent_unit _) ⟨[], by simp⟩) (.cons _ _ _ _ (.same _) .nil))))))))) ?_
  · by_cases e1 : j = c2 + 1 + 1
    · subst e1; right; refine ⟨by omega, ?_⟩; rw [h_same]; unfold MH; simp only [optH]; rw [h_same]; rfl
    · by_cases e2 : j = 1
      · subst e2; right; refine ⟨by omega, ?_⟩; rw [h_ne (by omega), h_dne (by omega), h_ne (by omega), h_dne (by omega), h_ne (by omega), h_dne (by omega)]; simp only [go_sem, ne0, ne1, ne2, ne3, ne4, ne5, ne6, ne7, ne8, ne9, ne10, ne11, ne12, ne13, ne14, ne15, ne16, ne17, ne18, ne19, ne20, ne21, ne22, ne23, ne24, ne25, ne26, ne27, ne28, ne29, ne30, ne31, ne32, ne33, ne34, ne35]; rfl
      · by_cases e3 : j = 0
        · subst e3; right; refine ⟨by omega, ?_⟩; rw [h_ne (by omega), h_dne (by omega), h_ne (by omega), h_dne (by omega), h_ne (by omega), h_dne (by omega)]; simp only [go_sem, ne0, ne1, ne2, ne3, ne4, ne5, ne6, ne7, ne8, ne9, ne10, ne11, ne12, ne13, ne14, ne15, ne16, ne17, ne18, ne19, ne20, ne21, ne22, ne23, ne24, ne25, ne26, ne27, ne28, ne29, ne30, ne31, ne32, ne33, ne34, ne35]; rfl
        · left; unfold MH; simp only [optH]; rw [h_ne e1, h_ne e2, h_ne e3]; rfl
  obtain ⟨k, hk⟩ : ∃ k, k = c2 + 1 + 1 := ⟨_, rfl⟩
  rw [← hk]
  have hkl : keysM.length = 9 := rfl
  refine i_loop (fun q : Nat × Option Nat × Option Nat => [(2, .ptr 0 0), (3, .ptr 1 0), (4, .ptr k 0), (5, entsV keysM), (6, I64 q.1)]) (fun q => MH k t (mdK t q.1).p (strs mdS) (ints (mdP t)) (ints mdV) (mdK t q.1).I (mdK t q.1).E q.2.1 q.2.2)
    (fun q cc => MO k q.2.1 q.2.2 cc ∧ q.1 ≤ 9 ∧ (q.2.1 = none → (mdK t q.1).I = []) ∧ (q.2.2 = none → (mdK t q.1).E = []) ∧ (q.1 ≠ 0 → q.2.1 ≠ none ∧ q.2.2 ≠ none)) (fun q => 9 - q.1) (0, none, none)
    (by simp [tmLe, tm, Tm.upd]) (Sub.refl _) ⟨⟨by omega, by omega, by simp, by simp, by simp⟩, by simp, fun _ => rfl, fun _ => rfl, by simp⟩ ?_
  clear hkeys hkk
  rintro ⟨i, o1, o2⟩ cc ⟨hO, hi9, hn1, hn2, hne⟩
  simp only at hO hi9 hn1 hn2 hne
  obtain ⟨B1, B2, B3⟩ := mdK_bd (l := t) i
  by_cases hlt : i < 9
  · have hd : decide ((i : Int) < ((9 : Nat) : Int)) = true := by simp; omega
    have hw : IntKind.i64.wrap ((i : Int) + 1) = ((i + 1 : Nat) : Int) := by rw [w64 (by omega) (by omega)]; omega
    obtain ⟨e, he⟩ : ∃ e, e = keysM.getD i ⟨0, 0, 0, 0⟩ := ⟨_, rfl⟩
    have hg : keysM[i]? = some e := by rw [he, List.getD, List.getElem?_eq_getElem (by rw [hkl]; exact hlt)]; rfl
    obtain ⟨x, hx⟩ : ∃ x, x = mdK t i := ⟨_, rfl⟩
    have hmd : mdK t (i + 1) = mdI t e i x := by rw [he, hx]; rfl
    rw [← hx] at B1 B2 B3 hn1 hn2
    simp only
    rw [← hx]
    obtain ⟨I, E, p⟩ := x
    simp only at B1 B2 B3 hn1 hn2 ⊢
    by_cases hi0 : i = 0
    · have hgt : decide ((i : Int) > 0) = false := by simp; omega
      obtain ⟨pp, hpp⟩ : ∃ pp, pp = p := ⟨_, rfl⟩
      have hmd2 : mdK t (i + 1) = mdH t e ⟨I, E, p⟩ pp := by rw [hmd, mdI, if_pos hi0, hpp]
      have Hpp : pp ≤ t.length := by rw [hpp]; exact B1
      rw [← hpp]
      have hlt1 := r_lentodo (o := o1) (n := I.length) (fun e => len_nil (hn1 e))
      have hD := fun (p : Nat) => MH_k (l := t) (p := p) (S := strs mdS) (P := ints (mdP t)) (V := ints mdV) (I := I) (E := E) hO
      have hcc := hO.kc
      have hk2 := hO.k2
      have hdk : ∀ X, delO X o2 k = X k := fun X => delO_ne (fun i hi e => by have := hO.b i hi; omega)
      have hd1 : ∀ X, delO X o2 1 = X 1 := fun X => delO_ne (fun i hi e => by have := hO.b i hi; omega)
      have hd0 : ∀ X, delO X o2 0 = X 0 := fun X => delO_ne (fun i hi e => by have := hO.b i hi; omega)
      have hda : ∀ X j, o1 = some j → delO X o2 j = X j := fun X j hj => delO_ne (fun i hi e => hO.ne j hj (by rw [e]; exact hi))
      have ne0 : ¬ 0 = k := by omega
      have ne1 : ¬ 0 = cc := by omega
      have ne2 : ¬ 0 = cc + 1 := by omega
      have ne3 : ¬ 0 = cc + 2 := by omega
      have ne4 : ¬ 1 = k := by omega
      have ne5 : ¬ 1 = cc := by omega
      have ne6 : ¬ 1 = cc + 1 := by omega
      have ne7 : ¬ 1 = cc + 2 := by omega
      have ne8 : ¬ k = 0 := by omega
      have ne9 : ¬ k = 1 := by omega
      have ne10 : ¬ k = cc := by omega
      have ne11 : ¬ k = cc + 1 := by omega
      have ne12 : ¬ k = cc + 2 := by omega
      have ne13 : ¬ cc = 0 := by omega
      have ne14 : ¬ cc = 1 := by omega
      have ne15 : ¬ cc = k := by omega
      have ne16 : ¬ cc = cc + 1 := by omega
      have ne17 : ¬ cc = cc + 2 := by omega
      have ne18 : ¬ cc + 1 = 0 := by omega
      have ne19 : ¬ cc + 1 = 1 := by omega
      have ne20 : ¬ cc + 1 = k := by omega
      have ne21 : ¬ cc + 1 = cc := by omega
      have ne22 : ¬ cc + 1 = cc + 2 := by omega
      have ne23 : ¬ cc + 2 = 0 := by omega
      have ne24 : ¬ cc + 2 = 1 := by omega
      have ne25 : ¬ cc + 2 = k := by omega
      have ne26 : ¬ cc + 2 = cc := by omega
      have ne27 : ¬ cc + 2 = cc + 1 := by omega
      repeat' ((first | with_reducible refine wr ?_ | with_reducible refine i_ret ?_ | with_reducible refine i_skip ?_ | with_reducible refine i_exit ?_ | ((with_reducible refine k_cb ?_ ?_) <;> (intro hb; try simp only [hb])) | ((with_reducible refine k_gb ?_ ?_) <;> (intro hb; try simp only [hb])) | ((with_reducible refine k_gb' ?_ ?_) <;> (intro hb; try simp only [hb]))) <;> try simp only [go_sem, Nat.reduceAdd, Nat.reduceLeDiff, Nat.reduceEqDiff, Nat.reduceMul, Nat.reduceSub, ↓reduceIte, Int.reduceLT, Int.reduceLE, Int.reduceGT, Int.reduceGE, Nat.reduceLT, Nat.reduceGT, Int.reduceToNat, reduceCtorEq, Nat.reduceBEq, Int.reduceBEq, Int.reduceBNe, Int.reduceEq, Int.reduceNe, decide_true, decide_false, hkl, hd, hgt, hg, hlt1, hD, ne0, ne1, ne2, ne3, ne4, ne5, ne6, ne7, ne8, ne9, ne10, ne11, ne12, ne13, ne14, ne15, ne16, ne17, ne18, ne19, ne20, ne21, ne22, ne23, ne24, ne25, ne26, ne27])
      refine k_eval (r_apptodo (cs := cellsL (E.map Ent.v)) (fun e => ⟨len_nil (hn2 e), entC_nil (hn2 e)⟩) (fun i hi => ?_) (entC_len' E) (by omega) (by omega) (by omega)) ?_
      · have := hO.b i hi
        rw [h_ne (by omega), h_ne (by omega), h_ne (by omega), h_ne (by omega)]; exact MH_b hi
      simp only [go_sem, Nat.reduceAdd, Nat.reduceLeDiff, Nat.reduceEqDiff, Nat.reduceMul, Nat.reduceSub, ↓reduceIte, Int.reduceLT, Int.reduceLE, Int.reduceGT, Int.reduceGE, Nat.reduceLT, Nat.reduceGT, Int.reduceToNat, reduceCtorEq, Nat.reduceBEq, Int.reduceBEq, Int.reduceBNe, Int.reduceEq, Int.reduceNe, decide_true, decide_false, hdk, hD, ne0, ne1, ne2, ne3, ne4, ne5, ne6, ne7, ne8, ne9, ne10, ne11, ne12, ne13, ne14, ne15, ne16, ne17, ne18, ne19, ne20, ne21, ne22, ne23, ne24, ne25, ne26, ne27]
      repeat' ((first | with_reducible refine wr ?_ | with_reducible refine i_ret ?_ | with_reducible refine i_skip ?_ | with_reducible refine i_exit ?_ | ((with_reducible refine k_cb ?_ ?_) <;> (intro hb; try simp only [hb])) | ((with_reducible refine k_gb ?_ ?_) <;> (intro hb; try simp only [hb])) | ((with_reducible refine k_gb' ?_ ?_) <;> (intro hb; try simp only [hb]))) <;> try simp only [go_sem, Nat.reduceAdd, Nat.reduceLeDiff, Nat.reduceEqDiff, Nat.reduceMul, Nat.reduceSub, ↓reduceIte, Int.reduceLT, Int.reduceLE, Int.reduceGT, Int.reduceGE, Nat.reduceLT, Nat.reduceGT, Int.reduceToNat, reduceCtorEq, Nat.reduceBEq, Int.reduceBEq, Int.reduceBNe, Int.reduceEq, Int.reduceNe, decide_true, decide_false, hdk, hD, ne0, ne1, ne2, ne3, ne4, ne5, ne6, ne7, ne8, ne9, ne10, ne11, ne12, ne13, ne14, ne15, ne16, ne17, ne18, ne19, ne20, ne21, ne22, ne23, ne24, ne25, ne26, ne27])
      refine AC.call (c_next t (by omega) pp Hpp 4 (by omega) (by omega) _ _ 1 (by repeat (first | exact MH_1 hO | rw [h_ne (by omega)] | rw [hd1])) (by omega)) ?_
      rintro v H' c4 ⟨rfl, rfl⟩ hc4
      have hq4 := nextM_lt (l := t) (p := pp) (n := 4) (by omega)
      have hp4 := nextM_le (l := t) (p := pp) (n := 4) Hpp
      obtain ⟨n, hn⟩ : ∃ n, n = (nextM t pp 4).1 := ⟨_, rfl⟩
      obtain ⟨p2, hp2⟩ : ∃ p2, p2 = (nextM t pp 4).2 := ⟨_, rfl⟩
      rw [← hn, ← hp2]
      rw [← hn] at hq4
      rw [← hp2] at hp4
      simp only [go_sem, Nat.reduceAdd, Nat.reduceLeDiff, Nat.reduceEqDiff, Nat.reduceMul, Nat.reduceSub, ↓reduceIte, Int.reduceLT, Int.reduceLE, Int.reduceGT, Int.reduceGE, Nat.reduceLT, Nat.reduceGT, Int.reduceToNat, reduceCtorEq, Nat.reduceBEq, Int.reduceBEq, Int.reduceBNe, Int.reduceEq, Int.reduceNe, decide_true, decide_false]
      repeat' ((first | with_reducible refine wr ?_ | with_reducible refine i_ret ?_ | with_reducible refine i_skip ?_ | with_reducible refine i_exit ?_ | ((with_reducible refine k_cb ?_ ?_) <;> (intro hb; try simp only [hb])) | ((with_reducible refine k_gb ?_ ?_) <;> (intro hb; try simp only [hb])) | ((with_reducible refine k_gb' ?_ ?_) <;> (intro hb; try simp only [hb]))) <;> try simp only [go_sem, Nat.reduceAdd, Nat.reduceLeDiff, Nat.reduceEqDiff, Nat.reduceMul, Nat.reduceSub, ↓reduceIte, Int.reduceLT, Int.reduceLE, Int.reduceGT, Int.reduceGE, Nat.reduceLT, Nat.reduceGT, Int.reduceToNat, reduceCtorEq, Nat.reduceBEq, Int.reduceBEq, Int.reduceBNe, Int.reduceEq, Int.reduceNe, decide_true, decide_false])
      obtain ⟨e', he'⟩ : ∃ e' : Ent, e' = ⟨e.mode, e.trigger, e.index, (I.length : Int)⟩ := ⟨_, rfl⟩
      have hE' : cellsL ((E ++ [e']).map Ent.v) = cellsL (E.map Ent.v) ++ [I64 e.mode, I64 e.trigger, I64 e.index, I64 (I.length : Int)] := by rw [entC_snoc, he']
      refine i_loop (fun q : Nat × Option Nat => [(2, .ptr 0 0), (3, .ptr 1 0), (4, .ptr k 0), (5, entsV keysM), (6, I64 i), (8, I64 ((n - q.1 : Nat) : Int))]) (fun q => MH k t (mdB t q.1 (I, p2)).2 (strs mdS) (ints (mdP t)) (ints mdV) (mdB t q.1 (I, p2)).1 (E ++ [e']) q.2 (some (cc + 1 + 1)))
        (fun q c => MO k q.2 (some (cc + 1 + 1)) c ∧ q.1 ≤ n ∧ (q.2 = none → (mdB t q.1 (I, p2)).1 = [])) (fun q => n - q.1) (0, o1) (by simp [tmLe, tm, Tm.upd]) ?_ ?_ ?_
      · refine MH_sub (by repeat (first | exact MH_0 hO | rw [h_ne (by omega)] | rw [hd0])) h_same ?_ (fun j hj => ?_) (fun j hj => ?_)
        · rw [h_ne (by omega), h_same, List.length_append]; rfl
        · have := hO.a j hj
          rw [h_ne (by omega), h_ne (by omega), h_ne (by omega), hda _ j hj, h_ne (by omega), h_ne (by omega), h_ne (by omega), h_ne (by omega)]; exact MH_a hO hj
        · cases hj
          rw [h_ne (by omega), h_ne (by omega), h_same, hE']
      · exact ⟨⟨hk2, by omega, fun j hj => by have := hO.a j hj; omega, fun j hj => by cases hj; omega, fun j hj e => by cases e; have := hO.a _ hj; omega⟩, by simp, hn1⟩
      rintro ⟨j, oj⟩ cj ⟨hOj, hjn, hnj⟩
      simp only at hOj hjn hnj
      have hbl := mdB_len (l := t) (x := (I, p2)) j
      have hbp := mdB_pos (l := t) (x := (I, p2)) hp4 j
      simp only at hbl
      obtain ⟨Ij, hIj⟩ : ∃ x, x = (mdB t j (I, p2)).1 := ⟨_, rfl⟩
      obtain ⟨pj, hpj⟩ : ∃ x, x = (mdB t j (I, p2)).2 := ⟨_, rfl⟩
      simp only
      rw [← hIj, ← hpj]
      rw [← hIj] at hbl hnj
      rw [← hpj] at hbp
      have hDj := fun (p : Nat) => MH_k (l := t) (p := p) (S := strs mdS) (P := ints (mdP t)) (V := ints mdV) (I := Ij) (E := E ++ [e']) hOj
      have hltj := r_lentodo (o := oj) (n := Ij.length) (fun e => len_nil (hnj e))
      have hckj := hOj.kc
      by_cases hj0 : j < n
      · have hgj : decide (((n - j : Nat) : Int) > 0) = true := by simp; omega
        have hwj : IntKind.i64.wrap (((n - j : Nat) : Int) - 1) = ((n - (j + 1) : Nat) : Int) := by rw [w64 (by omega) (by omega)]; omega
        have f0 := MH_n (l := t) (p := pj) (S := strs mdS) (P := ints (mdP t)) (V := ints mdV) (I := Ij) (E := E ++ [e']) hOj (j := cj) (by omega)
        have f1 := MH_n (l := t) (p := pj) (S := strs mdS) (P := ints (mdP t)) (V := ints mdV) (I := Ij) (E := E ++ [e']) hOj (j := cj + 1) (by omega)
        have ne0 : ¬ 0 = k := by omega
        have ne1 : ¬ 0 = cj := by omega
        have ne2 : ¬ 0 = cj + 1 := by omega
        have ne3 : ¬ 1 = k := by omega
        have ne4 : ¬ 1 = cj := by omega
        have ne5 : ¬ 1 = cj + 1 := by omega
        have ne6 : ¬ k = 0 := by omega
        have ne7 : ¬ k = 1 := by omega
        have ne8 : ¬ k = cj := by omega
        have ne9 : ¬ k = cj + 1 := by omega
        have ne10 : ¬ cj = 0 := by omega
        have ne11 : ¬ cj = 1 := by omega
        have ne12 : ¬ cj = k := by omega
        have ne13 : ¬ cj = cj + 1 := by omega
        have ne14 : ¬ cj + 1 = 0 := by omega
        have ne15 : ¬ cj + 1 = 1 := by omega
        have ne16 : ¬ cj + 1 = k := by omega
        have ne17 : ¬ cj + 1 = cj := by omega
        repeat' ((first | with_reducible refine wr ?_ | with_reducible refine i_ret ?_ | with_reducible refine i_skip ?_ | with_reducible refine i_exit ?_ | ((with_reducible refine k_cb ?_ ?_) <;> (intro hb; try simp only [hb])) | ((with_reducible refine k_gb ?_ ?_) <;> (intro hb; try simp only [hb])) | ((with_reducible refine k_gb' ?_ ?_) <;> (intro hb; try simp only [hb]))) <;> try simp only [go_sem, Nat.reduceAdd, Nat.reduceLeDiff, Nat.reduceEqDiff, Nat.reduceMul, Nat.reduceSub, ↓reduceIte, Int.reduceLT, Int.reduceLE, Int.reduceGT, Int.reduceGE, Nat.reduceLT, Nat.reduceGT, Int.reduceToNat, reduceCtorEq, Nat.reduceBEq, Int.reduceBEq, Int.reduceBNe, Int.reduceEq, Int.reduceNe, decide_true, decide_false, hgj, hDj, hltj, ne0, ne1, ne2, ne3, ne4, ne5, ne6, ne7, ne8, ne9, ne10, ne11, ne12, ne13, ne14, ne15, ne16, ne17])
        refine AC.call (c_stmt t (by omega) 2 (by omega) Ij.length pj (by omega) hbp _ _ 1 (MH_1 hOj) (by omega)) ?_
        rintro v H' c5 ⟨id, ia, ib, rfl, rfl⟩ hc5
        have hsl := stmtM_len t 2 Ij.length pj
        have hs1 : 1 ≤ (stmtM t 2 Ij.length pj).1.length := stmtM_ne
        have ne0 : ¬ 0 = k := by omega
        have ne1 : ¬ 0 = cj := by omega
        have ne2 : ¬ 0 = cj + 1 := by omega
        have ne3 : ¬ 0 = id := by omega
        have ne4 : ¬ 0 = c5 := by omega
        have ne5 : ¬ 1 = k := by omega
        have ne6 : ¬ 1 = cj := by omega
        have ne7 : ¬ 1 = cj + 1 := by omega
        have ne8 : ¬ 1 = id := by omega
        have ne9 : ¬ 1 = c5 := by omega
        have ne10 : ¬ k = 0 := by omega
        have ne11 : ¬ k = 1 := by omega
        have ne12 : ¬ k = cj := by omega
        have ne13 : ¬ k = cj + 1 := by omega
        have ne14 : ¬ k = id := by omega
        have ne15 : ¬ k = c5 := by omega
        have ne16 : ¬ cj = 0 := by omega
        have ne17 : ¬ cj = 1 := by omega
        have ne18 : ¬ cj = k := by omega
        have ne19 : ¬ cj = cj + 1 := by omega
        have ne20 : ¬ cj = id := by omega
        have ne21 : ¬ cj = c5 := by omega
        have ne22 : ¬ cj + 1 = 0 := by omega
        have ne23 : ¬ cj + 1 = 1 := by omega
        have ne24 : ¬ cj + 1 = k := by omega
        have ne25 : ¬ cj + 1 = cj := by omega
        have ne26 : ¬ cj + 1 = id := by omega
        have ne27 : ¬ cj + 1 = c5 := by omega
        have ne28 : ¬ id = 0 := by omega
        have ne29 : ¬ id = 1 := by omega
        have ne30 : ¬ id = k := by omega
        have ne31 : ¬ id = cj := by omega
        have ne32 : ¬ id = cj + 1 := by omega
        have ne33 : ¬ id = c5 := by omega
        have ne34 : ¬ c5 = 0 := by omega
        have ne35 : ¬ c5 = 1 := by omega
        have ne36 : ¬ c5 = k := by omega
        have ne37 : ¬ c5 = cj := by omega
        have ne38 : ¬ c5 = cj + 1 := by omega
        have ne39 : ¬ c5 = id := by omega
        have hl2 := insC_len2 (stmtM t 2 Ij.length pj).1
        have hle2 : (stmtM t 2 Ij.length pj).1.length * 2 ≤ (insC (stmtM t 2 Ij.length pj).1).length := by omega
        have htk := List.take_of_length_le (l := insC (stmtM t 2 Ij.length pj).1) (i := (stmtM t 2 Ij.length pj).1.length * 2) (by omega)
        have hdkj : ∀ X, delO X oj k = X k := fun X => delO_ne (fun i hi e => by have := hOj.a i hi; omega)
        simp only [go_sem, Nat.reduceAdd, Nat.reduceLeDiff, Nat.reduceEqDiff, Nat.reduceMul, Nat.reduceSub, ↓reduceIte, Int.reduceLT, Int.reduceLE, Int.reduceGT, Int.reduceGE, Nat.reduceLT, Nat.reduceGT, Int.reduceToNat, reduceCtorEq, Nat.reduceBEq, Int.reduceBEq, Int.reduceBNe, Int.reduceEq, Int.reduceNe, decide_true, decide_false, f0, f1, hDj, hltj, hle2, htk, ne0, ne1, ne2, ne3, ne4, ne5, ne6, ne7, ne8, ne9, ne10, ne11, ne12, ne13, ne14, ne15, ne16, ne17, ne18, ne19, ne20, ne21, ne22, ne23, ne24, ne25, ne26, ne27, ne28, ne29, ne30, ne31, ne32, ne33, ne34, ne35, ne36, ne37, ne38, ne39]
        repeat' ((first | with_reducible refine wr ?_ | with_reducible refine i_ret ?_ | with_reducible refine i_skip ?_ | with_reducible refine i_exit ?_ | ((with_reducible refine k_cb ?_ ?_) <;> (intro hb; try simp only [hb])) | ((with_reducible refine k_gb ?_ ?_) <;> (intro hb; try simp only [hb])) | ((with_reducible refine k_gb' ?_ ?_) <;> (intro hb; try simp only [hb]))) <;> try simp only [go_sem, Nat.reduceAdd, Nat.reduceLeDiff, Nat.reduceEqDiff, Nat.reduceMul, Nat.reduceSub, ↓reduceIte, Int.reduceLT, Int.reduceLE, Int.reduceGT, Int.reduceGE, Nat.reduceLT, Nat.reduceGT, Int.reduceToNat, reduceCtorEq, Nat.reduceBEq, Int.reduceBEq, Int.reduceBNe, Int.reduceEq, Int.reduceNe, decide_true, decide_false, f0, f1, hDj, hltj, hle2, htk, ne0, ne1, ne2, ne3, ne4, ne5, ne6, ne7, ne8, ne9, ne10, ne11, ne12, ne13, ne14, ne15, ne16, ne17, ne18, ne19, ne20, ne21, ne22, ne23, ne24, ne25, ne26, ne27, ne28, ne29, ne30, ne31, ne32, ne33, ne34, ne35, ne36, ne37, ne38, ne39])
        refine x_eval (r_apptodo (cs := insC Ij) (fun e => ⟨len_nil (hnj e), insC_nil (hnj e)⟩) (fun i hi => ?_) (insC_len2 Ij) (by omega) (by omega) (by omega)) ?_
        · have := hOj.a i hi
          rw [h_ne (by omega), h_ne (by omega)]; exact MH_a hOj hi
        simp only [go_sem, Nat.reduceAdd, Nat.reduceLeDiff, Nat.reduceEqDiff, Nat.reduceMul, Nat.reduceSub, ↓reduceIte, Int.reduceLT, Int.reduceLE, Int.reduceGT, Int.reduceGE, Nat.reduceLT, Nat.reduceGT, Int.reduceToNat, reduceCtorEq, Nat.reduceBEq, Int.reduceBEq, Int.reduceBNe, Int.reduceEq, Int.reduceNe, decide_true, decide_false, hdkj, hDj, ne0, ne1, ne2, ne3, ne4, ne5, ne6, ne7, ne8, ne9, ne10, ne11, ne12, ne13, ne14, ne15, ne16, ne17, ne18, ne19, ne20, ne21, ne22, ne23, ne24, ne25, ne26, ne27, ne28, ne29, ne30, ne31, ne32, ne33, ne34, ne35, ne36, ne37, ne38, ne39]
        repeat' ((first | with_reducible refine wr ?_ | with_reducible refine i_ret ?_ | with_reducible refine i_skip ?_ | with_reducible refine i_exit ?_ | ((with_reducible refine k_cb ?_ ?_) <;> (intro hb; try simp only [hb])) | ((with_reducible refine k_gb ?_ ?_) <;> (intro hb; try simp only [hb])) | ((with_reducible refine k_gb' ?_ ?_) <;> (intro hb; try simp only [hb]))) <;> try simp only [go_sem, Nat.reduceAdd, Nat.reduceLeDiff, Nat.reduceEqDiff, Nat.reduceMul, Nat.reduceSub, ↓reduceIte, Int.reduceLT, Int.reduceLE, Int.reduceGT, Int.reduceGE, Nat.reduceLT, Nat.reduceGT, Int.reduceToNat, reduceCtorEq, Nat.reduceBEq, Int.reduceBEq, Int.reduceBNe, Int.reduceEq, Int.reduceNe, decide_true, decide_false, hdkj, hDj, hwj, ne0, ne1, ne2, ne3, ne4, ne5, ne6, ne7, ne8, ne9, ne10, ne11, ne12, ne13, ne14, ne15, ne16, ne17, ne18, ne19, ne20, ne21, ne22, ne23, ne24, ne25, ne26, ne27, ne28, ne29, ne30, ne31, ne32, ne33, ne34, ne35, ne36, ne37, ne38, ne39])
        have hOb := hOj.b _ rfl
        have hd0j : ∀ X, delO X oj 0 = X 0 := fun X => delO_ne (fun i hi e => by have := hOj.a i hi; omega)
        have hd1j : ∀ X, delO X oj 1 = X 1 := fun X => delO_ne (fun i hi e => by have := hOj.a i hi; omega)
        have hdej : ∀ X, delO X oj (cc + 1 + 1) = X (cc + 1 + 1) := fun X => delO_ne (fun i hi e => hOj.ne i hi (by rw [← e]))
        have m1 : (mdB t (j + 1) (I, p2)).1 = Ij ++ (stmtM t 2 Ij.length pj).1 := by simp only [mdB]; rw [← hIj, ← hpj]
        have m2 : (mdB t (j + 1) (I, p2)).2 = (stmtM t 2 Ij.length pj).2 := by simp only [mdB]; rw [← hIj, ← hpj]
        refine ⟨(j + 1, some c5), rfl, ?_, inv ⟨⟨hk2, by omega, fun i hi => by cases hi; omega, fun i hi => by cases hi; omega, fun i hi e => by cases hi; cases e; omega⟩, hj0, by simp⟩, by simp only; omega⟩
        simp only [m1, m2]
        refine MH_sub ?_ ?_ ?_ (fun i hi => ?_) (fun i hi => ?_)
        · rw [h_ne (by omega), h_ne (by omega), hd0j, h_ne (by omega), h_ne (by omega)]; exact MH_0 hOj
        · rw [h_ne (by omega), h_ne (by omega), hd1j, h_ne (by omega), h_same]
        · rw [h_same]; simp only [todo_s, List.length_append, List.length_singleton]
        · cases hi; rw [h_ne (by omega), h_same, insC_app]
        · cases hi; rw [h_ne (by omega), h_ne (by omega), hdej, h_ne (by omega), h_ne (by omega)]; exact MH_b rfl
      · have hjn2 : j = n := by omega
        have hgj : decide (((n - j : Nat) : Int) > 0) = false := by simp; omega
        have hdkj : ∀ X, delO X oj k = X k := fun X => delO_ne (fun i hi e => by have := hOj.a i hi; omega)
        have ne0 : ¬ 0 = k := by omega
        have ne1 : ¬ 0 = cj := by omega
        have ne2 : ¬ 0 = cj + 1 := by omega
        have ne3 : ¬ 1 = k := by omega
        have ne4 : ¬ 1 = cj := by omega
        have ne5 : ¬ 1 = cj + 1 := by omega
        have ne6 : ¬ k = 0 := by omega
        have ne7 : ¬ k = 1 := by omega
        have ne8 : ¬ k = cj := by omega
        have ne9 : ¬ k = cj + 1 := by omega
        have ne10 : ¬ cj = 0 := by omega
        have ne11 : ¬ cj = 1 := by omega
        have ne12 : ¬ cj = k := by omega
        have ne13 : ¬ cj = cj + 1 := by omega
        have ne14 : ¬ cj + 1 = 0 := by omega
        have ne15 : ¬ cj + 1 = 1 := by omega
        have ne16 : ¬ cj + 1 = k := by omega
        have ne17 : ¬ cj + 1 = cj := by omega
        repeat' ((first | with_reducible refine wr ?_ | with_reducible refine i_ret ?_ | with_reducible refine i_skip ?_ | with_reducible refine i_exit ?_ | ((with_reducible refine k_cb ?_ ?_) <;> (intro hb; try simp only [hb])) | ((with_reducible refine k_gb ?_ ?_) <;> (intro hb; try simp only [hb])) | ((with_reducible refine k_gb' ?_ ?_) <;> (intro hb; try simp only [hb]))) <;> try simp only [go_sem, Nat.reduceAdd, Nat.reduceLeDiff, Nat.reduceEqDiff, Nat.reduceMul, Nat.reduceSub, ↓reduceIte, Int.reduceLT, Int.reduceLE, Int.reduceGT, Int.reduceGE, Nat.reduceLT, Nat.reduceGT, Int.reduceToNat, reduceCtorEq, Nat.reduceBEq, Int.reduceBEq, Int.reduceBNe, Int.reduceEq, Int.reduceNe, decide_true, decide_false, hgj, hDj, ne0, ne1, ne2, ne3, ne4, ne5, ne6, ne7, ne8, ne9, ne10, ne11, ne12, ne13, ne14, ne15, ne16, ne17])
        refine k_eval (r_apptodo (cs := insC Ij) (fun e => ⟨len_nil (hnj e), insC_nil (hnj e)⟩) (fun i hi => ?_) (insC_len2 Ij) (by omega) (by omega) (by omega)) ?_
        · have := hOj.a i hi
          rw [h_ne (by omega)]; exact MH_a hOj hi
        simp only [go_sem, Nat.reduceAdd, Nat.reduceLeDiff, Nat.reduceEqDiff, Nat.reduceMul, Nat.reduceSub, ↓reduceIte, Int.reduceLT, Int.reduceLE, Int.reduceGT, Int.reduceGE, Nat.reduceLT, Nat.reduceGT, Int.reduceToNat, reduceCtorEq, Nat.reduceBEq, Int.reduceBEq, Int.reduceBNe, Int.reduceEq, Int.reduceNe, decide_true, decide_false, hdkj, hDj, ne0, ne1, ne2, ne3, ne4, ne5, ne6, ne7, ne8, ne9, ne10, ne11, ne12, ne13, ne14, ne15, ne16, ne17]
        repeat' ((first | with_reducible refine wr ?_ | with_reducible refine i_ret ?_ | with_reducible refine i_skip ?_ | with_reducible refine i_exit ?_ | ((with_reducible refine k_cb ?_ ?_) <;> (intro hb; try simp only [hb])) | ((with_reducible refine k_gb ?_ ?_) <;> (intro hb; try simp only [hb])) | ((with_reducible refine k_gb' ?_ ?_) <;> (intro hb; try simp only [hb]))) <;> try simp only [go_sem, Nat.reduceAdd, Nat.reduceLeDiff, Nat.reduceEqDiff, Nat.reduceMul, Nat.reduceSub, ↓reduceIte, Int.reduceLT, Int.reduceLE, Int.reduceGT, Int.reduceGE, Nat.reduceLT, Nat.reduceGT, Int.reduceToNat, reduceCtorEq, Nat.reduceBEq, Int.reduceBEq, Int.reduceBNe, Int.reduceEq, Int.reduceNe, decide_true, decide_false, hdkj, hDj, hw, ne0, ne1, ne2, ne3, ne4, ne5, ne6, ne7, ne8, ne9, ne10, ne11, ne12, ne13, ne14, ne15, ne16, ne17])
        have hOb := hOj.b _ rfl
        have hd0j : ∀ X, delO X oj 0 = X 0 := fun X => delO_ne (fun i hi e => by have := hOj.a i hi; omega)
        have hd1j : ∀ X, delO X oj 1 = X 1 := fun X => delO_ne (fun i hi e => by have := hOj.a i hi; omega)
        have hdej : ∀ X, delO X oj (cc + 1 + 1) = X (cc + 1 + 1) := fun X => delO_ne (fun i hi e => hOj.ne i hi (by rw [← e]))
        have M1 : (mdK t (i + 1)).I = Ij ++ [⟨31, 0⟩] := by rw [hmd2]; simp only [mdH]; rw [← hn, ← hp2, ← hjn2, ← hIj]
        have M2 : (mdK t (i + 1)).E = E ++ [e'] := by rw [hmd2, he']; rfl
        have M3 : (mdK t (i + 1)).p = pj := by rw [hmd2]; simp only [mdH]; rw [← hn, ← hp2, ← hjn2, ← hpj]
        refine ⟨(i + 1, some (cj + 1), some (cc + 1 + 1)), rfl, ?_, inv ⟨⟨hk2, by omega, fun i hi => by cases hi; omega, fun i hi => by cases hi; omega, fun i hi e => by cases hi; cases e; omega⟩, hlt, by simp, by simp, by simp⟩, by simp only; omega⟩
        simp only [M1, M2, M3]
        refine MH_sub ?_ ?_ ?_ (fun i hi => ?_) (fun i hi => ?_)
        · rw [h_ne (by omega), h_ne (by omega), hd0j, h_ne (by omega)]; exact MH_0 hOj
        · rw [h_ne (by omega), h_ne (by omega), hd1j, h_ne (by omega)]; exact MH_1 hOj
        · rw [h_same]; simp only [todo_s, List.length_append, List.length_singleton]
        · cases hi; rw [h_ne (by omega), h_same, insC_app, insC_one]
        · cases hi; rw [h_ne (by omega), h_ne (by omega), hdej, h_ne (by omega)]; exact MH_b rfl
    · have hgt : decide ((i : Int) > 0) = true := by simp; omega
      repeat' ((first | with_reducible refine wr ?_ | with_reducible refine i_ret ?_ | with_reducible refine i_skip ?_ | with_reducible refine i_exit ?_ | ((with_reducible refine k_cb ?_ ?_) <;> (intro hb; try simp only [hb])) | ((with_reducible refine k_gb ?_ ?_) <;> (intro hb; try simp only [hb])) | ((with_reducible refine k_gb' ?_ ?_) <;> (intro hb; try simp only [hb]))) <;> try simp only [go_sem, Nat.reduceAdd, Nat.reduceLeDiff, Nat.reduceEqDiff, Nat.reduceMul, Nat.reduceSub, ↓reduceIte, Int.reduceLT, Int.reduceLE, Int.reduceGT, Int.reduceGE, Nat.reduceLT, Nat.reduceGT, Int.reduceToNat, reduceCtorEq, Nat.reduceBEq, Int.reduceBEq, Int.reduceBNe, Int.reduceEq, Int.reduceNe, decide_true, decide_false, hkl, hd, hgt])
      refine AC.call (c_next t (by omega) p B1 2 (by omega) (by omega) _ _ 1 (MH_1 hO) (by have := hO.kc; have := hO.k2; omega)) ?_
      rintro v H' c3 ⟨rfl, rfl⟩ hc3
      rw [MH_t hO]
      replace hO := hO.mono hc3
      by_cases hz : (nextM t p 2).1 = 0
      · have hz1 : (((nextM t p 2).1 : Int) == 0) = true := by simp [hz]
        have hmd2 : mdK t (i + 1) = ⟨I, E, (nextM t p 2).2⟩ := by rw [hmd, mdI, if_neg hi0, if_pos hz]
        simp only [go_sem, Nat.reduceAdd, Nat.reduceLeDiff, Nat.reduceEqDiff, Nat.reduceMul, Nat.reduceSub, ↓reduceIte, Int.reduceLT, Int.reduceLE, Int.reduceGT, Int.reduceGE, Nat.reduceLT, Nat.reduceGT, Int.reduceToNat, reduceCtorEq, Nat.reduceBEq, Int.reduceBEq, Int.reduceBNe, Int.reduceEq, Int.reduceNe, decide_true, decide_false, hz1]
        repeat' ((first | with_reducible refine wr ?_ | with_reducible refine i_ret ?_ | with_reducible refine i_skip ?_ | with_reducible refine i_exit ?_ | ((with_reducible refine k_cb ?_ ?_) <;> (intro hb; try simp only [hb])) | ((with_reducible refine k_gb ?_ ?_) <;> (intro hb; try simp only [hb])) | ((with_reducible refine k_gb' ?_ ?_) <;> (intro hb; try simp only [hb]))) <;> try simp only [go_sem, Nat.reduceAdd, Nat.reduceLeDiff, Nat.reduceEqDiff, Nat.reduceMul, Nat.reduceSub, ↓reduceIte, Int.reduceLT, Int.reduceLE, Int.reduceGT, Int.reduceGE, Nat.reduceLT, Nat.reduceGT, Int.reduceToNat, reduceCtorEq, Nat.reduceBEq, Int.reduceBEq, Int.reduceBNe, Int.reduceEq, Int.reduceNe, decide_true, decide_false, hz1, hw])
        refine ⟨(i + 1, o1, o2), rfl, ?_, inv ⟨hO, hlt, ?_, ?_, fun _ => hne hi0⟩, by simp only; omega⟩
        · simp only [hmd2]; exact Sub.refl _
        · simp only [hmd2]; exact hn1
        · simp only [hmd2]; exact hn2
      · have hz1 : (((nextM t p 2).1 : Int) == 0) = false := by simp [hz]
        obtain ⟨pp, hpp⟩ : ∃ pp, pp = (nextM t p 2).2 := ⟨_, rfl⟩
        have hmd2 : mdK t (i + 1) = mdH t e ⟨I, E, p⟩ pp := by rw [hmd, mdI, if_neg hi0, if_neg hz, hpp]
        have Hpp : pp ≤ t.length := by rw [hpp]; exact nextM_le B1
        rw [← hpp]
        have hlt1 := r_lentodo (o := o1) (n := I.length) (fun e => len_nil (hn1 e))
        have hD := fun (p : Nat) => MH_k (l := t) (p := p) (S := strs mdS) (P := ints (mdP t)) (V := ints mdV) (I := I) (E := E) hO
        have hcc := hO.kc
        have hk2 := hO.k2
        have hdk : ∀ X, delO X o2 k = X k := fun X => delO_ne (fun i hi e => by have := hO.b i hi; omega)
        have hd1 : ∀ X, delO X o2 1 = X 1 := fun X => delO_ne (fun i hi e => by have := hO.b i hi; omega)
        have hd0 : ∀ X, delO X o2 0 = X 0 := fun X => delO_ne (fun i hi e => by have := hO.b i hi; omega)
        have hda : ∀ X j, o1 = some j → delO X o2 j = X j := fun X j hj => delO_ne (fun i hi e => hO.ne j hj (by rw [e]; exact hi))
        have ne0 : ¬ 0 = k := by omega
        have ne1 : ¬ 0 = c3 := by omega
        have ne2 : ¬ 0 = c3 + 1 := by omega
        have ne3 : ¬ 0 = c3 + 2 := by omega
        have ne4 : ¬ 1 = k := by omega
        have ne5 : ¬ 1 = c3 := by omega
        have ne6 : ¬ 1 = c3 + 1 := by omega
        have ne7 : ¬ 1 = c3 + 2 := by omega
        have ne8 : ¬ k = 0 := by omega
        have ne9 : ¬ k = 1 := by omega
        have ne10 : ¬ k = c3 := by omega
        have ne11 : ¬ k = c3 + 1 := by omega
        have ne12 : ¬ k = c3 + 2 := by omega
        have ne13 : ¬ c3 = 0 := by omega
        have ne14 : ¬ c3 = 1 := by omega
        have ne15 : ¬ c3 = k := by omega
        have ne16 : ¬ c3 = c3 + 1 := by omega
        have ne17 : ¬ c3 = c3 + 2 := by omega
        have ne18 : ¬ c3 + 1 = 0 := by omega
        have ne19 : ¬ c3 + 1 = 1 := by omega
        have ne20 : ¬ c3 + 1 = k := by omega
        have ne21 : ¬ c3 + 1 = c3 := by omega
        have ne22 : ¬ c3 + 1 = c3 + 2 := by omega
        have ne23 : ¬ c3 + 2 = 0 := by omega
        have ne24 : ¬ c3 + 2 = 1 := by omega
        have ne25 : ¬ c3 + 2 = k := by omega
        have ne26 : ¬ c3 + 2 = c3 := by omega
        have ne27 : ¬ c3 + 2 = c3 + 1 := by omega
        simp only [go_sem, Nat.reduceAdd, Nat.reduceLeDiff, Nat.reduceEqDiff, Nat.reduceMul, Nat.reduceSub, ↓reduceIte, Int.reduceLT, Int.reduceLE, Int.reduceGT, Int.reduceGE, Nat.reduceLT, Nat.reduceGT, Int.reduceToNat, reduceCtorEq, Nat.reduceBEq, Int.reduceBEq, Int.reduceBNe, Int.reduceEq, Int.reduceNe, decide_true, decide_false, hz1, hkl, hg, hlt1, hD, ne0, ne1, ne2, ne3, ne4, ne5, ne6, ne7, ne8, ne9, ne10, ne11, ne12, ne13, ne14, ne15, ne16, ne17, ne18, ne19, ne20, ne21, ne22, ne23, ne24, ne25, ne26, ne27]
        repeat' ((first | with_reducible refine wr ?_ | with_reducible refine i_ret ?_ | with_reducible refine i_skip ?_ | with_reducible refine i_exit ?_ | ((with_reducible refine k_cb ?_ ?_) <;> (intro hb; try simp only [hb])) | ((with_reducible refine k_gb ?_ ?_) <;> (intro hb; try simp only [hb])) | ((with_reducible refine k_gb' ?_ ?_) <;> (intro hb; try simp only [hb]))) <;> try simp only [go_sem, Nat.reduceAdd, Nat.reduceLeDiff, Nat.reduceEqDiff, Nat.reduceMul, Nat.reduceSub, ↓reduceIte, Int.reduceLT, Int.reduceLE, Int.reduceGT, Int.reduceGE, Nat.reduceLT, Nat.reduceGT, Int.reduceToNat, reduceCtorEq, Nat.reduceBEq, Int.reduceBEq, Int.reduceBNe, Int.reduceEq, Int.reduceNe, decide_true, decide_false, hz1, hkl, hd, hg, hlt1, hD, ne0, ne1, ne2, ne3, ne4, ne5, ne6, ne7, ne8, ne9, ne10, ne11, ne12, ne13, ne14, ne15, ne16, ne17, ne18, ne19, ne20, ne21, ne22, ne23, ne24, ne25, ne26, ne27])
        refine k_eval (r_apptodo (cs := cellsL (E.map Ent.v)) (fun e => ⟨len_nil (hn2 e), entC_nil (hn2 e)⟩) (fun i hi => ?_) (entC_len' E) (by omega) (by omega) (by omega)) ?_
        · have := hO.b i hi
          rw [h_ne (by omega), h_ne (by omega), h_ne (by omega), h_ne (by omega)]; exact MH_b hi
        simp only [go_sem, Nat.reduceAdd, Nat.reduceLeDiff, Nat.reduceEqDiff, Nat.reduceMul, Nat.reduceSub, ↓reduceIte, Int.reduceLT, Int.reduceLE, Int.reduceGT, Int.reduceGE, Nat.reduceLT, Nat.reduceGT, Int.reduceToNat, reduceCtorEq, Nat.reduceBEq, Int.reduceBEq, Int.reduceBNe, Int.reduceEq, Int.reduceNe, decide_true, decide_false, hdk, hD, ne0, ne1, ne2, ne3, ne4, ne5, ne6, ne7, ne8, ne9, ne10, ne11, ne12, ne13, ne14, ne15, ne16, ne17, ne18, ne19, ne20, ne21, ne22, ne23, ne24, ne25, ne26, ne27]
        repeat' ((first | with_reducible refine wr ?_ | with_reducible refine i_ret ?_ | with_reducible refine i_skip ?_ | with_reducible refine i_exit ?_ | ((with_reducible refine k_cb ?_ ?_) <;> (intro hb; try simp only [hb])) | ((with_reducible refine k_gb ?_ ?_) <;> (intro hb; try simp only [hb])) | ((with_reducible refine k_gb' ?_ ?_) <;> (intro hb; try simp only [hb]))) <;> try simp only [go_sem, Nat.reduceAdd, Nat.reduceLeDiff, Nat.reduceEqDiff, Nat.reduceMul, Nat.reduceSub, ↓reduceIte, Int.reduceLT, Int.reduceLE, Int.reduceGT, Int.reduceGE, Nat.reduceLT, Nat.reduceGT, Int.reduceToNat, reduceCtorEq, Nat.reduceBEq, Int.reduceBEq, Int.reduceBNe, Int.reduceEq, Int.reduceNe, decide_true, decide_false, hdk, hD, ne0, ne1, ne2, ne3, ne4, ne5, ne6, ne7, ne8, ne9, ne10, ne11, ne12, ne13, ne14, ne15, ne16, ne17, ne18, ne19, ne20, ne21, ne22, ne23, ne24, ne25, ne26, ne27])
        refine AC.call (c_next t (by omega) pp Hpp 4 (by omega) (by omega) _ _ 1 (by repeat (first | exact MH_1 hO | rw [h_ne (by omega)] | rw [hd1])) (by omega)) ?_
        rintro v H' c4 ⟨rfl, rfl⟩ hc4
        have hq4 := nextM_lt (l := t) (p := pp) (n := 4) (by omega)
        have hp4 := nextM_le (l := t) (p := pp) (n := 4) Hpp
        obtain ⟨n, hn⟩ : ∃ n, n = (nextM t pp 4).1 := ⟨_, rfl⟩
        obtain ⟨p2, hp2⟩ : ∃ p2, p2 = (nextM t pp 4).2 := ⟨_, rfl⟩
        rw [← hn, ← hp2]
        rw [← hn] at hq4
        rw [← hp2] at hp4
        simp only [go_sem, Nat.reduceAdd, Nat.reduceLeDiff, Nat.reduceEqDiff, Nat.reduceMul, Nat.reduceSub, ↓reduceIte, Int.reduceLT, Int.reduceLE, Int.reduceGT, Int.reduceGE, Nat.reduceLT, Nat.reduceGT, Int.reduceToNat, reduceCtorEq, Nat.reduceBEq, Int.reduceBEq, Int.reduceBNe, Int.reduceEq, Int.reduceNe, decide_true, decide_false]
        repeat' ((first | with_reducible refine wr ?_ | with_reducible refine i_ret ?_ | with_reducible refine i_skip ?_ | with_reducible refine i_exit ?_ | ((with_reducible refine k_cb ?_ ?_) <;> (intro hb; try simp only [hb])) | ((with_reducible refine k_gb ?_ ?_) <;> (intro hb; try simp only [hb])) | ((with_reducible refine k_gb' ?_ ?_) <;> (intro hb; try simp only [hb]))) <;> try simp only [go_sem, Nat.reduceAdd, Nat.reduceLeDiff, Nat.reduceEqDiff, Nat.reduceMul, Nat.reduceSub, ↓reduceIte, Int.reduceLT, Int.reduceLE, Int.reduceGT, Int.reduceGE, Nat.reduceLT, Nat.reduceGT, Int.reduceToNat, reduceCtorEq, Nat.reduceBEq, Int.reduceBEq, Int.reduceBNe, Int.reduceEq, Int.reduceNe, decide_true, decide_false])
        obtain ⟨e', he'⟩ : ∃ e' : Ent, e' = ⟨e.mode, e.trigger, e.index, (I.length : Int)⟩ := ⟨_, rfl⟩
        have hE' : cellsL ((E ++ [e']).map Ent.v) = cellsL (E.map Ent.v) ++ [I64 e.mode, I64 e.trigger, I64 e.index, I64 (I.length : Int)] := by rw [entC_snoc, he']
        refine i_loop (fun q : Nat × Option Nat => [(2, .ptr 0 0), (3, .ptr 1 0), (4, .ptr k 0), (5, entsV keysM), (6, I64 i), (8, I64 ((n - q.1 : Nat) : Int))]) (fun q => MH k t (mdB t q.1 (I, p2)).2 (strs mdS) (ints (mdP t)) (ints mdV) (mdB t q.1 (I, p2)).1 (E ++ [e']) q.2 (some (c3 + 1 + 1)))
          (fun q c => MO k q.2 (some (c3 + 1 + 1)) c ∧ q.1 ≤ n ∧ (q.2 = none → (mdB t q.1 (I, p2)).1 = [])) (fun q => n - q.1) (0, o1) (by simp [tmLe, tm, Tm.upd]) ?_ ?_ ?_
        · refine MH_sub (by repeat (first | exact MH_0 hO | rw [h_ne (by omega)] | rw [hd0])) h_same ?_ (fun j hj => ?_) (fun j hj => ?_)
          · rw [h_ne (by omega), h_same, List.length_append]; rfl
          · have := hO.a j hj
            rw [h_ne (by omega), h_ne (by omega), h_ne (by omega), hda _ j hj, h_ne (by omega), h_ne (by omega), h_ne (by omega), h_ne (by omega)]; exact MH_a hO hj
          · cases hj
            rw [h_ne (by omega), h_ne (by omega), h_same, hE']
        · exact ⟨⟨hk2, by omega, fun j hj => by have := hO.a j hj; omega, fun j hj => by cases hj; omega, fun j hj e => by cases e; have := hO.a _ hj; omega⟩, by simp, hn1⟩
        rintro ⟨j, oj⟩ cj ⟨hOj, hjn, hnj⟩
        simp only at hOj hjn hnj
        have hbl := mdB_len (l := t) (x := (I, p2)) j
        have hbp := mdB_pos (l := t) (x := (I, p2)) hp4 j
        simp only at hbl
        obtain ⟨Ij, hIj⟩ : ∃ x, x = (mdB t j (I, p2)).1 := ⟨_, rfl⟩
        obtain ⟨pj, hpj⟩ : ∃ x, x = (mdB t j (I, p2)).2 := ⟨_, rfl⟩
        simp only
        rw [← hIj, ← hpj]
        rw [← hIj] at hbl hnj
        rw [← hpj] at hbp
        have hDj := fun (p : Nat) => MH_k (l := t) (p := p) (S := strs mdS) (P := ints (mdP t)) (V := ints mdV) (I := Ij) (E := E ++ [e']) hOj
        have hltj := r_lentodo (o := oj) (n := Ij.length) (fun e => len_nil (hnj e))
        have hckj := hOj.kc
        by_cases hj0 : j < n
        · have hgj : decide (((n - j : Nat) : Int) > 0) = true := by simp; omega
          have hwj : IntKind.i64.wrap (((n - j : Nat) : Int) - 1) = ((n - (j + 1) : Nat) : Int) := by rw [w64 (by omega) (by omega)]; omega
          have f0 := MH_n (l := t) (p := pj) (S := strs mdS) (P := ints (mdP t)) (V := ints mdV) (I := Ij) (E := E ++ [e']) hOj (j := cj) (by omega)
          have f1 := MH_n (l := t) (p := pj) (S := strs mdS) (P := ints (mdP t)) (V := ints mdV) (I := Ij) (E := E ++ [e']) hOj (j := cj + 1) (by omega)
          have ne0 : ¬ 0 = k := by omega
          have ne1 : ¬ 0 = cj := by omega
          have ne2 : ¬ 0 = cj + 1 := by omega
          have ne3 : ¬ 1 = k := by omega
          have ne4 : ¬ 1 = cj := by omega
          have ne5 : ¬ 1 = cj + 1 := by omega
          have ne6 : ¬ k = 0 := by omega
          have ne7 : ¬ k = 1 := by omega
          have ne8 : ¬ k = cj := by omega
          have ne9 : ¬ k = cj + 1 := by omega
          have ne10 : ¬ cj = 0 := by omega
          have ne11 : ¬ cj = 1 := by omega
          have ne12 : ¬ cj = k := by omega
          have ne13 : ¬ cj = cj + 1 := by omega
          have ne14 : ¬ cj + 1 = 0 := by omega
          have ne15 : ¬ cj + 1 = 1 := by omega
          have ne16 : ¬ cj + 1 = k := by omega
          have ne17 : ¬ cj + 1 = cj := by omega
          repeat' ((first | with_reducible refine wr ?_ | with_reducible refine i_ret ?_ | with_reducible refine i_skip ?_ | with_reducible refine i_exit ?_ | ((with_reducible refine k_cb ?_ ?_) <;> (intro hb; try simp only [hb])) | ((with_reducible refine k_gb ?_ ?_) <;> (intro hb; try simp only [hb])) | ((with_reducible refine k_gb' ?_ ?_) <;> (intro hb; try simp only [hb]))) <;> try simp only [go_sem, Nat.reduceAdd, Nat.reduceLeDiff, Nat.reduceEqDiff, Nat.reduceMul, Nat.reduceSub, ↓reduceIte, Int.reduceLT, Int.reduceLE, Int.reduceGT, Int.reduceGE, Nat.reduceLT, Nat.reduceGT, Int.reduceToNat, reduceCtorEq, Nat.reduceBEq, Int.reduceBEq, Int.reduceBNe, Int.reduceEq, Int.reduceNe, decide_true, decide_false, hgj, hDj, hltj, ne0, ne1, ne2, ne3, ne4, ne5, ne6, ne7, ne8, ne9, ne10, ne11, ne12, ne13, ne14, ne15, ne16, ne17])
          refine AC.call (c_stmt t (by omega) 2 (by omega) Ij.length pj (by omega) hbp _ _ 1 (MH_1 hOj) (by omega)) ?_
          rintro v H' c5 ⟨id, ia, ib, rfl, rfl⟩ hc5
          have hsl := stmtM_len t 2 Ij.length pj
          have hs1 : 1 ≤ (stmtM t 2 Ij.length pj).1.length := stmtM_ne
          have ne0 : ¬ 0 = k := by omega
          have ne1 : ¬ 0 = cj := by omega
          have ne2 : ¬ 0 = cj + 1 := by omega
          have ne3 : ¬ 0 = id := by omega
          have ne4 : ¬ 0 = c5 := by omega
          have ne5 : ¬ 1 = k := by omega
          have ne6 : ¬ 1 = cj := by omega
          have ne7 : ¬ 1 = cj + 1 := by omega
          have ne8 : ¬ 1 = id := by omega
          have ne9 : ¬ 1 = c5 := by omega
          have ne10 : ¬ k = 0 := by omega
          have ne11 : ¬ k = 1 := by omega
          have ne12 : ¬ k = cj := by omega
          have ne13 : ¬ k = cj + 1 := by omega
          have ne14 : ¬ k = id := by omega
          have ne15 : ¬ k = c5 := by omega
          have ne16 : ¬ cj = 0 := by omega
          have ne17 : ¬ cj = 1 := by omega
          have ne18 : ¬ cj = k := by omega
          have ne19 : ¬ cj = cj + 1 := by omega
          have ne20 : ¬ cj = id := by omega
          have ne21 : ¬ cj = c5 := by omega
          have ne22 : ¬ cj + 1 = 0 := by omega
          have ne23 : ¬ cj + 1 = 1 := by omega
          have ne24 : ¬ cj + 1 = k := by omega
          have ne25 : ¬ cj + 1 = cj := by omega
          have ne26 : ¬ cj + 1 = id := by omega
          have ne27 : ¬ cj + 1 = c5 := by omega
          have ne28 : ¬ id = 0 := by omega
          have ne29 : ¬ id = 1 := by omega
          have ne30 : ¬ id = k := by omega
          have ne31 : ¬ id = cj := by omega
          have ne32 : ¬ id = cj + 1 := by omega
          have ne33 : ¬ id = c5 := by omega
          have ne34 : ¬ c5 = 0 := by omega
          have ne35 : ¬ c5 = 1 := by omega
          have ne36 : ¬ c5 = k := by omega
          have ne37 : ¬ c5 = cj := by omega
          have ne38 : ¬ c5 = cj + 1 := by omega
          have ne39 : ¬ c5 = id := by omega
          have hl2 := insC_len2 (stmtM t 2 Ij.length pj).1
          have hle2 : (stmtM t 2 Ij.length pj).1.length * 2 ≤ (insC (stmtM t 2 Ij.length pj).1).length := by omega
          have htk := List.take_of_length_le (l := insC (stmtM t 2 Ij.length pj).1) (i := (stmtM t 2 Ij.length pj).1.length * 2) (by omega)
          have hdkj : ∀ X, delO X oj k = X k := fun X => delO_ne (fun i hi e => by have := hOj.a i hi; omega)
          simp only [go_sem, Nat.reduceAdd, Nat.reduceLeDiff, Nat.reduceEqDiff, Nat.reduceMul, Nat.reduceSub, ↓reduceIte, Int.reduceLT, Int.reduceLE, Int.reduceGT, Int.reduceGE, Nat.reduceLT, Nat.reduceGT, Int.reduceToNat, reduceCtorEq, Nat.reduceBEq, Int.reduceBEq, Int.reduceBNe, Int.reduceEq, Int.reduceNe, decide_true, decide_false, f0, f1, hDj, hltj, hle2, htk, ne0, ne1, ne2, ne3, ne4, ne5, ne6, ne7, ne8, ne9, ne10, ne11, ne12, ne13, ne14, ne15, ne16, ne17, ne18, ne19, ne20, ne21, ne22, ne23, ne24, ne25, ne26, ne27, ne28, ne29, ne30, ne31, ne32, ne33, ne34, ne35, ne36, ne37, ne38, ne39]
          repeat' ((first | with_reducible refine wr ?_ | with_reducible refine i_ret ?_ | with_reducible refine i_skip ?_ | with_reducible refine i_exit ?_ | ((with_reducible refine k_cb ?_ ?_) <;> (intro hb; try simp only [hb])) | ((with_reducible refine k_gb ?_ ?_) <;> (intro hb; try simp only [hb])) | ((with_reducible refine k_gb' ?_ ?_) <;> (intro hb; try simp only [hb]))) <;> try simp only [go_sem, Nat.reduceAdd, Nat.reduceLeDiff, Nat.reduceEqDiff, Nat.reduceMul, Nat.reduceSub, ↓reduceIte, Int.reduceLT, Int.reduceLE, Int.reduceGT, Int.reduceGE, Nat.reduceLT, Nat.reduceGT, Int.reduceToNat, reduceCtorEq, Nat.reduceBEq, Int.reduceBEq, Int.reduceBNe, Int.reduceEq, Int.reduceNe, decide_true, decide_false, f0, f1, hDj, hltj, hle2, htk, ne0, ne1, ne2, ne3, ne4, ne5, ne6, ne7, ne8, ne9, ne10, ne11, ne12, ne13, ne14, ne15, ne16, ne17, ne18, ne19, ne20, ne21, ne22, ne23, ne24, ne25, ne26, ne27, ne28, ne29, ne30, ne31, ne32, ne33, ne34, ne35, ne36, ne37, ne38, ne39])
          refine x_eval (r_apptodo (cs := insC Ij) (fun e => ⟨len_nil (hnj e), insC_nil (hnj e)⟩) (fun i hi => ?_) (insC_len2 Ij) (by omega) (by omega) (by omega)) ?_
          · have := hOj.a i hi
            rw [h_ne (by omega), h_ne (by omega)]; exact MH_a hOj hi
          simp only [go_sem, Nat.reduceAdd, Nat.reduceLeDiff, Nat.reduceEqDiff, Nat.reduceMul, Nat.reduceSub, ↓reduceIte, Int.reduceLT, Int.reduceLE, Int.reduceGT, Int.reduceGE, Nat.reduceLT, Nat.reduceGT, Int.reduceToNat, reduceCtorEq, Nat.reduceBEq, Int.reduceBEq, Int.reduceBNe, Int.reduceEq, Int.reduceNe, decide_true, decide_false, hdkj, hDj, ne0, ne1, ne2, ne3, ne4, ne5, ne6, ne7, ne8, ne9, ne10, ne11, ne12, ne13, ne14, ne15, ne16, ne17, ne18, ne19, ne20, ne21, ne22, ne23, ne24, ne25, ne26, ne27, ne28, ne29, ne30, ne31, ne32, ne33, ne34, ne35, ne36, ne37, ne38, ne39]
          repeat' ((first | with_reducible refine wr ?_ | with_reducible refine i_ret ?_ | with_reducible refine i_skip ?_ | with_reducible refine i_exit ?_ | ((with_reducible refine k_cb ?_ ?_) <;> (intro hb; try simp only [hb])) | ((with_reducible refine k_gb ?_ ?_) <;> (intro hb; try simp only [hb])) | ((with_reducible refine k_gb' ?_ ?_) <;> (intro hb; try simp only [hb]))) <;> try simp only [go_sem, Nat.reduceAdd, Nat.reduceLeDiff, Nat.reduceEqDiff, Nat.reduceMul, Nat.reduceSub, ↓reduceIte, Int.reduceLT, Int.reduceLE, Int.reduceGT, Int.reduceGE, Nat.reduceLT, Nat.reduceGT, Int.reduceToNat, reduceCtorEq, Nat.reduceBEq, Int.reduceBEq, Int.reduceBNe, Int.reduceEq, Int.reduceNe, decide_true, decide_false, hdkj, hDj, hwj, ne0, ne1, ne2, ne3, ne4, ne5, ne6, ne7, ne8, ne9, ne10, ne11, ne12, ne13, ne14, ne15, ne16, ne17, ne18, ne19, ne20, ne21, ne22, ne23, ne24, ne25, ne26, ne27, ne28, ne29, ne30, ne31, ne32, ne33, ne34, ne35, ne36, ne37, ne38, ne39])
          have hOb := hOj.b _ rfl
          have hd0j : ∀ X, delO X oj 0 = X 0 := fun X => delO_ne (fun i hi e => by have := hOj.a i hi; omega)
          have hd1j : ∀ X, delO X oj 1 = X 1 := fun X => delO_ne (fun i hi e => by have := hOj.a i hi; omega)
          have hdej : ∀ X, delO X oj (c3 + 1 + 1) = X (c3 + 1 + 1) := fun X => delO_ne (fun i hi e => hOj.ne i hi (by rw [← e]))
          have m1 : (mdB t (j + 1) (I, p2)).1 = Ij ++ (stmtM t 2 Ij.length pj).1 := by simp only [mdB]; rw [← hIj, ← hpj]
          have m2 : (mdB t (j + 1) (I, p2)).2 = (stmtM t 2 Ij.length pj).2 := by simp only [mdB]; rw [← hIj, ← hpj]
          refine ⟨(j + 1, some c5), rfl, ?_, inv ⟨⟨hk2, by omega, fun i hi => by cases hi; omega, fun i hi => by cases hi; omega, fun i hi e => by cases hi; cases e; omega⟩, hj0, by simp⟩, by simp only; omega⟩
          simp only [m1, m2]
          refine MH_sub ?_ ?_ ?_ (fun i hi => ?_) (fun i hi => ?_)
          · rw [h_ne (by omega), h_ne (by omega), hd0j, h_ne (by omega), h_ne (by omega)]; exact MH_0 hOj
          · rw [h_ne (by omega), h_ne (by omega), hd1j, h_ne (by omega), h_same]
          · rw [h_same]; simp only [todo_s, List.length_append, List.length_singleton]
          · cases hi; rw [h_ne (by omega), h_same, insC_app]
          · cases hi; rw [h_ne (by omega), h_ne (by omega), hdej, h_ne (by omega), h_ne (by omega)]; exact MH_b rfl
        · have hjn2 : j = n := by omega
          have hgj : decide (((n - j : Nat) : Int) > 0) = false := by simp; omega
          have hdkj : ∀ X, delO X oj k = X k := fun X => delO_ne (fun i hi e => by have := hOj.a i hi; omega)
          have ne0 : ¬ 0 = k := by omega
          have ne1 : ¬ 0 = cj := by omega
          have ne2 : ¬ 0 = cj + 1 := by omega
          have ne3 : ¬ 1 = k := by omega
          have ne4 : ¬ 1 = cj := by omega
          have ne5 : ¬ 1 = cj + 1 := by omega
          have ne6 : ¬ k = 0 := by omega
          have ne7 : ¬ k = 1 := by omega
          have ne8 : ¬ k = cj := by omega
          have ne9 : ¬ k = cj + 1 := by omega
          have ne10 : ¬ cj = 0 := by omega
          have ne11 : ¬ cj = 1 := by omega
          have ne12 : ¬ cj = k := by omega
          have ne13 : ¬ cj = cj + 1 := by omega
          have ne14 : ¬ cj + 1 = 0 := by omega
          have ne15 : ¬ cj + 1 = 1 := by omega
          have ne16 : ¬ cj + 1 = k := by omega
          have ne17 : ¬ cj + 1 = cj := by omega
          repeat' ((first | with_reducible refine wr ?_ | with_reducible refine i_ret ?_ | with_reducible refine i_skip ?_ | with_reducible refine i_exit ?_ | ((with_reducible refine k_cb ?_ ?_) <;> (intro hb; try simp only [hb])) | ((with_reducible refine k_gb ?_ ?_) <;> (intro hb; try simp only [hb])) | ((with_reducible refine k_gb' ?_ ?_) <;> (intro hb; try simp only [hb]))) <;> try simp only [go_sem, Nat.reduceAdd, Nat.reduceLeDiff, Nat.reduceEqDiff, Nat.reduceMul, Nat.reduceSub, ↓reduceIte, Int.reduceLT, Int.reduceLE, Int.reduceGT, Int.reduceGE, Nat.reduceLT, Nat.reduceGT, Int.reduceToNat, reduceCtorEq, Nat.reduceBEq, Int.reduceBEq, Int.reduceBNe, Int.reduceEq, Int.reduceNe, decide_true, decide_false, hgj, hDj, ne0, ne1, ne2, ne3, ne4, ne5, ne6, ne7, ne8, ne9, ne10, ne11, ne12, ne13, ne14, ne15, ne16, ne17])
          refine k_eval (r_apptodo (cs := insC Ij) (fun e => ⟨len_nil (hnj e), insC_nil (hnj e)⟩) (fun i hi => ?_) (insC_len2 Ij) (by omega) (by omega) (by omega)) ?_
          · have := hOj.a i hi
            rw [h_ne (by omega)]; exact MH_a hOj hi
          simp only [go_sem, Nat.reduceAdd, Nat.reduceLeDiff, Nat.reduceEqDiff, Nat.reduceMul, Nat.reduceSub, ↓reduceIte, Int.reduceLT, Int.reduceLE, Int.reduceGT, Int.reduceGE, Nat.reduceLT, Nat.reduceGT, Int.reduceToNat, reduceCtorEq, Nat.reduceBEq, Int.reduceBEq, Int.reduceBNe, Int.reduceEq, Int.reduceNe, decide_true, decide_false, hdkj, hDj, ne0, ne1, ne2, ne3, ne4, ne5, ne6, ne7, ne8, ne9, ne10, ne11, ne12, ne13, ne14, ne15, ne16, ne17]
          repeat' ((first | with_reducible refine wr ?_ | with_reducible refine i_ret ?_ | with_reducible refine i_skip ?_ | with_reducible refine i_exit ?_ | ((with_reducible refine k_cb ?_ ?_) <;> (intro hb; try simp only [hb])) | ((with_reducible refine k_gb ?_ ?_) <;> (intro hb; try simp only [hb])) | ((with_reducible refine k_gb' ?_ ?_) <;> (intro hb; try simp only [hb]))) <;> try simp only [go_sem, Nat.reduceAdd, Nat.reduceLeDiff, Nat.reduceEqDiff, Nat.reduceMul, Nat.reduceSub, ↓reduceIte, Int.reduceLT, Int.reduceLE, Int.reduceGT, Int.reduceGE, Nat.reduceLT, Nat.reduceGT, Int.reduceToNat, reduceCtorEq, Nat.reduceBEq, Int.reduceBEq, Int.reduceBNe, Int.reduceEq, Int.reduceNe, decide_true, decide_false, hdkj, hDj, hw, ne0, ne1, ne2, ne3, ne4, ne5, ne6, ne7, ne8, ne9, ne10, ne11, ne12, ne13, ne14, ne15, ne16, ne17])
          have hOb := hOj.b _ rfl
          have hd0j : ∀ X, delO X oj 0 = X 0 := fun X => delO_ne (fun i hi e => by have := hOj.a i hi; omega)
          have hd1j : ∀ X, delO X oj 1 = X 1 := fun X => delO_ne (fun i hi e => by have := hOj.a i hi; omega)
          have hdej : ∀ X, delO X oj (c3 + 1 + 1) = X (c3 + 1 + 1) := fun X => delO_ne (fun i hi e => hOj.ne i hi (by rw [← e]))
          have M1 : (mdK t (i + 1)).I = Ij ++ [⟨31, 0⟩] := by rw [hmd2]; simp only [mdH]; rw [← hn, ← hp2, ← hjn2, ← hIj]
          have M2 : (mdK t (i + 1)).E = E ++ [e'] := by rw [hmd2, he']; rfl
          have M3 : (mdK t (i + 1)).p = pj := by rw [hmd2]; simp only [mdH]; rw [← hn, ← hp2, ← hjn2, ← hpj]
          refine ⟨(i + 1, some (cj + 1), some (c3 + 1 + 1)), rfl, ?_, inv ⟨⟨hk2, by omega, fun i hi => by cases hi; omega, fun i hi => by cases hi; omega, fun i hi e => by cases hi; cases e; omega⟩, hlt, by simp, by simp, by simp⟩, by simp only; omega⟩
          simp only [M1, M2, M3]
          refine MH_sub ?_ ?_ ?_ (fun i hi => ?_) (fun i hi => ?_)
          · rw [h_ne (by omega), h_ne (by omega), hd0j, h_ne (by omega)]; exact MH_0 hOj
          · rw [h_ne (by omega), h_ne (by omega), hd1j, h_ne (by omega)]; exact MH_1 hOj
          · rw [h_same]; simp only [todo_s, List.length_append, List.length_singleton]
          · cases hi; rw [h_ne (by omega), h_same, insC_app, insC_one]
          · cases hi; rw [h_ne (by omega), h_ne (by omega), hdej, h_ne (by omega)]; exact MH_b rfl
  · have hi : i = 9 := by omega
    have hd : decide ((i : Int) < ((9 : Nat) : Int)) = false := by simp; omega
    obtain ⟨n1, n2⟩ := hne (by omega)
    have hD := MH_k (l := t) (p := (mdK t i).p) (S := strs mdS) (P := ints (mdP t)) (V := ints mdV) (I := (mdK t i).I) (E := (mdK t i).E) hO
    have hD0 := MH_0 (l := t) (p := (mdK t i).p) (S := strs mdS) (P := ints (mdP t)) (V := ints mdV) (I := (mdK t i).I) (E := (mdK t i).E) hO
    rcases o1 with _ | a
    · exact absurd rfl n1
    rcases o2 with _ | b
    · exact absurd rfl n2
    have hDa := MH_a (l := t) (p := (mdK t i).p) (S := strs mdS) (P := ints (mdP t)) (V := ints mdV) (I := (mdK t i).I) (E := (mdK t i).E) hO rfl
    have hDb := MH_b (k := k) (l := t) (p := (mdK t i).p) (S := strs mdS) (P := ints (mdP t)) (V := ints mdV) (I := (mdK t i).I) (E := (mdK t i).E) (o1 := some a) (o2 := some b) rfl
    simp only [todo_s] at hD
    repeat' ((first | with_reducible refine wr ?_ | with_reducible refine i_ret ?_ | with_reducible refine i_skip ?_ | with_reducible refine i_exit ?_ | ((with_reducible refine k_cb ?_ ?_) <;> (intro hb; try simp only [hb])) | ((with_reducible refine k_gb ?_ ?_) <;> (intro hb; try simp only [hb])) | ((with_reducible refine k_gb' ?_ ?_) <;> (intro hb; try simp only [hb]))) <;> try simp only [go_sem, Nat.reduceAdd, Nat.reduceLeDiff, Nat.reduceEqDiff, Nat.reduceMul, Nat.reduceSub, ↓reduceIte, Int.reduceLT, Int.reduceLE, Int.reduceGT, Int.reduceGE, Nat.reduceLT, Nat.reduceGT, Int.reduceToNat, reduceCtorEq, Nat.reduceBEq, Int.reduceBEq, Int.reduceBNe, Int.reduceEq, Int.reduceNe, decide_true, decide_false, hkl, hd, hD, hD0])
    rw [k_rv (v := .agg [.slc a 0 (mdK t i).I.length, strs mdS, .slc b 0 (mdK t i).E.length, ints (mdP t), ints mdV, I64 2, I64 2]) rfl]
    have ha := hO.a a rfl
    have hb := hO.b b rfl
    have hab : ¬ a = b := fun e => hO.ne a rfl (by rw [e])
    have hm : madeM l = madeT t := by rw [madeM, ht]
    have hr : DV.agg [inssV (mdK t i).I, strs mdS, entsV (mdK t i).E, ints (mdP t), ints mdV, I64 2, I64 2] = (madeM l).v := by rw [hm, hi]; rfl
    rw [← hr]
    refine ⟨_, (g_one (a := a) (k := 0) (u := 2) (u' := 2) (pre := []) (suf := [strs mdS, .slc b 0 (mdK t i).E.length, ints (mdP t), ints mdV, I64 2, I64 2]) (xs := (mdK t i).I.map Ins.v) (junk := []) h_same (by rw [h_ne (by omega), List.append_nil]; exact hDa) (by simp [DV.one]) (by simp) (ins_unit _) (by omega)).trans
      (g_one (a := b) (k := 0) (u := 4) (u' := 4) (pre := [inssV (mdK t i).I, strs mdS]) (suf := [ints (mdP t), ints mdV, I64 2, I64 2]) (xs := (mdK t i).E.map Ent.v) (junk := []) h_same (by rw [h_ne (by omega), h_dne (Ne.symm hab), h_ne (by omega), List.append_nil]; exact hDb) (by simp [DV.one]) (by simp) (ent_unit _) (by omega))⟩
end Go.Proofs.YtcallbfckjlagaaDoor
