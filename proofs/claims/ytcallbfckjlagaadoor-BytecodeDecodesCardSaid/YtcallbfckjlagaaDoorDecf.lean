/-
  HELPERS of the claim: part 6 of its texts.
-/
import Derived.Test.YtcallbfckjlagaaDoorDece
set_option maxHeartbeats 4000000
set_option maxRecDepth 100000
set_option linter.unusedSimpArgs false
set_option linter.unusedVariables false
namespace Go.Proofs.YtcallbfckjlagaaDoor
open Go.Eng (IC IOper DReg IFn IsFn)
open Go.Sym Go.Pb
noncomputable section
def u16_11r : DReg := ⟨[oP 21 (.fad 0 (.t 5)), oP 22 (.ld 1 false (.t 21)), oP 23 (.mv (.t 6)), oP 24 (.mv (.t 4)), ⟨some 25, .call 34 [.t 24], none⟩, oP 26 (.bld #[.int .i64 0, .int .i64 0] [(0, 1), (1, 1)] [(0, .t 23), (1, .t 25)]), ⟨some 27, .new (.bsl 2 1 #[.int .i64 0, .int .i64 0] [(0, .t 26)]), none⟩, ⟨some 28, .eff (.app 2 16 (.t 22) (.t 27)), none⟩, oP 29 (.fad 0 (.t 5)), ⟨none, .eff (.st 1 (.t 29) (.t 28)), none⟩], [[], [0], [], [], [3], [2, 4, 3], [5, 2, 4, 3], [1, 6, 4, 0, 5, 2, 3], [0, 1, 2, 3, 4, 5, 6, 7], [8, 7, 0, 1, 2, 3, 4, 5, 6]], [(0, none), (1, none), (2, none), (3, none), (4, some [0, 1, 2]), (5, none), (6, none), (7, some []), (8, none), (9, some [])]⟩
def u16_11 : IC := .drw 10 u16_11r
def u16_10r : List IOper := [oP 19 (.mv (.t 4)), ⟨some 20, .call 34 [.t 19], none⟩, oP 6 (.mv (.t 20))]
def u16_10 : IC := .seq (.reg u16_10r) u16_11
def u16_12r : List IOper := [oP 30 (.bin .add (.t 17) (.k (.int .i64 1))), oP 17 (.mv (.t 30))]
def u16_12 : IC := .reg u16_12r
def u16_9 : IC := .seq (.blk 1 u16_10) u16_12
def u16_8 : IC := .seq (.cond (.t 18) .skip (.exit 0)) u16_9
def u16_7r : List IOper := [oP 18 (.bin .lss (.t 17) (.t 16))]
def u16_7 : IC := .seq (.reg u16_7r) u16_8
def u16_6 : IC := .blk 0 (.loop u16_7)
def u16_5r : List IOper := [oP 15 (.mv (.t 4)), ⟨some 16, .call 33 [.t 15], none⟩, oP 17 (.mv (.k (.int .i64 0)))]
def u16_5 : IC := .seq (.reg u16_5r) u16_6
def u16_21r : List IOper := [oP 48 (.mv (.t 4)), oP 49 (.mv (.t 4)), oP 50 (.nck (.t 49)), oP 51 (.fad 0 (.t 50)), oP 52 (.ld 1 false (.t 51)), oP 53 (.mv (.t 7)), oP 54 (.sls (.t 52) (some (.t 53)) none), oP 55 (.nck (.t 48)), oP 56 (.fad 0 (.t 55)), ⟨none, .eff (.st 1 (.t 56) (.t 54)), none⟩]
def u16_21 : IC := .reg u16_21r
def u16_20r : DReg := ⟨[oP 37 (.fad 1 (.t 5)), oP 38 (.ld 1 false (.t 37)), oP 39 (.mv (.t 4)), oP 40 (.nck (.t 39)), oP 41 (.fad 0 (.t 40)), oP 42 (.ld 1 false (.t 41)), oP 43 (.mv (.t 7)), oP 44 (.sls (.t 42) none (some (.t 43))), ⟨some 45, .new (.bsl 1 1 #[.string ⟨#[]⟩] [(0, .t 44)]), none⟩, ⟨some 46, .eff (.app 1 16 (.t 38) (.t 45)), none⟩, oP 47 (.fad 1 (.t 5)), ⟨none, .eff (.st 1 (.t 47) (.t 46)), none⟩], [[], [0], [], [2], [3, 2], [4, 3, 2], [], [5, 6, 4, 3, 2], [7, 5, 6, 4, 3, 2], [1, 8, 0, 7, 5, 6, 4, 3, 2], [0, 1, 2, 3, 4, 5, 6, 7, 8, 9], [10, 9, 0, 1, 2, 3, 4, 5, 6, 7, 8]], [(0, none), (1, none), (2, none), (3, none), (4, none), (5, none), (6, none), (7, none), (8, none), (9, some []), (10, none), (11, some [])]⟩
def u16_20 : IC := .seq (.drw 12 u16_20r) u16_21
def u16_19r : List IOper := [oP 35 (.mv (.t 4)), ⟨some 36, .call 33 [.t 35], none⟩, oP 7 (.mv (.t 36))]
def u16_19 : IC := .seq (.reg u16_19r) u16_20
def u16_22r : List IOper := [oP 57 (.bin .add (.t 33) (.k (.int .i64 1))), oP 33 (.mv (.t 57))]
def u16_22 : IC := .reg u16_22r
def u16_18 : IC := .seq (.blk 3 u16_19) u16_22
def u16_17 : IC := .seq (.cond (.t 34) .skip (.exit 2)) u16_18
def u16_16r : List IOper := [oP 34 (.bin .lss (.t 33) (.t 32))]
def u16_16 : IC := .seq (.reg u16_16r) u16_17
def u16_15 : IC := .blk 2 (.loop u16_16)
def u16_14r : List IOper := [oP 31 (.mv (.t 4)), ⟨some 32, .call 33 [.t 31], none⟩, oP 33 (.mv (.k (.int .i64 0)))]
def u16_14 : IC := .seq (.reg u16_14r) u16_15
def u16_37r : List IOper := [oP 66 (.mv (.t 9)), oP 67 (.mv (.t 4)), ⟨some 68, .call 34 [.t 67], none⟩, oP 69 (.iada 4 1 (.t 8) (.t 66)), ⟨none, .eff (.st 1 (.t 69) (.t 68)), none⟩]
def u16_37 : IC := .reg u16_37r
def u16_36r : List IOper := [oP 65 (.mv (.t 63)), oP 9 (.mv (.t 65))]
def u16_36 : IC := .seq (.reg u16_36r) u16_37
def u16_38r : List IOper := [oP 70 (.bin .add (.t 63) (.k (.int .i64 1))), oP 63 (.mv (.t 70))]
def u16_38 : IC := .reg u16_38r
def u16_35 : IC := .seq (.blk 7 u16_36) u16_38
def u16_34 : IC := .seq (.cond (.t 64) .skip (.exit 6)) u16_35
def u16_33r : List IOper := [oP 64 (.bin .lss (.t 63) (.k (.int .i64 4)))]
def u16_33 : IC := .seq (.reg u16_33r) u16_34
def u16_32 : IC := .blk 6 (.loop u16_33)
def u16_31r : List IOper := [oP 63 (.mv (.k (.int .i64 0)))]
def u16_31 : IC := .seq (.reg u16_31r) u16_32
def u16_39r : List IOper := [oP 71 (.fad 2 (.t 5)), oP 72 (.ld 1 false (.t 71)), oP 73 (.iada 4 1 (.t 8) (.k (.int .i64 0))), oP 74 (.ld 1 false (.t 73)), oP 75 (.iada 4 1 (.t 8) (.k (.int .i64 1))), oP 76 (.ld 1 false (.t 75)), oP 77 (.iada 4 1 (.t 8) (.k (.int .i64 2))), oP 78 (.ld 1 false (.t 77)), oP 79 (.iada 4 1 (.t 8) (.k (.int .i64 3))), oP 80 (.ld 1 false (.t 79)), oP 81 (.bld #[.int .i64 0, .int .i64 0, .int .i64 0, .int .i64 0] [(0, 1), (1, 1), (2, 1), (3, 1)] [(0, .t 74), (1, .t 76), (2, .t 78), (3, .t 80)]), ⟨some 82, .new (.bsl 4 1 #[.int .i64 0, .int .i64 0, .int .i64 0, .int .i64 0] [(0, .t 81)]), none⟩, ⟨some 83, .eff (.app 4 32 (.t 72) (.t 82)), none⟩, oP 84 (.fad 2 (.t 5)), ⟨none, .eff (.st 1 (.t 84) (.t 83)), none⟩]
def u16_39 : IC := .reg u16_39r
def u16_30 : IC := .seq u16_31 u16_39
def u16_29r : List IOper := [oP 62 (.bld #[.int .i64 0, .int .i64 0, .int .i64 0, .int .i64 0] [] []), ⟨some 8, .new (.box (.k (.agg #[.int .i64 0, .int .i64 0, .int .i64 0, .int .i64 0]))), none⟩, ⟨none, .eff (.st 4 (.t 8) (.t 62)), none⟩]
def u16_29 : IC := .seq (.reg u16_29r) u16_30
def u16_40r : List IOper := [oP 85 (.bin .add (.t 60) (.k (.int .i64 1))), oP 60 (.mv (.t 85))]
def u16_40 : IC := .reg u16_40r
def u16_28 : IC := .seq (.blk 5 u16_29) u16_40
def u16_27 : IC := .seq (.cond (.t 61) .skip (.exit 4)) u16_28
def u16_26r : List IOper := [oP 61 (.bin .lss (.t 60) (.t 59))]
def u16_26 : IC := .seq (.reg u16_26r) u16_27
def u16_25 : IC := .blk 4 (.loop u16_26)
def u16_24r : List IOper := [oP 58 (.mv (.t 4)), ⟨some 59, .call 33 [.t 58], none⟩, oP 60 (.mv (.k (.int .i64 0)))]
def u16_24 : IC := .seq (.reg u16_24r) u16_25
def u16_49r : List IOper := [oP 116 (.bld #[.slice none 0 0, .slice none 0 0, .slice none 0 0, .slice none 0 0, .slice none 0 0, .int .i64 0, .int .i64 0] [(0, 1), (1, 1), (2, 1), (3, 1), (4, 1), (5, 1), (6, 1)] []), ⟨none, .eff (.st 7 (.t 2) (.t 116)), none⟩, oP 3 (.mv (.k (.int .i64 51)))]
def u16_49 : IC := .seq (.reg u16_49r) .ret
def u16_48 : IC := .cond (.t 115) u16_49 .skip
def u16_47r : List IOper := [oP 103 (.mv (.t 4)), oP 104 (.nck (.t 103)), oP 105 (.fad 1 (.t 104)), oP 106 (.ld 1 false (.t 105)), oP 107 (.mv (.t 106)), ⟨some 108, .pur (.mv (.t 11)), some (107, false)⟩, ⟨some 109, .pur (.bin .neq (.t 108) (.k (.int .i64 0))), some (107, false)⟩, oP 110 (.pick (.t 107) (.k (.bool true)) (.t 109)), oP 111 (.mv (.t 110)), ⟨some 112, .pur (.mv (.t 10)), some (111, false)⟩, ⟨some 113, .pur (.mv (.t 0)), some (111, false)⟩, ⟨some 114, .pur (.bin .neq (.t 112) (.t 113)), some (111, false)⟩, oP 115 (.pick (.t 111) (.k (.bool true)) (.t 114))]
def u16_47 : IC := .seq (.reg u16_47r) u16_48
def u16_46r : List IOper := [oP 99 (.ld 7 true (.t 5)), ⟨some 100, .call 19 [.t 99], none⟩, oP 98 (.mv (.t 100)), oP 101 (.ext (.t 98) 0), oP 102 (.ext (.t 98) 1), oP 10 (.mv (.t 101)), oP 11 (.mv (.t 102))]
def u16_46 : IC := .seq (.reg u16_46r) u16_47
def u16_50r : List IOper := [oP 117 (.ld 7 true (.t 5)), ⟨none, .eff (.st 7 (.t 2) (.t 117)), none⟩, oP 3 (.mv (.k (.int .i64 0)))]
def u16_50 : IC := .seq (.reg u16_50r) .ret
def u16_45 : IC := .seq u16_46 u16_50
def u16_44r : List IOper := [oP 95 (.mv (.t 4)), ⟨some 96, .call 34 [.t 95], none⟩, oP 97 (.fad 6 (.t 5)), ⟨none, .eff (.st 1 (.t 97) (.t 96)), none⟩]
def u16_44 : IC := .seq (.reg u16_44r) u16_45
def u16_43r : List IOper := [oP 92 (.mv (.t 4)), ⟨some 93, .call 34 [.t 92], none⟩, oP 94 (.fad 5 (.t 5)), ⟨none, .eff (.st 1 (.t 94) (.t 93)), none⟩]
def u16_43 : IC := .seq (.reg u16_43r) u16_44
def u16_42r : List IOper := [oP 89 (.mv (.t 4)), ⟨some 90, .call 35 [.t 89], none⟩, oP 91 (.fad 4 (.t 5)), ⟨none, .eff (.st 1 (.t 91) (.t 90)), none⟩]
def u16_42 : IC := .seq (.reg u16_42r) u16_43
def u16_41r : List IOper := [oP 86 (.mv (.t 4)), ⟨some 87, .call 35 [.t 86], none⟩, oP 88 (.fad 3 (.t 5)), ⟨none, .eff (.st 1 (.t 88) (.t 87)), none⟩]
def u16_41 : IC := .seq (.reg u16_41r) u16_42
def u16_23 : IC := .seq u16_24 u16_41
def u16_13 : IC := .seq u16_14 u16_23
def u16_4 : IC := .seq u16_5 u16_13
def u16_3r : List IOper := [⟨some 5, .new (.box (.k (.agg #[.slice none 0 0, .slice none 0 0, .slice none 0 0, .slice none 0 0, .slice none 0 0, .int .i64 0, .int .i64 0]))), none⟩]
def u16_3 : IC := .seq (.reg u16_3r) u16_4
def u16_2r : List IOper := [oP 12 (.mv (.t 0)), oP 13 (.bld #[.string ⟨#[]⟩, .bool false] [(0, 1), (1, 1)] [(0, .t 12)]), ⟨some 14, .new (.box (.t 13)), none⟩, oP 4 (.mv (.t 14))]
def u16_2 : IC := .seq (.reg u16_2r) u16_3
def u16_1r : List IOper := [⟨some 2, .new (.box (.k (.agg #[.slice none 0 0, .slice none 0 0, .slice none 0 0, .slice none 0 0, .slice none 0 0, .int .i64 0, .int .i64 0]))), none⟩, oP 3 (.mv (.k (.int .i64 0)))]
def u16_1 : IC := .seq (.reg u16_1r) u16_2
def u16 : IFn := ⟨118, u16_1, [.cell 2 7 true, .tmp 3]⟩
end
theorem isU16 : IsFn Tryd.prog 16 u16 := by unfold IsFn; kernel_rfl
instance i16_11 : WR Tryd.prog 118 u16_11 (rDE 10 u16_11r [0, 2, 4, 5, 6, 16, 17]) := ⟨mkDE⟩
instance i16_10 : WR Tryd.prog 118 u16_10 (rS u16_10r u16_11 [0, 2, 4, 5, 16, 17]) := ⟨mkS⟩
instance i16_12 : WR Tryd.prog 118 u16_12 (rE u16_12r [0, 2, 4, 5, 16, 17]) := ⟨mkE⟩
instance i16_9 : WR Tryd.prog 118 u16_9 (rB 1 u16_10 u16_12 [0, 2, 4, 5, 16, 17]) := ⟨mkB⟩
instance i16_8 : WR Tryd.prog 118 u16_8 (rC (.t 18) .skip (.exit 0) u16_9 [0, 2, 4, 5, 16, 17, 18]) := ⟨mkC⟩
instance i16_7 : WR Tryd.prog 118 u16_7 (rS u16_7r u16_8 [0, 2, 4, 5, 16, 17]) := ⟨mkS⟩
instance i16_6 : WR Tryd.prog 118 u16_6 (rBE 0 (.loop u16_7) [0, 2, 4, 5, 16, 17]) := ⟨mkBE⟩
instance i16_5 : WR Tryd.prog 118 u16_5 (rS u16_5r u16_6 [0, 2, 4, 5]) := ⟨mkS⟩
instance i16_21 : WR Tryd.prog 118 u16_21 (rE u16_21r [0, 2, 4, 5, 7, 32, 33]) := ⟨mkE⟩
instance i16_20 : WR Tryd.prog 118 u16_20 (rD 12 u16_20r u16_21 [0, 2, 4, 5, 7, 32, 33]) := ⟨mkD⟩
instance i16_19 : WR Tryd.prog 118 u16_19 (rS u16_19r u16_20 [0, 2, 4, 5, 32, 33]) := ⟨mkS⟩
instance i16_22 : WR Tryd.prog 118 u16_22 (rE u16_22r [0, 2, 4, 5, 32, 33]) := ⟨mkE⟩
instance i16_18 : WR Tryd.prog 118 u16_18 (rB 3 u16_19 u16_22 [0, 2, 4, 5, 32, 33]) := ⟨mkB⟩
instance i16_17 : WR Tryd.prog 118 u16_17 (rC (.t 34) .skip (.exit 2) u16_18 [0, 2, 4, 5, 32, 33, 34]) := ⟨mkC⟩
instance i16_16 : WR Tryd.prog 118 u16_16 (rS u16_16r u16_17 [0, 2, 4, 5, 32, 33]) := ⟨mkS⟩
instance i16_15 : WR Tryd.prog 118 u16_15 (rBE 2 (.loop u16_16) [0, 2, 4, 5, 32, 33]) := ⟨mkBE⟩
instance i16_14 : WR Tryd.prog 118 u16_14 (rS u16_14r u16_15 [0, 2, 4, 5]) := ⟨mkS⟩
instance i16_37 : WR Tryd.prog 118 u16_37 (rE u16_37r [0, 2, 4, 5, 8, 9, 59, 60, 63]) := ⟨mkE⟩
instance i16_36 : WR Tryd.prog 118 u16_36 (rS u16_36r u16_37 [0, 2, 4, 5, 8, 59, 60, 63]) := ⟨mkS⟩
instance i16_38 : WR Tryd.prog 118 u16_38 (rE u16_38r [0, 2, 4, 5, 8, 59, 60, 63]) := ⟨mkE⟩
instance i16_35 : WR Tryd.prog 118 u16_35 (rB 7 u16_36 u16_38 [0, 2, 4, 5, 8, 59, 60, 63]) := ⟨mkB⟩
instance i16_34 : WR Tryd.prog 118 u16_34 (rC (.t 64) .skip (.exit 6) u16_35 [0, 2, 4, 5, 8, 59, 60, 63, 64]) := ⟨mkC⟩
instance i16_33 : WR Tryd.prog 118 u16_33 (rS u16_33r u16_34 [0, 2, 4, 5, 8, 59, 60, 63]) := ⟨mkS⟩
instance i16_32 : WR Tryd.prog 118 u16_32 (rBE 6 (.loop u16_33) [0, 2, 4, 5, 8, 59, 60, 63]) := ⟨mkBE⟩
instance i16_31 : WR Tryd.prog 118 u16_31 (rS u16_31r u16_32 [0, 2, 4, 5, 8, 59, 60]) := ⟨mkS⟩
instance i16_39 : WR Tryd.prog 118 u16_39 (rE u16_39r [0, 2, 4, 5, 8, 59, 60]) := ⟨mkE⟩
instance i16_30 : WR Tryd.prog 118 u16_30 (rQ u16_31 u16_39 [0, 2, 4, 5, 8, 59, 60]) := ⟨mkQ⟩
instance i16_29 : WR Tryd.prog 118 u16_29 (rS u16_29r u16_30 [0, 2, 4, 5, 59, 60]) := ⟨mkS⟩
instance i16_40 : WR Tryd.prog 118 u16_40 (rE u16_40r [0, 2, 4, 5, 59, 60]) := ⟨mkE⟩
instance i16_28 : WR Tryd.prog 118 u16_28 (rB 5 u16_29 u16_40 [0, 2, 4, 5, 59, 60]) := ⟨mkB⟩
instance i16_27 : WR Tryd.prog 118 u16_27 (rC (.t 61) .skip (.exit 4) u16_28 [0, 2, 4, 5, 59, 60, 61]) := ⟨mkC⟩
instance i16_26 : WR Tryd.prog 118 u16_26 (rS u16_26r u16_27 [0, 2, 4, 5, 59, 60]) := ⟨mkS⟩
instance i16_25 : WR Tryd.prog 118 u16_25 (rBE 4 (.loop u16_26) [0, 2, 4, 5, 59, 60]) := ⟨mkBE⟩
instance i16_24 : WR Tryd.prog 118 u16_24 (rS u16_24r u16_25 [0, 2, 4, 5]) := ⟨mkS⟩
instance i16_49 : WR Tryd.prog 118 u16_49 (rS u16_49r .ret [2]) := ⟨mkS⟩
instance i16_48 : WR Tryd.prog 118 u16_48 (rCE (.t 115) u16_49 .skip [2, 5, 115]) := ⟨mkCE⟩
instance i16_47 : WR Tryd.prog 118 u16_47 (rS u16_47r u16_48 [0, 2, 4, 5, 10, 11]) := ⟨mkS⟩
instance i16_46 : WR Tryd.prog 118 u16_46 (rS u16_46r u16_47 [0, 2, 4, 5]) := ⟨mkS⟩
instance i16_50 : WR Tryd.prog 118 u16_50 (rS u16_50r .ret [2, 5]) := ⟨mkS⟩
instance i16_45 : WR Tryd.prog 118 u16_45 (rQ u16_46 u16_50 [0, 2, 4, 5]) := ⟨mkQ⟩
instance i16_44 : WR Tryd.prog 118 u16_44 (rS u16_44r u16_45 [0, 2, 4, 5]) := ⟨mkS⟩
instance i16_43 : WR Tryd.prog 118 u16_43 (rS u16_43r u16_44 [0, 2, 4, 5]) := ⟨mkS⟩
instance i16_42 : WR Tryd.prog 118 u16_42 (rS u16_42r u16_43 [0, 2, 4, 5]) := ⟨mkS⟩
instance i16_41 : WR Tryd.prog 118 u16_41 (rS u16_41r u16_42 [0, 2, 4, 5]) := ⟨mkS⟩
instance i16_23 : WR Tryd.prog 118 u16_23 (rQ u16_24 u16_41 [0, 2, 4, 5]) := ⟨mkQ⟩
instance i16_13 : WR Tryd.prog 118 u16_13 (rQ u16_14 u16_23 [0, 2, 4, 5]) := ⟨mkQ⟩
instance i16_4 : WR Tryd.prog 118 u16_4 (rQ u16_5 u16_13 [0, 2, 4, 5]) := ⟨mkQ⟩
instance i16_3 : WR Tryd.prog 118 u16_3 (rS u16_3r u16_4 [0, 2, 4]) := ⟨mkS⟩
instance i16_2 : WR Tryd.prog 118 u16_2 (rS u16_2r u16_3 [0, 2]) := ⟨mkS⟩
instance i16_1 : WR Tryd.prog 118 u16_1 (rS u16_1r u16_2 [0]) := ⟨mkS⟩
attribute [go_sem] u16_11r u16_10r u16_12r u16_7r u16_5r u16_21r u16_20r u16_19r u16_22r u16_16r u16_14r u16_37r u16_36r u16_38r u16_33r u16_31r u16_39r u16_29r u16_40r u16_26r u16_24r u16_49r u16_47r u16_46r u16_50r u16_44r u16_43r u16_42r u16_41r u16_3r u16_2r u16_1r
def DB (s : RS) : Hp := (Sym.nil.upd 0 ⟨0, true, [.snil, .snil, .snil, .snil, .snil, I64 0, I64 0]⟩).upd 1 (rdB s)
theorem DB_0 (s : RS) : DB s 0 = some ⟨0, true, [.snil, .snil, .snil, .snil, .snil, I64 0, I64 0]⟩ := rfl
theorem DB_1 (s : RS) : DB s 1 = some (rdB s) := rfl
theorem DB_n (s : RS) {j : Nat} (h : 2 ≤ j) : DB s j = none := by
  unfold DB; rw [h_ne (by omega), h_ne (by omega)]; rfl
def DH (s : RS) (cs : List DV) (o : Option Nat) (b : Blk) : Hp := optH ((DB s).upd 2 ⟨0, true, cs⟩) o b
theorem DH_0 {s : RS} {cs : List DV} {o : Option Nat} {b : Blk} (h : ∀ i, o = some i → 3 ≤ i) : DH s cs o b 0 = some ⟨0, true, [.snil, .snil, .snil, .snil, .snil, I64 0, I64 0]⟩ := by
  cases o with
  | none => rfl
  | some i => have := h i rfl; simp only [DH, optH]; rw [h_ne (by omega)]; rfl
theorem DH_1 {s : RS} {cs : List DV} {o : Option Nat} {b : Blk} (h : ∀ i, o = some i → 3 ≤ i) : DH s cs o b 1 = some (rdB s) := by
  cases o with
  | none => rfl
  | some i => have := h i rfl; simp only [DH, optH]; rw [h_ne (by omega)]; rfl
theorem DH_2 {s : RS} {cs : List DV} {o : Option Nat} {b : Blk} (h : ∀ i, o = some i → 3 ≤ i) : DH s cs o b 2 = some ⟨0, true, cs⟩ := by
  cases o with
  | none => rfl
  | some i => have := h i rfl; simp only [DH, optH]; rw [h_ne (by omega)]; rfl
theorem DH_r {s s' : RS} {cs : List DV} {o : Option Nat} {b : Blk} (h : ∀ i, o = some i → 3 ≤ i) : (DH s cs o b).upd 1 (rdB s') = DH s' cs o b := by
  funext j
  cases o with
  | none => simp only [DH, DB, optH, Hp.upd]; split <;> (try split) <;> (try split) <;> first | rfl | omega
  | some i => have := h i rfl; simp only [DH, DB, optH, Hp.upd]; split <;> (try split) <;> (try split) <;> first | rfl | omega
theorem decV_nl (o : Option Prg) : (decV o).nl = true := by
  cases o <;> simp [decV, DV.nl, DV.nlL, nlL_ints, nlL_strs, nlL_instrs, nlL_entries, Prg.none]
theorem c_rnumD (s : RS) (hs : s.1.length ≤ 1000000) {cs : List DV} {o : Option Nat} {b : Blk} (h : ∀ i, o = some i → 3 ≤ i) (cc : Nat) (hc : 3 ≤ cc) : AC Tryd.prog 34 [.ptr 1 0] (DH s cs o b) cc (fun v H' c' => v = I64 (rdNum s).1 ∧ H' = DH (rdNum s).2 cs o b) :=
  (c_rnum s hs _ cc 1 (DH_1 h) (by omega)).mono fun v H' c' q => ⟨q.1, by rw [q.2, DH_r h]⟩
theorem c_rcntD (s : RS) (hs : s.1.length ≤ 1000000) {cs : List DV} {o : Option Nat} {b : Blk} (h : ∀ i, o = some i → 3 ≤ i) (cc : Nat) (hc : 3 ≤ cc) : AC Tryd.prog 33 [.ptr 1 0] (DH s cs o b) cc (fun v H' c' => v = I64 ((rdCnt s).1 : Int) ∧ H' = DH (rdCnt s).2 cs o b) :=
  (c_rcnt s hs _ cc 1 (DH_1 h) (by omega)).mono fun v H' c' q => ⟨q.1, by rw [q.2, DH_r h]⟩
theorem c_rnumsD (s : RS) (hs : s.1.length ≤ 1000000) {cs : List DV} {o : Option Nat} {b : Blk} (h : ∀ i, o = some i → 3 ≤ i) (cc : Nat) (hc : 3 ≤ cc) : AC Tryd.prog 35 [.ptr 1 0] (DH s cs o b) cc (fun v H' c' => v = ints (rdNums s).1 ∧ H' = DH (rdNums s).2 cs o b) :=
  (c_rnums s hs _ cc 1 (DH_1 h) (by omega)).mono fun v H' c' q => ⟨q.1, by rw [q.2, DH_r h]⟩
theorem DH_fin {s : RS} {u n : Nat} {o : Option Nat} {pre suf : List DV} {xs ds : List DV} (h1 : ∀ d ∈ pre ++ suf, d.one = true) (hn : o = none → xs = []) (hs : ∀ i, o = some i → 3 ≤ i)
    (hl : xs.length = n) (hu : ∀ x ∈ xs, x.cells.length = u) {b : Blk} : GL (DH s (pre ++ [todoV o n] ++ suf) o ⟨u, true, cellsL xs⟩) ds (DH s (pre ++ [.lst xs] ++ suf) none b) ds :=
  g_fin h1 hn (fun i hi => ⟨by have := hs i hi; omega, DB_n s (by have := hs i hi; omega)⟩) hl hu
theorem DH_s {s : RS} {cs : List DV} {i : Nat} {b : Blk} : DH s cs (some i) b i = some b := h_same
theorem DH_n {s : RS} {cs : List DV} {o : Option Nat} {b : Blk} {j : Nat} (h : 3 ≤ j) (h2 : ∀ i, o = some i → i < j) : DH s cs o b j = none := by
  cases o with
  | none => simp only [DH, optH]; rw [h_ne (by omega), DB_n s (by omega)]
  | some i => have := h2 i rfl; simp only [DH, optH]; rw [h_ne (by omega), h_ne (by omega), DB_n s (by omega)]
theorem no2 {j : Nat} : ∀ i, (none : Option Nat) = some i → i < j := fun i h => by cases h
theorem no3 : ∀ i, (none : Option Nat) = some i → 3 ≤ i := fun i h => by cases h
theorem none_view {ρ : Ren} {v : Value} (h : VRel ρ (.agg [.snil, .snil, .snil, .snil, .snil, I64 0, I64 0]) v) : VRel ρ Prg.none.v v := by
  obtain ⟨b, rfl, hA⟩ := h.agg_inv
  refine .mkAgg ⟨hA.1, fun i x y hx hy => ?_⟩
  match i with
  | 0 => cases hx; exact (hA.2 0 _ y rfl hy).snil_lst
  | 1 => cases hx; exact (hA.2 1 _ y rfl hy).snil_lst
  | 2 => cases hx; exact (hA.2 2 _ y rfl hy).snil_lst
  | 3 => cases hx; exact (hA.2 3 _ y rfl hy).snil_lst
  | 4 => cases hx; exact (hA.2 4 _ y rfl hy).snil_lst
  | 5 => cases hx; exact hA.2 5 _ y rfl hy
  | 6 => cases hx; exact hA.2 6 _ y rfl hy
  | _ + 7 => cases hx
theorem g_none {H : Hp} : ∃ H2, GL H [.tup [.agg [.snil, .snil, .snil, .snil, .snil, I64 0, I64 0], I64 51]] H2 [decV Option.none] :=
  ⟨H, GL.view fun ρ vs h => arel_one (fun v h => h.tup2 fun v h => none_view h) vs h⟩
theorem c_Decode (s : List UInt8) (hs : s.length ≤ 1000000) : PC Tryd.prog 16 [.str s] (decV (decP s)) := by
  refine PC.of mixedU isU16 (Nat.le_of_ble_eq_true rfl) rfl (decV_nl _) ?_
  show IW Tryd.prog 118 u16_1 ⟨argT _, _, _⟩ (rt [.cell 2 7 true, .tmp 3] _)
  repeat' ((first | with_reducible refine wr ?_ | ((with_reducible refine wb2 ?_ ?_) <;> (intro hb; try simp only [hb])) | fail) <;> try simp only [go_sem, seval])
  refine AC.call (c_rcntD (s, false) hs (cs := [.snil, .snil, .snil, .snil, .snil, I64 0, I64 0]) (b := ⟨0, true, []⟩) no3 3 (by omega)) ?_
  rintro v H' c1 ⟨rfl, rfl⟩ hc1
  obtain ⟨L1, L2⟩ := rdCnt_len (s, false)
  obtain ⟨n1, hn1⟩ : ∃ n, n = (rdCnt (s, false)).1 := ⟨_, rfl⟩
  obtain ⟨s1, hs1⟩ : ∃ st, st = (rdCnt (s, false)).2 := ⟨_, rfl⟩
  rw [← hn1, ← hs1] at L2 ⊢
  rw [← hs1] at L1
  simp only at L1
  simp only [go_sem, seval]
  repeat' ((first | with_reducible refine wr ?_ | ((with_reducible refine wb2 ?_ ?_) <;> (intro hb; try simp only [hb])) | fail) <;> try simp only [go_sem, seval])
  refine i_loop (fun q : Nat × Option Nat => [(0, .str s), (2, .ptr 0 0), (4, .ptr 1 0), (5, .ptr 2 0), (16, I64 n1), (17, I64 q.1)]) (fun q => DH (rdMany rdIns q.1 s1).2 [todoV q.2 q.1, .snil, .snil, .snil, .snil, I64 0, I64 0] q.2 ⟨2, true, insC (rdMany rdIns q.1 s1).1⟩) (fun q cc => 3 ≤ cc ∧ q.1 ≤ n1 ∧ (q.2 = none → q.1 = 0) ∧ ∀ i, q.2 = some i → 3 ≤ i ∧ i < cc) (fun q => n1 - q.1) (0, none)
    (by simp [tmLe, tm, Tm.upd]) (Sub.refl _) ⟨by omega, by simp, by simp, by simp⟩ ?_
  rintro ⟨k, o⟩ cc ⟨h3, hk, hno, hso⟩
  simp only at hk hno hso
  have ho3 : ∀ i, o = some i → 3 ≤ i := fun i hi => (hso i hi).1
  obtain ⟨M1, M2⟩ := rdMany_len (f := rdIns) rdIns_len k s1
  by_cases hlt : k < n1
  · have hd : decide ((k : Int) < (n1 : Int)) = true := by simpa using hlt
    have hw : IntKind.i64.wrap ((k : Int) + 1) = ((k + 1 : Nat) : Int) := by rw [w64 (by omega) (by omega)]; omega
    have N1 := rdNum_len (rdMany rdIns k s1).2
    repeat' ((first | with_reducible refine wr ?_ | ((with_reducible refine wb2 ?_ ?_) <;> (intro hb; try simp only [hb])) | fail) <;> try simp only [go_sem, seval, hd])
    refine AC.call (c_rnumD _ (by omega) ho3 cc h3) ?_
    rintro v H' c2 ⟨rfl, rfl⟩ hcc
    have hD2 := fun st => DH_2 (s := st) (cs := [todoV o k, .snil, .snil, .snil, .snil, I64 0, I64 0]) (b := ⟨2, true, insC (rdMany rdIns k s1).1⟩) ho3
    simp only [go_sem, seval]
    repeat' ((first | with_reducible refine wr ?_ | ((with_reducible refine wb2 ?_ ?_) <;> (intro hb; try simp only [hb])) | fail) <;> try simp only [go_sem, seval, hD2])
    refine AC.call (c_rnumD _ (by omega) ho3 _ (by omega)) ?_
    rintro v H' c3 ⟨rfl, rfl⟩ hcc3
    have hL := insC_len2 (rdMany rdIns k s1).1
    rw [M2] at hL
    have est := insC_step s1 k
    have e2 : (rdMany rdIns (k + 1) s1).2 = (rdNum (rdNum (rdMany rdIns k s1).2).2).2 := rfl
    rcases o with _ | id
    · obtain rfl := hno rfl
      have hD2 := fun st => DH_2 (s := st) (cs := [.snil, .snil, .snil, .snil, .snil, I64 0, I64 0]) (b := ⟨2, true, insC (rdMany rdIns 0 s1).1⟩) no3
      have f0 := fun st => DH_n (s := st) (cs := [.snil, .snil, .snil, .snil, .snil, I64 0, I64 0]) (b := ⟨2, true, insC (rdMany rdIns 0 s1).1⟩) (j := c2) (by omega) no2
      have f1 := fun st => DH_n (s := st) (cs := [.snil, .snil, .snil, .snil, .snil, I64 0, I64 0]) (b := ⟨2, true, insC (rdMany rdIns 0 s1).1⟩) (j := c2 + 1) (by omega) no2
      have f2 := fun st => DH_n (s := st) (cs := [.snil, .snil, .snil, .snil, .snil, I64 0, I64 0]) (b := ⟨2, true, insC (rdMany rdIns 0 s1).1⟩) (j := c2 + 2) (by omega) no2
      have ne0 : ¬ 1 = c2 + 6 := by omega
      have ne1 : ¬ 1 = c3 := by omega
      have ne2 : ¬ 2 = c2 + 6 := by omega
      have ne3 : ¬ 2 = c3 := by omega
      have ne4 : ¬ c2 + 6 = 1 := by omega
      have ne5 : ¬ c2 + 6 = 2 := by omega
      have ne6 : ¬ c2 + 6 = c3 := by omega
      have ne7 : ¬ c3 = 1 := by omega
      have ne8 : ¬ c3 = 2 := by omega
      have ne9 : ¬ c3 = c2 + 6 := by omega
      simp only [go_sem, seval, hD2, f0, f1, f2, ne0, ne1, ne2, ne3, ne4, ne5, ne6, ne7, ne8, ne9]
      repeat' ((first | with_reducible refine wr ?_ | ((with_reducible refine wb2 ?_ ?_) <;> (intro hb; try simp only [hb])) | ((with_reducible refine x_eval (r_appn' (by decide) (by decide) (by decide)) ?_)) | fail) <;> try simp only [go_sem, seval, hD2, f0, f1, f2, hw, ne0, ne1, ne2, ne3, ne4, ne5, ne6, ne7, ne8, ne9])
      exact ⟨(1, some c3), rfl, by simp only [est, e2, insC, cellsL, List.map_nil, List.flatMap_nil, rdMany, todoV] at *; (intro j b hj; simp only [DH, DB, optH, Hp.upd, Hp.del, Sym.nil] at hj ⊢; (repeat' split at hj) <;> (repeat' split) <;> first | exact hj | (exfalso; omega) | cases hj), inv ⟨by omega, hlt, by simp, fun i hi => by cases hi; omega⟩, by simp only; omega⟩
    · obtain ⟨i1, i2⟩ := hso id rfl
      have hDs := fun st => DH_s (s := st) (cs := [.slc id 0 k, .snil, .snil, .snil, .snil, I64 0, I64 0]) (i := id) (b := ⟨2, true, insC (rdMany rdIns k s1).1⟩)
      have hD2 := fun st => DH_2 (s := st) (cs := [.slc id 0 k, .snil, .snil, .snil, .snil, I64 0, I64 0]) (b := ⟨2, true, insC (rdMany rdIns k s1).1⟩) ho3
      have hi2 : ∀ i, some id = some i → i < c2 := fun i hi => by cases hi; omega
      have f0 := fun st => DH_n (s := st) (cs := [.slc id 0 k, .snil, .snil, .snil, .snil, I64 0, I64 0]) (b := ⟨2, true, insC (rdMany rdIns k s1).1⟩) (j := c2) (by omega) hi2
      have f1 := fun st => DH_n (s := st) (cs := [.slc id 0 k, .snil, .snil, .snil, .snil, I64 0, I64 0]) (b := ⟨2, true, insC (rdMany rdIns k s1).1⟩) (j := c2 + 1) (by omega) (fun i hi => by have := hi2 i hi; omega)
      have f2 := fun st => DH_n (s := st) (cs := [.slc id 0 k, .snil, .snil, .snil, .snil, I64 0, I64 0]) (b := ⟨2, true, insC (rdMany rdIns k s1).1⟩) (j := c2 + 2) (by omega) (fun i hi => by have := hi2 i hi; omega)
      have ne0 : ¬ 1 = id := by omega
      have ne1 : ¬ 1 = c2 + 6 := by omega
      have ne2 : ¬ 1 = c3 := by omega
      have ne3 : ¬ 2 = id := by omega
      have ne4 : ¬ 2 = c2 + 6 := by omega
      have ne5 : ¬ 2 = c3 := by omega
      have ne6 : ¬ id = 1 := by omega
      have ne7 : ¬ id = 2 := by omega
      have ne8 : ¬ id = c2 + 6 := by omega
      have ne9 : ¬ id = c3 := by omega
      have ne10 : ¬ c2 + 6 = 1 := by omega
      have ne11 : ¬ c2 + 6 = 2 := by omega
      have ne12 : ¬ c2 + 6 = id := by omega
      have ne13 : ¬ c2 + 6 = c3 := by omega
      have ne14 : ¬ c3 = 1 := by omega
      have ne15 : ¬ c3 = 2 := by omega
      have ne16 : ¬ c3 = id := by omega
      have ne17 : ¬ c3 = c2 + 6 := by omega
      simp only [go_sem, seval, hD2, hDs, f0, f1, f2, ne0, ne1, ne2, ne3, ne4, ne5, ne6, ne7, ne8, ne9, ne10, ne11, ne12, ne13, ne14, ne15, ne16, ne17]
      repeat' ((first | with_reducible refine wr ?_ | ((with_reducible refine wb2 ?_ ?_) <;> (intro hb; try simp only [hb])) | ((with_reducible refine x_eval (b_appx hL (by omega) (by omega)) ?_)) | fail) <;> try simp only [go_sem, seval, hD2, hDs, f0, f1, f2, hw, ne0, ne1, ne2, ne3, ne4, ne5, ne6, ne7, ne8, ne9, ne10, ne11, ne12, ne13, ne14, ne15, ne16, ne17])
      exact ⟨(k + 1, some c3), rfl, by simp only [est, e2, todoV]; (intro j b hj; simp only [DH, DB, optH, Hp.upd, Hp.del, Sym.nil] at hj ⊢; (repeat' split at hj) <;> (repeat' split) <;> first | exact hj | (exfalso; omega) | cases hj), inv ⟨by omega, hlt, by simp, fun i hi => by cases hi; omega⟩, by simp only; omega⟩
  have hd : decide ((k : Int) < (n1 : Int)) = false := by simpa using hlt
  obtain rfl : k = n1 := by omega
  repeat' ((first | with_reducible refine wr ?_ | ((with_reducible refine wb2 ?_ ?_) <;> (intro hb; try simp only [hb])) | fail) <;> try simp only [go_sem, seval, hd])
  refine AC.ghost (DH_fin (pre := []) (suf := [.snil, .snil, .snil, .snil, I64 0, I64 0]) (xs := (rdMany rdIns k s1).1.map Ins.v) (b := ⟨0, true, []⟩) (by simp [DV.one]) (fun e => by rw [hno e]; rfl) ho3 (by simp [M2]) (ins_unit _)) ?_
  clear hd hlt hk hno hso ho3
  obtain ⟨I, hI⟩ : ∃ I, I = (rdMany rdIns k s1).1 := ⟨_, rfl⟩
  obtain ⟨s2, hs2⟩ : ∃ s, s = (rdMany rdIns k s1).2 := ⟨_, rfl⟩
  rw [← hI, ← hs2]
  rw [← hs2] at M1
  refine AC.call (c_rcntD s2 (by omega) (cs := [inssV I, .snil, .snil, .snil, .snil, I64 0, I64 0]) (b := ⟨0, true, []⟩) no3 cc h3) ?_
  rintro v H' c2 ⟨rfl, rfl⟩ hc2
  obtain ⟨L3, L4⟩ := rdCnt_len s2
  obtain ⟨n2, hn2⟩ : ∃ n, n = (rdCnt s2).1 := ⟨_, rfl⟩
  obtain ⟨s3, hs3⟩ : ∃ st, st = (rdCnt s2).2 := ⟨_, rfl⟩
  rw [← hn2, ← hs3] at L4 ⊢
  rw [← hs3] at L3
  simp only [go_sem, seval]
  repeat' ((first | with_reducible refine wr ?_ | ((with_reducible refine wb2 ?_ ?_) <;> (intro hb; try simp only [hb])) | fail) <;> try simp only [go_sem, seval])
  refine i_loop (fun q : Nat × Option Nat => [(0, .str s), (2, .ptr 0 0), (4, .ptr 1 0), (5, .ptr 2 0), (32, I64 n2), (33, I64 q.1)]) (fun q => DH (rdMany rdStr q.1 s3).2 [inssV I, todoV q.2 q.1, .snil, .snil, .snil, I64 0, I64 0] q.2 ⟨1, true, cellsL ((rdMany rdStr q.1 s3).1.map DV.str)⟩) (fun q cc => 3 ≤ cc ∧ q.1 ≤ n2 ∧ (q.2 = none → q.1 = 0) ∧ ∀ i, q.2 = some i → 3 ≤ i ∧ i < cc) (fun q => n2 - q.1) (0, none)
    (by simp [tmLe, tm, Tm.upd]) (Sub.refl _) ⟨by omega, by simp, by simp, by simp⟩ ?_
  clear h3 hc2 c2 cc
  rintro ⟨k2, o⟩ cc ⟨h3, hk, hno, hso⟩
  simp only at hk hno hso
  have ho3 : ∀ i, o = some i → 3 ≤ i := fun i hi => (hso i hi).1
  obtain ⟨M3, M4⟩ := rdMany_len (f := rdStr) rdStr_len k2 s3
  by_cases hlt : k2 < n2
  · have hd : decide ((k2 : Int) < (n2 : Int)) = true := by simpa using hlt
    have hw : IntKind.i64.wrap ((k2 : Int) + 1) = ((k2 + 1 : Nat) : Int) := by rw [w64 (by omega) (by omega)]; omega
    obtain ⟨N1, N2⟩ := rdCnt_len (rdMany rdStr k2 s3).2
    repeat' ((first | with_reducible refine wr ?_ | ((with_reducible refine wb2 ?_ ?_) <;> (intro hb; try simp only [hb])) | fail) <;> try simp only [go_sem, seval, hd])
    refine AC.call (c_rcntD _ (by omega) ho3 cc h3) ?_
    rintro v H' c2 ⟨rfl, rfl⟩ hcc
    have hL := strC_len (rdMany rdStr k2 s3).1
    rw [M4] at hL
    have est := strC_step s3 k2
    have e2 : (rdMany rdStr (k2 + 1) s3).2 = ((rdCnt (rdMany rdStr k2 s3).2).2.1.drop (rdCnt (rdMany rdStr k2 s3).2).1, (rdCnt (rdMany rdStr k2 s3).2).2.2) := rfl
    have e3 : (rdStr (rdMany rdStr k2 s3).2).1 = (rdCnt (rdMany rdStr k2 s3).2).2.1.take (rdCnt (rdMany rdStr k2 s3).2).1 := rfl
    have T1 := sls_to N2
    have T2 := sls_from N2
    rcases o with _ | id
    · obtain rfl := hno rfl
      have hD1 := fun st => DH_1 (s := st) (cs := [inssV I, .snil, .snil, .snil, .snil, I64 0, I64 0]) (b := ⟨1, true, cellsL ((rdMany rdStr 0 s3).1.map DV.str)⟩) no3
      have hD2 := fun st => DH_2 (s := st) (cs := [inssV I, .snil, .snil, .snil, .snil, I64 0, I64 0]) (b := ⟨1, true, cellsL ((rdMany rdStr 0 s3).1.map DV.str)⟩) no3
      have ne0 : ¬ 1 = c2 + 8 := by omega
      have ne1 : ¬ 1 = c2 + 12 := by omega
      have ne2 : ¬ 2 = c2 + 8 := by omega
      have ne3 : ¬ 2 = c2 + 12 := by omega
      have ne4 : ¬ c2 + 8 = 1 := by omega
      have ne5 : ¬ c2 + 8 = 2 := by omega
      have ne6 : ¬ c2 + 8 = c2 + 12 := by omega
      have ne7 : ¬ c2 + 12 = 1 := by omega
      have ne8 : ¬ c2 + 12 = 2 := by omega
      have ne9 : ¬ c2 + 12 = c2 + 8 := by omega
      simp only [go_sem, seval, hD1, hD2, T1, T2, ne0, ne1, ne2, ne3, ne4, ne5, ne6, ne7, ne8, ne9]
      repeat' ((first | with_reducible refine wr ?_ | ((with_reducible refine wb2 ?_ ?_) <;> (intro hb; try simp only [hb])) | ((with_reducible refine x_eval (r_appn' (by decide) (by decide) (by decide)) ?_)) | fail) <;> try simp only [go_sem, seval, hD1, hD2, hw, T1, T2, ne0, ne1, ne2, ne3, ne4, ne5, ne6, ne7, ne8, ne9])
      exact ⟨(1, some (c2 + 12)), rfl, by simp only [est, e2, e3, cellsL, List.map_nil, List.flatMap_nil, rdMany, todoV] at *; (intro j b hj; simp only [DH, DB, optH, Hp.upd, Hp.del, Sym.nil] at hj ⊢; (repeat' split at hj) <;> (repeat' split) <;> first | exact hj | (exfalso; omega) | cases hj), inv ⟨by omega, hlt, by simp, fun i hi => by cases hi; omega⟩, by simp only; omega⟩
    · obtain ⟨i1, i2⟩ := hso id rfl
      have hDs := fun st => DH_s (s := st) (cs := [inssV I, .slc id 0 k2, .snil, .snil, .snil, I64 0, I64 0]) (i := id) (b := ⟨1, true, cellsL ((rdMany rdStr k2 s3).1.map DV.str)⟩)
      have hD1 := fun st => DH_1 (s := st) (cs := [inssV I, .slc id 0 k2, .snil, .snil, .snil, I64 0, I64 0]) (b := ⟨1, true, cellsL ((rdMany rdStr k2 s3).1.map DV.str)⟩) ho3
      have hD2 := fun st => DH_2 (s := st) (cs := [inssV I, .slc id 0 k2, .snil, .snil, .snil, I64 0, I64 0]) (b := ⟨1, true, cellsL ((rdMany rdStr k2 s3).1.map DV.str)⟩) ho3
      have ne0 : ¬ 1 = id := by omega
      have ne1 : ¬ 1 = c2 + 8 := by omega
      have ne2 : ¬ 1 = c2 + 12 := by omega
      have ne3 : ¬ 2 = id := by omega
      have ne4 : ¬ 2 = c2 + 8 := by omega
      have ne5 : ¬ 2 = c2 + 12 := by omega
      have ne6 : ¬ id = 1 := by omega
      have ne7 : ¬ id = 2 := by omega
      have ne8 : ¬ id = c2 + 8 := by omega
      have ne9 : ¬ id = c2 + 12 := by omega
      have ne10 : ¬ c2 + 8 = 1 := by omega
      have ne11 : ¬ c2 + 8 = 2 := by omega
      have ne12 : ¬ c2 + 8 = id := by omega
      have ne13 : ¬ c2 + 8 = c2 + 12 := by omega
      have ne14 : ¬ c2 + 12 = 1 := by omega
      have ne15 : ¬ c2 + 12 = 2 := by omega
      have ne16 : ¬ c2 + 12 = id := by omega
      have ne17 : ¬ c2 + 12 = c2 + 8 := by omega
      simp only [go_sem, seval, hD1, hD2, hDs, T1, T2, ne0, ne1, ne2, ne3, ne4, ne5, ne6, ne7, ne8, ne9, ne10, ne11, ne12, ne13, ne14, ne15, ne16, ne17]
      repeat' ((first | with_reducible refine wr ?_ | ((with_reducible refine wb2 ?_ ?_) <;> (intro hb; try simp only [hb])) | ((with_reducible refine x_eval (b_appx hL (by omega) (by omega)) ?_)) | fail) <;> try simp only [go_sem, seval, hD1, hD2, hDs, hw, T1, T2, ne0, ne1, ne2, ne3, ne4, ne5, ne6, ne7, ne8, ne9, ne10, ne11, ne12, ne13, ne14, ne15, ne16, ne17])
      exact ⟨(k2 + 1, some (c2 + 12)), rfl, by simp only [est, e2, e3, todoV]; (intro j b hj; simp only [DH, DB, optH, Hp.upd, Hp.del, Sym.nil] at hj ⊢; (repeat' split at hj) <;> (repeat' split) <;> first | exact hj | (exfalso; omega) | cases hj), inv ⟨by omega, hlt, by simp, fun i hi => by cases hi; omega⟩, by simp only; omega⟩
  have hd : decide ((k2 : Int) < (n2 : Int)) = false := by simpa using hlt
  obtain rfl : k2 = n2 := by omega
  repeat' ((first | with_reducible refine wr ?_ | ((with_reducible refine wb2 ?_ ?_) <;> (intro hb; try simp only [hb])) | fail) <;> try simp only [go_sem, seval, hd])
  refine AC.ghost (DH_fin (pre := [inssV I]) (suf := [.snil, .snil, .snil, I64 0, I64 0]) (xs := (rdMany rdStr k2 s3).1.map DV.str) (b := ⟨0, true, []⟩) (by simp [DV.one]) (fun e => by rw [hno e]; rfl) ho3 (by simp [M4]) (str_unit _)) ?_
  clear hd hlt hk hno hso ho3
  obtain ⟨S, hS⟩ : ∃ S, S = (rdMany rdStr k2 s3).1 := ⟨_, rfl⟩
  obtain ⟨s4, hs4⟩ : ∃ s, s = (rdMany rdStr k2 s3).2 := ⟨_, rfl⟩
  rw [← hS, ← hs4]
  rw [← hs4] at M3
  refine AC.call (c_rcntD s4 (by omega) (cs := [inssV I, strs S, .snil, .snil, .snil, I64 0, I64 0]) (b := ⟨0, true, []⟩) no3 cc h3) ?_
  rintro v H' c2 ⟨rfl, rfl⟩ hc2
  obtain ⟨L5, L6⟩ := rdCnt_len s4
  obtain ⟨n3, hn3⟩ : ∃ n, n = (rdCnt s4).1 := ⟨_, rfl⟩
  obtain ⟨s5, hs5⟩ : ∃ st, st = (rdCnt s4).2 := ⟨_, rfl⟩
  rw [← hn3, ← hs5] at L6 ⊢
  rw [← hs5] at L5
  simp only [go_sem, seval]
  repeat' ((first | with_reducible refine wr ?_ | ((with_reducible refine wb2 ?_ ?_) <;> (intro hb; try simp only [hb])) | fail) <;> try simp only [go_sem, seval])
  refine i_loop (fun q : Nat × Option Nat => [(0, .str s), (2, .ptr 0 0), (4, .ptr 1 0), (5, .ptr 2 0), (59, I64 n3), (60, I64 q.1)]) (fun q => DH (rdMany rdEnt q.1 s5).2 [inssV I, strs S, todoV q.2 q.1, .snil, .snil, I64 0, I64 0] q.2 ⟨4, true, cellsL ((rdMany rdEnt q.1 s5).1.map Ent.v)⟩) (fun q cc => 3 ≤ cc ∧ q.1 ≤ n3 ∧ (q.2 = none → q.1 = 0) ∧ ∀ i, q.2 = some i → 3 ≤ i ∧ i < cc) (fun q => n3 - q.1) (0, none)
    (by simp [tmLe, tm, Tm.upd]) (Sub.refl _) ⟨by omega, by simp, by simp, by simp⟩ ?_
  clear h3 hc2 c2 cc
  rintro ⟨k3, o⟩ cc ⟨h3, hk, hno, hso⟩
  simp only at hk hno hso
  have ho3 : ∀ i, o = some i → 3 ≤ i := fun i hi => (hso i hi).1
  obtain ⟨M5, M6⟩ := rdMany_len (f := rdEnt) rdEnt_len k3 s5
  by_cases hlt : k3 < n3
  · have hd : decide ((k3 : Int) < (n3 : Int)) = true := by simpa using hlt
    have hw : IntKind.i64.wrap ((k3 : Int) + 1) = ((k3 + 1 : Nat) : Int) := by rw [w64 (by omega) (by omega)]; omega
    obtain ⟨s6, hs6⟩ : ∃ s, s = (rdMany rdEnt k3 s5).2 := ⟨_, rfl⟩
    rw [← hs6] at M5
    repeat' ((first | with_reducible refine wr ?_ | ((with_reducible refine wb2 ?_ ?_) <;> (intro hb; try simp only [hb])) | fail) <;> try simp only [go_sem, seval, hd])
    refine i_loop (fun k : Nat => [(0, .str s), (2, .ptr 0 0), (4, .ptr 1 0), (5, .ptr 2 0), (8, .ptr cc 0), (59, I64 n3), (60, I64 k3), (63, I64 k)]) (fun k => (DH (rdMany rdNum k s6).2 [inssV I, strs S, todoV o k3, .snil, .snil, I64 0, I64 0] o ⟨4, true, cellsL ((rdMany rdEnt k3 s5).1.map Ent.v)⟩).upd cc ⟨0, true, ((rdMany rdNum k s6).1 ++ List.replicate (4 - k) 0).map I64⟩) (fun k c => cc < c ∧ k ≤ 4) (fun k => 4 - k) 0
      (by simp [tmLe, tm, Tm.upd]) (by rw [hs6, h_upd2]; exact Sub.refl _) ⟨by omega, by omega⟩ ?_
    rintro k c ⟨hcc, hk4⟩
    obtain ⟨M7, M8⟩ := rdMany_len (f := rdNum) rdNum_len k s6
    by_cases hlt4 : k < 4
    · have hd4 : decide ((k : Int) < 4) = true := by simp; omega
      have hw4 : IntKind.i64.wrap ((k : Int) + 1) = ((k + 1 : Nat) : Int) := by rw [w64 (by omega) (by omega)]; omega
      repeat' ((first | with_reducible refine wr ?_ | ((with_reducible refine wb2 ?_ ?_) <;> (intro hb; try simp only [hb])) | fail) <;> try simp only [go_sem, seval, hd4])
      refine AC.call (c_rnum (rdMany rdNum k s6).2 (by omega) _ c 1 (by rw [h_ne (by omega)]; exact DH_1 ho3) (by omega)) ?_
      rintro v H' c1 ⟨rfl, rfl⟩ hcc1
      have hia := r_iada (id := cc) (off := 0) (sz := 1) (l := 4) (k := .i64) (j := (k : Int)) (by omega) (by omega)
      have hlen : ((rdMany rdNum k s6).1 ++ List.replicate (4 - k) 0).length = 4 := by simp [M8]; omega
      have hle : k + 1 ≤ 4 := hlt4
      have ne0 : ¬ 1 = cc := by omega
      have ne1 : ¬ cc = 1 := by omega
      simp only [go_sem, seval, hia, hlen, hle, ne0, ne1]
      repeat' ((first | with_reducible refine wr ?_ | ((with_reducible refine wb2 ?_ ?_) <;> (intro hb; try simp only [hb])) | fail) <;> try simp only [go_sem, seval, hia, hw4, hlen, hle, ne0, ne1])
      refine ⟨k + 1, rfl, ?_, inv ⟨by omega, hlt4⟩, by omega⟩
      rw [put_map (by rw [hlen]; omega), set_fill M8 hlt4]
      have q1 : (rdMany rdNum (k + 1) s6).1 = (rdMany rdNum k s6).1 ++ [(rdNum (rdMany rdNum k s6).2).1] := rfl
      have q2 : (rdMany rdNum (k + 1) s6).2 = (rdNum (rdMany rdNum k s6).2).2 := rfl
      simp only [q1, q2]
      rcases o with _ | id
      · (intro j b hj; simp only [DH, DB, optH, Hp.upd, Hp.del, Sym.nil] at hj ⊢; (repeat' split at hj) <;> (repeat' split) <;> first | exact hj | (exfalso; omega) | cases hj)
      · have := hso id rfl
        (intro j b hj; simp only [DH, DB, optH, Hp.upd, Hp.del, Sym.nil] at hj ⊢; (repeat' split at hj) <;> (repeat' split) <;> first | exact hj | (exfalso; omega) | cases hj)
    have hd4 : decide ((k : Int) < 4) = false := by simp; omega
    obtain rfl : k = 4 := by omega
    have ee := rdEnt_many s6
    have hL := entC_len' (rdMany rdEnt k3 s5).1
    rw [M6] at hL
    have est := entC_step s5 k3
    have e2 : (rdMany rdEnt (k3 + 1) s5).2 = (rdEnt (rdMany rdEnt k3 s5).2).2 := rfl
    rw [← hs6] at e2 est
    have ecs : ((rdMany rdNum 4 s6).1 ++ List.replicate (4 - 4) 0).map I64 = [I64 (rdEnt s6).1.mode, I64 (rdEnt s6).1.trigger, I64 (rdEnt s6).1.index, I64 (rdEnt s6).1.pos] := by rw [ee]; rfl
    have est2 : (rdMany rdNum 4 s6).2 = (rdEnt s6).2 := by rw [ee]
    rw [ecs, est2]
    have g0 := r_iada (id := cc) (off := 0) (sz := 1) (l := 4) (k := .i64) (j := 0) (by omega) (by omega)
    have g1 := r_iada (id := cc) (off := 0) (sz := 1) (l := 4) (k := .i64) (j := 1) (by omega) (by omega)
    have g2 := r_iada (id := cc) (off := 0) (sz := 1) (l := 4) (k := .i64) (j := 2) (by omega) (by omega)
    have g3 := r_iada (id := cc) (off := 0) (sz := 1) (l := 4) (k := .i64) (j := 3) (by omega) (by omega)
    rcases o with _ | id
    · obtain rfl := hno rfl
      have h65 : s5 = s6 := hs6.symm
      subst h65
      have hD2 := fun st => DH_2 (s := st) (cs := [inssV I, strs S, .snil, .snil, .snil, I64 0, I64 0]) (b := ⟨4, true, cellsL ((rdMany rdEnt 0 s5).1.map Ent.v)⟩) no3
      have ne0 : ¬ 1 = cc := by omega
      have ne1 : ¬ 1 = c := by omega
      have ne2 : ¬ 1 = c + 1 := by omega
      have ne3 : ¬ 2 = cc := by omega
      have ne4 : ¬ 2 = c := by omega
      have ne5 : ¬ 2 = c + 1 := by omega
      have ne6 : ¬ cc = 1 := by omega
      have ne7 : ¬ cc = 2 := by omega
      have ne8 : ¬ cc = c := by omega
      have ne9 : ¬ cc = c + 1 := by omega
      have ne10 : ¬ c = 1 := by omega
      have ne11 : ¬ c = 2 := by omega
      have ne12 : ¬ c = cc := by omega
      have ne13 : ¬ c = c + 1 := by omega
      have ne14 : ¬ c + 1 = 1 := by omega
      have ne15 : ¬ c + 1 = 2 := by omega
      have ne16 : ¬ c + 1 = cc := by omega
      have ne17 : ¬ c + 1 = c := by omega
      repeat' ((first | with_reducible refine wr ?_ | ((with_reducible refine wb2 ?_ ?_) <;> (intro hb; try simp only [hb])) | ((with_reducible refine k_eval (r_appn' (by decide) (by decide) (by decide)) ?_)) | fail) <;> try simp only [go_sem, seval, hd4, hD2, hw, g0, g1, g2, g3, ne0, ne1, ne2, ne3, ne4, ne5, ne6, ne7, ne8, ne9, ne10, ne11, ne12, ne13, ne14, ne15, ne16, ne17])
      exact ⟨(1, some (c + 1)), rfl, by simp only [est, e2, cellsL, List.map_nil, List.flatMap_nil, rdMany, todoV, DV.cells, List.nil_append] at *; (intro j b hj; simp only [DH, DB, optH, Hp.upd, Hp.del, Sym.nil] at hj ⊢; (repeat' split at hj) <;> (repeat' split) <;> first | exact hj | (exfalso; omega) | cases hj), inv ⟨by omega, hlt, by simp, fun i hi => by cases hi; omega⟩, by simp only; omega⟩
    · obtain ⟨i1, i2⟩ := hso id rfl
      have hDs := fun st => DH_s (s := st) (cs := [inssV I, strs S, .slc id 0 k3, .snil, .snil, I64 0, I64 0]) (i := id) (b := ⟨4, true, cellsL ((rdMany rdEnt k3 s5).1.map Ent.v)⟩)
      have hD2 := fun st => DH_2 (s := st) (cs := [inssV I, strs S, .slc id 0 k3, .snil, .snil, I64 0, I64 0]) (b := ⟨4, true, cellsL ((rdMany rdEnt k3 s5).1.map Ent.v)⟩) ho3
      have ne0 : ¬ 1 = id := by omega
      have ne1 : ¬ 1 = cc := by omega
      have ne2 : ¬ 1 = c := by omega
      have ne3 : ¬ 1 = c + 1 := by omega
      have ne4 : ¬ 2 = id := by omega
      have ne5 : ¬ 2 = cc := by omega
      have ne6 : ¬ 2 = c := by omega
      have ne7 : ¬ 2 = c + 1 := by omega
      have ne8 : ¬ id = 1 := by omega
      have ne9 : ¬ id = 2 := by omega
      have ne10 : ¬ id = cc := by omega
      have ne11 : ¬ id = c := by omega
      have ne12 : ¬ id = c + 1 := by omega
      have ne13 : ¬ cc = 1 := by omega
      have ne14 : ¬ cc = 2 := by omega
      have ne15 : ¬ cc = id := by omega
      have ne16 : ¬ cc = c := by omega
      have ne17 : ¬ cc = c + 1 := by omega
      have ne18 : ¬ c = 1 := by omega
      have ne19 : ¬ c = 2 := by omega
      have ne20 : ¬ c = id := by omega
      have ne21 : ¬ c = cc := by omega
      have ne22 : ¬ c = c + 1 := by omega
      have ne23 : ¬ c + 1 = 1 := by omega
      have ne24 : ¬ c + 1 = 2 := by omega
      have ne25 : ¬ c + 1 = id := by omega
      have ne26 : ¬ c + 1 = cc := by omega
      have ne27 : ¬ c + 1 = c := by omega
      repeat' ((first | with_reducible refine wr ?_ | ((with_reducible refine wb2 ?_ ?_) <;> (intro hb; try simp only [hb])) | ((with_reducible refine k_eval (b_appx hL (by omega) (by omega)) ?_)) | fail) <;> try simp only [go_sem, seval, hd4, hD2, hDs, hw, g0, g1, g2, g3, ne0, ne1, ne2, ne3, ne4, ne5, ne6, ne7, ne8, ne9, ne10, ne11, ne12, ne13, ne14, ne15, ne16, ne17, ne18, ne19, ne20, ne21, ne22, ne23, ne24, ne25, ne26, ne27])
      exact ⟨(k3 + 1, some (c + 1)), rfl, by simp only [est, e2, todoV, DV.cells]; (intro j b hj; simp only [DH, DB, optH, Hp.upd, Hp.del, Sym.nil] at hj ⊢; (repeat' split at hj) <;> (repeat' split) <;> first | exact hj | (exfalso; omega) | cases hj), inv ⟨by omega, hlt, by simp, fun i hi => by cases hi; omega⟩, by simp only; omega⟩
  have hd : decide ((k3 : Int) < (n3 : Int)) = false := by simpa using hlt
  obtain rfl : k3 = n3 := by omega
  repeat' ((first | with_reducible refine wr ?_ | ((with_reducible refine wb2 ?_ ?_) <;> (intro hb; try simp only [hb])) | fail) <;> try simp only [go_sem, seval, hd])
  refine AC.ghost (DH_fin (pre := [inssV I, strs S]) (suf := [.snil, .snil, I64 0, I64 0]) (xs := (rdMany rdEnt k3 s5).1.map Ent.v) (b := ⟨0, true, []⟩) (by simp [DV.one]) (fun e => by rw [hno e]; rfl) ho3 (by simp [M6]) (ent_unit _)) ?_
  clear hd hlt hk hno hso ho3
  obtain ⟨E, hE⟩ : ∃ E, E = (rdMany rdEnt k3 s5).1 := ⟨_, rfl⟩
  obtain ⟨s6, hs6⟩ : ∃ s, s = (rdMany rdEnt k3 s5).2 := ⟨_, rfl⟩
  rw [← hE, ← hs6]
  rw [← hs6] at M5
  refine AC.call (c_rnumsD s6 (by omega) (cs := [inssV I, strs S, entsV E, .snil, .snil, I64 0, I64 0]) (b := ⟨0, true, []⟩) no3 cc h3) ?_
  rintro v H' c2 ⟨rfl, rfl⟩ hc2
  have hc : ∀ st cs cs', (DH st cs none ⟨0, true, []⟩).upd 2 ⟨0, true, cs'⟩ = DH st cs' none ⟨0, true, []⟩ := fun st cs cs' => h_upd2
  have R1 := rdNums_len s6
  have hD2 := fun st => DH_2 (s := st) (cs := [inssV I, strs S, entsV E, .snil, .snil, I64 0, I64 0]) (b := ⟨0, true, []⟩) no3
  simp only [go_sem, seval, hD2]
  repeat' ((first | with_reducible refine wr ?_ | ((with_reducible refine wb2 ?_ ?_) <;> (intro hb; try simp only [hb])) | fail) <;> try simp only [go_sem, seval, hD2])
  rw [hc]
  obtain ⟨p7, hp7⟩ : ∃ p, p = (rdNums s6).1 := ⟨_, rfl⟩
  obtain ⟨s7, hs7⟩ : ∃ s, s = (rdNums s6).2 := ⟨_, rfl⟩
  rw [← hp7, ← hs7]
  rw [← hs7] at R1
  refine AC.call (c_rnumsD s7 (by omega) (cs := [inssV I, strs S, entsV E, ints p7, .snil, I64 0, I64 0]) (b := ⟨0, true, []⟩) no3 c2 (by omega)) ?_
  rintro v H' c3 ⟨rfl, rfl⟩ hc3
  have R2 := rdNums_len s7
  have hD2 := fun st => DH_2 (s := st) (cs := [inssV I, strs S, entsV E, ints p7, .snil, I64 0, I64 0]) (b := ⟨0, true, []⟩) no3
  simp only [go_sem, seval, hD2]
  repeat' ((first | with_reducible refine wr ?_ | ((with_reducible refine wb2 ?_ ?_) <;> (intro hb; try simp only [hb])) | fail) <;> try simp only [go_sem, seval, hD2])
  rw [hc]
  obtain ⟨p8, hp8⟩ : ∃ p, p = (rdNums s7).1 := ⟨_, rfl⟩
  obtain ⟨s8, hs8⟩ : ∃ s, s = (rdNums s7).2 := ⟨_, rfl⟩
  rw [← hp8, ← hs8]
  rw [← hs8] at R2
  refine AC.call (c_rnumD s8 (by omega) (cs := [inssV I, strs S, entsV E, ints p7, ints p8, I64 0, I64 0]) (b := ⟨0, true, []⟩) no3 c3 (by omega)) ?_
  rintro v H' c4 ⟨rfl, rfl⟩ hc4
  have R3 := rdNum_len s8
  have hD2 := fun st => DH_2 (s := st) (cs := [inssV I, strs S, entsV E, ints p7, ints p8, I64 0, I64 0]) (b := ⟨0, true, []⟩) no3
  simp only [go_sem, seval, hD2]
  repeat' ((first | with_reducible refine wr ?_ | ((with_reducible refine wb2 ?_ ?_) <;> (intro hb; try simp only [hb])) | fail) <;> try simp only [go_sem, seval, hD2])
  rw [hc]
  obtain ⟨p9, hp9⟩ : ∃ p, p = (rdNum s8).1 := ⟨_, rfl⟩
  obtain ⟨s9, hs9⟩ : ∃ s, s = (rdNum s8).2 := ⟨_, rfl⟩
  rw [← hp9, ← hs9]
  rw [← hs9] at R3
  refine AC.call (c_rnumD s9 (by omega) (cs := [inssV I, strs S, entsV E, ints p7, ints p8, I64 p9, I64 0]) (b := ⟨0, true, []⟩) no3 c4 (by omega)) ?_
  rintro v H' c5 ⟨rfl, rfl⟩ hc5
  have hD2 := fun st => DH_2 (s := st) (cs := [inssV I, strs S, entsV E, ints p7, ints p8, I64 p9, I64 0]) (b := ⟨0, true, []⟩) no3
  simp only [go_sem, seval, hD2]
  repeat' ((first | with_reducible refine wr ?_ | ((with_reducible refine wb2 ?_ ?_) <;> (intro hb; try simp only [hb])) | fail) <;> try simp only [go_sem, seval, hD2])
  rw [hc]
  have hS2 : ∀ x ∈ S, x.length ≤ 140737488355328 := fun x hx => by
    have := rdStr_all k2 s3 (by omega) x (hS ▸ hx)
    omega
  have hI2 : I.length ≤ 9223372036854775807 := by rw [hI, M2]; omega
  have eP : rdPrg (s, false) = (⟨I, S, E, p7, p8, p9, (rdNum s9).1⟩, (rdNum s9).2) := by
    subst hs9 hp9 hs8 hp8 hs7 hp7 hs6 hE hs5 hn3 hs4 hS hs3 hn2 hs2 hI hs1 hn1
    rfl
  obtain ⟨cP, hcP⟩ : ∃ c : Prg, c = ⟨I, S, E, p7, p8, p9, (rdNum s9).1⟩ := ⟨_, rfl⟩
  obtain ⟨sz, hsz⟩ : ∃ x : RS, x = (rdNum s9).2 := ⟨_, rfl⟩
  have hv : DV.agg [inssV I, strs S, entsV E, ints p7, ints p8, I64 p9, DV.int .i64 (rdNum s9).1] = cP.v := by rw [hcP]
  have hcs : [inssV I, strs S, entsV E, ints p7, ints p8, I64 p9, DV.int .i64 (rdNum s9).1] = cP.cs := by rw [hcP]
  rw [hv, hcs, ← hsz]
  rw [← hcP, ← hsz] at eP
  refine AC.call ((c_Encode cP (by rw [hcP]; exact hS2) (by rw [hcP]; exact hI2)).at _ _) ?_
  rintro _ _ _ ⟨rfl, rfl, rfl⟩ -
  have hD0 := DH_0 (s := sz) (cs := cP.cs) (b := ⟨0, true, []⟩) no3
  have hD1 := DH_1 (s := sz) (cs := cP.cs) (b := ⟨0, true, []⟩) no3
  have hD2 := DH_2 (s := sz) (cs := cP.cs) (b := ⟨0, true, []⟩) no3
  have eD : decP s = if sz.2 = true ∨ validM cP ≠ 0 ∨ encV cP ≠ s then Option.none else some cP := by rw [decP, eP]
  rw [eD]
  simp only [go_sem, seval]
  cases hb : sz.2
  · by_cases h0 : validM cP = 0
    · have h1 : (validM cP != 0) = false := by simp [h0]
      by_cases h2 : encV cP = s
      · have h3 : (!(encV cP == s)) = false := by simp [h2]
        rw [if_neg (by simp [h0, h2])]
        repeat' ((first | with_reducible refine wr ?_ | ((with_reducible refine wb2 ?_ ?_) <;> (intro hb; try simp only [hb])) | fail) <;> try simp only [go_sem, seval, hb, h1, h3, hD0, hD1, hD2])
        rw [k_rv (v := .tup [cP.v, I64 0]) rfl]
        exact pc_ret rfl
      · have h3 : (!(encV cP == s)) = true := by simp [h2]
        rw [if_pos (.inr (.inr h2))]
        repeat' ((first | with_reducible refine wr ?_ | ((with_reducible refine wb2 ?_ ?_) <;> (intro hb; try simp only [hb])) | fail) <;> try simp only [go_sem, seval, hb, h1, h3, hD0, hD1, hD2])
        rw [k_rv (v := .tup [.agg [.snil, .snil, .snil, .snil, .snil, I64 0, I64 0], I64 51]) rfl]
        exact g_none
    · have h1 : (validM cP != 0) = true := by simp [h0]
      rw [if_pos (.inr (.inl h0))]
      repeat' ((first | with_reducible refine wr ?_ | ((with_reducible refine wb2 ?_ ?_) <;> (intro hb; try simp only [hb])) | fail) <;> try simp only [go_sem, seval, hb, h1, hD0, hD1, hD2])
      rw [k_rv (v := .tup [.agg [.snil, .snil, .snil, .snil, .snil, I64 0, I64 0], I64 51]) rfl]
      exact g_none
  · rw [if_pos (.inl rfl)]
    repeat' ((first | with_reducible refine wr ?_ | ((with_reducible refine wb2 ?_ ?_) <;> (intro hb; try simp only [hb])) | fail) <;> try simp only [go_sem, seval, hb, hD0, hD1, hD2])
    rw [k_rv (v := .tup [.agg [.snil, .snil, .snil, .snil, .snil, I64 0, I64 0], I64 51]) rfl]
    exact g_none
end Go.Proofs.YtcallbfckjlagaaDoor
namespace Go.Sym
open Go.Eng (IC)
def Hold (p : Prop) : Prop := p
theorem hold {p : Prop} (h : Hold p) : p := h
end Go.Sym
set_option maxHeartbeats 4000000
set_option maxRecDepth 100000
set_option linter.unusedSimpArgs false
set_option linter.unusedVariables false
namespace Go.Proofs.YtcallbfckjlagaaDoor
open Go.Eng (IC IOper DReg IFn IsFn)
open Go.Sym Go.Pb
noncomputable section
def u17_9 : IC := .cond (.t 27) .skip (.exit 0)
def u17_8r : List IOper := [oP 19 (.mv (.t 6)), oP 20 (.bin .gtr (.t 19) (.k (.int .i64 0))), oP 21 (.mv (.t 20)), oG 22 (.mv (.t 4)) 21, oG 23 (.nck (.t 22)) 21, oG 24 (.fad 1 (.t 23)) 21, oG 25 (.ld 1 false (.t 24)) 21, oG 26 (.un .not (.t 25)) 21, oP 27 (.pick (.t 21) (.t 26) (.k (.bool false)))]
def u17_8 : IC := .seq (.reg u17_8r) u17_9
def u17_12r : DReg := ⟨[oP 32 (.fad 0 (.t 5)), oP 33 (.ld 1 false (.t 32)), oP 34 (.mv (.t 7)), oP 35 (.mv (.t 4)), ⟨some 36, .call 37 [.t 35], none⟩, oP 37 (.bld #[.int .i64 0, .int .i64 0] [(0, 1), (1, 1)] [(0, .t 34), (1, .t 36)]), ⟨some 38, .new (.bsl 2 1 #[.int .i64 0, .int .i64 0] [(0, .t 37)]), none⟩, ⟨some 39, .eff (.app 2 16 (.t 33) (.t 38)), none⟩, oP 40 (.fad 0 (.t 5)), ⟨none, .eff (.st 1 (.t 40) (.t 39)), none⟩], [[], [0], [], [], [3], [2, 4, 3], [5, 2, 4, 3], [1, 6, 4, 0, 5, 2, 3], [0, 1, 2, 3, 4, 5, 6, 7], [8, 7, 0, 1, 2, 3, 4, 5, 6]], [(0, none), (1, none), (2, none), (3, none), (4, some [0, 1, 2]), (5, none), (6, none), (7, some []), (8, none), (9, some [])]⟩
def u17_12 : IC := .drw 10 u17_12r
def u17_11r : List IOper := [oP 30 (.mv (.t 4)), ⟨some 31, .call 37 [.t 30], none⟩, oP 7 (.mv (.t 31))]
def u17_11 : IC := .seq (.reg u17_11r) u17_12
def u17_13r : List IOper := [oP 28 (.mv (.t 6)), oP 29 (.bin .sub (.t 28) (.k (.int .i64 1))), oP 6 (.mv (.t 29))]
def u17_13 : IC := .reg u17_13r
def u17_10 : IC := .seq (.blk 1 u17_11) u17_13
def u17_7 : IC := .seq u17_8 u17_10
def u17_6 : IC := .blk 0 (.loop u17_7)
def u17_5r : List IOper := [oP 17 (.mv (.t 4)), ⟨some 18, .call 36 [.t 17, .k (.int .i64 4000)], none⟩, oP 6 (.mv (.t 18))]
def u17_5 : IC := .seq (.reg u17_5r) u17_6
def u17_19 : IC := .cond (.t 51) .skip (.exit 2)
def u17_18r : List IOper := [oP 43 (.mv (.t 8)), oP 44 (.bin .gtr (.t 43) (.k (.int .i64 0))), oP 45 (.mv (.t 44)), oG 46 (.mv (.t 4)) 45, oG 47 (.nck (.t 46)) 45, oG 48 (.fad 1 (.t 47)) 45, oG 49 (.ld 1 false (.t 48)) 45, oG 50 (.un .not (.t 49)) 45, oP 51 (.pick (.t 45) (.t 50) (.k (.bool false)))]
def u17_18 : IC := .seq (.reg u17_18r) u17_19
def u17_25r : List IOper := [oP 63 (.mv (.t 4)), oP 64 (.nck (.t 63)), oP 65 (.fad 1 (.t 64)), ⟨none, .eff (.st 1 (.t 65) (.k (.bool true))), none⟩]
def u17_25 : IC := .seq (.reg u17_25r) (.exit 2)
def u17_24 : IC := .cond (.t 62) u17_25 .skip
def u17_23r : List IOper := [oP 56 (.mv (.t 9)), oP 57 (.mv (.t 4)), oP 58 (.nck (.t 57)), oP 59 (.fad 0 (.t 58)), oP 60 (.ld 1 false (.t 59)), oP 61 (.lens (.t 60)), oP 62 (.bin .gtr (.t 56) (.t 61))]
def u17_23 : IC := .seq (.reg u17_23r) u17_24
def u17_27r : List IOper := [oP 77 (.mv (.t 4)), oP 78 (.mv (.t 4)), oP 79 (.nck (.t 78)), oP 80 (.fad 0 (.t 79)), oP 81 (.ld 1 false (.t 80)), oP 82 (.mv (.t 9)), oP 83 (.sls (.t 81) (some (.t 82)) none), oP 84 (.nck (.t 77)), oP 85 (.fad 0 (.t 84)), ⟨none, .eff (.st 1 (.t 85) (.t 83)), none⟩]
def u17_27 : IC := .reg u17_27r
def u17_26r : DReg := ⟨[oP 66 (.fad 1 (.t 5)), oP 67 (.ld 1 false (.t 66)), oP 68 (.mv (.t 4)), oP 69 (.nck (.t 68)), oP 70 (.fad 0 (.t 69)), oP 71 (.ld 1 false (.t 70)), oP 72 (.mv (.t 9)), oP 73 (.sls (.t 71) none (some (.t 72))), ⟨some 74, .new (.bsl 1 1 #[.string ⟨#[]⟩] [(0, .t 73)]), none⟩, ⟨some 75, .eff (.app 1 16 (.t 67) (.t 74)), none⟩, oP 76 (.fad 1 (.t 5)), ⟨none, .eff (.st 1 (.t 76) (.t 75)), none⟩], [[], [0], [], [2], [3, 2], [4, 3, 2], [], [5, 6, 4, 3, 2], [7, 5, 6, 4, 3, 2], [1, 8, 0, 7, 5, 6, 4, 3, 2], [0, 1, 2, 3, 4, 5, 6, 7, 8, 9], [10, 9, 0, 1, 2, 3, 4, 5, 6, 7, 8]], [(0, none), (1, none), (2, none), (3, none), (4, none), (5, none), (6, none), (7, none), (8, none), (9, some []), (10, none), (11, some [])]⟩
def u17_26 : IC := .seq (.drw 12 u17_26r) u17_27
def u17_22 : IC := .seq u17_23 u17_26
def u17_21r : List IOper := [oP 54 (.mv (.t 4)), ⟨some 55, .call 36 [.t 54, .k (.int .i64 32)], none⟩, oP 9 (.mv (.t 55))]
def u17_21 : IC := .seq (.reg u17_21r) u17_22
def u17_28r : List IOper := [oP 52 (.mv (.t 8)), oP 53 (.bin .sub (.t 52) (.k (.int .i64 1))), oP 8 (.mv (.t 53))]
def u17_28 : IC := .reg u17_28r
def u17_20 : IC := .seq (.blk 3 u17_21) u17_28
def u17_17 : IC := .seq u17_18 u17_20
def u17_16 : IC := .blk 2 (.loop u17_17)
def u17_15r : List IOper := [oP 41 (.mv (.t 4)), ⟨some 42, .call 36 [.t 41, .k (.int .i64 200)], none⟩, oP 8 (.mv (.t 42))]
def u17_15 : IC := .seq (.reg u17_15r) u17_16
def u17_34 : IC := .cond (.t 96) .skip (.exit 4)
def u17_33r : List IOper := [oP 88 (.mv (.t 10)), oP 89 (.bin .gtr (.t 88) (.k (.int .i64 0))), oP 90 (.mv (.t 89)), oG 91 (.mv (.t 4)) 90, oG 92 (.nck (.t 91)) 90, oG 93 (.fad 1 (.t 92)) 90, oG 94 (.ld 1 false (.t 93)) 90, oG 95 (.un .not (.t 94)) 90, oP 96 (.pick (.t 90) (.t 95) (.k (.bool false)))]
def u17_33 : IC := .seq (.reg u17_33r) u17_34
def u17_39r : DReg := ⟨[oP 105 (.fad 2 (.t 5)), oP 106 (.ld 1 false (.t 105)), oP 107 (.mv (.t 11)), oP 108 (.mv (.t 12)), oP 109 (.mv (.t 13)), oP 110 (.mv (.t 4)), ⟨some 111, .call 37 [.t 110], none⟩, oP 112 (.bld #[.int .i64 0, .int .i64 0, .int .i64 0, .int .i64 0] [(0, 1), (1, 1), (2, 1), (3, 1)] [(0, .t 107), (1, .t 108), (2, .t 109), (3, .t 111)]), ⟨some 113, .new (.bsl 4 1 #[.int .i64 0, .int .i64 0, .int .i64 0, .int .i64 0] [(0, .t 112)]), none⟩, ⟨some 114, .eff (.app 4 32 (.t 106) (.t 113)), none⟩, oP 115 (.fad 2 (.t 5)), ⟨none, .eff (.st 1 (.t 115) (.t 114)), none⟩], [[], [0], [], [], [], [], [5], [2, 3, 4, 6, 5], [7, 2, 3, 4, 6, 5], [1, 8, 6, 0, 7, 2, 3, 4, 5], [0, 1, 2, 3, 4, 5, 6, 7, 8, 9], [10, 9, 0, 1, 2, 3, 4, 5, 6, 7, 8]], [(0, none), (1, none), (2, none), (3, none), (4, none), (5, none), (6, some [0, 1, 2, 3, 4]), (7, none), (8, none), (9, some []), (10, none), (11, some [])]⟩
def u17_39 : IC := .drw 12 u17_39r
def u17_38r : List IOper := [oP 103 (.mv (.t 4)), ⟨some 104, .call 37 [.t 103], none⟩, oP 13 (.mv (.t 104))]
def u17_38 : IC := .seq (.reg u17_38r) u17_39
def u17_37r : List IOper := [oP 101 (.mv (.t 4)), ⟨some 102, .call 37 [.t 101], none⟩, oP 12 (.mv (.t 102))]
def u17_37 : IC := .seq (.reg u17_37r) u17_38
def u17_36r : List IOper := [oP 99 (.mv (.t 4)), ⟨some 100, .call 37 [.t 99], none⟩, oP 11 (.mv (.t 100))]
def u17_36 : IC := .seq (.reg u17_36r) u17_37
def u17_40r : List IOper := [oP 97 (.mv (.t 10)), oP 98 (.bin .sub (.t 97) (.k (.int .i64 1))), oP 10 (.mv (.t 98))]
def u17_40 : IC := .reg u17_40r
def u17_35 : IC := .seq (.blk 5 u17_36) u17_40
def u17_32 : IC := .seq u17_33 u17_35
def u17_31 : IC := .blk 4 (.loop u17_32)
def u17_30r : List IOper := [oP 86 (.mv (.t 4)), ⟨some 87, .call 36 [.t 86, .k (.int .i64 512)], none⟩, oP 10 (.mv (.t 87))]
def u17_30 : IC := .seq (.reg u17_30r) u17_31
def u17_48r : List IOper := [oP 144 (.bld #[.slice none 0 0, .slice none 0 0, .slice none 0 0, .slice none 0 0, .slice none 0 0, .int .i64 0, .int .i64 0] [(0, 1), (1, 1), (2, 1), (3, 1), (4, 1), (5, 1), (6, 1)] []), ⟨none, .eff (.st 7 (.t 2) (.t 144)), none⟩, oP 3 (.mv (.k (.int .i64 51)))]
def u17_48 : IC := .seq (.reg u17_48r) .ret
def u17_47 : IC := .cond (.t 143) u17_48 .skip
def u17_46r : List IOper := [oP 128 (.mv (.t 4)), oP 129 (.nck (.t 128)), oP 130 (.fad 1 (.t 129)), oP 131 (.ld 1 false (.t 130)), oP 132 (.mv (.t 131)), ⟨some 133, .pur (.mv (.t 4)), some (132, false)⟩, ⟨some 134, .pur (.nck (.t 133)), some (132, false)⟩, ⟨some 135, .pur (.fad 0 (.t 134)), some (132, false)⟩, ⟨some 136, .pur (.ld 1 false (.t 135)), some (132, false)⟩, ⟨some 137, .pur (.bin .neq (.t 136) (.k (.string ⟨#[]⟩))), some (132, false)⟩, oP 138 (.pick (.t 132) (.k (.bool true)) (.t 137)), oP 139 (.mv (.t 138)), ⟨some 140, .pur (.ld 7 true (.t 5)), some (139, false)⟩, ⟨some 141, .call 23 [.t 140], some (139, false)⟩, ⟨some 142, .pur (.bin .neq (.t 141) (.k (.int .i64 0))), some (139, false)⟩, oP 143 (.pick (.t 139) (.k (.bool true)) (.t 142))]
def u17_46 : IC := .seq (.reg u17_46r) u17_47
def u17_49r : List IOper := [oP 145 (.ld 7 true (.t 5)), ⟨none, .eff (.st 7 (.t 2) (.t 145)), none⟩, oP 3 (.mv (.k (.int .i64 0)))]
def u17_49 : IC := .seq (.reg u17_49r) .ret
def u17_45 : IC := .seq u17_46 u17_49
def u17_44r : List IOper := [oP 125 (.mv (.t 4)), ⟨some 126, .call 37 [.t 125], none⟩, oP 127 (.fad 6 (.t 5)), ⟨none, .eff (.st 1 (.t 127) (.t 126)), none⟩]
def u17_44 : IC := .seq (.reg u17_44r) u17_45
def u17_43r : List IOper := [oP 122 (.mv (.t 4)), ⟨some 123, .call 37 [.t 122], none⟩, oP 124 (.fad 5 (.t 5)), ⟨none, .eff (.st 1 (.t 124) (.t 123)), none⟩]
def u17_43 : IC := .seq (.reg u17_43r) u17_44
def u17_42r : List IOper := [oP 119 (.mv (.t 4)), ⟨some 120, .call 38 [.t 119, .k (.int .i64 128)], none⟩, oP 121 (.fad 4 (.t 5)), ⟨none, .eff (.st 1 (.t 121) (.t 120)), none⟩]
def u17_42 : IC := .seq (.reg u17_42r) u17_43
def u17_41r : List IOper := [oP 116 (.mv (.t 4)), ⟨some 117, .call 38 [.t 116, .k (.int .i64 16)], none⟩, oP 118 (.fad 3 (.t 5)), ⟨none, .eff (.st 1 (.t 118) (.t 117)), none⟩]
def u17_41 : IC := .seq (.reg u17_41r) u17_42
def u17_29 : IC := .seq u17_30 u17_41
def u17_14 : IC := .seq u17_15 u17_29
def u17_4 : IC := .seq u17_5 u17_14
def u17_3r : List IOper := [⟨some 5, .new (.box (.k (.agg #[.slice none 0 0, .slice none 0 0, .slice none 0 0, .slice none 0 0, .slice none 0 0, .int .i64 0, .int .i64 0]))), none⟩]
def u17_3 : IC := .seq (.reg u17_3r) u17_4
def u17_2r : List IOper := [oP 14 (.mv (.t 0)), oP 15 (.bld #[.string ⟨#[]⟩, .bool false] [(0, 1), (1, 1)] [(0, .t 14)]), ⟨some 16, .new (.box (.t 15)), none⟩, oP 4 (.mv (.t 16))]
def u17_2 : IC := .seq (.reg u17_2r) u17_3
def u17_1r : List IOper := [⟨some 2, .new (.box (.k (.agg #[.slice none 0 0, .slice none 0 0, .slice none 0 0, .slice none 0 0, .slice none 0 0, .int .i64 0, .int .i64 0]))), none⟩, oP 3 (.mv (.k (.int .i64 0)))]
def u17_1 : IC := .seq (.reg u17_1r) u17_2
def u17 : IFn := ⟨146, u17_1, [.cell 2 7 true, .tmp 3]⟩
end
theorem isU17 : IsFn Tryd.prog 17 u17 := by unfold IsFn; kernel_rfl
instance i17_9 : WR Tryd.prog 146 u17_9 (rCE (.t 27) .skip (.exit 0) [2, 4, 5, 6, 27]) := ⟨mkCE⟩
instance i17_8 : WR Tryd.prog 146 u17_8 (rS u17_8r u17_9 [2, 4, 5, 6]) := ⟨mkS⟩
instance i17_12 : WR Tryd.prog 146 u17_12 (rDE 10 u17_12r [2, 4, 5, 6, 7]) := ⟨mkDE⟩
instance i17_11 : WR Tryd.prog 146 u17_11 (rS u17_11r u17_12 [2, 4, 5, 6]) := ⟨mkS⟩
instance i17_13 : WR Tryd.prog 146 u17_13 (rE u17_13r [2, 4, 5, 6]) := ⟨mkE⟩
instance i17_10 : WR Tryd.prog 146 u17_10 (rB 1 u17_11 u17_13 [2, 4, 5, 6]) := ⟨mkB⟩
instance i17_7 : WR Tryd.prog 146 u17_7 (rQ u17_8 u17_10 [2, 4, 5, 6]) := ⟨mkQ⟩
instance i17_6 : WR Tryd.prog 146 u17_6 (rBE 0 (.loop u17_7) [2, 4, 5, 6]) := ⟨mkBE⟩
instance i17_5 : WR Tryd.prog 146 u17_5 (rS u17_5r u17_6 [2, 4, 5]) := ⟨mkS⟩
instance i17_19 : WR Tryd.prog 146 u17_19 (rCE (.t 51) .skip (.exit 2) [2, 4, 5, 8, 51]) := ⟨mkCE⟩
instance i17_18 : WR Tryd.prog 146 u17_18 (rS u17_18r u17_19 [2, 4, 5, 8]) := ⟨mkS⟩
instance i17_25 : WR Tryd.prog 146 u17_25 (rS u17_25r (.exit 2) [2, 4, 5]) := ⟨mkS⟩
instance i17_24 : WR Tryd.prog 146 u17_24 (rCE (.t 62) u17_25 .skip [2, 4, 5, 8, 9, 62]) := ⟨mkCE⟩
instance i17_23 : WR Tryd.prog 146 u17_23 (rS u17_23r u17_24 [2, 4, 5, 8, 9]) := ⟨mkS⟩
instance i17_27 : WR Tryd.prog 146 u17_27 (rE u17_27r [2, 4, 5, 8, 9]) := ⟨mkE⟩
instance i17_26 : WR Tryd.prog 146 u17_26 (rD 12 u17_26r u17_27 [2, 4, 5, 8, 9]) := ⟨mkD⟩
instance i17_22 : WR Tryd.prog 146 u17_22 (rQ u17_23 u17_26 [2, 4, 5, 8, 9]) := ⟨mkQ⟩
instance i17_21 : WR Tryd.prog 146 u17_21 (rS u17_21r u17_22 [2, 4, 5, 8]) := ⟨mkS⟩
instance i17_28 : WR Tryd.prog 146 u17_28 (rE u17_28r [2, 4, 5, 8]) := ⟨mkE⟩
instance i17_20 : WR Tryd.prog 146 u17_20 (rB 3 u17_21 u17_28 [2, 4, 5, 8]) := ⟨mkB⟩
instance i17_17 : WR Tryd.prog 146 u17_17 (rQ u17_18 u17_20 [2, 4, 5, 8]) := ⟨mkQ⟩
instance i17_16 : WR Tryd.prog 146 u17_16 (rBE 2 (.loop u17_17) [2, 4, 5, 8]) := ⟨mkBE⟩
instance i17_15 : WR Tryd.prog 146 u17_15 (rS u17_15r u17_16 [2, 4, 5]) := ⟨mkS⟩
instance i17_34 : WR Tryd.prog 146 u17_34 (rCE (.t 96) .skip (.exit 4) [2, 4, 5, 10, 96]) := ⟨mkCE⟩
instance i17_33 : WR Tryd.prog 146 u17_33 (rS u17_33r u17_34 [2, 4, 5, 10]) := ⟨mkS⟩
instance i17_39 : WR Tryd.prog 146 u17_39 (rDE 12 u17_39r [2, 4, 5, 10, 11, 12, 13]) := ⟨mkDE⟩
instance i17_38 : WR Tryd.prog 146 u17_38 (rS u17_38r u17_39 [2, 4, 5, 10, 11, 12]) := ⟨mkS⟩
instance i17_37 : WR Tryd.prog 146 u17_37 (rS u17_37r u17_38 [2, 4, 5, 10, 11]) := ⟨mkS⟩
instance i17_36 : WR Tryd.prog 146 u17_36 (rS u17_36r u17_37 [2, 4, 5, 10]) := ⟨mkS⟩
instance i17_40 : WR Tryd.prog 146 u17_40 (rE u17_40r [2, 4, 5, 10]) := ⟨mkE⟩
instance i17_35 : WR Tryd.prog 146 u17_35 (rB 5 u17_36 u17_40 [2, 4, 5, 10]) := ⟨mkB⟩
instance i17_32 : WR Tryd.prog 146 u17_32 (rQ u17_33 u17_35 [2, 4, 5, 10]) := ⟨mkQ⟩
instance i17_31 : WR Tryd.prog 146 u17_31 (rBE 4 (.loop u17_32) [2, 4, 5, 10]) := ⟨mkBE⟩
instance i17_30 : WR Tryd.prog 146 u17_30 (rS u17_30r u17_31 [2, 4, 5]) := ⟨mkS⟩
instance i17_48 : WR Tryd.prog 146 u17_48 (rS u17_48r .ret [2]) := ⟨mkS⟩
instance i17_47 : WR Tryd.prog 146 u17_47 (rCE (.t 143) u17_48 .skip [2, 5, 143]) := ⟨mkCE⟩
instance i17_46 : WR Tryd.prog 146 u17_46 (rS u17_46r u17_47 [2, 4, 5]) := ⟨mkS⟩
instance i17_49 : WR Tryd.prog 146 u17_49 (rS u17_49r .ret [2, 5]) := ⟨mkS⟩
instance i17_45 : WR Tryd.prog 146 u17_45 (rQ u17_46 u17_49 [2, 4, 5]) := ⟨mkQ⟩
instance i17_44 : WR Tryd.prog 146 u17_44 (rS u17_44r u17_45 [2, 4, 5]) := ⟨mkS⟩
instance i17_43 : WR Tryd.prog 146 u17_43 (rS u17_43r u17_44 [2, 4, 5]) := ⟨mkS⟩
instance i17_42 : WR Tryd.prog 146 u17_42 (rS u17_42r u17_43 [2, 4, 5]) := ⟨mkS⟩
instance i17_41 : WR Tryd.prog 146 u17_41 (rS u17_41r u17_42 [2, 4, 5]) := ⟨mkS⟩
instance i17_29 : WR Tryd.prog 146 u17_29 (rQ u17_30 u17_41 [2, 4, 5]) := ⟨mkQ⟩
instance i17_14 : WR Tryd.prog 146 u17_14 (rQ u17_15 u17_29 [2, 4, 5]) := ⟨mkQ⟩
instance i17_4 : WR Tryd.prog 146 u17_4 (rQ u17_5 u17_14 [2, 4, 5]) := ⟨mkQ⟩
instance i17_3 : WR Tryd.prog 146 u17_3 (rS u17_3r u17_4 [2, 4]) := ⟨mkS⟩
instance i17_2 : WR Tryd.prog 146 u17_2 (rS u17_2r u17_3 [0, 2]) := ⟨mkS⟩
instance i17_1 : WR Tryd.prog 146 u17_1 (rS u17_1r u17_2 [0]) := ⟨mkS⟩
attribute [go_sem] u17_8r u17_12r u17_11r u17_13r u17_5r u17_18r u17_25r u17_23r u17_27r u17_26r u17_21r u17_28r u17_15r u17_33r u17_39r u17_38r u17_37r u17_36r u17_40r u17_30r u17_48r u17_46r u17_49r u17_44r u17_43r u17_42r u17_41r u17_3r u17_2r u17_1r
theorem c_rrnumD (s : RS) {cs : List DV} {o : Option Nat} {b : Blk} (h : ∀ i, o = some i → 3 ≤ i) (cc : Nat) (hc : 3 ≤ cc) : AC Tryd.prog 37 [.ptr 1 0] (DH s cs o b) cc (fun v H' c' => v = I64 (rrNum s).1 ∧ H' = DH (rrNum s).2 cs o b) :=
  (c_rrnum s _ cc 1 (DH_1 h) (by omega)).mono fun v H' c' q => ⟨q.1, by rw [q.2, DH_r h]⟩
theorem c_rrcntD (s : RS) (m : Int) {cs : List DV} {o : Option Nat} {b : Blk} (h : ∀ i, o = some i → 3 ≤ i) (cc : Nat) (hc : 3 ≤ cc) : AC Tryd.prog 36 [.ptr 1 0, I64 m] (DH s cs o b) cc (fun v H' c' => v = I64 ((rrCnt m s).1 : Int) ∧ H' = DH (rrCnt m s).2 cs o b) :=
  (c_rrcnt s m _ cc 1 (DH_1 h) (by omega)).mono fun v H' c' q => ⟨q.1, by rw [q.2, DH_r h]⟩
theorem c_rrnumsD (s : RS) (m : Int) (hm : m ≤ 1000) {cs : List DV} {o : Option Nat} {b : Blk} (h : ∀ i, o = some i → 3 ≤ i) (cc : Nat) (hc : 3 ≤ cc) : AC Tryd.prog 38 [.ptr 1 0, I64 m] (DH s cs o b) cc (fun v H' c' => v = ints (rrNums m s).1 ∧ H' = DH (rrNums m s).2 cs o b) :=
  (c_rrnums s m hm _ cc 1 (DH_1 h) (by omega)).mono fun v H' c' q => ⟨q.1, by rw [q.2, DH_r h]⟩
def rrFin (I : List Ins) (S : List (List UInt8)) (E : List Ent) (u : RS) : Prg × RS :=
  let d := rrNums 16 u
  let e := rrNums 128 d.2
  let f := rrNum e.2
  let g := rrNum f.2
  (⟨I, S, E, d.1, e.1, f.1, g.1⟩, g.2)
def refO (q : Prg × RS) : Option Prg := if q.2.2 = true ∨ q.2.1 ≠ [] ∨ validM q.1 ≠ 0 then Option.none else some q.1
theorem dt4 (I : List Ins) (S : List (List UInt8)) (E : List Ent) (u : RS) (cc : Nat) (h3 : 3 ≤ cc) (hS2 : ∀ x ∈ S, x.length ≤ 140737488355328) (hI2 : I.length ≤ 9223372036854775807) (r : Option Prg) (hr : r = refO (rrFin I S E u)) :
    IW Tryd.prog 146 u17_41 ⟨tm [(2, .ptr 0 0), (4, .ptr 1 0), (5, .ptr 2 0)], DH u [inssV I, strs S, entsV E, .snil, .snil, I64 0, I64 0] none ⟨0, true, []⟩, cc⟩ (rt [.cell 2 7 true, .tmp 3] fun v H' x => ∃ H2, GL H' [v] H2 [decV r]) := by
  repeat' ((first | with_reducible refine wr ?_ | ((with_reducible refine wb2 ?_ ?_) <;> (intro hb; try simp only [hb])) | fail) <;> try simp only [go_sem, seval])
  refine AC.call (c_rrnumsD u 16 (by omega) no3 cc h3) ?_
  rintro v H' c2 ⟨rfl, rfl⟩ hc2
  have hc : ∀ st cs cs', (DH st cs none ⟨0, true, []⟩).upd 2 ⟨0, true, cs'⟩ = DH st cs' none ⟨0, true, []⟩ := fun st cs cs' => h_upd2
  have hD2 := fun st => DH_2 (s := st) (cs := [inssV I, strs S, entsV E, .snil, .snil, I64 0, I64 0]) (b := ⟨0, true, []⟩) no3
  simp only [go_sem, seval, hD2]
  repeat' ((first | with_reducible refine wr ?_ | ((with_reducible refine wb2 ?_ ?_) <;> (intro hb; try simp only [hb])) | fail) <;> try simp only [go_sem, seval, hD2])
  rw [hc]
  obtain ⟨p7, hp7⟩ : ∃ p, p = (rrNums 16 u).1 := ⟨_, rfl⟩
  obtain ⟨s7, hs7⟩ : ∃ s, s = (rrNums 16 u).2 := ⟨_, rfl⟩
  rw [← hp7, ← hs7]
  refine AC.call (c_rrnumsD s7 128 (by omega) no3 c2 (by omega)) ?_
  rintro v H' c3 ⟨rfl, rfl⟩ hc3
  have hD2 := fun st => DH_2 (s := st) (cs := [inssV I, strs S, entsV E, ints p7, .snil, I64 0, I64 0]) (b := ⟨0, true, []⟩) no3
  simp only [go_sem, seval, hD2]
  repeat' ((first | with_reducible refine wr ?_ | ((with_reducible refine wb2 ?_ ?_) <;> (intro hb; try simp only [hb])) | fail) <;> try simp only [go_sem, seval, hD2])
  rw [hc]
  obtain ⟨p8, hp8⟩ : ∃ p, p = (rrNums 128 s7).1 := ⟨_, rfl⟩
  obtain ⟨s8, hs8⟩ : ∃ s, s = (rrNums 128 s7).2 := ⟨_, rfl⟩
  rw [← hp8, ← hs8]
  refine AC.call (c_rrnumD s8 no3 c3 (by omega)) ?_
  rintro v H' c4 ⟨rfl, rfl⟩ hc4
  have hD2 := fun st => DH_2 (s := st) (cs := [inssV I, strs S, entsV E, ints p7, ints p8, I64 0, I64 0]) (b := ⟨0, true, []⟩) no3
  simp only [go_sem, seval, hD2]
  repeat' ((first | with_reducible refine wr ?_ | ((with_reducible refine wb2 ?_ ?_) <;> (intro hb; try simp only [hb])) | fail) <;> try simp only [go_sem, seval, hD2])
  rw [hc]
  obtain ⟨p9, hp9⟩ : ∃ p, p = (rrNum s8).1 := ⟨_, rfl⟩
  obtain ⟨s9, hs9⟩ : ∃ s, s = (rrNum s8).2 := ⟨_, rfl⟩
  rw [← hp9, ← hs9]
  refine AC.call (c_rrnumD s9 no3 c4 (by omega)) ?_
  rintro v H' c5 ⟨rfl, rfl⟩ hc5
  have hD2 := fun st => DH_2 (s := st) (cs := [inssV I, strs S, entsV E, ints p7, ints p8, I64 p9, I64 0]) (b := ⟨0, true, []⟩) no3
  simp only [go_sem, seval, hD2]
  obtain ⟨cP, hcP⟩ : ∃ c : Prg, c = ⟨I, S, E, p7, p8, p9, (rrNum s9).1⟩ := ⟨_, rfl⟩
  obtain ⟨sz, hsz⟩ : ∃ x : RS, x = (rrNum s9).2 := ⟨_, rfl⟩
  have hcs : [inssV I, strs S, entsV E, ints p7, ints p8, I64 p9, DV.int .i64 (rrNum s9).1] = cP.cs := by rw [hcP]
  have eP : rrFin I S E u = (cP, sz) := by
    subst hsz hcP hs9 hp9 hs8 hp8 hs7 hp7
    rfl
  rw [eP] at hr
  subst hr
  have hVL : PC Tryd.prog 23 [cP.v] (I64 (validM cP)) := c_validR cP (by rw [hcP]; exact hS2) (by rw [hcP]; exact hI2)
  rw [← hsz]
  have hD0 := DH_0 (s := sz) (cs := cP.cs) (b := ⟨0, true, []⟩) no3
  have hD1 := DH_1 (s := sz) (cs := cP.cs) (b := ⟨0, true, []⟩) no3
  have hD3 := DH_2 (s := sz) (cs := cP.cs) (b := ⟨0, true, []⟩) no3
  have eD : refO (cP, sz) = if sz.2 = true ∨ sz.1 ≠ [] ∨ validM cP ≠ 0 then Option.none else some cP := rfl
  rw [eD]
  obtain ⟨sl, bd⟩ := sz
  simp only at hD0 hD1 hD3 ⊢
  cases bd
  · by_cases h2 : sl = []
    · have h3 : (!(sl == [])) = false := by simp [h2]
      by_cases h0 : validM cP = 0
      · have h1 : (validM cP != 0) = false := by simp [h0]
        rw [if_neg (by simp [h0, h2])]
        repeat' ((first | with_reducible refine wr ?_ | ((with_reducible refine wb2 ?_ ?_) <;> (intro hb; try simp only [hb])) | ((with_reducible refine AC.call ((hVL).at _ _) ?_); rintro _ _ _ ⟨rfl, rfl, rfl⟩ -) | fail) <;> try simp only [go_sem, seval, hD2, hc, hcs, h1, h3, hD0, hD1, hD3])
        rw [k_rv (v := .tup [cP.v, I64 0]) rfl]
        exact pc_ret rfl
      · have h1 : (validM cP != 0) = true := by simp [h0]
        rw [if_pos (.inr (.inr h0))]
        repeat' ((first | with_reducible refine wr ?_ | ((with_reducible refine wb2 ?_ ?_) <;> (intro hb; try simp only [hb])) | ((with_reducible refine AC.call ((hVL).at _ _) ?_); rintro _ _ _ ⟨rfl, rfl, rfl⟩ -) | fail) <;> try simp only [go_sem, seval, hD2, hc, hcs, h1, h3, hD0, hD1, hD3])
        exact g_none
    · have h3 : (!(sl == [])) = true := by simp [h2]
      rw [if_pos (.inr (.inl h2))]
      repeat' ((first | with_reducible refine wr ?_ | ((with_reducible refine wb2 ?_ ?_) <;> (intro hb; try simp only [hb])) | ((with_reducible refine AC.call ((hVL).at _ _) ?_); rintro _ _ _ ⟨rfl, rfl, rfl⟩ -) | fail) <;> try simp only [go_sem, seval, hD2, hc, hcs, h3, hD0, hD1, hD3])
      exact g_none
  · rw [if_pos (.inl rfl)]
    repeat' ((first | with_reducible refine wr ?_ | ((with_reducible refine wb2 ?_ ?_) <;> (intro hb; try simp only [hb])) | fail) <;> try simp only [go_sem, seval, hD2, hc, hcs, hD0, hD1, hD3])
    exact g_none
theorem rrMany_step {α : Type} {f : RS → α × RS} {m : Nat} {u : RS} {l : List α} {r : List α × RS} (hb : u.2 = false) (h : (l ++ (rrMany f (m + 1) u).1, (rrMany f (m + 1) u).2) = r) : ((l ++ [(f u).1]) ++ (rrMany f m (f u).2).1, (rrMany f m (f u).2).2) = r := by
  rw [← h]; simp [rrMany, hb]
theorem rrMany_end {α : Type} {f : RS → α × RS} {m : Nat} {u : RS} {l : List α} {r : List α × RS} (he : m = 0 ∨ u.2 = true) (h : (l ++ (rrMany f m u).1, (rrMany f m u).2) = r) : r = (l, u) := by
  rw [← h]
  cases m with
  | zero => simp [rrMany]
  | succ m =>
    have hb : u.2 = true := by rcases he with h | h; exact absurd h (by omega); exact h
    simp [rrMany, hb]
theorem DH_sub {s : RS} {cs : List DV} {i : Nat} {b : Blk} {X : Hp} (x0 : X 0 = some ⟨0, true, [.snil, .snil, .snil, .snil, .snil, I64 0, I64 0]⟩) (x1 : X 1 = some (rdB s)) (x2 : X 2 = some ⟨0, true, cs⟩) (xi : X i = some b) (h3 : 3 ≤ i) : Sub (DH s cs (some i) b) X := by
  intro j bj hj
  by_cases e : j = i
  · subst e; rw [DH_s] at hj; rw [← hj]; exact xi
  · simp only [DH, optH] at hj
    rw [h_ne e] at hj
    by_cases e2 : j = 2
    · subst e2; rw [h_same] at hj; rw [← hj]; exact x2
    · rw [h_ne e2] at hj
      match j, hj with
      | 0, hj => rw [DB_0] at hj; rw [← hj]; exact x0
      | 1, hj => rw [DB_1] at hj; rw [← hj]; exact x1
      | j + 2, hj => rw [DB_n s (by omega)] at hj; cases hj
theorem dt3 (I : List Ins) (S : List (List UInt8)) (u0 : RS) (cc : Nat) (h3 : 3 ≤ cc) (hS2 : ∀ x ∈ S, x.length ≤ 140737488355328) (hI2 : I.length ≤ 9223372036854775807) (r : Option Prg)
    (hr : r = refO (rrFin I S (rrMany rrEnt (rrCnt 512 u0).1 (rrCnt 512 u0).2).1 (rrMany rrEnt (rrCnt 512 u0).1 (rrCnt 512 u0).2).2)) :
    IW Tryd.prog 146 u17_29 ⟨tm [(2, .ptr 0 0), (4, .ptr 1 0), (5, .ptr 2 0)], DH u0 [inssV I, strs S, .snil, .snil, .snil, I64 0, I64 0] none ⟨0, true, []⟩, cc⟩ (rt [.cell 2 7 true, .tmp 3] fun v H' x => ∃ H2, GL H' [v] H2 [decV r]) := by
  have key : ∀ (o : Option Nat) (l : List Ent) (u : RS) (c : Nat) (T : Tm), 3 ≤ c → (∀ i, o = some i → 3 ≤ i) → (o = none → l = []) → tmLe [(2, .ptr 0 0), (4, .ptr 1 0), (5, .ptr 2 0)] T → rrMany rrEnt (rrCnt 512 u0).1 (rrCnt 512 u0).2 = (l, u) →
      IW Tryd.prog 146 u17_41 ⟨T, DH u [inssV I, strs S, todoV o l.length, .snil, .snil, I64 0, I64 0] o ⟨4, true, cellsL (l.map Ent.v)⟩, c⟩ (rt [.cell 2 7 true, .tmp 3] fun v H' x => ∃ H2, GL H' [v] H2 [decV r]) := by
    intro o l u c T hc ho hn hT he
    rw [he] at hr
    have e : [(2 : Nat), 4, 5].map T = [.ptr 0 0, .ptr 1 0, .ptr 2 0] := by
      obtain ⟨t1, t2, t3, -⟩ := hT
      simp [t1, t2, t3]
    refine IW.keep [2, 4, 5] [.ptr 0 0, .ptr 1 0, .ptr 2 0] (by rw [e]; exact DH_fin (pre := [inssV I, strs S]) (suf := [.snil, .snil, I64 0, I64 0]) (xs := l.map Ent.v) (b := ⟨0, true, []⟩) (by simp [DV.one]) (fun h => by rw [hn h]; rfl) ho (by simp) (ent_unit _)) ?_
    exact dt4 I S l u c hc hS2 hI2 r hr
  repeat' ((first | with_reducible refine wr ?_ | ((with_reducible refine wb2 ?_ ?_) <;> (intro hb; try simp only [hb])) | fail) <;> try simp only [go_sem, seval])
  refine AC.call (c_rrcntD u0 512 (cs := [inssV I, strs S, .snil, .snil, .snil, I64 0, I64 0]) (b := ⟨0, true, []⟩) no3 cc h3) ?_
  rintro v H' c1 ⟨rfl, rfl⟩ hc1
  obtain ⟨n1, hn1⟩ : ∃ n, n = (rrCnt 512 u0).1 := ⟨_, rfl⟩
  obtain ⟨u1, hu1⟩ : ∃ u, u = (rrCnt 512 u0).2 := ⟨_, rfl⟩
  have hb1 : n1 ≤ 512 := by rw [hn1]; exact rrCnt_le (by omega)
  rw [← hn1, ← hu1] at key ⊢
  clear hr
  simp only [go_sem, seval]
  repeat' ((first | with_reducible refine wr ?_ | ((with_reducible refine wb2 ?_ ?_) <;> (intro hb; try simp only [hb])) | fail) <;> try simp only [go_sem, seval])
  refine i_loop (fun q : Nat × Option Nat × List Ent × RS => [(2, .ptr 0 0), (4, .ptr 1 0), (5, .ptr 2 0), (10, I64 ((n1 - q.1 : Nat) : Int))])
    (fun q => DH q.2.2.2 [inssV I, strs S, todoV q.2.1 q.2.2.1.length, .snil, .snil, I64 0, I64 0] q.2.1 ⟨4, true, cellsL (q.2.2.1.map Ent.v)⟩)
    (fun q c => 3 ≤ c ∧ q.1 ≤ n1 ∧ q.2.2.1.length = q.1 ∧ (q.2.1 = none → q.2.2.1 = []) ∧ (∀ i, q.2.1 = some i → 3 ≤ i ∧ i < c) ∧ (q.2.2.1 ++ (rrMany rrEnt (n1 - q.1) q.2.2.2).1, (rrMany rrEnt (n1 - q.1) q.2.2.2).2) = rrMany rrEnt n1 u1) (fun q => n1 - q.1) (0, none, [], u1)
    (by simp [tmLe, tm, Tm.upd]) (Sub.refl _) ⟨by omega, Nat.zero_le _, rfl, fun _ => rfl, (fun i hi => by cases hi), rfl⟩ ?_
  rintro ⟨j, o, l, u⟩ c ⟨hc2, hj, hlj, hno, ho, hv⟩
  simp only at hj hlj hno ho hv
  simp only
  have ho3 : ∀ i, o = some i → 3 ≤ i := fun i hi => (ho i hi).1
  have hD1 := fun st => DH_1 (s := st) (cs := [inssV I, strs S, todoV o l.length, .snil, .snil, I64 0, I64 0]) (b := ⟨4, true, cellsL (l.map Ent.v)⟩) ho3
  have hD2 := fun st => DH_2 (s := st) (cs := [inssV I, strs S, todoV o l.length, .snil, .snil, I64 0, I64 0]) (b := ⟨4, true, cellsL (l.map Ent.v)⟩) ho3
  by_cases hlt : j < n1
  · have hd : decide (((n1 - j : Nat) : Int) > 0) = true := by simp; omega
    have hw : IntKind.i64.wrap (((n1 - j : Nat) : Int) - 1) = ((n1 - (j + 1) : Nat) : Int) := by rw [w64 (by omega) (by omega)]; omega
    by_cases hbd : u.2 = true
    · repeat' ((first | ((with_reducible refine hold (p := IW _ _ u17_41 _ _) ?_)) | with_reducible refine wr ?_ | ((with_reducible refine wb2 ?_ ?_) <;> (intro hb; try simp only [hb])) | fail) <;> try simp only [go_sem, seval, hd, hD1, hbd])
      exact key o l u c _ hc2 ho3 hno (by simp [tmLe, tm, Tm.upd]) (rrMany_end (.inr hbd) hv)
    · have hbd' : u.2 = false := by simpa using hbd
      rw [show n1 - j = n1 - (j + 1) + 1 by omega] at hv
      have hv2 := rrMany_step hbd' hv
      repeat' ((first | with_reducible refine wr ?_ | ((with_reducible refine wb2 ?_ ?_) <;> (intro hb; try simp only [hb])) | fail) <;> try simp only [go_sem, seval, hd, hD1, hbd'])
      refine AC.call (c_rrnumD u ho3 _ (by omega)) ?_
      rintro v H' c2 ⟨rfl, rfl⟩ hc3
      simp only [go_sem, seval]
      repeat' ((first | with_reducible refine wr ?_ | ((with_reducible refine wb2 ?_ ?_) <;> (intro hb; try simp only [hb])) | fail) <;> try simp only [go_sem, seval])
      refine AC.call (c_rrnumD _ ho3 _ (by omega)) ?_
      rintro v H' c3 ⟨rfl, rfl⟩ hc4
      simp only [go_sem, seval]
      repeat' ((first | with_reducible refine wr ?_ | ((with_reducible refine wb2 ?_ ?_) <;> (intro hb; try simp only [hb])) | fail) <;> try simp only [go_sem, seval])
      refine AC.call (c_rrnumD _ ho3 _ (by omega)) ?_
      rintro v H' c4 ⟨rfl, rfl⟩ hc5
      simp only [go_sem, seval]
      repeat' ((first | with_reducible refine wr ?_ | ((with_reducible refine wb2 ?_ ?_) <;> (intro hb; try simp only [hb])) | fail) <;> try simp only [go_sem, seval, hD2])
      refine AC.call (c_rrnumD _ ho3 _ (by omega)) ?_
      rintro v H' c5 ⟨rfl, rfl⟩ hc6
      have fn := fun st j (hj : c4 ≤ j) => DH_n (s := st) (cs := [inssV I, strs S, todoV o l.length, .snil, .snil, I64 0, I64 0]) (b := ⟨4, true, cellsL (l.map Ent.v)⟩) (o := o) (j := j) (by omega) (fun i hi => by have := ho i hi; omega)
      have f0 := fun st => fn st c4 (by omega)
      have f1 := fun st => fn st (c4 + 1) (by omega)
      have f2 := fun st => fn st (c4 + 2) (by omega)
      have f3 := fun st => fn st (c4 + 3) (by omega)
      have f4 := fun st => fn st (c4 + 4) (by omega)
      have ne0 : ¬ 1 = c4 + 8 := by omega
      have ne1 : ¬ 1 = c5 := by omega
      have ne2 : ¬ 2 = c4 + 8 := by omega
      have ne3 : ¬ 2 = c5 := by omega
      have ne4 : ¬ c4 + 8 = 1 := by omega
      have ne5 : ¬ c4 + 8 = 2 := by omega
      have ne6 : ¬ c4 + 8 = c5 := by omega
      have ne7 : ¬ c5 = 1 := by omega
      have ne8 : ¬ c5 = 2 := by omega
      have ne9 : ¬ c5 = c4 + 8 := by omega
      simp only [go_sem, seval, hD2, f0, f1, f2, f3, f4, ne0, ne1, ne2, ne3, ne4, ne5, ne6, ne7, ne8, ne9]
      repeat' ((first | with_reducible refine wr ?_ | ((with_reducible refine wb2 ?_ ?_) <;> (intro hb; try simp only [hb])) | fail) <;> try simp only [go_sem, seval, hD2, f0, f1, f2, f3, f4, ne0, ne1, ne2, ne3, ne4, ne5, ne6, ne7, ne8, ne9])
      refine x_eval (r_apptodo (cs := cellsL (l.map Ent.v)) (fun e => ⟨len_nil (hno e), entC_nil (hno e)⟩) (fun i hi => ?_) (entC_len' l) (by omega) (by omega) (by omega)) ?_
      · have := ho i hi
        rw [h_ne (by omega)]; subst hi; exact DH_s
      have dk : ∀ X k, k < 3 → delO X o k = X k := fun X k hk => delO_ne (fun i hi e => by have := ho i hi; omega)
      have d2 : ∀ X, delO X o 2 = X 2 := fun X => dk X 2 (by omega)
      simp only [go_sem, seval, hD2, d2, ne0, ne1, ne2, ne3, ne4, ne5, ne6, ne7, ne8, ne9]
      repeat' ((first | with_reducible refine wr ?_ | ((with_reducible refine wb2 ?_ ?_) <;> (intro hb; try simp only [hb])) | fail) <;> try simp only [go_sem, seval, hD2, d2, hw, ne0, ne1, ne2, ne3, ne4, ne5, ne6, ne7, ne8, ne9])
      refine ⟨(j + 1, some c5, l ++ [(rrEnt u).1], (rrEnt u).2), rfl, DH_sub ?_ ?_ ?_ ?_ (by omega), inv ⟨by omega, hlt, by simp [hlj], (fun h => by cases h), (fun i hi => by cases hi; omega), hv2⟩, by simp only; omega⟩
      · rw [h_ne (by omega), h_ne (by omega), dk _ 0 (by omega), h_ne (by omega)]; exact DH_0 ho3
      · rw [h_ne (by omega), h_ne (by omega), dk _ 1 (by omega), h_ne (by omega)]; exact DH_1 ho3
      · rw [h_same]; simp [todoV]
      · rw [h_ne (by omega), h_same]; simp [cellsL_append, cellsL, DV.cells, rrEnt]
  · have hd : decide (((n1 - j : Nat) : Int) > 0) = false := by simp; omega
    repeat' ((first | ((with_reducible refine hold (p := IW _ _ u17_41 _ _) ?_)) | with_reducible refine wr ?_ | ((with_reducible refine wb2 ?_ ?_) <;> (intro hb; try simp only [hb])) | fail) <;> try simp only [go_sem, seval, hd])
    exact key o l u c _ hc2 ho3 hno (by simp [tmLe, tm, Tm.upd]) (rrMany_end (.inl (by omega)) hv)
theorem rrStrs_all : ∀ (n : Nat) (u : RS), ∀ x ∈ (rrStrs n u).1, x.length ≤ 140737488355328
  | 0, _, x, hx => by cases hx
  | n + 1, u, x, hx => by
    simp only [rrStrs] at hx
    split at hx
    · cases hx
    · split at hx
      · cases hx
      · rcases List.mem_cons.1 hx with rfl | h
        · have := rrCnt_le (most := 32) (m := 32) (s := u) (by omega)
          rw [List.length_take]; omega
        · exact rrStrs_all n _ x h
theorem rrStrs_end {m : Nat} {u : RS} {l : List (List UInt8)} {r : List (List UInt8) × RS} (he : m = 0 ∨ u.2 = true) (h : (l ++ (rrStrs m u).1, (rrStrs m u).2) = r) : r = (l, u) := by
  rw [← h]
  cases m with
  | zero => simp [rrStrs]
  | succ m =>
    have hb : u.2 = true := by rcases he with h | h; exact absurd h (by omega); exact h
    simp [rrStrs, hb]
theorem rrStrs_bad {m : Nat} {u : RS} {l : List (List UInt8)} {r : List (List UInt8) × RS} (hb : u.2 = false) (hk : (rrCnt 32 u).1 > (rrCnt 32 u).2.1.length) (h : (l ++ (rrStrs (m + 1) u).1, (rrStrs (m + 1) u).2) = r) : r = (l, ((rrCnt 32 u).2.1, true)) := by
  rw [← h]; simp [rrStrs, hb, hk]
theorem rrStrs_step {m : Nat} {u : RS} {l : List (List UInt8)} {r : List (List UInt8) × RS} (hb : u.2 = false) (hk : ¬ (rrCnt 32 u).1 > (rrCnt 32 u).2.1.length) (h : (l ++ (rrStrs (m + 1) u).1, (rrStrs (m + 1) u).2) = r) :
    ((l ++ [(rrCnt 32 u).2.1.take (rrCnt 32 u).1]) ++ (rrStrs m ((rrCnt 32 u).2.1.drop (rrCnt 32 u).1, (rrCnt 32 u).2.2)).1, (rrStrs m ((rrCnt 32 u).2.1.drop (rrCnt 32 u).1, (rrCnt 32 u).2.2)).2) = r := by
  rw [← h]; simp [rrStrs, hb, hk]
theorem dt2 (I : List Ins) (u0 : RS) (cc : Nat) (h3 : 3 ≤ cc) (hI2 : I.length ≤ 9223372036854775807) (r : Option Prg) (a : List (List UInt8) × RS) (ha : a = rrStrs (rrCnt 200 u0).1 (rrCnt 200 u0).2)
    (hr : r = refO (rrFin I a.1 (rrMany rrEnt (rrCnt 512 a.2).1 (rrCnt 512 a.2).2).1 (rrMany rrEnt (rrCnt 512 a.2).1 (rrCnt 512 a.2).2).2)) :
    IW Tryd.prog 146 u17_14 ⟨tm [(2, .ptr 0 0), (4, .ptr 1 0), (5, .ptr 2 0)], DH u0 [inssV I, .snil, .snil, .snil, .snil, I64 0, I64 0] none ⟨0, true, []⟩, cc⟩ (rt [.cell 2 7 true, .tmp 3] fun v H' x => ∃ H2, GL H' [v] H2 [decV r]) := by
  have hS2 : ∀ x ∈ a.1, x.length ≤ 140737488355328 := by rw [ha]; exact rrStrs_all _ _
  have key : ∀ (o : Option Nat) (l : List (List UInt8)) (u : RS) (c : Nat) (T : Tm), 3 ≤ c → (∀ i, o = some i → 3 ≤ i) → (o = none → l = []) → tmLe [(2, .ptr 0 0), (4, .ptr 1 0), (5, .ptr 2 0)] T → a = (l, u) →
      IW Tryd.prog 146 u17_29 ⟨T, DH u [inssV I, todoV o l.length, .snil, .snil, .snil, I64 0, I64 0] o ⟨1, true, cellsL (l.map DV.str)⟩, c⟩ (rt [.cell 2 7 true, .tmp 3] fun v H' x => ∃ H2, GL H' [v] H2 [decV r]) := by
    intro o l u c T hc ho hn hT he
    rw [he] at hr hS2
    have e : [(2 : Nat), 4, 5].map T = [.ptr 0 0, .ptr 1 0, .ptr 2 0] := by
      obtain ⟨t1, t2, t3, -⟩ := hT
      simp [t1, t2, t3]
    refine IW.keep [2, 4, 5] [.ptr 0 0, .ptr 1 0, .ptr 2 0] (by rw [e]; exact DH_fin (pre := [inssV I]) (suf := [.snil, .snil, .snil, I64 0, I64 0]) (xs := l.map DV.str) (b := ⟨0, true, []⟩) (by simp [DV.one]) (fun h => by rw [hn h]; rfl) ho (by simp) (str_unit _)) ?_
    exact dt3 I l u c hc hS2 hI2 r hr
  repeat' ((first | with_reducible refine wr ?_ | ((with_reducible refine wb2 ?_ ?_) <;> (intro hb; try simp only [hb])) | fail) <;> try simp only [go_sem, seval])
  refine AC.call (c_rrcntD u0 200 (cs := [inssV I, .snil, .snil, .snil, .snil, I64 0, I64 0]) (b := ⟨0, true, []⟩) no3 cc h3) ?_
  rintro v H' c1 ⟨rfl, rfl⟩ hc1
  obtain ⟨n1, hn1⟩ : ∃ n, n = (rrCnt 200 u0).1 := ⟨_, rfl⟩
  obtain ⟨u1, hu1⟩ : ∃ u, u = (rrCnt 200 u0).2 := ⟨_, rfl⟩
  have hb1 : n1 ≤ 200 := by rw [hn1]; exact rrCnt_le (by omega)
  rw [← hn1, ← hu1] at ha ⊢
  clear hr hS2
  simp only [go_sem, seval]
  repeat' ((first | with_reducible refine wr ?_ | ((with_reducible refine wb2 ?_ ?_) <;> (intro hb; try simp only [hb])) | fail) <;> try simp only [go_sem, seval])
  refine i_loop (fun q : Nat × Option Nat × List (List UInt8) × RS => [(2, .ptr 0 0), (4, .ptr 1 0), (5, .ptr 2 0), (8, I64 ((n1 - q.1 : Nat) : Int))])
    (fun q => DH q.2.2.2 [inssV I, todoV q.2.1 q.2.2.1.length, .snil, .snil, .snil, I64 0, I64 0] q.2.1 ⟨1, true, cellsL (q.2.2.1.map DV.str)⟩)
    (fun q c => 3 ≤ c ∧ q.1 ≤ n1 ∧ q.2.2.1.length = q.1 ∧ (q.2.1 = none → q.2.2.1 = []) ∧ (∀ i, q.2.1 = some i → 3 ≤ i ∧ i < c) ∧ (q.2.2.1 ++ (rrStrs (n1 - q.1) q.2.2.2).1, (rrStrs (n1 - q.1) q.2.2.2).2) = a) (fun q => n1 - q.1) (0, none, [], u1)
    (by simp [tmLe, tm, Tm.upd]) (Sub.refl _) ⟨by omega, Nat.zero_le _, rfl, fun _ => rfl, (fun i hi => by cases hi), by rw [ha]; rfl⟩ ?_
  rintro ⟨j, o, l, u⟩ c ⟨hc2, hj, hlj, hno, ho, hv⟩
  simp only at hj hlj hno ho hv
  simp only
  have ho3 : ∀ i, o = some i → 3 ≤ i := fun i hi => (ho i hi).1
  have hD1 := fun st => DH_1 (s := st) (cs := [inssV I, todoV o l.length, .snil, .snil, .snil, I64 0, I64 0]) (b := ⟨1, true, cellsL (l.map DV.str)⟩) ho3
  have hD2 := fun st => DH_2 (s := st) (cs := [inssV I, todoV o l.length, .snil, .snil, .snil, I64 0, I64 0]) (b := ⟨1, true, cellsL (l.map DV.str)⟩) ho3
  by_cases hlt : j < n1
  · have hd : decide (((n1 - j : Nat) : Int) > 0) = true := by simp; omega
    have hw : IntKind.i64.wrap (((n1 - j : Nat) : Int) - 1) = ((n1 - (j + 1) : Nat) : Int) := by rw [w64 (by omega) (by omega)]; omega
    by_cases hbd : u.2 = true
    · repeat' ((first | ((with_reducible refine hold (p := IW _ _ u17_29 _ _) ?_)) | with_reducible refine wr ?_ | ((with_reducible refine wb2 ?_ ?_) <;> (intro hb; try simp only [hb])) | fail) <;> try simp only [go_sem, seval, hd, hD1, hbd])
      exact key o l u c _ hc2 ho3 hno (by simp [tmLe, tm, Tm.upd]) (rrStrs_end (.inr hbd) hv).symm.symm
    · have hbd' : u.2 = false := by simpa using hbd
      rw [show n1 - j = n1 - (j + 1) + 1 by omega] at hv
      repeat' ((first | with_reducible refine wr ?_ | ((with_reducible refine wb2 ?_ ?_) <;> (intro hb; try simp only [hb])) | fail) <;> try simp only [go_sem, seval, hd, hD1, hbd'])
      refine AC.call (c_rrcntD u 32 ho3 _ (by omega)) ?_
      rintro v H' c2 ⟨rfl, rfl⟩ hc3
      by_cases hk : (rrCnt 32 u).1 > (rrCnt 32 u).2.1.length
      · have hkd : decide (((rrCnt 32 u).1 : Int) > ((rrCnt 32 u).2.1.length : Int)) = true := by simp; omega
        have he := rrStrs_bad hbd' hk hv
        simp only [go_sem, seval, hD1, hkd]
        repeat' ((first | ((with_reducible refine hold (p := IW _ _ u17_29 _ _) ?_)) | with_reducible refine wr ?_ | ((with_reducible refine wb2 ?_ ?_) <;> (intro hb; try simp only [hb])) | fail) <;> try simp only [go_sem, seval, hD1, hkd])
        have kk := fun T hT => key o l _ c2 T (by omega) ho3 hno hT he
        rw [← DH_r (s := (rrCnt 32 u).2) ho3] at kk
        exact kk _ (by simp [tmLe, tm, Tm.upd])
      · have hkd : decide (((rrCnt 32 u).1 : Int) > ((rrCnt 32 u).2.1.length : Int)) = false := by simp; omega
        have hv2 := rrStrs_step hbd' hk hv
        have T1 := sls_to (s := (rrCnt 32 u).2.1) (k := (rrCnt 32 u).1) (by omega)
        have T2 := sls_from (s := (rrCnt 32 u).2.1) (k := (rrCnt 32 u).1) (by omega)
        have dk : ∀ X k, k < 3 → delO X o k = X k := fun X k hk => delO_ne (fun i hi e => by have := ho i hi; omega)
        have d1 : ∀ X, delO X o 1 = X 1 := fun X => dk X 1 (by omega)
        have d2 : ∀ X, delO X o 2 = X 2 := fun X => dk X 2 (by omega)
        have ne0 : ¬ 1 = c2 + 8 := by omega
        have ne1 : ¬ 1 = c2 + 12 := by omega
        have ne2 : ¬ 2 = c2 + 8 := by omega
        have ne3 : ¬ 2 = c2 + 12 := by omega
        have ne4 : ¬ c2 + 8 = 1 := by omega
        have ne5 : ¬ c2 + 8 = 2 := by omega
        have ne6 : ¬ c2 + 8 = c2 + 12 := by omega
        have ne7 : ¬ c2 + 12 = 1 := by omega
        have ne8 : ¬ c2 + 12 = 2 := by omega
        have ne9 : ¬ c2 + 12 = c2 + 8 := by omega
        simp only [go_sem, seval, hD1, hD2, hkd, T1, T2, ne0, ne1, ne2, ne3, ne4, ne5, ne6, ne7, ne8, ne9]
        repeat' ((first | with_reducible refine wr ?_ | ((with_reducible refine wb2 ?_ ?_) <;> (intro hb; try simp only [hb])) | fail) <;> try simp only [go_sem, seval, hD1, hD2, hkd, T1, T2, ne0, ne1, ne2, ne3, ne4, ne5, ne6, ne7, ne8, ne9])
        refine x_eval (r_apptodo (cs := cellsL (l.map DV.str)) (fun e => ⟨len_nil (hno e), by rw [hno e]; rfl⟩) (fun i hi => ?_) (by rw [cellsL_length (u := 1) (str_unit _)]; simp) (by omega) (by omega) (by omega)) ?_
        · have := ho i hi
          rw [h_ne (by omega)]; subst hi; exact DH_s
        simp only [go_sem, seval, hD1, hD2, d1, d2, T2, ne0, ne1, ne2, ne3, ne4, ne5, ne6, ne7, ne8, ne9]
        repeat' ((first | with_reducible refine wr ?_ | ((with_reducible refine wb2 ?_ ?_) <;> (intro hb; try simp only [hb])) | fail) <;> try simp only [go_sem, seval, hD1, hD2, d1, d2, T2, hw, ne0, ne1, ne2, ne3, ne4, ne5, ne6, ne7, ne8, ne9])
        refine ⟨(j + 1, some (c2 + 12), l ++ [(rrCnt 32 u).2.1.take (rrCnt 32 u).1], ((rrCnt 32 u).2.1.drop (rrCnt 32 u).1, (rrCnt 32 u).2.2)), rfl, DH_sub ?_ ?_ ?_ ?_ (by omega), inv ⟨by omega, hlt, by simp [hlj], (fun h => by cases h), (fun i hi => by cases hi; omega), hv2⟩, by simp only; omega⟩
        · rw [h_ne (by omega), h_ne (by omega), h_ne (by omega), dk _ 0 (by omega), h_ne (by omega)]; exact DH_0 ho3
        · rw [h_same]
        · rw [h_ne (by omega), h_same]; simp [todoV]
        · rw [h_ne (by omega), h_ne (by omega), h_same]; simp [cellsL_append, cellsL, DV.cells]
  · have hd : decide (((n1 - j : Nat) : Int) > 0) = false := by simp; omega
    repeat' ((first | ((with_reducible refine hold (p := IW _ _ u17_29 _ _) ?_)) | with_reducible refine wr ?_ | ((with_reducible refine wb2 ?_ ?_) <;> (intro hb; try simp only [hb])) | fail) <;> try simp only [go_sem, seval, hd])
    exact key o l u c _ hc2 ho3 hno (by simp [tmLe, tm, Tm.upd]) (rrStrs_end (.inl (by omega)) hv)
theorem ref_eq (s : List UInt8) : refP s = refO (rrPrg (s, false)) := rfl
theorem c_DecodeR (s : List UInt8) : PC Tryd.prog 17 [.str s] (decV (refP s)) := by
  obtain ⟨r, hr⟩ : ∃ r, r = refP s := ⟨_, rfl⟩
  rw [← hr]
  rw [ref_eq] at hr
  refine PC.of mixedU isU17 (Nat.le_of_ble_eq_true rfl) rfl (decV_nl _) ?_
  obtain ⟨a, ha⟩ : ∃ a, a = rrMany rrIns (rrCnt 4000 (s, false)).1 (rrCnt 4000 (s, false)).2 := ⟨_, rfl⟩
  have hr2 : r = refO (rrFin a.1 (rrStrs (rrCnt 200 a.2).1 (rrCnt 200 a.2).2).1 (rrMany rrEnt (rrCnt 512 (rrStrs (rrCnt 200 a.2).1 (rrCnt 200 a.2).2).2).1 (rrCnt 512 (rrStrs (rrCnt 200 a.2).1 (rrCnt 200 a.2).2).2).2).1 (rrMany rrEnt (rrCnt 512 (rrStrs (rrCnt 200 a.2).1 (rrCnt 200 a.2).2).2).1 (rrCnt 512 (rrStrs (rrCnt 200 a.2).1 (rrCnt 200 a.2).2).2).2).2) := by
    rw [hr, ha]; rfl
  clear hr
  have key : ∀ (o : Option Nat) (l : List Ins) (u : RS) (c : Nat) (T : Tm), 3 ≤ c → l.length ≤ 4000 → (∀ i, o = some i → 3 ≤ i) → (o = none → l = []) → tmLe [(2, .ptr 0 0), (4, .ptr 1 0), (5, .ptr 2 0)] T → a = (l, u) →
      IW Tryd.prog 146 u17_14 ⟨T, DH u [todoV o l.length, .snil, .snil, .snil, .snil, I64 0, I64 0] o ⟨2, true, insC l⟩, c⟩ (rt [.cell 2 7 true, .tmp 3] fun v H' x => ∃ H2, GL H' [v] H2 [decV r]) := by
    intro o l u c T hc hl ho hn hT he
    rw [he] at hr2
    have e : [(2 : Nat), 4, 5].map T = [.ptr 0 0, .ptr 1 0, .ptr 2 0] := by
      obtain ⟨t1, t2, t3, -⟩ := hT
      simp [t1, t2, t3]
    refine IW.keep [2, 4, 5] [.ptr 0 0, .ptr 1 0, .ptr 2 0] (by rw [e]; exact DH_fin (pre := []) (suf := [.snil, .snil, .snil, .snil, I64 0, I64 0]) (xs := l.map Ins.v) (b := ⟨0, true, []⟩) (by simp [DV.one]) (fun h => by rw [hn h]; rfl) ho (by simp) (ins_unit _)) ?_
    exact dt2 l u c hc (by omega) r _ rfl hr2
  show IW Tryd.prog 146 u17_1 ⟨argT _, _, _⟩ (rt [.cell 2 7 true, .tmp 3] _)
  repeat' ((first | with_reducible refine wr ?_ | ((with_reducible refine wb2 ?_ ?_) <;> (intro hb; try simp only [hb])) | fail) <;> try simp only [go_sem, seval])
  refine AC.call (c_rrcntD (s, false) 4000 (cs := [.snil, .snil, .snil, .snil, .snil, I64 0, I64 0]) (b := ⟨0, true, []⟩) no3 3 (by omega)) ?_
  rintro v H' c1 ⟨rfl, rfl⟩ hc1
  obtain ⟨n1, hn1⟩ : ∃ n, n = (rrCnt 4000 (s, false)).1 := ⟨_, rfl⟩
  obtain ⟨u1, hu1⟩ : ∃ u, u = (rrCnt 4000 (s, false)).2 := ⟨_, rfl⟩
  have hb1 : n1 ≤ 4000 := by rw [hn1]; exact rrCnt_le (by omega)
  rw [← hn1, ← hu1] at ha ⊢
  clear hr2
  simp only [go_sem, seval]
  repeat' ((first | with_reducible refine wr ?_ | ((with_reducible refine wb2 ?_ ?_) <;> (intro hb; try simp only [hb])) | fail) <;> try simp only [go_sem, seval])
  refine i_loop (fun q : Nat × Option Nat × List Ins × RS => [(2, .ptr 0 0), (4, .ptr 1 0), (5, .ptr 2 0), (6, I64 ((n1 - q.1 : Nat) : Int))])
    (fun q => DH q.2.2.2 [todoV q.2.1 q.2.2.1.length, .snil, .snil, .snil, .snil, I64 0, I64 0] q.2.1 ⟨2, true, insC q.2.2.1⟩)
    (fun q c => 3 ≤ c ∧ q.1 ≤ n1 ∧ q.2.2.1.length = q.1 ∧ (q.2.1 = none → q.2.2.1 = []) ∧ (∀ i, q.2.1 = some i → 3 ≤ i ∧ i < c) ∧ (q.2.2.1 ++ (rrMany rrIns (n1 - q.1) q.2.2.2).1, (rrMany rrIns (n1 - q.1) q.2.2.2).2) = a) (fun q => n1 - q.1) (0, none, [], u1)
    (by simp [tmLe, tm, Tm.upd]) (Sub.refl _) ⟨by omega, Nat.zero_le _, rfl, fun _ => rfl, (fun i hi => by cases hi), by rw [ha]; rfl⟩ ?_
  rintro ⟨j, o, l, u⟩ c ⟨hc2, hj, hlj, hno, ho, hv⟩
  simp only at hj hlj hno ho hv
  simp only
  have ho3 : ∀ i, o = some i → 3 ≤ i := fun i hi => (ho i hi).1
  have hD1 := fun st => DH_1 (s := st) (cs := [todoV o l.length, .snil, .snil, .snil, .snil, I64 0, I64 0]) (b := ⟨2, true, insC l⟩) ho3
  have hD2 := fun st => DH_2 (s := st) (cs := [todoV o l.length, .snil, .snil, .snil, .snil, I64 0, I64 0]) (b := ⟨2, true, insC l⟩) ho3
  by_cases hlt : j < n1
  · have hd : decide (((n1 - j : Nat) : Int) > 0) = true := by simp; omega
    have hw : IntKind.i64.wrap (((n1 - j : Nat) : Int) - 1) = ((n1 - (j + 1) : Nat) : Int) := by rw [w64 (by omega) (by omega)]; omega
    by_cases hbd : u.2 = true
    · repeat' ((first | ((with_reducible refine hold (p := IW _ _ u17_14 _ _) ?_)) | with_reducible refine wr ?_ | ((with_reducible refine wb2 ?_ ?_) <;> (intro hb; try simp only [hb])) | fail) <;> try simp only [go_sem, seval, hd, hD1, hbd])
      exact key o l u c _ hc2 (by omega) ho3 hno (by simp [tmLe, tm, Tm.upd]) (rrMany_end (.inr hbd) hv)
    · have hbd' : u.2 = false := by simpa using hbd
      rw [show n1 - j = n1 - (j + 1) + 1 by omega] at hv
      have hv2 := rrMany_step hbd' hv
      repeat' ((first | with_reducible refine wr ?_ | ((with_reducible refine wb2 ?_ ?_) <;> (intro hb; try simp only [hb])) | fail) <;> try simp only [go_sem, seval, hd, hD1, hbd'])
      refine AC.call (c_rrnumD u ho3 _ (by omega)) ?_
      rintro v H' c2 ⟨rfl, rfl⟩ hc3
      simp only [go_sem, seval, hD2]
      repeat' ((first | with_reducible refine wr ?_ | ((with_reducible refine wb2 ?_ ?_) <;> (intro hb; try simp only [hb])) | fail) <;> try simp only [go_sem, seval, hD2])
      refine AC.call (c_rrnumD _ ho3 _ (by omega)) ?_
      rintro v H' c3 ⟨rfl, rfl⟩ hc4
      have fn := fun st j (hj : c2 ≤ j) => DH_n (s := st) (cs := [todoV o l.length, .snil, .snil, .snil, .snil, I64 0, I64 0]) (b := ⟨2, true, insC l⟩) (o := o) (j := j) (by omega) (fun i hi => by have := ho i hi; omega)
      have f0 := fun st => fn st c2 (by omega)
      have f1 := fun st => fn st (c2 + 1) (by omega)
      have f2 := fun st => fn st (c2 + 2) (by omega)
      have ne0 : ¬ 1 = c2 + 6 := by omega
      have ne1 : ¬ 1 = c3 := by omega
      have ne2 : ¬ 2 = c2 + 6 := by omega
      have ne3 : ¬ 2 = c3 := by omega
      have ne4 : ¬ c2 + 6 = 1 := by omega
      have ne5 : ¬ c2 + 6 = 2 := by omega
      have ne6 : ¬ c2 + 6 = c3 := by omega
      have ne7 : ¬ c3 = 1 := by omega
      have ne8 : ¬ c3 = 2 := by omega
      have ne9 : ¬ c3 = c2 + 6 := by omega
      simp only [go_sem, seval, hD2, f0, f1, f2, ne0, ne1, ne2, ne3, ne4, ne5, ne6, ne7, ne8, ne9]
      repeat' ((first | with_reducible refine wr ?_ | ((with_reducible refine wb2 ?_ ?_) <;> (intro hb; try simp only [hb])) | fail) <;> try simp only [go_sem, seval, hD2, f0, f1, f2, ne0, ne1, ne2, ne3, ne4, ne5, ne6, ne7, ne8, ne9])
      refine x_eval (r_apptodo (cs := insC l) (fun e => ⟨len_nil (hno e), insC_nil (hno e)⟩) (fun i hi => ?_) (insC_len2 l) (by omega) (by omega) (by omega)) ?_
      · have := ho i hi
        rw [h_ne (by omega)]; subst hi; exact DH_s
      have dk : ∀ X k, k < 3 → delO X o k = X k := fun X k hk => delO_ne (fun i hi e => by have := ho i hi; omega)
      have d2 : ∀ X, delO X o 2 = X 2 := fun X => dk X 2 (by omega)
      simp only [go_sem, seval, hD2, d2, ne0, ne1, ne2, ne3, ne4, ne5, ne6, ne7, ne8, ne9]
      repeat' ((first | with_reducible refine wr ?_ | ((with_reducible refine wb2 ?_ ?_) <;> (intro hb; try simp only [hb])) | fail) <;> try simp only [go_sem, seval, hD2, d2, hw, ne0, ne1, ne2, ne3, ne4, ne5, ne6, ne7, ne8, ne9])
      refine ⟨(j + 1, some c3, l ++ [(rrIns u).1], (rrIns u).2), rfl, DH_sub ?_ ?_ ?_ ?_ (by omega), inv ⟨by omega, hlt, by simp [hlj], (fun h => by cases h), (fun i hi => by cases hi; omega), hv2⟩, by simp only; omega⟩
      · rw [h_ne (by omega), h_ne (by omega), dk _ 0 (by omega), h_ne (by omega)]; exact DH_0 ho3
      · rw [h_ne (by omega), h_ne (by omega), dk _ 1 (by omega), h_ne (by omega)]; exact DH_1 ho3
      · rw [h_same]; simp [todoV]
      · rw [h_ne (by omega), h_same]; simp [insC_app, insC_one, rrIns]
  · have hd : decide (((n1 - j : Nat) : Int) > 0) = false := by simp; omega
    repeat' ((first | ((with_reducible refine hold (p := IW _ _ u17_14 _ _) ?_)) | with_reducible refine wr ?_ | ((with_reducible refine wb2 ?_ ?_) <;> (intro hb; try simp only [hb])) | fail) <;> try simp only [go_sem, seval, hd])
    exact key o l u c _ hc2 (by omega) ho3 hno (by simp [tmLe, tm, Tm.upd]) (rrMany_end (.inl (by omega)) hv)
end Go.Proofs.YtcallbfckjlagaaDoor
