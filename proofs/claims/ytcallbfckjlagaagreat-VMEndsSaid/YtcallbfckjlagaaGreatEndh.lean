/-
  HELPERS of the claim: part 8 of its texts.
-/
import Derived.Test.YtcallbfckjlagaaGreatEndg
noncomputable section
set_option maxHeartbeats 4000000
set_option maxRecDepth 100000
set_option linter.unusedSimpArgs false
set_option linter.unusedVariables false
namespace Go.Proofs.YtcallbfckjlagaaGreat
open Go.Eng (IC IOper DReg IFn IsFn)
open Go.Sym Go.Pb
section
def u21_6r:List IOper:=[oI 7 0]
def u21_6:IC:=.reg u21_6r
def u21_5:IC:=.cond (.t 21) u21_6 .skip
def u21_4r:List IOper:=[oM 16 2,oK 17 16 .leq 0,oM 18 17,gM 19 7 18,gK 20 19 18 .gtr 11,oP 21 (.pick (.t 18) (.t 20) (.k (.bool false)))]
def u21_4:IC:=.seq (.reg u21_4r) u21_5
def u21_12r:List IOper:=[oM 25 0,oC 26 35 [.t 25,.k (.int .i64 1)],oP 27 (.bld #[.int .i64 0,.int .i64 0] [(0,1),(1,1)] [(0,.k (.int .i64 15))]),⟨some 28,.new (.bsl 2 1 #[.int .i64 0,.int .i64 0] [(0,.t 27)]),none⟩,⟨some 29,.eff (.app 2 16 (.t 26) (.t 28)),none⟩,oM 6 29]
def u21_12:IC:=.seq (.reg u21_12r) .ret
def u21_15r:List IOper:=[oM 32 0,oC 33 20 [.t 32,.k (.int .i64 3)],oP 34 (.bin .add (.k (.int .i64 16)) (.t 33)),oM 35 0,oC 36 20 [.t 35,.k (.int .i64 32)],oP 37 (.bld #[.int .i64 0,.int .i64 0] [(0,1),(1,1)] [(0,.t 34),(1,.t 36)]),⟨some 38,.new (.bsl 2 1 #[.int .i64 0,.int .i64 0] [(0,.t 37)]),none⟩,oM 6 38]
def u21_15:IC:=.seq (.reg u21_15r) .ret
def u21_18r:List IOper:=[oM 41 0,oC 42 35 [.t 41,.k (.int .i64 0)],oM 43 0,oC 44 20 [.t 43,.k (.int .i64 64)],oP 45 (.bld #[.int .i64 0,.int .i64 0] [(0,1),(1,1)] [(0,.k (.int .i64 19)),(1,.t 44)]),⟨some 46,.new (.bsl 2 1 #[.int .i64 0,.int .i64 0] [(0,.t 45)]),none⟩,⟨some 47,.eff (.app 2 16 (.t 42) (.t 46)),none⟩,oM 6 47]
def u21_18:IC:=.seq (.reg u21_18r) .ret
def u21_22r:List IOper:=[oM 52 8,oM 53 0,oC 54 35 [.t 53,.k (.int .i64 0)],⟨some 55,.eff (.app 2 16 (.t 52) (.t 54)),none⟩,oM 56 0,oC 57 20 [.t 56,.k (.int .i64 64)],oP 58 (.bld #[.int .i64 0,.int .i64 0] [(0,1),(1,1)] [(0,.k (.int .i64 20)),(1,.t 57)]),⟨some 59,.new (.bsl 2 1 #[.int .i64 0,.int .i64 0] [(0,.t 58)]),none⟩,⟨some 60,.eff (.app 2 16 (.t 55) (.t 59)),none⟩,oM 6 60]
def u21_22:IC:=.seq (.reg u21_22r) .ret
def u21_21r:List IOper:=[oM 50 0,oC 51 35 [.t 50,.k (.int .i64 0)],oM 8 51]
def u21_21:IC:=.seq (.reg u21_21r) u21_22
def u21_25r:List IOper:=[oM 63 0,oC 64 35 [.t 63,.k (.int .i64 1)],oM 65 0,oC 66 20 [.t 65,.k (.int .i64 2)],oP 67 (.bld #[.int .i64 0,.int .i64 0] [(0,1),(1,1)] [(0,.k (.int .i64 21)),(1,.t 66)]),⟨some 68,.new (.bsl 2 1 #[.int .i64 0,.int .i64 0] [(0,.t 67)]),none⟩,⟨some 69,.eff (.app 2 16 (.t 64) (.t 68)),none⟩,oM 6 69]
def u21_25:IC:=.seq (.reg u21_25r) .ret
def u21_28r:List IOper:=[oM 72 0,oC 73 20 [.t 72,.k (.int .i64 2)],oP 74 (.bld #[.int .i64 0,.int .i64 0] [(0,1),(1,1)] [(0,.k (.int .i64 22)),(1,.t 73)]),⟨some 75,.new (.bsl 2 1 #[.int .i64 0,.int .i64 0] [(0,.t 74)]),none⟩,oM 6 75]
def u21_28:IC:=.seq (.reg u21_28r) .ret
def u21_31r:List IOper:=[oM 78 0,oC 79 20 [.t 78,.k (.int .i64 2)],oP 80 (.bin .add (.k (.int .i64 23)) (.t 79)),oM 81 0,oC 82 20 [.t 81,.k (.int .i64 2)],oP 83 (.bld #[.int .i64 0,.int .i64 0] [(0,1),(1,1)] [(0,.t 80),(1,.t 82)]),⟨some 84,.new (.bsl 2 1 #[.int .i64 0,.int .i64 0] [(0,.t 83)]),none⟩,oM 6 84]
def u21_31:IC:=.seq (.reg u21_31r) .ret
def u21_34r:List IOper:=[oM 87 0,oC 88 20 [.t 87,.k (.int .i64 2)],oP 89 (.bld #[.int .i64 0,.int .i64 0] [(0,1),(1,1)] [(0,.k (.int .i64 25)),(1,.t 88)]),⟨some 90,.new (.bsl 2 1 #[.int .i64 0,.int .i64 0] [(0,.t 89)]),none⟩,oM 6 90]
def u21_34:IC:=.seq (.reg u21_34r) .ret
def u21_37r:List IOper:=[oM 93 0,oC 94 20 [.t 93,.k (.int .i64 3)],oP 95 (.bin .add (.k (.int .i64 26)) (.t 94)),oM 96 0,oC 97 20 [.t 96,.k (.int .i64 64)],oP 98 (.bld #[.int .i64 0,.int .i64 0] [(0,1),(1,1)] [(0,.t 95),(1,.t 97)]),⟨some 99,.new (.bsl 2 1 #[.int .i64 0,.int .i64 0] [(0,.t 98)]),none⟩,oM 6 99]
def u21_37:IC:=.seq (.reg u21_37r) .ret
def u21_40r:List IOper:=[oM 102 0,oC 103 35 [.t 102,.k (.int .i64 1)],oM 104 0,oC 105 20 [.t 104,.k (.int .i64 2)],oP 106 (.bld #[.int .i64 0,.int .i64 0] [(0,1),(1,1)] [(0,.k (.int .i64 29)),(1,.t 105)]),⟨some 107,.new (.bsl 2 1 #[.int .i64 0,.int .i64 0] [(0,.t 106)]),none⟩,⟨some 108,.eff (.app 2 16 (.t 103) (.t 107)),none⟩,oM 6 108]
def u21_40:IC:=.seq (.reg u21_40r) .ret
def u21_43r:List IOper:=[oP 111 (.bld #[.int .i64 0,.int .i64 0] [(0,1),(1,1)] [(0,.k (.int .i64 30))]),⟨some 112,.new (.bsl 2 1 #[.int .i64 0,.int .i64 0] [(0,.t 111)]),none⟩,oM 6 112]
def u21_43:IC:=.seq (.reg u21_43r) .ret
def u21_48r:List IOper:=[oM 126 9,oM 127 1,oM 128 9,oH 129 128,oB 130 127 129 .add,oK 131 130 .add 1,oM 132 10,oH 133 132,oB 134 131 133 .add,oP 135 (.bld #[.int .i64 0,.int .i64 0] [(0,1),(1,1)] [(0,.k (.int .i64 13)),(1,.t 134)]),⟨some 136,.new (.bsl 2 1 #[.int .i64 0,.int .i64 0] [(0,.t 135)]),none⟩,⟨some 137,.eff (.app 2 16 (.t 126) (.t 136)),none⟩,oM 138 10,⟨some 139,.eff (.app 2 16 (.t 137) (.t 138)),none⟩,oM 6 139]
def u21_48:IC:=.seq (.reg u21_48r) .ret
def u21_47r:List IOper:=[oM 117 0,oM 118 1,oM 119 9,oH 120 119,oB 121 118 120 .add,oK 122 121 .add 1,oM 123 2,oK 124 123 .sub 1,oC 125 21 [.t 117,.t 122,.t 124],oM 10 125]
def u21_47:IC:=.seq (.reg u21_47r) u21_48
def u21_46r:List IOper:=[oM 115 0,oC 116 35 [.t 115,.k (.int .i64 1)],oM 9 116]
def u21_46:IC:=.seq (.reg u21_46r) u21_47
def u21_52r:List IOper:=[oK 142 22 .eql 14,oM 140 142]
def u21_52:IC:=.reg u21_52r
def u21_51:IC:=.cond (.t 140) .skip u21_52
def u21_50r:List IOper:=[oK 141 22 .eql 13,oM 140 141]
def u21_50:IC:=.seq (.reg u21_50r) u21_51
def u21_57r:List IOper:=[oM 162 11,oM 163 13,oP 164 (.bld #[.int .i64 0,.int .i64 0] [(0,1),(1,1)] [(0,.k (.int .i64 14)),(1,.t 163)]),⟨some 165,.new (.bsl 2 1 #[.int .i64 0,.int .i64 0] [(0,.t 164)]),none⟩,⟨some 166,.eff (.app 2 16 (.t 162) (.t 165)),none⟩,oM 167 12,⟨some 168,.eff (.app 2 16 (.t 166) (.t 167)),none⟩,oM 169 1,oM 170 11,oH 171 170,oB 172 169 171 .add,oP 173 (.bld #[.int .i64 0,.int .i64 0] [(0,1),(1,1)] [(0,.k (.int .i64 12)),(1,.t 172)]),⟨some 174,.new (.bsl 2 1 #[.int .i64 0,.int .i64 0] [(0,.t 173)]),none⟩,⟨some 175,.eff (.app 2 16 (.t 168) (.t 174)),none⟩,oM 6 175]
def u21_57:IC:=.seq (.reg u21_57r) .ret
def u21_56r:List IOper:=[oM 154 1,oM 155 11,oH 156 155,oB 157 154 156 .add,oK 158 157 .add 2,oM 159 12,oH 160 159,oB 161 158 160 .add,oM 13 161]
def u21_56:IC:=.seq (.reg u21_56r) u21_57
def u21_55r:List IOper:=[oM 145 0,oM 146 1,oM 147 11,oH 148 147,oB 149 146 148 .add,oK 150 149 .add 1,oM 151 2,oK 152 151 .sub 1,oC 153 21 [.t 145,.t 150,.t 152],oM 12 153]
def u21_55:IC:=.seq (.reg u21_55r) u21_56
def u21_54r:List IOper:=[oM 143 0,oC 144 35 [.t 143,.k (.int .i64 0)],oM 11 144]
def u21_54:IC:=.seq (.reg u21_54r) u21_55
def u21_53:IC:=.cond (.t 140) u21_54 .skip
def u21_49:IC:=.seq u21_50 u21_53
def u21_45:IC:=.cond (.t 113) u21_46 u21_49
def u21_44r:List IOper:=[oK 114 22 .eql 12,oM 113 114]
def u21_44:IC:=.seq (.reg u21_44r) u21_45
def u21_42:IC:=.cond (.t 109) u21_43 u21_44
def u21_41r:List IOper:=[oK 110 22 .eql 11,oM 109 110]
def u21_41:IC:=.seq (.reg u21_41r) u21_42
def u21_39:IC:=.cond (.t 100) u21_40 u21_41
def u21_38r:List IOper:=[oK 101 22 .eql 10,oM 100 101]
def u21_38:IC:=.seq (.reg u21_38r) u21_39
def u21_36:IC:=.cond (.t 91) u21_37 u21_38
def u21_35r:List IOper:=[oK 92 22 .eql 9,oM 91 92]
def u21_35:IC:=.seq (.reg u21_35r) u21_36
def u21_33:IC:=.cond (.t 85) u21_34 u21_35
def u21_32r:List IOper:=[oK 86 22 .eql 8,oM 85 86]
def u21_32:IC:=.seq (.reg u21_32r) u21_33
def u21_30:IC:=.cond (.t 76) u21_31 u21_32
def u21_29r:List IOper:=[oK 77 22 .eql 7,oM 76 77]
def u21_29:IC:=.seq (.reg u21_29r) u21_30
def u21_27:IC:=.cond (.t 70) u21_28 u21_29
def u21_26r:List IOper:=[oK 71 22 .eql 6,oM 70 71]
def u21_26:IC:=.seq (.reg u21_26r) u21_27
def u21_24:IC:=.cond (.t 61) u21_25 u21_26
def u21_23r:List IOper:=[oK 62 22 .eql 5,oM 61 62]
def u21_23:IC:=.seq (.reg u21_23r) u21_24
def u21_20:IC:=.cond (.t 48) u21_21 u21_23
def u21_19r:List IOper:=[oK 49 22 .eql 4,oM 48 49]
def u21_19:IC:=.seq (.reg u21_19r) u21_20
def u21_17:IC:=.cond (.t 39) u21_18 u21_19
def u21_16r:List IOper:=[oK 40 22 .eql 3,oM 39 40]
def u21_16:IC:=.seq (.reg u21_16r) u21_17
def u21_14:IC:=.cond (.t 30) u21_15 u21_16
def u21_13r:List IOper:=[oK 31 22 .eql 2,oM 30 31]
def u21_13:IC:=.seq (.reg u21_13r) u21_14
def u21_11:IC:=.cond (.t 23) u21_12 u21_13
def u21_10r:List IOper:=[oK 24 22 .eql 1,oM 23 24]
def u21_10:IC:=.seq (.reg u21_10r) u21_11
def u21_9:IC:=.blk 0 u21_10
def u21_8r:List IOper:=[oM 22 7]
def u21_8:IC:=.seq (.reg u21_8r) u21_9
def u21_58r:List IOper:=[oM 176 0,oC 177 35 [.t 176,.k (.int .i64 2)],oM 178 0,oC 179 20 [.t 178,.k (.int .i64 3)],oP 180 (.bld #[.int .i64 0,.int .i64 0] [(0,1),(1,1)] [(0,.k (.int .i64 3)),(1,.t 179)]),⟨some 181,.new (.bsl 2 1 #[.int .i64 0,.int .i64 0] [(0,.t 180)]),none⟩,⟨some 182,.eff (.app 2 16 (.t 177) (.t 181)),none⟩,oM 6 182]
def u21_58:IC:=.seq (.reg u21_58r) .ret
def u21_7:IC:=.seq u21_8 u21_58
def u21_3:IC:=.seq u21_4 u21_7
def u21_2r:List IOper:=[oM 14 0,oC 15 20 [.t 14,.k (.int .i64 15)],oM 7 15]
def u21_2:IC:=.seq (.reg u21_2r) u21_3
def u21_1r:List IOper:=[oP 6 (.mv (.k (.slice none 0 0)))]
def u21_1:IC:=.seq (.reg u21_1r) u21_2
def u21:IFn:=⟨183,u21_1,[.tmp 6]⟩
end
theorem isU21:IsFn Tryz.prog 21 u21:=by unfold IsFn;kernel_rfl
instance i21_6:WR Tryz.prog 183 u21_6 (rE u21_6r [0,1,2]):=⟨mkE⟩
instance i21_5:WR Tryz.prog 183 u21_5 (rCE (.t 21) u21_6 .skip [0,1,2,7,21]):=⟨mkCE⟩
instance i21_4:WR Tryz.prog 183 u21_4 (rS u21_4r u21_5 [0,1,2,7]):=⟨mkS⟩
instance i21_12:WR Tryz.prog 183 u21_12 (rS u21_12r .ret [0]):=⟨mkS⟩
instance i21_15:WR Tryz.prog 183 u21_15 (rS u21_15r .ret [0]):=⟨mkS⟩
instance i21_18:WR Tryz.prog 183 u21_18 (rS u21_18r .ret [0]):=⟨mkS⟩
instance i21_22:WR Tryz.prog 183 u21_22 (rS u21_22r .ret [0,8]):=⟨mkS⟩
instance i21_21:WR Tryz.prog 183 u21_21 (rS u21_21r u21_22 [0]):=⟨mkS⟩
instance i21_25:WR Tryz.prog 183 u21_25 (rS u21_25r .ret [0]):=⟨mkS⟩
instance i21_28:WR Tryz.prog 183 u21_28 (rS u21_28r .ret [0]):=⟨mkS⟩
instance i21_31:WR Tryz.prog 183 u21_31 (rS u21_31r .ret [0]):=⟨mkS⟩
instance i21_34:WR Tryz.prog 183 u21_34 (rS u21_34r .ret [0]):=⟨mkS⟩
instance i21_37:WR Tryz.prog 183 u21_37 (rS u21_37r .ret [0]):=⟨mkS⟩
instance i21_40:WR Tryz.prog 183 u21_40 (rS u21_40r .ret [0]):=⟨mkS⟩
instance i21_43:WR Tryz.prog 183 u21_43 (rS u21_43r .ret []):=⟨mkS⟩
instance i21_48:WR Tryz.prog 183 u21_48 (rS u21_48r .ret [1,9,10]):=⟨mkS⟩
instance i21_47:WR Tryz.prog 183 u21_47 (rS u21_47r u21_48 [0,1,2,9]):=⟨mkS⟩
instance i21_46:WR Tryz.prog 183 u21_46 (rS u21_46r u21_47 [0,1,2]):=⟨mkS⟩
instance i21_52:WR Tryz.prog 183 u21_52 (rE u21_52r [0,1,2,22]):=⟨mkE⟩
instance i21_51:WR Tryz.prog 183 u21_51 (rCE (.t 140) .skip u21_52 [0,1,2,22,140]):=⟨mkCE⟩
instance i21_50:WR Tryz.prog 183 u21_50 (rS u21_50r u21_51 [0,1,2,22]):=⟨mkS⟩
instance i21_57:WR Tryz.prog 183 u21_57 (rS u21_57r .ret [1,11,12,13]):=⟨mkS⟩
instance i21_56:WR Tryz.prog 183 u21_56 (rS u21_56r u21_57 [1,11,12]):=⟨mkS⟩
instance i21_55:WR Tryz.prog 183 u21_55 (rS u21_55r u21_56 [0,1,2,11]):=⟨mkS⟩
instance i21_54:WR Tryz.prog 183 u21_54 (rS u21_54r u21_55 [0,1,2]):=⟨mkS⟩
instance i21_53:WR Tryz.prog 183 u21_53 (rCE (.t 140) u21_54 .skip [0,1,2,140]):=⟨mkCE⟩
instance i21_49:WR Tryz.prog 183 u21_49 (rQ u21_50 u21_53 [0,1,2,22]):=⟨mkQ⟩
instance i21_45:WR Tryz.prog 183 u21_45 (rCE (.t 113) u21_46 u21_49 [0,1,2,22,113]):=⟨mkCE⟩
instance i21_44:WR Tryz.prog 183 u21_44 (rS u21_44r u21_45 [0,1,2,22]):=⟨mkS⟩
instance i21_42:WR Tryz.prog 183 u21_42 (rCE (.t 109) u21_43 u21_44 [0,1,2,22,109]):=⟨mkCE⟩
instance i21_41:WR Tryz.prog 183 u21_41 (rS u21_41r u21_42 [0,1,2,22]):=⟨mkS⟩
instance i21_39:WR Tryz.prog 183 u21_39 (rCE (.t 100) u21_40 u21_41 [0,1,2,22,100]):=⟨mkCE⟩
instance i21_38:WR Tryz.prog 183 u21_38 (rS u21_38r u21_39 [0,1,2,22]):=⟨mkS⟩
instance i21_36:WR Tryz.prog 183 u21_36 (rCE (.t 91) u21_37 u21_38 [0,1,2,22,91]):=⟨mkCE⟩
instance i21_35:WR Tryz.prog 183 u21_35 (rS u21_35r u21_36 [0,1,2,22]):=⟨mkS⟩
instance i21_33:WR Tryz.prog 183 u21_33 (rCE (.t 85) u21_34 u21_35 [0,1,2,22,85]):=⟨mkCE⟩
instance i21_32:WR Tryz.prog 183 u21_32 (rS u21_32r u21_33 [0,1,2,22]):=⟨mkS⟩
instance i21_30:WR Tryz.prog 183 u21_30 (rCE (.t 76) u21_31 u21_32 [0,1,2,22,76]):=⟨mkCE⟩
instance i21_29:WR Tryz.prog 183 u21_29 (rS u21_29r u21_30 [0,1,2,22]):=⟨mkS⟩
instance i21_27:WR Tryz.prog 183 u21_27 (rCE (.t 70) u21_28 u21_29 [0,1,2,22,70]):=⟨mkCE⟩
instance i21_26:WR Tryz.prog 183 u21_26 (rS u21_26r u21_27 [0,1,2,22]):=⟨mkS⟩
instance i21_24:WR Tryz.prog 183 u21_24 (rCE (.t 61) u21_25 u21_26 [0,1,2,22,61]):=⟨mkCE⟩
instance i21_23:WR Tryz.prog 183 u21_23 (rS u21_23r u21_24 [0,1,2,22]):=⟨mkS⟩
instance i21_20:WR Tryz.prog 183 u21_20 (rCE (.t 48) u21_21 u21_23 [0,1,2,22,48]):=⟨mkCE⟩
instance i21_19:WR Tryz.prog 183 u21_19 (rS u21_19r u21_20 [0,1,2,22]):=⟨mkS⟩
instance i21_17:WR Tryz.prog 183 u21_17 (rCE (.t 39) u21_18 u21_19 [0,1,2,22,39]):=⟨mkCE⟩
instance i21_16:WR Tryz.prog 183 u21_16 (rS u21_16r u21_17 [0,1,2,22]):=⟨mkS⟩
instance i21_14:WR Tryz.prog 183 u21_14 (rCE (.t 30) u21_15 u21_16 [0,1,2,22,30]):=⟨mkCE⟩
instance i21_13:WR Tryz.prog 183 u21_13 (rS u21_13r u21_14 [0,1,2,22]):=⟨mkS⟩
instance i21_11:WR Tryz.prog 183 u21_11 (rCE (.t 23) u21_12 u21_13 [0,1,2,22,23]):=⟨mkCE⟩
instance i21_10:WR Tryz.prog 183 u21_10 (rS u21_10r u21_11 [0,1,2,22]):=⟨mkS⟩
instance i21_9:WR Tryz.prog 183 u21_9 (rBE 0 u21_10 [0,1,2,22]):=⟨mkBE⟩
instance i21_8:WR Tryz.prog 183 u21_8 (rS u21_8r u21_9 [0,1,2,7]):=⟨mkS⟩
instance i21_58:WR Tryz.prog 183 u21_58 (rS u21_58r .ret [0]):=⟨mkS⟩
instance i21_7:WR Tryz.prog 183 u21_7 (rQ u21_8 u21_58 [0,1,2,7]):=⟨mkQ⟩
instance i21_3:WR Tryz.prog 183 u21_3 (rQ u21_4 u21_7 [0,1,2,7]):=⟨mkQ⟩
instance i21_2:WR Tryz.prog 183 u21_2 (rS u21_2r u21_3 [0,1,2]):=⟨mkS⟩
instance i21_1:WR Tryz.prog 183 u21_1 (rS u21_1r u21_2 [0,1,2]):=⟨mkS⟩
attribute [go_sem] u21_6r u21_4r u21_12r u21_15r u21_18r u21_22r u21_21r u21_25r u21_28r u21_31r u21_34r u21_37r u21_40r u21_43r u21_48r u21_47r u21_46r u21_52r u21_50r u21_57r u21_56r u21_55r u21_54r u21_44r u21_41r u21_38r u21_35r u21_32r u21_29r u21_26r u21_23r u21_19r u21_16r u21_13r u21_10r u21_8r u21_58r u21_2r u21_1r
theorem c_stmt (l:List UInt8) (hl:l.length≤100000):∀ (d:Nat),d≤2→∀ (base p:Nat),base+10 * d≤100000→p≤l.length→∀ (H:Hp) (cc t:Nat),H t=some (tapeB l p)→t<cc →
  AC Tryz.prog 21 [.ptr t 0,I64 (base:Int),I64 (d:Int)] H cc (fun v H' c' => ∃ id,cc≤id∧id<c'∧v=.slc id 0 (stmtM l d base p).1.length∧H'=(H.upd t (tapeB l (stmtM l d base p).2)).upd id ⟨2,true,insC (stmtM l d base p).1⟩):=by
 intro d
 induction d with
 | zero =>
  intro hd2 base p hbase hp H cc t ht htc
  refine AC.body mixedU isU21 (Nat.le_of_ble_eq_true rfl) fun hfr=>?_
  show IW Tryz.prog 183 u21_1 ⟨argT _,_,_⟩ (rt [.tmp 6] _)
  repeat' ((first|with_reducible refine wr ?_|((with_reducible refine wb2 ?_ ?_)<;>(intro hb;try simp only [hb]))|fail)<;>try simp only [go_sem,seval])
  refine AC.call (c_next l hl p hp 15 (by omega) (by omega) H cc t ht htc) ?_
  rintro v H' c1 ⟨rfl,rfl⟩ hcc
  have hp1:=nextM_le (n:=15) hp
  have hk:=nextM_lt (l:=l) (p:=p) (n:=15) (by omega)
  have hdl:decide (((0:Nat):Int)≤0)=true:=rfl
  obtain ⟨k0,p1,e0⟩:∃ k0 p1,nextM l p 15=(k0,p1):=⟨_,_,rfl⟩
  rw [e0] at hp1 hk ⊢
  simp only at hp1 hk
  have hv:k0=1∨k0=2∨k0=3∨k0=4∨k0=5∨k0=6∨k0=7∨k0=8∨k0=9∨k0=10∨k0=11∨k0=0∨k0=12∨k0=13∨k0=14:=by omega
  rcases hv with rfl|rfl|rfl|rfl|rfl|rfl|rfl|rfl|rfl|rfl|rfl|rfl|rfl|rfl|rfl
  ·have nk:((1:Nat):Int)=1:=rfl
   simp only [go_sem,seval,hdl,nk,Int.reduceGT,Int.reduceBEq,Int.reduceLE,decide_true,decide_false]
   repeat' ((first|with_reducible refine wr ?_|((with_reducible refine wb2 ?_ ?_)<;>(intro hb;try simp only [hb]))|fail)<;>try simp only [go_sem,seval,hdl,nk,Int.reduceGT,Int.reduceBEq,Int.reduceLE,decide_true,decide_false])
   refine AC.call (c_value l hl 1 (by omega) (p1) hp1 _ _ t (by repeat (first|exact h_same|rw [h_ne (by omega)]|rw [h_dne (by omega)])) (by omega)) ?_
   rintro v H' c2 ⟨id1,ia1,ib1,rfl,rfl⟩ hcc2
   have hb1:=valueM_l1 l (p1)
   have hp2:=valueM_le l 1 (p1) hp1
   have ne0:¬t=id1∧¬t=c2∧¬t=c2+1∧¬id1=t∧¬id1=c2∧¬id1=c2+1∧¬c2=t∧¬c2=id1∧¬c2=c2+1∧¬c2+1=t∧¬c2+1=id1∧¬c2+1=c2:=by and_intros<;>omega
   simp only [go_sem,seval,ne0]
   repeat' ((first|with_reducible refine wr ?_|((with_reducible refine wb2 ?_ ?_)<;>(intro hb;try simp only [hb]))|((with_reducible refine k_eval (b_appx (insC_len2 _) (by omega) (by omega)) ?_))|fail)<;>try simp only [go_sem,seval,ne0])
   have es:stmtM l 0 base p=stK l (fun _ p=>([],p)) base 1 p1:=by simp only [stmtM];rw [e0];try rfl
   rw [es]
   refine v_end (id:=c2+1) hfr (by omega) (by omega) htc (by first|rfl|simp only [stK,List.length_append,List.length_singleton]) ?_ ?_ fun j h1 h2=>?_
   ·repeat (first|exact h_same|rw [h_ne (by omega)]|rw [h_dne (by omega)])
   ·rw [h_same];simp only [stK,insC_app,insC_one]
   ·repeat (first|rfl|rw [h_ne (by omega)]|rw [h_dne (by omega)])
  ·have nk:((2:Nat):Int)=2:=rfl
   simp only [go_sem,seval,hdl,nk,Int.reduceGT,Int.reduceBEq,Int.reduceLE,decide_true,decide_false]
   repeat' ((first|with_reducible refine wr ?_|((with_reducible refine wb2 ?_ ?_)<;>(intro hb;try simp only [hb]))|fail)<;>try simp only [go_sem,seval,hdl,nk,Int.reduceGT,Int.reduceBEq,Int.reduceLE,decide_true,decide_false])
   refine AC.call (c_next l hl (p1) hp1 3 (by omega) (by omega) _ _ t (by repeat (first|exact h_same|rw [h_ne (by omega)]|rw [h_dne (by omega)])) (by omega)) ?_
   rintro v H' c2 ⟨rfl,rfl⟩ hcc2
   have hq2:=nextM_lt (l:=l) (p:=p1) (n:=3) (by omega)
   have hp2:=nextM_le (l:=l) (p:=p1) (n:=3) hp1
   have hadd:=w64 (n:=16+((nextM l p1 3).1:Int)) (by omega) (by omega)
   have ne0:¬t=c2∧¬t=c2+1∧¬c2=t∧¬c2=c2+1∧¬c2+1=t∧¬c2+1=c2:=by and_intros<;>omega
   simp only [go_sem,seval,hadd,ne0]
   repeat' ((first|with_reducible refine wr ?_|((with_reducible refine wb2 ?_ ?_)<;>(intro hb;try simp only [hb]))|((with_reducible refine k_eval (b_appx (insC_len2 _) (by omega) (by omega)) ?_))|fail)<;>try simp only [go_sem,seval,hadd,ne0])
   refine AC.call (c_next l hl ((nextM l p1 3).2) hp2 32 (by omega) (by omega) _ _ t (by repeat (first|exact h_same|rw [h_ne (by omega)]|rw [h_dne (by omega)])) (by omega)) ?_
   rintro v H' c3 ⟨rfl,rfl⟩ hcc3
   have hq3:=nextM_lt (l:=l) (p:=(nextM l p1 3).2) (n:=32) (by omega)
   have hp3:=nextM_le (l:=l) (p:=(nextM l p1 3).2) (n:=32) hp2
   have ne0:¬t=c3∧¬t=c3+1∧¬c3=t∧¬c3=c3+1∧¬c3+1=t∧¬c3+1=c3:=by and_intros<;>omega
   simp only [go_sem,seval,hadd,ne0]
   repeat' ((first|with_reducible refine wr ?_|((with_reducible refine wb2 ?_ ?_)<;>(intro hb;try simp only [hb]))|((with_reducible refine k_eval (b_appx (insC_len2 _) (by omega) (by omega)) ?_))|fail)<;>try simp only [go_sem,seval,hadd,ne0])
   have es:stmtM l 0 base p=stK l (fun _ p=>([],p)) base 2 p1:=by simp only [stmtM];rw [e0];try rfl
   rw [es]
   refine v_end (id:=c3) hfr (by omega) (by omega) htc (by first|rfl|simp only [stK,List.length_append,List.length_singleton]) ?_ ?_ fun j h1 h2=>?_
   ·repeat (first|exact h_same|rw [h_ne (by omega)]|rw [h_dne (by omega)])
   ·rw [h_same];simp only [stK,insC_app,insC_one]
   ·repeat (first|rfl|rw [h_ne (by omega)]|rw [h_dne (by omega)])
  ·have nk:((3:Nat):Int)=3:=rfl
   simp only [go_sem,seval,hdl,nk,Int.reduceGT,Int.reduceBEq,Int.reduceLE,decide_true,decide_false]
   repeat' ((first|with_reducible refine wr ?_|((with_reducible refine wb2 ?_ ?_)<;>(intro hb;try simp only [hb]))|fail)<;>try simp only [go_sem,seval,hdl,nk,Int.reduceGT,Int.reduceBEq,Int.reduceLE,decide_true,decide_false])
   refine AC.call (c_value l hl 0 (by omega) (p1) hp1 _ _ t (by repeat (first|exact h_same|rw [h_ne (by omega)]|rw [h_dne (by omega)])) (by omega)) ?_
   rintro v H' c2 ⟨id1,ia1,ib1,rfl,rfl⟩ hcc2
   have hb1:=valueM_l0 l (p1)
   have hp2:=valueM_le l 0 (p1) hp1
   have ne0:¬t=id1∧¬t=c2∧¬t=c2+1∧¬id1=t∧¬id1=c2∧¬id1=c2+1∧¬c2=t∧¬c2=id1∧¬c2=c2+1∧¬c2+1=t∧¬c2+1=id1∧¬c2+1=c2:=by and_intros<;>omega
   simp only [go_sem,seval,ne0]
   repeat' ((first|with_reducible refine wr ?_|((with_reducible refine wb2 ?_ ?_)<;>(intro hb;try simp only [hb]))|((with_reducible refine k_eval (b_appx (insC_len2 _) (by omega) (by omega)) ?_))|fail)<;>try simp only [go_sem,seval,ne0])
   refine AC.call (c_next l hl ((valueM l 0 p1).2) hp2 64 (by omega) (by omega) _ _ t (by repeat (first|exact h_same|rw [h_ne (by omega)]|rw [h_dne (by omega)])) (by omega)) ?_
   rintro v H' c3 ⟨rfl,rfl⟩ hcc3
   have hq3:=nextM_lt (l:=l) (p:=(valueM l 0 p1).2) (n:=64) (by omega)
   have hp3:=nextM_le (l:=l) (p:=(valueM l 0 p1).2) (n:=64) hp2
   have ne0:¬t=id1∧¬t=c3∧¬t=c3+1∧¬id1=t∧¬id1=c3∧¬id1=c3+1∧¬c3=t∧¬c3=id1∧¬c3=c3+1∧¬c3+1=t∧¬c3+1=id1∧¬c3+1=c3:=by and_intros<;>omega
   simp only [go_sem,seval,ne0]
   repeat' ((first|with_reducible refine wr ?_|((with_reducible refine wb2 ?_ ?_)<;>(intro hb;try simp only [hb]))|((with_reducible refine k_eval (b_appx (insC_len2 _) (by omega) (by omega)) ?_))|fail)<;>try simp only [go_sem,seval,ne0])
   have es:stmtM l 0 base p=stK l (fun _ p=>([],p)) base 3 p1:=by simp only [stmtM];rw [e0];try rfl
   rw [es]
   refine v_end (id:=c3+1) hfr (by omega) (by omega) htc (by first|rfl|simp only [stK,List.length_append,List.length_singleton]) ?_ ?_ fun j h1 h2=>?_
   ·repeat (first|exact h_same|rw [h_ne (by omega)]|rw [h_dne (by omega)])
   ·rw [h_same];simp only [stK,insC_app,insC_one]
   ·repeat (first|rfl|rw [h_ne (by omega)]|rw [h_dne (by omega)])
  ·have nk:((4:Nat):Int)=4:=rfl
   simp only [go_sem,seval,hdl,nk,Int.reduceGT,Int.reduceBEq,Int.reduceLE,decide_true,decide_false]
   repeat' ((first|with_reducible refine wr ?_|((with_reducible refine wb2 ?_ ?_)<;>(intro hb;try simp only [hb]))|fail)<;>try simp only [go_sem,seval,hdl,nk,Int.reduceGT,Int.reduceBEq,Int.reduceLE,decide_true,decide_false])
   refine AC.call (c_value l hl 0 (by omega) (p1) hp1 _ _ t (by repeat (first|exact h_same|rw [h_ne (by omega)]|rw [h_dne (by omega)])) (by omega)) ?_
   rintro v H' c2 ⟨id1,ia1,ib1,rfl,rfl⟩ hcc2
   have hb1:=valueM_l0 l (p1)
   have hp2:=valueM_le l 0 (p1) hp1
   have ne0:¬t=id1∧¬t=c2∧¬t=c2+1∧¬id1=t∧¬id1=c2∧¬id1=c2+1∧¬c2=t∧¬c2=id1∧¬c2=c2+1∧¬c2+1=t∧¬c2+1=id1∧¬c2+1=c2:=by and_intros<;>omega
   simp only [go_sem,seval,ne0]
   repeat' ((first|with_reducible refine wr ?_|((with_reducible refine wb2 ?_ ?_)<;>(intro hb;try simp only [hb]))|((with_reducible refine k_eval (b_appx (insC_len2 _) (by omega) (by omega)) ?_))|fail)<;>try simp only [go_sem,seval,ne0])
   refine AC.call (c_value l hl 0 (by omega) ((valueM l 0 p1).2) hp2 _ _ t (by repeat (first|exact h_same|rw [h_ne (by omega)]|rw [h_dne (by omega)])) (by omega)) ?_
   rintro v H' c3 ⟨id2,ia2,ib2,rfl,rfl⟩ hcc3
   have hb2:=valueM_l0 l ((valueM l 0 p1).2)
   have hp3:=valueM_le l 0 ((valueM l 0 p1).2) hp2
   have hl2:=insC_len2 (valueM l 0 ((valueM l 0 p1).2)).1
   have hle2:(valueM l 0 ((valueM l 0 p1).2)).1.length * 2≤(insC (valueM l 0 ((valueM l 0 p1).2)).1).length:=by omega
   have htk:=List.take_of_length_le (l:=insC (valueM l 0 ((valueM l 0 p1).2)).1) (i:=(valueM l 0 ((valueM l 0 p1).2)).1.length * 2) (by omega)
   have ne0:¬t=id1∧¬t=id2∧¬t=c3∧¬t=c3+1∧¬id1=t∧¬id1=id2∧¬id1=c3∧¬id1=c3+1∧¬id2=t∧¬id2=id1∧¬id2=c3∧¬id2=c3+1∧¬c3=t∧¬c3=id1∧¬c3=id2∧¬c3=c3+1∧¬c3+1=t∧¬c3+1=id1∧¬c3+1=id2∧¬c3+1=c3:=by and_intros<;>omega
   simp only [go_sem,seval,hle2,htk,ne0]
   repeat' ((first|with_reducible refine wr ?_|((with_reducible refine wb2 ?_ ?_)<;>(intro hb;try simp only [hb]))|((with_reducible refine k_eval (b_appx (insC_len2 _) (by omega) (by omega)) ?_))|fail)<;>try simp only [go_sem,seval,hle2,htk,ne0])
   refine AC.call (c_next l hl ((valueM l 0 ((valueM l 0 p1).2)).2) hp3 64 (by omega) (by omega) _ _ t (by repeat (first|exact h_same|rw [h_ne (by omega)]|rw [h_dne (by omega)])) (by omega)) ?_
   rintro v H' c4 ⟨rfl,rfl⟩ hcc4
   have hq4:=nextM_lt (l:=l) (p:=(valueM l 0 ((valueM l 0 p1).2)).2) (n:=64) (by omega)
   have hp4:=nextM_le (l:=l) (p:=(valueM l 0 ((valueM l 0 p1).2)).2) (n:=64) hp3
   have hl3:=insL2 (valueM l 0 p1).1 (valueM l 0 ((valueM l 0 p1).2)).1
   have ne0:¬t=c3∧¬t=c4∧¬t=c4+1∧¬c3=t∧¬c3=c4∧¬c3=c4+1∧¬c4=t∧¬c4=c3∧¬c4=c4+1∧¬c4+1=t∧¬c4+1=c3∧¬c4+1=c4:=by and_intros<;>omega
   simp only [go_sem,seval,ne0]
   repeat' ((first|with_reducible refine wr ?_|((with_reducible refine wb2 ?_ ?_)<;>(intro hb;try simp only [hb]))|((with_reducible refine k_eval (b_appx (insC_len2 _) (by omega) (by omega)) ?_))|((with_reducible refine k_eval (b_appx hl3 (by omega) (by omega)) ?_))|fail)<;>try simp only [go_sem,seval,ne0])
   have es:stmtM l 0 base p=stK l (fun _ p=>([],p)) base 4 p1:=by simp only [stmtM];rw [e0];try rfl
   rw [es]
   refine v_end (id:=c4+1) hfr (by omega) (by omega) htc (by first|rfl|simp only [stK,List.length_append,List.length_singleton]) ?_ ?_ fun j h1 h2=>?_
   ·repeat (first|exact h_same|rw [h_ne (by omega)]|rw [h_dne (by omega)])
   ·rw [h_same];simp only [stK,insC_app,insC_one]
   ·repeat (first|rfl|rw [h_ne (by omega)]|rw [h_dne (by omega)])
  ·have nk:((5:Nat):Int)=5:=rfl
   simp only [go_sem,seval,hdl,nk,Int.reduceGT,Int.reduceBEq,Int.reduceLE,decide_true,decide_false]
   repeat' ((first|with_reducible refine wr ?_|((with_reducible refine wb2 ?_ ?_)<;>(intro hb;try simp only [hb]))|fail)<;>try simp only [go_sem,seval,hdl,nk,Int.reduceGT,Int.reduceBEq,Int.reduceLE,decide_true,decide_false])
   refine AC.call (c_value l hl 1 (by omega) (p1) hp1 _ _ t (by repeat (first|exact h_same|rw [h_ne (by omega)]|rw [h_dne (by omega)])) (by omega)) ?_
   rintro v H' c2 ⟨id1,ia1,ib1,rfl,rfl⟩ hcc2
   have hb1:=valueM_l1 l (p1)
   have hp2:=valueM_le l 1 (p1) hp1
   have ne0:¬t=id1∧¬t=c2∧¬t=c2+1∧¬id1=t∧¬id1=c2∧¬id1=c2+1∧¬c2=t∧¬c2=id1∧¬c2=c2+1∧¬c2+1=t∧¬c2+1=id1∧¬c2+1=c2:=by and_intros<;>omega
   simp only [go_sem,seval,ne0]
   repeat' ((first|with_reducible refine wr ?_|((with_reducible refine wb2 ?_ ?_)<;>(intro hb;try simp only [hb]))|((with_reducible refine k_eval (b_appx (insC_len2 _) (by omega) (by omega)) ?_))|fail)<;>try simp only [go_sem,seval,ne0])
   refine AC.call (c_next l hl ((valueM l 1 p1).2) hp2 2 (by omega) (by omega) _ _ t (by repeat (first|exact h_same|rw [h_ne (by omega)]|rw [h_dne (by omega)])) (by omega)) ?_
   rintro v H' c3 ⟨rfl,rfl⟩ hcc3
   have hq3:=nextM_lt (l:=l) (p:=(valueM l 1 p1).2) (n:=2) (by omega)
   have hp3:=nextM_le (l:=l) (p:=(valueM l 1 p1).2) (n:=2) hp2
   have ne0:¬t=id1∧¬t=c3∧¬t=c3+1∧¬id1=t∧¬id1=c3∧¬id1=c3+1∧¬c3=t∧¬c3=id1∧¬c3=c3+1∧¬c3+1=t∧¬c3+1=id1∧¬c3+1=c3:=by and_intros<;>omega
   simp only [go_sem,seval,ne0]
   repeat' ((first|with_reducible refine wr ?_|((with_reducible refine wb2 ?_ ?_)<;>(intro hb;try simp only [hb]))|((with_reducible refine k_eval (b_appx (insC_len2 _) (by omega) (by omega)) ?_))|fail)<;>try simp only [go_sem,seval,ne0])
   have es:stmtM l 0 base p=stK l (fun _ p=>([],p)) base 5 p1:=by simp only [stmtM];rw [e0];try rfl
   rw [es]
   refine v_end (id:=c3+1) hfr (by omega) (by omega) htc (by first|rfl|simp only [stK,List.length_append,List.length_singleton]) ?_ ?_ fun j h1 h2=>?_
   ·repeat (first|exact h_same|rw [h_ne (by omega)]|rw [h_dne (by omega)])
   ·rw [h_same];simp only [stK,insC_app,insC_one]
   ·repeat (first|rfl|rw [h_ne (by omega)]|rw [h_dne (by omega)])
  ·have nk:((6:Nat):Int)=6:=rfl
   simp only [go_sem,seval,hdl,nk,Int.reduceGT,Int.reduceBEq,Int.reduceLE,decide_true,decide_false]
   repeat' ((first|with_reducible refine wr ?_|((with_reducible refine wb2 ?_ ?_)<;>(intro hb;try simp only [hb]))|fail)<;>try simp only [go_sem,seval,hdl,nk,Int.reduceGT,Int.reduceBEq,Int.reduceLE,decide_true,decide_false])
   refine AC.call (c_next l hl (p1) hp1 2 (by omega) (by omega) _ _ t (by repeat (first|exact h_same|rw [h_ne (by omega)]|rw [h_dne (by omega)])) (by omega)) ?_
   rintro v H' c2 ⟨rfl,rfl⟩ hcc2
   have hq2:=nextM_lt (l:=l) (p:=p1) (n:=2) (by omega)
   have hp2:=nextM_le (l:=l) (p:=p1) (n:=2) hp1
   have ne0:¬t=c2∧¬t=c2+1∧¬c2=t∧¬c2=c2+1∧¬c2+1=t∧¬c2+1=c2:=by and_intros<;>omega
   simp only [go_sem,seval,ne0]
   repeat' ((first|with_reducible refine wr ?_|((with_reducible refine wb2 ?_ ?_)<;>(intro hb;try simp only [hb]))|((with_reducible refine k_eval (b_appx (insC_len2 _) (by omega) (by omega)) ?_))|fail)<;>try simp only [go_sem,seval,ne0])
   have es:stmtM l 0 base p=stK l (fun _ p=>([],p)) base 6 p1:=by simp only [stmtM];rw [e0];try rfl
   rw [es]
   refine v_end (id:=c2) hfr (by omega) (by omega) htc (by first|rfl|simp only [stK,List.length_append,List.length_singleton]) ?_ ?_ fun j h1 h2=>?_
   ·repeat (first|exact h_same|rw [h_ne (by omega)]|rw [h_dne (by omega)])
   ·rw [h_same];simp only [stK,insC_app,insC_one]
   ·repeat (first|rfl|rw [h_ne (by omega)]|rw [h_dne (by omega)])
  ·have nk:((7:Nat):Int)=7:=rfl
   simp only [go_sem,seval,hdl,nk,Int.reduceGT,Int.reduceBEq,Int.reduceLE,decide_true,decide_false]
   repeat' ((first|with_reducible refine wr ?_|((with_reducible refine wb2 ?_ ?_)<;>(intro hb;try simp only [hb]))|fail)<;>try simp only [go_sem,seval,hdl,nk,Int.reduceGT,Int.reduceBEq,Int.reduceLE,decide_true,decide_false])
   refine AC.call (c_next l hl (p1) hp1 2 (by omega) (by omega) _ _ t (by repeat (first|exact h_same|rw [h_ne (by omega)]|rw [h_dne (by omega)])) (by omega)) ?_
   rintro v H' c2 ⟨rfl,rfl⟩ hcc2
   have hq2:=nextM_lt (l:=l) (p:=p1) (n:=2) (by omega)
   have hp2:=nextM_le (l:=l) (p:=p1) (n:=2) hp1
   have hadd:=w64 (n:=23+((nextM l p1 2).1:Int)) (by omega) (by omega)
   have ne0:¬t=c2∧¬t=c2+1∧¬c2=t∧¬c2=c2+1∧¬c2+1=t∧¬c2+1=c2:=by and_intros<;>omega
   simp only [go_sem,seval,hadd,ne0]
   repeat' ((first|with_reducible refine wr ?_|((with_reducible refine wb2 ?_ ?_)<;>(intro hb;try simp only [hb]))|((with_reducible refine k_eval (b_appx (insC_len2 _) (by omega) (by omega)) ?_))|fail)<;>try simp only [go_sem,seval,hadd,ne0])
   refine AC.call (c_next l hl ((nextM l p1 2).2) hp2 2 (by omega) (by omega) _ _ t (by repeat (first|exact h_same|rw [h_ne (by omega)]|rw [h_dne (by omega)])) (by omega)) ?_
   rintro v H' c3 ⟨rfl,rfl⟩ hcc3
   have hq3:=nextM_lt (l:=l) (p:=(nextM l p1 2).2) (n:=2) (by omega)
   have hp3:=nextM_le (l:=l) (p:=(nextM l p1 2).2) (n:=2) hp2
   have ne0:¬t=c3∧¬t=c3+1∧¬c3=t∧¬c3=c3+1∧¬c3+1=t∧¬c3+1=c3:=by and_intros<;>omega
   simp only [go_sem,seval,hadd,ne0]
   repeat' ((first|with_reducible refine wr ?_|((with_reducible refine wb2 ?_ ?_)<;>(intro hb;try simp only [hb]))|((with_reducible refine k_eval (b_appx (insC_len2 _) (by omega) (by omega)) ?_))|fail)<;>try simp only [go_sem,seval,hadd,ne0])
   have es:stmtM l 0 base p=stK l (fun _ p=>([],p)) base 7 p1:=by simp only [stmtM];rw [e0];try rfl
   rw [es]
   refine v_end (id:=c3) hfr (by omega) (by omega) htc (by first|rfl|simp only [stK,List.length_append,List.length_singleton]) ?_ ?_ fun j h1 h2=>?_
   ·repeat (first|exact h_same|rw [h_ne (by omega)]|rw [h_dne (by omega)])
   ·rw [h_same];simp only [stK,insC_app,insC_one]
   ·repeat (first|rfl|rw [h_ne (by omega)]|rw [h_dne (by omega)])
  ·have nk:((8:Nat):Int)=8:=rfl
   simp only [go_sem,seval,hdl,nk,Int.reduceGT,Int.reduceBEq,Int.reduceLE,decide_true,decide_false]
   repeat' ((first|with_reducible refine wr ?_|((with_reducible refine wb2 ?_ ?_)<;>(intro hb;try simp only [hb]))|fail)<;>try simp only [go_sem,seval,hdl,nk,Int.reduceGT,Int.reduceBEq,Int.reduceLE,decide_true,decide_false])
   refine AC.call (c_next l hl (p1) hp1 2 (by omega) (by omega) _ _ t (by repeat (first|exact h_same|rw [h_ne (by omega)]|rw [h_dne (by omega)])) (by omega)) ?_
   rintro v H' c2 ⟨rfl,rfl⟩ hcc2
   have hq2:=nextM_lt (l:=l) (p:=p1) (n:=2) (by omega)
   have hp2:=nextM_le (l:=l) (p:=p1) (n:=2) hp1
   have ne0:¬t=c2∧¬t=c2+1∧¬c2=t∧¬c2=c2+1∧¬c2+1=t∧¬c2+1=c2:=by and_intros<;>omega
   simp only [go_sem,seval,ne0]
   repeat' ((first|with_reducible refine wr ?_|((with_reducible refine wb2 ?_ ?_)<;>(intro hb;try simp only [hb]))|((with_reducible refine k_eval (b_appx (insC_len2 _) (by omega) (by omega)) ?_))|fail)<;>try simp only [go_sem,seval,ne0])
   have es:stmtM l 0 base p=stK l (fun _ p=>([],p)) base 8 p1:=by simp only [stmtM];rw [e0];try rfl
   rw [es]
   refine v_end (id:=c2) hfr (by omega) (by omega) htc (by first|rfl|simp only [stK,List.length_append,List.length_singleton]) ?_ ?_ fun j h1 h2=>?_
   ·repeat (first|exact h_same|rw [h_ne (by omega)]|rw [h_dne (by omega)])
   ·rw [h_same];simp only [stK,insC_app,insC_one]
   ·repeat (first|rfl|rw [h_ne (by omega)]|rw [h_dne (by omega)])
  ·have nk:((9:Nat):Int)=9:=rfl
   simp only [go_sem,seval,hdl,nk,Int.reduceGT,Int.reduceBEq,Int.reduceLE,decide_true,decide_false]
   repeat' ((first|with_reducible refine wr ?_|((with_reducible refine wb2 ?_ ?_)<;>(intro hb;try simp only [hb]))|fail)<;>try simp only [go_sem,seval,hdl,nk,Int.reduceGT,Int.reduceBEq,Int.reduceLE,decide_true,decide_false])
   refine AC.call (c_next l hl (p1) hp1 3 (by omega) (by omega) _ _ t (by repeat (first|exact h_same|rw [h_ne (by omega)]|rw [h_dne (by omega)])) (by omega)) ?_
   rintro v H' c2 ⟨rfl,rfl⟩ hcc2
   have hq2:=nextM_lt (l:=l) (p:=p1) (n:=3) (by omega)
   have hp2:=nextM_le (l:=l) (p:=p1) (n:=3) hp1
   have hadd:=w64 (n:=26+((nextM l p1 3).1:Int)) (by omega) (by omega)
   have ne0:¬t=c2∧¬t=c2+1∧¬c2=t∧¬c2=c2+1∧¬c2+1=t∧¬c2+1=c2:=by and_intros<;>omega
   simp only [go_sem,seval,hadd,ne0]
   repeat' ((first|with_reducible refine wr ?_|((with_reducible refine wb2 ?_ ?_)<;>(intro hb;try simp only [hb]))|((with_reducible refine k_eval (b_appx (insC_len2 _) (by omega) (by omega)) ?_))|fail)<;>try simp only [go_sem,seval,hadd,ne0])
   refine AC.call (c_next l hl ((nextM l p1 3).2) hp2 64 (by omega) (by omega) _ _ t (by repeat (first|exact h_same|rw [h_ne (by omega)]|rw [h_dne (by omega)])) (by omega)) ?_
   rintro v H' c3 ⟨rfl,rfl⟩ hcc3
   have hq3:=nextM_lt (l:=l) (p:=(nextM l p1 3).2) (n:=64) (by omega)
   have hp3:=nextM_le (l:=l) (p:=(nextM l p1 3).2) (n:=64) hp2
   have ne0:¬t=c3∧¬t=c3+1∧¬c3=t∧¬c3=c3+1∧¬c3+1=t∧¬c3+1=c3:=by and_intros<;>omega
   simp only [go_sem,seval,hadd,ne0]
   repeat' ((first|with_reducible refine wr ?_|((with_reducible refine wb2 ?_ ?_)<;>(intro hb;try simp only [hb]))|((with_reducible refine k_eval (b_appx (insC_len2 _) (by omega) (by omega)) ?_))|fail)<;>try simp only [go_sem,seval,hadd,ne0])
   have es:stmtM l 0 base p=stK l (fun _ p=>([],p)) base 9 p1:=by simp only [stmtM];rw [e0];try rfl
   rw [es]
   refine v_end (id:=c3) hfr (by omega) (by omega) htc (by first|rfl|simp only [stK,List.length_append,List.length_singleton]) ?_ ?_ fun j h1 h2=>?_
   ·repeat (first|exact h_same|rw [h_ne (by omega)]|rw [h_dne (by omega)])
   ·rw [h_same];simp only [stK,insC_app,insC_one]
   ·repeat (first|rfl|rw [h_ne (by omega)]|rw [h_dne (by omega)])
  ·have nk:((10:Nat):Int)=10:=rfl
   simp only [go_sem,seval,hdl,nk,Int.reduceGT,Int.reduceBEq,Int.reduceLE,decide_true,decide_false]
   repeat' ((first|with_reducible refine wr ?_|((with_reducible refine wb2 ?_ ?_)<;>(intro hb;try simp only [hb]))|fail)<;>try simp only [go_sem,seval,hdl,nk,Int.reduceGT,Int.reduceBEq,Int.reduceLE,decide_true,decide_false])
   refine AC.call (c_value l hl 1 (by omega) (p1) hp1 _ _ t (by repeat (first|exact h_same|rw [h_ne (by omega)]|rw [h_dne (by omega)])) (by omega)) ?_
   rintro v H' c2 ⟨id1,ia1,ib1,rfl,rfl⟩ hcc2
   have hb1:=valueM_l1 l (p1)
   have hp2:=valueM_le l 1 (p1) hp1
   have ne0:¬t=id1∧¬t=c2∧¬t=c2+1∧¬id1=t∧¬id1=c2∧¬id1=c2+1∧¬c2=t∧¬c2=id1∧¬c2=c2+1∧¬c2+1=t∧¬c2+1=id1∧¬c2+1=c2:=by and_intros<;>omega
   simp only [go_sem,seval,ne0]
   repeat' ((first|with_reducible refine wr ?_|((with_reducible refine wb2 ?_ ?_)<;>(intro hb;try simp only [hb]))|((with_reducible refine k_eval (b_appx (insC_len2 _) (by omega) (by omega)) ?_))|fail)<;>try simp only [go_sem,seval,ne0])
   refine AC.call (c_next l hl ((valueM l 1 p1).2) hp2 2 (by omega) (by omega) _ _ t (by repeat (first|exact h_same|rw [h_ne (by omega)]|rw [h_dne (by omega)])) (by omega)) ?_
   rintro v H' c3 ⟨rfl,rfl⟩ hcc3
   have hq3:=nextM_lt (l:=l) (p:=(valueM l 1 p1).2) (n:=2) (by omega)
   have hp3:=nextM_le (l:=l) (p:=(valueM l 1 p1).2) (n:=2) hp2
   have ne0:¬t=id1∧¬t=c3∧¬t=c3+1∧¬id1=t∧¬id1=c3∧¬id1=c3+1∧¬c3=t∧¬c3=id1∧¬c3=c3+1∧¬c3+1=t∧¬c3+1=id1∧¬c3+1=c3:=by and_intros<;>omega
   simp only [go_sem,seval,ne0]
   repeat' ((first|with_reducible refine wr ?_|((with_reducible refine wb2 ?_ ?_)<;>(intro hb;try simp only [hb]))|((with_reducible refine k_eval (b_appx (insC_len2 _) (by omega) (by omega)) ?_))|fail)<;>try simp only [go_sem,seval,ne0])
   have es:stmtM l 0 base p=stK l (fun _ p=>([],p)) base 10 p1:=by simp only [stmtM];rw [e0];try rfl
   rw [es]
   refine v_end (id:=c3+1) hfr (by omega) (by omega) htc (by first|rfl|simp only [stK,List.length_append,List.length_singleton]) ?_ ?_ fun j h1 h2=>?_
   ·repeat (first|exact h_same|rw [h_ne (by omega)]|rw [h_dne (by omega)])
   ·rw [h_same];simp only [stK,insC_app,insC_one]
   ·repeat (first|rfl|rw [h_ne (by omega)]|rw [h_dne (by omega)])
  ·have nk:((11:Nat):Int)=11:=rfl
   simp only [go_sem,seval,hdl,nk,Int.reduceGT,Int.reduceBEq,Int.reduceLE,decide_true,decide_false]
   repeat' ((first|with_reducible refine wr ?_|((with_reducible refine wb2 ?_ ?_)<;>(intro hb;try simp only [hb]))|fail)<;>try simp only [go_sem,seval,hdl,nk,Int.reduceGT,Int.reduceBEq,Int.reduceLE,decide_true,decide_false])
   have es:stmtM l 0 base p=stK l (fun _ p=>([],p)) base 11 p1:=by simp only [stmtM];rw [e0];try rfl
   rw [es]
   refine v_end (id:=c1) hfr (by omega) (by omega) htc (by first|rfl|simp only [stK,List.length_append,List.length_singleton]) ?_ ?_ fun j h1 h2=>?_
   ·repeat (first|exact h_same|rw [h_ne (by omega)]|rw [h_dne (by omega)])
   ·rw [h_same];simp only [stK,insC_app,insC_one]
   ·repeat (first|rfl|rw [h_ne (by omega)]|rw [h_dne (by omega)])
  ·have nk:((0:Nat):Int)=0:=rfl
   simp only [go_sem,seval,hdl,nk,Int.reduceGT,Int.reduceBEq,Int.reduceLE,decide_true,decide_false]
   repeat' ((first|with_reducible refine wr ?_|((with_reducible refine wb2 ?_ ?_)<;>(intro hb;try simp only [hb]))|fail)<;>try simp only [go_sem,seval,hdl,nk,Int.reduceGT,Int.reduceBEq,Int.reduceLE,decide_true,decide_false])
   refine AC.call (c_value l hl 2 (by omega) (p1) hp1 _ _ t (by repeat (first|exact h_same|rw [h_ne (by omega)]|rw [h_dne (by omega)])) (by omega)) ?_
   rintro v H' c2 ⟨id1,ia1,ib1,rfl,rfl⟩ hcc2
   have hb1:=valueM_l2 l (p1)
   have hp2:=valueM_le l 2 (p1) hp1
   have ne0:¬t=id1∧¬t=c2∧¬t=c2+1∧¬id1=t∧¬id1=c2∧¬id1=c2+1∧¬c2=t∧¬c2=id1∧¬c2=c2+1∧¬c2+1=t∧¬c2+1=id1∧¬c2+1=c2:=by and_intros<;>omega
   simp only [go_sem,seval,ne0]
   repeat' ((first|with_reducible refine wr ?_|((with_reducible refine wb2 ?_ ?_)<;>(intro hb;try simp only [hb]))|((with_reducible refine k_eval (b_appx (insC_len2 _) (by omega) (by omega)) ?_))|fail)<;>try simp only [go_sem,seval,ne0])
   refine AC.call (c_next l hl ((valueM l 2 p1).2) hp2 3 (by omega) (by omega) _ _ t (by repeat (first|exact h_same|rw [h_ne (by omega)]|rw [h_dne (by omega)])) (by omega)) ?_
   rintro v H' c3 ⟨rfl,rfl⟩ hcc3
   have hq3:=nextM_lt (l:=l) (p:=(valueM l 2 p1).2) (n:=3) (by omega)
   have hp3:=nextM_le (l:=l) (p:=(valueM l 2 p1).2) (n:=3) hp2
   have ne0:¬t=id1∧¬t=c3∧¬t=c3+1∧¬id1=t∧¬id1=c3∧¬id1=c3+1∧¬c3=t∧¬c3=id1∧¬c3=c3+1∧¬c3+1=t∧¬c3+1=id1∧¬c3+1=c3:=by and_intros<;>omega
   simp only [go_sem,seval,ne0]
   repeat' ((first|with_reducible refine wr ?_|((with_reducible refine wb2 ?_ ?_)<;>(intro hb;try simp only [hb]))|((with_reducible refine k_eval (b_appx (insC_len2 _) (by omega) (by omega)) ?_))|fail)<;>try simp only [go_sem,seval,ne0])
   have es:stmtM l 0 base p=stK l (fun _ p=>([],p)) base 0 p1:=by simp only [stmtM];rw [e0];try rfl
   rw [es]
   refine v_end (id:=c3+1) hfr (by omega) (by omega) htc (by first|rfl|simp only [stK,List.length_append,List.length_singleton]) ?_ ?_ fun j h1 h2=>?_
   ·repeat (first|exact h_same|rw [h_ne (by omega)]|rw [h_dne (by omega)])
   ·rw [h_same];simp only [stK,insC_app,insC_one]
   ·repeat (first|rfl|rw [h_ne (by omega)]|rw [h_dne (by omega)])
  ·have nk:((12:Nat):Int)=12:=rfl
   simp only [go_sem,seval,hdl,nk,Int.reduceGT,Int.reduceBEq,Int.reduceLE,decide_true,decide_false]
   repeat' ((first|with_reducible refine wr ?_|((with_reducible refine wb2 ?_ ?_)<;>(intro hb;try simp only [hb]))|fail)<;>try simp only [go_sem,seval,hdl,nk,Int.reduceGT,Int.reduceBEq,Int.reduceLE,decide_true,decide_false])
   refine AC.call (c_value l hl 2 (by omega) (p1) hp1 _ _ t (by repeat (first|exact h_same|rw [h_ne (by omega)]|rw [h_dne (by omega)])) (by omega)) ?_
   rintro v H' c2 ⟨id1,ia1,ib1,rfl,rfl⟩ hcc2
   have hb1:=valueM_l2 l (p1)
   have hp2:=valueM_le l 2 (p1) hp1
   have ne0:¬t=id1∧¬t=c2∧¬t=c2+1∧¬id1=t∧¬id1=c2∧¬id1=c2+1∧¬c2=t∧¬c2=id1∧¬c2=c2+1∧¬c2+1=t∧¬c2+1=id1∧¬c2+1=c2:=by and_intros<;>omega
   simp only [go_sem,seval,ne0]
   repeat' ((first|with_reducible refine wr ?_|((with_reducible refine wb2 ?_ ?_)<;>(intro hb;try simp only [hb]))|((with_reducible refine k_eval (b_appx (insC_len2 _) (by omega) (by omega)) ?_))|fail)<;>try simp only [go_sem,seval,ne0])
   refine AC.call (c_next l hl ((valueM l 2 p1).2) hp2 3 (by omega) (by omega) _ _ t (by repeat (first|exact h_same|rw [h_ne (by omega)]|rw [h_dne (by omega)])) (by omega)) ?_
   rintro v H' c3 ⟨rfl,rfl⟩ hcc3
   have hq3:=nextM_lt (l:=l) (p:=(valueM l 2 p1).2) (n:=3) (by omega)
   have hp3:=nextM_le (l:=l) (p:=(valueM l 2 p1).2) (n:=3) hp2
   have ne0:¬t=id1∧¬t=c3∧¬t=c3+1∧¬id1=t∧¬id1=c3∧¬id1=c3+1∧¬c3=t∧¬c3=id1∧¬c3=c3+1∧¬c3+1=t∧¬c3+1=id1∧¬c3+1=c3:=by and_intros<;>omega
   simp only [go_sem,seval,ne0]
   repeat' ((first|with_reducible refine wr ?_|((with_reducible refine wb2 ?_ ?_)<;>(intro hb;try simp only [hb]))|((with_reducible refine k_eval (b_appx (insC_len2 _) (by omega) (by omega)) ?_))|fail)<;>try simp only [go_sem,seval,ne0])
   have es:stmtM l 0 base p=stK l (fun _ p=>([],p)) base 0 p1:=by simp only [stmtM];rw [e0];try rfl
   rw [es]
   refine v_end (id:=c3+1) hfr (by omega) (by omega) htc (by first|rfl|simp only [stK,List.length_append,List.length_singleton]) ?_ ?_ fun j h1 h2=>?_
   ·repeat (first|exact h_same|rw [h_ne (by omega)]|rw [h_dne (by omega)])
   ·rw [h_same];simp only [stK,insC_app,insC_one]
   ·repeat (first|rfl|rw [h_ne (by omega)]|rw [h_dne (by omega)])
  ·have nk:((13:Nat):Int)=13:=rfl
   simp only [go_sem,seval,hdl,nk,Int.reduceGT,Int.reduceBEq,Int.reduceLE,decide_true,decide_false]
   repeat' ((first|with_reducible refine wr ?_|((with_reducible refine wb2 ?_ ?_)<;>(intro hb;try simp only [hb]))|fail)<;>try simp only [go_sem,seval,hdl,nk,Int.reduceGT,Int.reduceBEq,Int.reduceLE,decide_true,decide_false])
   refine AC.call (c_value l hl 2 (by omega) (p1) hp1 _ _ t (by repeat (first|exact h_same|rw [h_ne (by omega)]|rw [h_dne (by omega)])) (by omega)) ?_
   rintro v H' c2 ⟨id1,ia1,ib1,rfl,rfl⟩ hcc2
   have hb1:=valueM_l2 l (p1)
   have hp2:=valueM_le l 2 (p1) hp1
   have ne0:¬t=id1∧¬t=c2∧¬t=c2+1∧¬id1=t∧¬id1=c2∧¬id1=c2+1∧¬c2=t∧¬c2=id1∧¬c2=c2+1∧¬c2+1=t∧¬c2+1=id1∧¬c2+1=c2:=by and_intros<;>omega
   simp only [go_sem,seval,ne0]
   repeat' ((first|with_reducible refine wr ?_|((with_reducible refine wb2 ?_ ?_)<;>(intro hb;try simp only [hb]))|((with_reducible refine k_eval (b_appx (insC_len2 _) (by omega) (by omega)) ?_))|fail)<;>try simp only [go_sem,seval,ne0])
   refine AC.call (c_next l hl ((valueM l 2 p1).2) hp2 3 (by omega) (by omega) _ _ t (by repeat (first|exact h_same|rw [h_ne (by omega)]|rw [h_dne (by omega)])) (by omega)) ?_
   rintro v H' c3 ⟨rfl,rfl⟩ hcc3
   have hq3:=nextM_lt (l:=l) (p:=(valueM l 2 p1).2) (n:=3) (by omega)
   have hp3:=nextM_le (l:=l) (p:=(valueM l 2 p1).2) (n:=3) hp2
   have ne0:¬t=id1∧¬t=c3∧¬t=c3+1∧¬id1=t∧¬id1=c3∧¬id1=c3+1∧¬c3=t∧¬c3=id1∧¬c3=c3+1∧¬c3+1=t∧¬c3+1=id1∧¬c3+1=c3:=by and_intros<;>omega
   simp only [go_sem,seval,ne0]
   repeat' ((first|with_reducible refine wr ?_|((with_reducible refine wb2 ?_ ?_)<;>(intro hb;try simp only [hb]))|((with_reducible refine k_eval (b_appx (insC_len2 _) (by omega) (by omega)) ?_))|fail)<;>try simp only [go_sem,seval,ne0])
   have es:stmtM l 0 base p=stK l (fun _ p=>([],p)) base 0 p1:=by simp only [stmtM];rw [e0];try rfl
   rw [es]
   refine v_end (id:=c3+1) hfr (by omega) (by omega) htc (by first|rfl|simp only [stK,List.length_append,List.length_singleton]) ?_ ?_ fun j h1 h2=>?_
   ·repeat (first|exact h_same|rw [h_ne (by omega)]|rw [h_dne (by omega)])
   ·rw [h_same];simp only [stK,insC_app,insC_one]
   ·repeat (first|rfl|rw [h_ne (by omega)]|rw [h_dne (by omega)])
  ·have nk:((14:Nat):Int)=14:=rfl
   simp only [go_sem,seval,hdl,nk,Int.reduceGT,Int.reduceBEq,Int.reduceLE,decide_true,decide_false]
   repeat' ((first|with_reducible refine wr ?_|((with_reducible refine wb2 ?_ ?_)<;>(intro hb;try simp only [hb]))|fail)<;>try simp only [go_sem,seval,hdl,nk,Int.reduceGT,Int.reduceBEq,Int.reduceLE,decide_true,decide_false])
   refine AC.call (c_value l hl 2 (by omega) (p1) hp1 _ _ t (by repeat (first|exact h_same|rw [h_ne (by omega)]|rw [h_dne (by omega)])) (by omega)) ?_
   rintro v H' c2 ⟨id1,ia1,ib1,rfl,rfl⟩ hcc2
   have hb1:=valueM_l2 l (p1)
   have hp2:=valueM_le l 2 (p1) hp1
   have ne0:¬t=id1∧¬t=c2∧¬t=c2+1∧¬id1=t∧¬id1=c2∧¬id1=c2+1∧¬c2=t∧¬c2=id1∧¬c2=c2+1∧¬c2+1=t∧¬c2+1=id1∧¬c2+1=c2:=by and_intros<;>omega
   simp only [go_sem,seval,ne0]
   repeat' ((first|with_reducible refine wr ?_|((with_reducible refine wb2 ?_ ?_)<;>(intro hb;try simp only [hb]))|((with_reducible refine k_eval (b_appx (insC_len2 _) (by omega) (by omega)) ?_))|fail)<;>try simp only [go_sem,seval,ne0])
   refine AC.call (c_next l hl ((valueM l 2 p1).2) hp2 3 (by omega) (by omega) _ _ t (by repeat (first|exact h_same|rw [h_ne (by omega)]|rw [h_dne (by omega)])) (by omega)) ?_
   rintro v H' c3 ⟨rfl,rfl⟩ hcc3
   have hq3:=nextM_lt (l:=l) (p:=(valueM l 2 p1).2) (n:=3) (by omega)
   have hp3:=nextM_le (l:=l) (p:=(valueM l 2 p1).2) (n:=3) hp2
   have ne0:¬t=id1∧¬t=c3∧¬t=c3+1∧¬id1=t∧¬id1=c3∧¬id1=c3+1∧¬c3=t∧¬c3=id1∧¬c3=c3+1∧¬c3+1=t∧¬c3+1=id1∧¬c3+1=c3:=by and_intros<;>omega
   simp only [go_sem,seval,ne0]
   repeat' ((first|with_reducible refine wr ?_|((with_reducible refine wb2 ?_ ?_)<;>(intro hb;try simp only [hb]))|((with_reducible refine k_eval (b_appx (insC_len2 _) (by omega) (by omega)) ?_))|fail)<;>try simp only [go_sem,seval,ne0])
   have es:stmtM l 0 base p=stK l (fun _ p=>([],p)) base 0 p1:=by simp only [stmtM];rw [e0];try rfl
   rw [es]
   refine v_end (id:=c3+1) hfr (by omega) (by omega) htc (by first|rfl|simp only [stK,List.length_append,List.length_singleton]) ?_ ?_ fun j h1 h2=>?_
   ·repeat (first|exact h_same|rw [h_ne (by omega)]|rw [h_dne (by omega)])
   ·rw [h_same];simp only [stK,insC_app,insC_one]
   ·repeat (first|rfl|rw [h_ne (by omega)]|rw [h_dne (by omega)])
 | succ d ih =>
  intro hd2 base p hbase hp H cc t ht htc
  refine AC.body mixedU isU21 (Nat.le_of_ble_eq_true rfl) fun hfr=>?_
  show IW Tryz.prog 183 u21_1 ⟨argT _,_,_⟩ (rt [.tmp 6] _)
  repeat' ((first|with_reducible refine wr ?_|((with_reducible refine wb2 ?_ ?_)<;>(intro hb;try simp only [hb]))|fail)<;>try simp only [go_sem,seval])
  refine AC.call (c_next l hl p hp 15 (by omega) (by omega) H cc t ht htc) ?_
  rintro v H' c1 ⟨rfl,rfl⟩ hcc
  have hp1:=nextM_le (n:=15) hp
  have hk:=nextM_lt (l:=l) (p:=p) (n:=15) (by omega)
  have hdl:decide (((d+1:Nat):Int)≤0)=false:=decide_eq_false (by omega)
  have hw1:=w64 (n:=((d+1:Nat):Int)-1) (by omega) (by omega)
  have hw2:((d+1:Nat):Int)-1=(d:Int):=by omega
  rw [hw2] at hw1
  obtain ⟨k0,p1,e0⟩:∃ k0 p1,nextM l p 15=(k0,p1):=⟨_,_,rfl⟩
  rw [e0] at hp1 hk ⊢
  simp only at hp1 hk
  have hv:k0=1∨k0=2∨k0=3∨k0=4∨k0=5∨k0=6∨k0=7∨k0=8∨k0=9∨k0=10∨k0=11∨k0=0∨k0=12∨k0=13∨k0=14:=by omega
  rcases hv with rfl|rfl|rfl|rfl|rfl|rfl|rfl|rfl|rfl|rfl|rfl|rfl|rfl|rfl|rfl
  ·have nk:((1:Nat):Int)=1:=rfl
   simp only [go_sem,seval,hdl,nk,Int.reduceGT,Int.reduceBEq,Int.reduceLE,decide_true,decide_false,hw2,hw1]
   repeat' ((first|with_reducible refine wr ?_|((with_reducible refine wb2 ?_ ?_)<;>(intro hb;try simp only [hb]))|fail)<;>try simp only [go_sem,seval,hdl,nk,Int.reduceGT,Int.reduceBEq,Int.reduceLE,decide_true,decide_false,hw2,hw1])
   refine AC.call (c_value l hl 1 (by omega) (p1) hp1 _ _ t (by repeat (first|exact h_same|rw [h_ne (by omega)]|rw [h_dne (by omega)])) (by omega)) ?_
   rintro v H' c2 ⟨id1,ia1,ib1,rfl,rfl⟩ hcc2
   have hb1:=valueM_l1 l (p1)
   have hp2:=valueM_le l 1 (p1) hp1
   have ne0:¬t=id1∧¬t=c2∧¬t=c2+1∧¬id1=t∧¬id1=c2∧¬id1=c2+1∧¬c2=t∧¬c2=id1∧¬c2=c2+1∧¬c2+1=t∧¬c2+1=id1∧¬c2+1=c2:=by and_intros<;>omega
   simp only [go_sem,seval,ne0]
   repeat' ((first|with_reducible refine wr ?_|((with_reducible refine wb2 ?_ ?_)<;>(intro hb;try simp only [hb]))|((with_reducible refine k_eval (b_appx (insC_len2 _) (by omega) (by omega)) ?_))|fail)<;>try simp only [go_sem,seval,ne0])
   have es:stmtM l (d+1) base p=stK l (stmtM l d) base 1 p1:=by simp only [stmtM];rw [e0];try rfl
   rw [es]
   refine v_end (id:=c2+1) hfr (by omega) (by omega) htc (by first|rfl|simp only [stK,List.length_append,List.length_singleton]) ?_ ?_ fun j h1 h2=>?_
   ·repeat (first|exact h_same|rw [h_ne (by omega)]|rw [h_dne (by omega)])
   ·rw [h_same];simp only [stK,insC_app,insC_one]
   ·repeat (first|rfl|rw [h_ne (by omega)]|rw [h_dne (by omega)])
  ·have nk:((2:Nat):Int)=2:=rfl
   simp only [go_sem,seval,hdl,nk,Int.reduceGT,Int.reduceBEq,Int.reduceLE,decide_true,decide_false,hw2,hw1]
   repeat' ((first|with_reducible refine wr ?_|((with_reducible refine wb2 ?_ ?_)<;>(intro hb;try simp only [hb]))|fail)<;>try simp only [go_sem,seval,hdl,nk,Int.reduceGT,Int.reduceBEq,Int.reduceLE,decide_true,decide_false,hw2,hw1])
   refine AC.call (c_next l hl (p1) hp1 3 (by omega) (by omega) _ _ t (by repeat (first|exact h_same|rw [h_ne (by omega)]|rw [h_dne (by omega)])) (by omega)) ?_
   rintro v H' c2 ⟨rfl,rfl⟩ hcc2
   have hq2:=nextM_lt (l:=l) (p:=p1) (n:=3) (by omega)
   have hp2:=nextM_le (l:=l) (p:=p1) (n:=3) hp1
   have hadd:=w64 (n:=16+((nextM l p1 3).1:Int)) (by omega) (by omega)
   have ne0:¬t=c2∧¬t=c2+1∧¬c2=t∧¬c2=c2+1∧¬c2+1=t∧¬c2+1=c2:=by and_intros<;>omega
   simp only [go_sem,seval,hadd,ne0]
   repeat' ((first|with_reducible refine wr ?_|((with_reducible refine wb2 ?_ ?_)<;>(intro hb;try simp only [hb]))|((with_reducible refine k_eval (b_appx (insC_len2 _) (by omega) (by omega)) ?_))|fail)<;>try simp only [go_sem,seval,hadd,ne0])
   refine AC.call (c_next l hl ((nextM l p1 3).2) hp2 32 (by omega) (by omega) _ _ t (by repeat (first|exact h_same|rw [h_ne (by omega)]|rw [h_dne (by omega)])) (by omega)) ?_
   rintro v H' c3 ⟨rfl,rfl⟩ hcc3
   have hq3:=nextM_lt (l:=l) (p:=(nextM l p1 3).2) (n:=32) (by omega)
   have hp3:=nextM_le (l:=l) (p:=(nextM l p1 3).2) (n:=32) hp2
   have ne0:¬t=c3∧¬t=c3+1∧¬c3=t∧¬c3=c3+1∧¬c3+1=t∧¬c3+1=c3:=by and_intros<;>omega
   simp only [go_sem,seval,hadd,ne0]
   repeat' ((first|with_reducible refine wr ?_|((with_reducible refine wb2 ?_ ?_)<;>(intro hb;try simp only [hb]))|((with_reducible refine k_eval (b_appx (insC_len2 _) (by omega) (by omega)) ?_))|fail)<;>try simp only [go_sem,seval,hadd,ne0])
   have es:stmtM l (d+1) base p=stK l (stmtM l d) base 2 p1:=by simp only [stmtM];rw [e0];try rfl
   rw [es]
   refine v_end (id:=c3) hfr (by omega) (by omega) htc (by first|rfl|simp only [stK,List.length_append,List.length_singleton]) ?_ ?_ fun j h1 h2=>?_
   ·repeat (first|exact h_same|rw [h_ne (by omega)]|rw [h_dne (by omega)])
   ·rw [h_same];simp only [stK,insC_app,insC_one]
   ·repeat (first|rfl|rw [h_ne (by omega)]|rw [h_dne (by omega)])
  ·have nk:((3:Nat):Int)=3:=rfl
   simp only [go_sem,seval,hdl,nk,Int.reduceGT,Int.reduceBEq,Int.reduceLE,decide_true,decide_false,hw2,hw1]
   repeat' ((first|with_reducible refine wr ?_|((with_reducible refine wb2 ?_ ?_)<;>(intro hb;try simp only [hb]))|fail)<;>try simp only [go_sem,seval,hdl,nk,Int.reduceGT,Int.reduceBEq,Int.reduceLE,decide_true,decide_false,hw2,hw1])
   refine AC.call (c_value l hl 0 (by omega) (p1) hp1 _ _ t (by repeat (first|exact h_same|rw [h_ne (by omega)]|rw [h_dne (by omega)])) (by omega)) ?_
   rintro v H' c2 ⟨id1,ia1,ib1,rfl,rfl⟩ hcc2
   have hb1:=valueM_l0 l (p1)
   have hp2:=valueM_le l 0 (p1) hp1
   have ne0:¬t=id1∧¬t=c2∧¬t=c2+1∧¬id1=t∧¬id1=c2∧¬id1=c2+1∧¬c2=t∧¬c2=id1∧¬c2=c2+1∧¬c2+1=t∧¬c2+1=id1∧¬c2+1=c2:=by and_intros<;>omega
   simp only [go_sem,seval,ne0]
   repeat' ((first|with_reducible refine wr ?_|((with_reducible refine wb2 ?_ ?_)<;>(intro hb;try simp only [hb]))|((with_reducible refine k_eval (b_appx (insC_len2 _) (by omega) (by omega)) ?_))|fail)<;>try simp only [go_sem,seval,ne0])
   refine AC.call (c_next l hl ((valueM l 0 p1).2) hp2 64 (by omega) (by omega) _ _ t (by repeat (first|exact h_same|rw [h_ne (by omega)]|rw [h_dne (by omega)])) (by omega)) ?_
   rintro v H' c3 ⟨rfl,rfl⟩ hcc3
   have hq3:=nextM_lt (l:=l) (p:=(valueM l 0 p1).2) (n:=64) (by omega)
   have hp3:=nextM_le (l:=l) (p:=(valueM l 0 p1).2) (n:=64) hp2
   have ne0:¬t=id1∧¬t=c3∧¬t=c3+1∧¬id1=t∧¬id1=c3∧¬id1=c3+1∧¬c3=t∧¬c3=id1∧¬c3=c3+1∧¬c3+1=t∧¬c3+1=id1∧¬c3+1=c3:=by and_intros<;>omega
   simp only [go_sem,seval,ne0]
   repeat' ((first|with_reducible refine wr ?_|((with_reducible refine wb2 ?_ ?_)<;>(intro hb;try simp only [hb]))|((with_reducible refine k_eval (b_appx (insC_len2 _) (by omega) (by omega)) ?_))|fail)<;>try simp only [go_sem,seval,ne0])
   have es:stmtM l (d+1) base p=stK l (stmtM l d) base 3 p1:=by simp only [stmtM];rw [e0];try rfl
   rw [es]
   refine v_end (id:=c3+1) hfr (by omega) (by omega) htc (by first|rfl|simp only [stK,List.length_append,List.length_singleton]) ?_ ?_ fun j h1 h2=>?_
   ·repeat (first|exact h_same|rw [h_ne (by omega)]|rw [h_dne (by omega)])
   ·rw [h_same];simp only [stK,insC_app,insC_one]
   ·repeat (first|rfl|rw [h_ne (by omega)]|rw [h_dne (by omega)])
  ·have nk:((4:Nat):Int)=4:=rfl
   simp only [go_sem,seval,hdl,nk,Int.reduceGT,Int.reduceBEq,Int.reduceLE,decide_true,decide_false,hw2,hw1]
   repeat' ((first|with_reducible refine wr ?_|((with_reducible refine wb2 ?_ ?_)<;>(intro hb;try simp only [hb]))|fail)<;>try simp only [go_sem,seval,hdl,nk,Int.reduceGT,Int.reduceBEq,Int.reduceLE,decide_true,decide_false,hw2,hw1])
   refine AC.call (c_value l hl 0 (by omega) (p1) hp1 _ _ t (by repeat (first|exact h_same|rw [h_ne (by omega)]|rw [h_dne (by omega)])) (by omega)) ?_
   rintro v H' c2 ⟨id1,ia1,ib1,rfl,rfl⟩ hcc2
   have hb1:=valueM_l0 l (p1)
   have hp2:=valueM_le l 0 (p1) hp1
   have ne0:¬t=id1∧¬t=c2∧¬t=c2+1∧¬id1=t∧¬id1=c2∧¬id1=c2+1∧¬c2=t∧¬c2=id1∧¬c2=c2+1∧¬c2+1=t∧¬c2+1=id1∧¬c2+1=c2:=by and_intros<;>omega
   simp only [go_sem,seval,ne0]
   repeat' ((first|with_reducible refine wr ?_|((with_reducible refine wb2 ?_ ?_)<;>(intro hb;try simp only [hb]))|((with_reducible refine k_eval (b_appx (insC_len2 _) (by omega) (by omega)) ?_))|fail)<;>try simp only [go_sem,seval,ne0])
   refine AC.call (c_value l hl 0 (by omega) ((valueM l 0 p1).2) hp2 _ _ t (by repeat (first|exact h_same|rw [h_ne (by omega)]|rw [h_dne (by omega)])) (by omega)) ?_
   rintro v H' c3 ⟨id2,ia2,ib2,rfl,rfl⟩ hcc3
   have hb2:=valueM_l0 l ((valueM l 0 p1).2)
   have hp3:=valueM_le l 0 ((valueM l 0 p1).2) hp2
   have hl2:=insC_len2 (valueM l 0 ((valueM l 0 p1).2)).1
   have hle2:(valueM l 0 ((valueM l 0 p1).2)).1.length * 2≤(insC (valueM l 0 ((valueM l 0 p1).2)).1).length:=by omega
   have htk:=List.take_of_length_le (l:=insC (valueM l 0 ((valueM l 0 p1).2)).1) (i:=(valueM l 0 ((valueM l 0 p1).2)).1.length * 2) (by omega)
   have ne0:¬t=id1∧¬t=id2∧¬t=c3∧¬t=c3+1∧¬id1=t∧¬id1=id2∧¬id1=c3∧¬id1=c3+1∧¬id2=t∧¬id2=id1∧¬id2=c3∧¬id2=c3+1∧¬c3=t∧¬c3=id1∧¬c3=id2∧¬c3=c3+1∧¬c3+1=t∧¬c3+1=id1∧¬c3+1=id2∧¬c3+1=c3:=by and_intros<;>omega
   simp only [go_sem,seval,hle2,htk,ne0]
   repeat' ((first|with_reducible refine wr ?_|((with_reducible refine wb2 ?_ ?_)<;>(intro hb;try simp only [hb]))|((with_reducible refine k_eval (b_appx (insC_len2 _) (by omega) (by omega)) ?_))|fail)<;>try simp only [go_sem,seval,hle2,htk,ne0])
   refine AC.call (c_next l hl ((valueM l 0 ((valueM l 0 p1).2)).2) hp3 64 (by omega) (by omega) _ _ t (by repeat (first|exact h_same|rw [h_ne (by omega)]|rw [h_dne (by omega)])) (by omega)) ?_
   rintro v H' c4 ⟨rfl,rfl⟩ hcc4
   have hq4:=nextM_lt (l:=l) (p:=(valueM l 0 ((valueM l 0 p1).2)).2) (n:=64) (by omega)
   have hp4:=nextM_le (l:=l) (p:=(valueM l 0 ((valueM l 0 p1).2)).2) (n:=64) hp3
   have hl3:=insL2 (valueM l 0 p1).1 (valueM l 0 ((valueM l 0 p1).2)).1
   have ne0:¬t=c3∧¬t=c4∧¬t=c4+1∧¬c3=t∧¬c3=c4∧¬c3=c4+1∧¬c4=t∧¬c4=c3∧¬c4=c4+1∧¬c4+1=t∧¬c4+1=c3∧¬c4+1=c4:=by and_intros<;>omega
   simp only [go_sem,seval,ne0]
   repeat' ((first|with_reducible refine wr ?_|((with_reducible refine wb2 ?_ ?_)<;>(intro hb;try simp only [hb]))|((with_reducible refine k_eval (b_appx (insC_len2 _) (by omega) (by omega)) ?_))|((with_reducible refine k_eval (b_appx hl3 (by omega) (by omega)) ?_))|fail)<;>try simp only [go_sem,seval,ne0])
   have es:stmtM l (d+1) base p=stK l (stmtM l d) base 4 p1:=by simp only [stmtM];rw [e0];try rfl
   rw [es]
   refine v_end (id:=c4+1) hfr (by omega) (by omega) htc (by first|rfl|simp only [stK,List.length_append,List.length_singleton]) ?_ ?_ fun j h1 h2=>?_
   ·repeat (first|exact h_same|rw [h_ne (by omega)]|rw [h_dne (by omega)])
   ·rw [h_same];simp only [stK,insC_app,insC_one]
   ·repeat (first|rfl|rw [h_ne (by omega)]|rw [h_dne (by omega)])
  ·have nk:((5:Nat):Int)=5:=rfl
   simp only [go_sem,seval,hdl,nk,Int.reduceGT,Int.reduceBEq,Int.reduceLE,decide_true,decide_false,hw2,hw1]
   repeat' ((first|with_reducible refine wr ?_|((with_reducible refine wb2 ?_ ?_)<;>(intro hb;try simp only [hb]))|fail)<;>try simp only [go_sem,seval,hdl,nk,Int.reduceGT,Int.reduceBEq,Int.reduceLE,decide_true,decide_false,hw2,hw1])
   refine AC.call (c_value l hl 1 (by omega) (p1) hp1 _ _ t (by repeat (first|exact h_same|rw [h_ne (by omega)]|rw [h_dne (by omega)])) (by omega)) ?_
   rintro v H' c2 ⟨id1,ia1,ib1,rfl,rfl⟩ hcc2
   have hb1:=valueM_l1 l (p1)
   have hp2:=valueM_le l 1 (p1) hp1
   have ne0:¬t=id1∧¬t=c2∧¬t=c2+1∧¬id1=t∧¬id1=c2∧¬id1=c2+1∧¬c2=t∧¬c2=id1∧¬c2=c2+1∧¬c2+1=t∧¬c2+1=id1∧¬c2+1=c2:=by and_intros<;>omega
   simp only [go_sem,seval,ne0]
   repeat' ((first|with_reducible refine wr ?_|((with_reducible refine wb2 ?_ ?_)<;>(intro hb;try simp only [hb]))|((with_reducible refine k_eval (b_appx (insC_len2 _) (by omega) (by omega)) ?_))|fail)<;>try simp only [go_sem,seval,ne0])
   refine AC.call (c_next l hl ((valueM l 1 p1).2) hp2 2 (by omega) (by omega) _ _ t (by repeat (first|exact h_same|rw [h_ne (by omega)]|rw [h_dne (by omega)])) (by omega)) ?_
   rintro v H' c3 ⟨rfl,rfl⟩ hcc3
   have hq3:=nextM_lt (l:=l) (p:=(valueM l 1 p1).2) (n:=2) (by omega)
   have hp3:=nextM_le (l:=l) (p:=(valueM l 1 p1).2) (n:=2) hp2
   have ne0:¬t=id1∧¬t=c3∧¬t=c3+1∧¬id1=t∧¬id1=c3∧¬id1=c3+1∧¬c3=t∧¬c3=id1∧¬c3=c3+1∧¬c3+1=t∧¬c3+1=id1∧¬c3+1=c3:=by and_intros<;>omega
   simp only [go_sem,seval,ne0]
   repeat' ((first|with_reducible refine wr ?_|((with_reducible refine wb2 ?_ ?_)<;>(intro hb;try simp only [hb]))|((with_reducible refine k_eval (b_appx (insC_len2 _) (by omega) (by omega)) ?_))|fail)<;>try simp only [go_sem,seval,ne0])
   have es:stmtM l (d+1) base p=stK l (stmtM l d) base 5 p1:=by simp only [stmtM];rw [e0];try rfl
   rw [es]
   refine v_end (id:=c3+1) hfr (by omega) (by omega) htc (by first|rfl|simp only [stK,List.length_append,List.length_singleton]) ?_ ?_ fun j h1 h2=>?_
   ·repeat (first|exact h_same|rw [h_ne (by omega)]|rw [h_dne (by omega)])
   ·rw [h_same];simp only [stK,insC_app,insC_one]
   ·repeat (first|rfl|rw [h_ne (by omega)]|rw [h_dne (by omega)])
  ·have nk:((6:Nat):Int)=6:=rfl
   simp only [go_sem,seval,hdl,nk,Int.reduceGT,Int.reduceBEq,Int.reduceLE,decide_true,decide_false,hw2,hw1]
   repeat' ((first|with_reducible refine wr ?_|((with_reducible refine wb2 ?_ ?_)<;>(intro hb;try simp only [hb]))|fail)<;>try simp only [go_sem,seval,hdl,nk,Int.reduceGT,Int.reduceBEq,Int.reduceLE,decide_true,decide_false,hw2,hw1])
   refine AC.call (c_next l hl (p1) hp1 2 (by omega) (by omega) _ _ t (by repeat (first|exact h_same|rw [h_ne (by omega)]|rw [h_dne (by omega)])) (by omega)) ?_
   rintro v H' c2 ⟨rfl,rfl⟩ hcc2
   have hq2:=nextM_lt (l:=l) (p:=p1) (n:=2) (by omega)
   have hp2:=nextM_le (l:=l) (p:=p1) (n:=2) hp1
   have ne0:¬t=c2∧¬t=c2+1∧¬c2=t∧¬c2=c2+1∧¬c2+1=t∧¬c2+1=c2:=by and_intros<;>omega
   simp only [go_sem,seval,ne0]
   repeat' ((first|with_reducible refine wr ?_|((with_reducible refine wb2 ?_ ?_)<;>(intro hb;try simp only [hb]))|((with_reducible refine k_eval (b_appx (insC_len2 _) (by omega) (by omega)) ?_))|fail)<;>try simp only [go_sem,seval,ne0])
   have es:stmtM l (d+1) base p=stK l (stmtM l d) base 6 p1:=by simp only [stmtM];rw [e0];try rfl
   rw [es]
   refine v_end (id:=c2) hfr (by omega) (by omega) htc (by first|rfl|simp only [stK,List.length_append,List.length_singleton]) ?_ ?_ fun j h1 h2=>?_
   ·repeat (first|exact h_same|rw [h_ne (by omega)]|rw [h_dne (by omega)])
   ·rw [h_same];simp only [stK,insC_app,insC_one]
   ·repeat (first|rfl|rw [h_ne (by omega)]|rw [h_dne (by omega)])
  ·have nk:((7:Nat):Int)=7:=rfl
   simp only [go_sem,seval,hdl,nk,Int.reduceGT,Int.reduceBEq,Int.reduceLE,decide_true,decide_false,hw2,hw1]
   repeat' ((first|with_reducible refine wr ?_|((with_reducible refine wb2 ?_ ?_)<;>(intro hb;try simp only [hb]))|fail)<;>try simp only [go_sem,seval,hdl,nk,Int.reduceGT,Int.reduceBEq,Int.reduceLE,decide_true,decide_false,hw2,hw1])
   refine AC.call (c_next l hl (p1) hp1 2 (by omega) (by omega) _ _ t (by repeat (first|exact h_same|rw [h_ne (by omega)]|rw [h_dne (by omega)])) (by omega)) ?_
   rintro v H' c2 ⟨rfl,rfl⟩ hcc2
   have hq2:=nextM_lt (l:=l) (p:=p1) (n:=2) (by omega)
   have hp2:=nextM_le (l:=l) (p:=p1) (n:=2) hp1
   have hadd:=w64 (n:=23+((nextM l p1 2).1:Int)) (by omega) (by omega)
   have ne0:¬t=c2∧¬t=c2+1∧¬c2=t∧¬c2=c2+1∧¬c2+1=t∧¬c2+1=c2:=by and_intros<;>omega
   simp only [go_sem,seval,hadd,ne0]
   repeat' ((first|with_reducible refine wr ?_|((with_reducible refine wb2 ?_ ?_)<;>(intro hb;try simp only [hb]))|((with_reducible refine k_eval (b_appx (insC_len2 _) (by omega) (by omega)) ?_))|fail)<;>try simp only [go_sem,seval,hadd,ne0])
   refine AC.call (c_next l hl ((nextM l p1 2).2) hp2 2 (by omega) (by omega) _ _ t (by repeat (first|exact h_same|rw [h_ne (by omega)]|rw [h_dne (by omega)])) (by omega)) ?_
   rintro v H' c3 ⟨rfl,rfl⟩ hcc3
   have hq3:=nextM_lt (l:=l) (p:=(nextM l p1 2).2) (n:=2) (by omega)
   have hp3:=nextM_le (l:=l) (p:=(nextM l p1 2).2) (n:=2) hp2
   have ne0:¬t=c3∧¬t=c3+1∧¬c3=t∧¬c3=c3+1∧¬c3+1=t∧¬c3+1=c3:=by and_intros<;>omega
   simp only [go_sem,seval,hadd,ne0]
   repeat' ((first|with_reducible refine wr ?_|((with_reducible refine wb2 ?_ ?_)<;>(intro hb;try simp only [hb]))|((with_reducible refine k_eval (b_appx (insC_len2 _) (by omega) (by omega)) ?_))|fail)<;>try simp only [go_sem,seval,hadd,ne0])
   have es:stmtM l (d+1) base p=stK l (stmtM l d) base 7 p1:=by simp only [stmtM];rw [e0];try rfl
   rw [es]
   refine v_end (id:=c3) hfr (by omega) (by omega) htc (by first|rfl|simp only [stK,List.length_append,List.length_singleton]) ?_ ?_ fun j h1 h2=>?_
   ·repeat (first|exact h_same|rw [h_ne (by omega)]|rw [h_dne (by omega)])
   ·rw [h_same];simp only [stK,insC_app,insC_one]
   ·repeat (first|rfl|rw [h_ne (by omega)]|rw [h_dne (by omega)])
  ·have nk:((8:Nat):Int)=8:=rfl
   simp only [go_sem,seval,hdl,nk,Int.reduceGT,Int.reduceBEq,Int.reduceLE,decide_true,decide_false,hw2,hw1]
   repeat' ((first|with_reducible refine wr ?_|((with_reducible refine wb2 ?_ ?_)<;>(intro hb;try simp only [hb]))|fail)<;>try simp only [go_sem,seval,hdl,nk,Int.reduceGT,Int.reduceBEq,Int.reduceLE,decide_true,decide_false,hw2,hw1])
   refine AC.call (c_next l hl (p1) hp1 2 (by omega) (by omega) _ _ t (by repeat (first|exact h_same|rw [h_ne (by omega)]|rw [h_dne (by omega)])) (by omega)) ?_
   rintro v H' c2 ⟨rfl,rfl⟩ hcc2
   have hq2:=nextM_lt (l:=l) (p:=p1) (n:=2) (by omega)
   have hp2:=nextM_le (l:=l) (p:=p1) (n:=2) hp1
   have ne0:¬t=c2∧¬t=c2+1∧¬c2=t∧¬c2=c2+1∧¬c2+1=t∧¬c2+1=c2:=by and_intros<;>omega
   simp only [go_sem,seval,ne0]
   repeat' ((first|with_reducible refine wr ?_|((with_reducible refine wb2 ?_ ?_)<;>(intro hb;try simp only [hb]))|((with_reducible refine k_eval (b_appx (insC_len2 _) (by omega) (by omega)) ?_))|fail)<;>try simp only [go_sem,seval,ne0])
   have es:stmtM l (d+1) base p=stK l (stmtM l d) base 8 p1:=by simp only [stmtM];rw [e0];try rfl
   rw [es]
   refine v_end (id:=c2) hfr (by omega) (by omega) htc (by first|rfl|simp only [stK,List.length_append,List.length_singleton]) ?_ ?_ fun j h1 h2=>?_
   ·repeat (first|exact h_same|rw [h_ne (by omega)]|rw [h_dne (by omega)])
   ·rw [h_same];simp only [stK,insC_app,insC_one]
   ·repeat (first|rfl|rw [h_ne (by omega)]|rw [h_dne (by omega)])
  ·have nk:((9:Nat):Int)=9:=rfl
   simp only [go_sem,seval,hdl,nk,Int.reduceGT,Int.reduceBEq,Int.reduceLE,decide_true,decide_false,hw2,hw1]
   repeat' ((first|with_reducible refine wr ?_|((with_reducible refine wb2 ?_ ?_)<;>(intro hb;try simp only [hb]))|fail)<;>try simp only [go_sem,seval,hdl,nk,Int.reduceGT,Int.reduceBEq,Int.reduceLE,decide_true,decide_false,hw2,hw1])
   refine AC.call (c_next l hl (p1) hp1 3 (by omega) (by omega) _ _ t (by repeat (first|exact h_same|rw [h_ne (by omega)]|rw [h_dne (by omega)])) (by omega)) ?_
   rintro v H' c2 ⟨rfl,rfl⟩ hcc2
   have hq2:=nextM_lt (l:=l) (p:=p1) (n:=3) (by omega)
   have hp2:=nextM_le (l:=l) (p:=p1) (n:=3) hp1
   have hadd:=w64 (n:=26+((nextM l p1 3).1:Int)) (by omega) (by omega)
   have ne0:¬t=c2∧¬t=c2+1∧¬c2=t∧¬c2=c2+1∧¬c2+1=t∧¬c2+1=c2:=by and_intros<;>omega
   simp only [go_sem,seval,hadd,ne0]
   repeat' ((first|with_reducible refine wr ?_|((with_reducible refine wb2 ?_ ?_)<;>(intro hb;try simp only [hb]))|((with_reducible refine k_eval (b_appx (insC_len2 _) (by omega) (by omega)) ?_))|fail)<;>try simp only [go_sem,seval,hadd,ne0])
   refine AC.call (c_next l hl ((nextM l p1 3).2) hp2 64 (by omega) (by omega) _ _ t (by repeat (first|exact h_same|rw [h_ne (by omega)]|rw [h_dne (by omega)])) (by omega)) ?_
   rintro v H' c3 ⟨rfl,rfl⟩ hcc3
   have hq3:=nextM_lt (l:=l) (p:=(nextM l p1 3).2) (n:=64) (by omega)
   have hp3:=nextM_le (l:=l) (p:=(nextM l p1 3).2) (n:=64) hp2
   have ne0:¬t=c3∧¬t=c3+1∧¬c3=t∧¬c3=c3+1∧¬c3+1=t∧¬c3+1=c3:=by and_intros<;>omega
   simp only [go_sem,seval,hadd,ne0]
   repeat' ((first|with_reducible refine wr ?_|((with_reducible refine wb2 ?_ ?_)<;>(intro hb;try simp only [hb]))|((with_reducible refine k_eval (b_appx (insC_len2 _) (by omega) (by omega)) ?_))|fail)<;>try simp only [go_sem,seval,hadd,ne0])
   have es:stmtM l (d+1) base p=stK l (stmtM l d) base 9 p1:=by simp only [stmtM];rw [e0];try rfl
   rw [es]
   refine v_end (id:=c3) hfr (by omega) (by omega) htc (by first|rfl|simp only [stK,List.length_append,List.length_singleton]) ?_ ?_ fun j h1 h2=>?_
   ·repeat (first|exact h_same|rw [h_ne (by omega)]|rw [h_dne (by omega)])
   ·rw [h_same];simp only [stK,insC_app,insC_one]
   ·repeat (first|rfl|rw [h_ne (by omega)]|rw [h_dne (by omega)])
  ·have nk:((10:Nat):Int)=10:=rfl
   simp only [go_sem,seval,hdl,nk,Int.reduceGT,Int.reduceBEq,Int.reduceLE,decide_true,decide_false,hw2,hw1]
   repeat' ((first|with_reducible refine wr ?_|((with_reducible refine wb2 ?_ ?_)<;>(intro hb;try simp only [hb]))|fail)<;>try simp only [go_sem,seval,hdl,nk,Int.reduceGT,Int.reduceBEq,Int.reduceLE,decide_true,decide_false,hw2,hw1])
   refine AC.call (c_value l hl 1 (by omega) (p1) hp1 _ _ t (by repeat (first|exact h_same|rw [h_ne (by omega)]|rw [h_dne (by omega)])) (by omega)) ?_
   rintro v H' c2 ⟨id1,ia1,ib1,rfl,rfl⟩ hcc2
   have hb1:=valueM_l1 l (p1)
   have hp2:=valueM_le l 1 (p1) hp1
   have ne0:¬t=id1∧¬t=c2∧¬t=c2+1∧¬id1=t∧¬id1=c2∧¬id1=c2+1∧¬c2=t∧¬c2=id1∧¬c2=c2+1∧¬c2+1=t∧¬c2+1=id1∧¬c2+1=c2:=by and_intros<;>omega
   simp only [go_sem,seval,ne0]
   repeat' ((first|with_reducible refine wr ?_|((with_reducible refine wb2 ?_ ?_)<;>(intro hb;try simp only [hb]))|((with_reducible refine k_eval (b_appx (insC_len2 _) (by omega) (by omega)) ?_))|fail)<;>try simp only [go_sem,seval,ne0])
   refine AC.call (c_next l hl ((valueM l 1 p1).2) hp2 2 (by omega) (by omega) _ _ t (by repeat (first|exact h_same|rw [h_ne (by omega)]|rw [h_dne (by omega)])) (by omega)) ?_
   rintro v H' c3 ⟨rfl,rfl⟩ hcc3
   have hq3:=nextM_lt (l:=l) (p:=(valueM l 1 p1).2) (n:=2) (by omega)
   have hp3:=nextM_le (l:=l) (p:=(valueM l 1 p1).2) (n:=2) hp2
   have ne0:¬t=id1∧¬t=c3∧¬t=c3+1∧¬id1=t∧¬id1=c3∧¬id1=c3+1∧¬c3=t∧¬c3=id1∧¬c3=c3+1∧¬c3+1=t∧¬c3+1=id1∧¬c3+1=c3:=by and_intros<;>omega
   simp only [go_sem,seval,ne0]
   repeat' ((first|with_reducible refine wr ?_|((with_reducible refine wb2 ?_ ?_)<;>(intro hb;try simp only [hb]))|((with_reducible refine k_eval (b_appx (insC_len2 _) (by omega) (by omega)) ?_))|fail)<;>try simp only [go_sem,seval,ne0])
   have es:stmtM l (d+1) base p=stK l (stmtM l d) base 10 p1:=by simp only [stmtM];rw [e0];try rfl
   rw [es]
   refine v_end (id:=c3+1) hfr (by omega) (by omega) htc (by first|rfl|simp only [stK,List.length_append,List.length_singleton]) ?_ ?_ fun j h1 h2=>?_
   ·repeat (first|exact h_same|rw [h_ne (by omega)]|rw [h_dne (by omega)])
   ·rw [h_same];simp only [stK,insC_app,insC_one]
   ·repeat (first|rfl|rw [h_ne (by omega)]|rw [h_dne (by omega)])
  ·have nk:((11:Nat):Int)=11:=rfl
   simp only [go_sem,seval,hdl,nk,Int.reduceGT,Int.reduceBEq,Int.reduceLE,decide_true,decide_false,hw2,hw1]
   repeat' ((first|with_reducible refine wr ?_|((with_reducible refine wb2 ?_ ?_)<;>(intro hb;try simp only [hb]))|fail)<;>try simp only [go_sem,seval,hdl,nk,Int.reduceGT,Int.reduceBEq,Int.reduceLE,decide_true,decide_false,hw2,hw1])
   have es:stmtM l (d+1) base p=stK l (stmtM l d) base 11 p1:=by simp only [stmtM];rw [e0];try rfl
   rw [es]
   refine v_end (id:=c1) hfr (by omega) (by omega) htc (by first|rfl|simp only [stK,List.length_append,List.length_singleton]) ?_ ?_ fun j h1 h2=>?_
   ·repeat (first|exact h_same|rw [h_ne (by omega)]|rw [h_dne (by omega)])
   ·rw [h_same];simp only [stK,insC_app,insC_one]
   ·repeat (first|rfl|rw [h_ne (by omega)]|rw [h_dne (by omega)])
  ·have nk:((0:Nat):Int)=0:=rfl
   simp only [go_sem,seval,hdl,nk,Int.reduceGT,Int.reduceBEq,Int.reduceLE,decide_true,decide_false,hw2,hw1]
   repeat' ((first|with_reducible refine wr ?_|((with_reducible refine wb2 ?_ ?_)<;>(intro hb;try simp only [hb]))|fail)<;>try simp only [go_sem,seval,hdl,nk,Int.reduceGT,Int.reduceBEq,Int.reduceLE,decide_true,decide_false,hw2,hw1])
   refine AC.call (c_value l hl 2 (by omega) (p1) hp1 _ _ t (by repeat (first|exact h_same|rw [h_ne (by omega)]|rw [h_dne (by omega)])) (by omega)) ?_
   rintro v H' c2 ⟨id1,ia1,ib1,rfl,rfl⟩ hcc2
   have hb1:=valueM_l2 l (p1)
   have hp2:=valueM_le l 2 (p1) hp1
   have ne0:¬t=id1∧¬t=c2∧¬t=c2+1∧¬id1=t∧¬id1=c2∧¬id1=c2+1∧¬c2=t∧¬c2=id1∧¬c2=c2+1∧¬c2+1=t∧¬c2+1=id1∧¬c2+1=c2:=by and_intros<;>omega
   simp only [go_sem,seval,ne0]
   repeat' ((first|with_reducible refine wr ?_|((with_reducible refine wb2 ?_ ?_)<;>(intro hb;try simp only [hb]))|((with_reducible refine k_eval (b_appx (insC_len2 _) (by omega) (by omega)) ?_))|fail)<;>try simp only [go_sem,seval,ne0])
   refine AC.call (c_next l hl ((valueM l 2 p1).2) hp2 3 (by omega) (by omega) _ _ t (by repeat (first|exact h_same|rw [h_ne (by omega)]|rw [h_dne (by omega)])) (by omega)) ?_
   rintro v H' c3 ⟨rfl,rfl⟩ hcc3
   have hq3:=nextM_lt (l:=l) (p:=(valueM l 2 p1).2) (n:=3) (by omega)
   have hp3:=nextM_le (l:=l) (p:=(valueM l 2 p1).2) (n:=3) hp2
   have ne0:¬t=id1∧¬t=c3∧¬t=c3+1∧¬id1=t∧¬id1=c3∧¬id1=c3+1∧¬c3=t∧¬c3=id1∧¬c3=c3+1∧¬c3+1=t∧¬c3+1=id1∧¬c3+1=c3:=by and_intros<;>omega
   simp only [go_sem,seval,ne0]
   repeat' ((first|with_reducible refine wr ?_|((with_reducible refine wb2 ?_ ?_)<;>(intro hb;try simp only [hb]))|((with_reducible refine k_eval (b_appx (insC_len2 _) (by omega) (by omega)) ?_))|fail)<;>try simp only [go_sem,seval,ne0])
   have es:stmtM l (d+1) base p=stK l (stmtM l d) base 0 p1:=by simp only [stmtM];rw [e0];try rfl
   rw [es]
   refine v_end (id:=c3+1) hfr (by omega) (by omega) htc (by first|rfl|simp only [stK,List.length_append,List.length_singleton]) ?_ ?_ fun j h1 h2=>?_
   ·repeat (first|exact h_same|rw [h_ne (by omega)]|rw [h_dne (by omega)])
   ·rw [h_same];simp only [stK,insC_app,insC_one]
   ·repeat (first|rfl|rw [h_ne (by omega)]|rw [h_dne (by omega)])
  ·have nk:((12:Nat):Int)=12:=rfl
   simp only [go_sem,seval,hdl,nk,Int.reduceGT,Int.reduceBEq,Int.reduceLE,decide_true,decide_false,hw2,hw1]
   repeat' ((first|with_reducible refine wr ?_|((with_reducible refine wb2 ?_ ?_)<;>(intro hb;try simp only [hb]))|fail)<;>try simp only [go_sem,seval,hdl,nk,Int.reduceGT,Int.reduceBEq,Int.reduceLE,decide_true,decide_false,hw2,hw1])
   refine AC.call (c_value l hl 1 (by omega) (p1) hp1 _ _ t (by repeat (first|exact h_same|rw [h_ne (by omega)]|rw [h_dne (by omega)])) (by omega)) ?_
   rintro v H' c2 ⟨id1,ia1,ib1,rfl,rfl⟩ hcc2
   have hb1:=valueM_l1 l (p1)
   have hp2:=valueM_le l 1 (p1) hp1
   have hs1:=w_sum (a:=base) (b:=(valueM l 1 p1).1.length) (by omega)
   have hs2:=w_sum (a:=base+(valueM l 1 p1).1.length) (b:=1) (by omega)
   have one:((1:Nat):Int)=1:=rfl
   rw [one] at hs2
   have ne0:¬t=id1∧¬t=c2∧¬t=c2+1∧¬id1=t∧¬id1=c2∧¬id1=c2+1∧¬c2=t∧¬c2=id1∧¬c2=c2+1∧¬c2+1=t∧¬c2+1=id1∧¬c2+1=c2:=by and_intros<;>omega
   simp only [go_sem,seval,hs1,hs2,hw2,hw1,ne0]
   repeat' ((first|with_reducible refine wr ?_|((with_reducible refine wb2 ?_ ?_)<;>(intro hb;try simp only [hb]))|((with_reducible refine k_eval (b_appx (insC_len2 _) (by omega) (by omega)) ?_))|fail)<;>try simp only [go_sem,seval,hs1,hs2,hw2,hw1,ne0])
   refine AC.call (ih (by omega) (base+(valueM l 1 p1).1.length+1) ((valueM l 1 p1).2) (by omega) hp2 _ _ t (by repeat (first|exact h_same|rw [h_ne (by omega)]|rw [h_dne (by omega)])) (by omega)) ?_
   rintro v H' c3 ⟨id2,ia2,ib2,rfl,rfl⟩ hcc3
   have hb2:=stmtM_len l d (base+(valueM l 1 p1).1.length+1) ((valueM l 1 p1).2)
   have hs3:=w_sum (a:=base+(valueM l 1 p1).1.length+1) (b:=(stmtM l d (base+(valueM l 1 p1).1.length+1) (valueM l 1 p1).2).1.length) (by omega)
   have hl2:=insC_len2 (stmtM l d (base+(valueM l 1 p1).1.length+1) (valueM l 1 p1).2).1
   have hle2:(stmtM l d (base+(valueM l 1 p1).1.length+1) (valueM l 1 p1).2).1.length * 2≤(insC (stmtM l d (base+(valueM l 1 p1).1.length+1) (valueM l 1 p1).2).1).length:=by omega
   have htk:=List.take_of_length_le (l:=insC (stmtM l d (base+(valueM l 1 p1).1.length+1) (valueM l 1 p1).2).1) (i:=(stmtM l d (base+(valueM l 1 p1).1.length+1) (valueM l 1 p1).2).1.length * 2) (by omega)
   have hl3:=fun x y=>insL1 (valueM l 1 p1).1 x y
   have hl4:=fun x y=>insL3 (valueM l 1 p1).1 (stmtM l d (base+(valueM l 1 p1).1.length+1) (valueM l 1 p1).2).1 x y
   have ne0:¬t=id1∧¬t=id2∧¬t=c3∧¬t=c3+1∧¬t=c3+2∧¬id1=t∧¬id1=id2∧¬id1=c3∧¬id1=c3+1∧¬id1=c3+2∧¬id2=t∧¬id2=id1∧¬id2=c3∧¬id2=c3+1∧¬id2=c3+2∧¬c3=t∧¬c3=id1∧¬c3=id2∧¬c3=c3+1∧¬c3=c3+2∧¬c3+1=t∧¬c3+1=id1∧¬c3+1=id2∧¬c3+1=c3∧¬c3+1=c3+2∧¬c3+2=t∧¬c3+2=id1∧¬c3+2=id2∧¬c3+2=c3∧¬c3+2=c3+1:=by and_intros<;>omega
   simp only [go_sem,seval,hs1,hs2,hs3,hle2,htk,ne0]
   repeat' ((first|with_reducible refine wr ?_|((with_reducible refine wb2 ?_ ?_)<;>(intro hb;try simp only [hb]))|((with_reducible refine k_eval (b_appx (insC_len2 _) (by omega) (by omega)) ?_))|((with_reducible refine k_eval (b_appx (hl3 _ _) (by omega) (by omega)) ?_))|((with_reducible refine k_eval (b_appx (hl4 _ _) (by omega) (by omega)) ?_))|fail)<;>try simp only [go_sem,seval,hs1,hs2,hs3,hle2,htk,ne0])
   have es:stmtM l (d+1) base p=stK l (stmtM l d) base 12 p1:=by simp only [stmtM];rw [e0];try rfl
   rw [es]
   refine v_end (id:=c3+2) hfr (by omega) (by omega) htc (by first|rfl|simp only [stK,List.length_append,List.length_singleton]) ?_ ?_ fun j h1 h2=>?_
   ·repeat (first|exact h_same|rw [h_ne (by omega)]|rw [h_dne (by omega)])
   ·rw [h_same];simp only [stK,insC_app,insC_one]
   ·repeat (first|rfl|rw [h_ne (by omega)]|rw [h_dne (by omega)])
  ·have nk:((13:Nat):Int)=13:=rfl
   simp only [go_sem,seval,hdl,nk,Int.reduceGT,Int.reduceBEq,Int.reduceLE,decide_true,decide_false,hw2,hw1]
   repeat' ((first|with_reducible refine wr ?_|((with_reducible refine wb2 ?_ ?_)<;>(intro hb;try simp only [hb]))|fail)<;>try simp only [go_sem,seval,hdl,nk,Int.reduceGT,Int.reduceBEq,Int.reduceLE,decide_true,decide_false,hw2,hw1])
   refine AC.call (c_value l hl 0 (by omega) (p1) hp1 _ _ t (by repeat (first|exact h_same|rw [h_ne (by omega)]|rw [h_dne (by omega)])) (by omega)) ?_
   rintro v H' c2 ⟨id1,ia1,ib1,rfl,rfl⟩ hcc2
   have hb1:=valueM_l0 l (p1)
   have hp2:=valueM_le l 0 (p1) hp1
   have hs1:=w_sum (a:=base) (b:=(valueM l 0 p1).1.length) (by omega)
   have hs2:=w_sum (a:=base+(valueM l 0 p1).1.length) (b:=1) (by omega)
   have one:((1:Nat):Int)=1:=rfl
   rw [one] at hs2
   have ne0:¬t=id1∧¬t=c2∧¬t=c2+1∧¬id1=t∧¬id1=c2∧¬id1=c2+1∧¬c2=t∧¬c2=id1∧¬c2=c2+1∧¬c2+1=t∧¬c2+1=id1∧¬c2+1=c2:=by and_intros<;>omega
   simp only [go_sem,seval,hs1,hs2,hw2,hw1,ne0]
   repeat' ((first|with_reducible refine wr ?_|((with_reducible refine wb2 ?_ ?_)<;>(intro hb;try simp only [hb]))|((with_reducible refine k_eval (b_appx (insC_len2 _) (by omega) (by omega)) ?_))|fail)<;>try simp only [go_sem,seval,hs1,hs2,hw2,hw1,ne0])
   refine AC.call (ih (by omega) (base+(valueM l 0 p1).1.length+1) ((valueM l 0 p1).2) (by omega) hp2 _ _ t (by repeat (first|exact h_same|rw [h_ne (by omega)]|rw [h_dne (by omega)])) (by omega)) ?_
   rintro v H' c3 ⟨id2,ia2,ib2,rfl,rfl⟩ hcc3
   have hb2:=stmtM_len l d (base+(valueM l 0 p1).1.length+1) ((valueM l 0 p1).2)
   have hs4:=w_sum (a:=base+(valueM l 0 p1).1.length) (b:=2) (by omega)
   have two:((2:Nat):Int)=2:=rfl
   rw [two] at hs4
   have hs3:=w_sum (a:=base+(valueM l 0 p1).1.length+2) (b:=(stmtM l d (base+(valueM l 0 p1).1.length+1) (valueM l 0 p1).2).1.length) (by omega)
   have hl2:=insC_len2 (stmtM l d (base+(valueM l 0 p1).1.length+1) (valueM l 0 p1).2).1
   have hle2:(stmtM l d (base+(valueM l 0 p1).1.length+1) (valueM l 0 p1).2).1.length * 2≤(insC (stmtM l d (base+(valueM l 0 p1).1.length+1) (valueM l 0 p1).2).1).length:=by omega
   have htk:=List.take_of_length_le (l:=insC (stmtM l d (base+(valueM l 0 p1).1.length+1) (valueM l 0 p1).2).1) (i:=(stmtM l d (base+(valueM l 0 p1).1.length+1) (valueM l 0 p1).2).1.length * 2) (by omega)
   have hl3:=fun x y=>insL1 (valueM l 0 p1).1 x y
   have hl4:=fun x y=>insL3 (valueM l 0 p1).1 (stmtM l d (base+(valueM l 0 p1).1.length+1) (valueM l 0 p1).2).1 x y
   have ne0:¬t=id1∧¬t=id2∧¬t=c3∧¬t=c3+1∧¬t=c3+2∧¬t=c3+3∧¬t=c3+4∧¬id1=t∧¬id1=id2∧¬id1=c3∧¬id1=c3+1∧¬id1=c3+2∧¬id1=c3+3∧¬id1=c3+4∧¬id2=t∧¬id2=id1∧¬id2=c3∧¬id2=c3+1∧¬id2=c3+2∧¬id2=c3+3∧¬id2=c3+4∧¬c3=t∧¬c3=id1∧¬c3=id2∧¬c3=c3+1∧¬c3=c3+2∧¬c3=c3+3∧¬c3=c3+4∧¬c3+1=t∧¬c3+1=id1∧¬c3+1=id2∧¬c3+1=c3∧¬c3+1=c3+2∧¬c3+1=c3+3∧¬c3+1=c3+4∧¬c3+2=t∧¬c3+2=id1∧¬c3+2=id2∧¬c3+2=c3∧¬c3+2=c3+1∧¬c3+2=c3+3∧¬c3+2=c3+4∧¬c3+3=t∧¬c3+3=id1∧¬c3+3=id2∧¬c3+3=c3∧¬c3+3=c3+1∧¬c3+3=c3+2∧¬c3+3=c3+4∧¬c3+4=t∧¬c3+4=id1∧¬c3+4=id2∧¬c3+4=c3∧¬c3+4=c3+1∧¬c3+4=c3+2∧¬c3+4=c3+3:=by and_intros<;>omega
   simp only [go_sem,seval,hs1,hs2,hs3,hs4,hle2,htk,ne0]
   repeat' ((first|with_reducible refine wr ?_|((with_reducible refine wb2 ?_ ?_)<;>(intro hb;try simp only [hb]))|((with_reducible refine k_eval (b_appx (insC_len2 _) (by omega) (by omega)) ?_))|((with_reducible refine k_eval (b_appx (hl3 _ _) (by omega) (by omega)) ?_))|((with_reducible refine k_eval (b_appx (hl4 _ _) (by omega) (by omega)) ?_))|fail)<;>try simp only [go_sem,seval,hs1,hs2,hs3,hs4,hle2,htk,ne0])
   have es:stmtM l (d+1) base p=stK l (stmtM l d) base 13 p1:=by simp only [stmtM];rw [e0];try rfl
   rw [es]
   refine v_end (id:=c3+4) hfr (by omega) (by omega) htc (by first|rfl|simp only [stK,List.length_append,List.length_singleton]) ?_ ?_ fun j h1 h2=>?_
   ·repeat (first|exact h_same|rw [h_ne (by omega)]|rw [h_dne (by omega)])
   ·rw [h_same];simp only [stK,insC_app,insC_one]
   ·repeat (first|rfl|rw [h_ne (by omega)]|rw [h_dne (by omega)])
  ·have nk:((14:Nat):Int)=14:=rfl
   simp only [go_sem,seval,hdl,nk,Int.reduceGT,Int.reduceBEq,Int.reduceLE,decide_true,decide_false,hw2,hw1]
   repeat' ((first|with_reducible refine wr ?_|((with_reducible refine wb2 ?_ ?_)<;>(intro hb;try simp only [hb]))|fail)<;>try simp only [go_sem,seval,hdl,nk,Int.reduceGT,Int.reduceBEq,Int.reduceLE,decide_true,decide_false,hw2,hw1])
   refine AC.call (c_value l hl 0 (by omega) (p1) hp1 _ _ t (by repeat (first|exact h_same|rw [h_ne (by omega)]|rw [h_dne (by omega)])) (by omega)) ?_
   rintro v H' c2 ⟨id1,ia1,ib1,rfl,rfl⟩ hcc2
   have hb1:=valueM_l0 l (p1)
   have hp2:=valueM_le l 0 (p1) hp1
   have hs1:=w_sum (a:=base) (b:=(valueM l 0 p1).1.length) (by omega)
   have hs2:=w_sum (a:=base+(valueM l 0 p1).1.length) (b:=1) (by omega)
   have one:((1:Nat):Int)=1:=rfl
   rw [one] at hs2
   have ne0:¬t=id1∧¬t=c2∧¬t=c2+1∧¬id1=t∧¬id1=c2∧¬id1=c2+1∧¬c2=t∧¬c2=id1∧¬c2=c2+1∧¬c2+1=t∧¬c2+1=id1∧¬c2+1=c2:=by and_intros<;>omega
   simp only [go_sem,seval,hs1,hs2,hw2,hw1,ne0]
   repeat' ((first|with_reducible refine wr ?_|((with_reducible refine wb2 ?_ ?_)<;>(intro hb;try simp only [hb]))|((with_reducible refine k_eval (b_appx (insC_len2 _) (by omega) (by omega)) ?_))|fail)<;>try simp only [go_sem,seval,hs1,hs2,hw2,hw1,ne0])
   refine AC.call (ih (by omega) (base+(valueM l 0 p1).1.length+1) ((valueM l 0 p1).2) (by omega) hp2 _ _ t (by repeat (first|exact h_same|rw [h_ne (by omega)]|rw [h_dne (by omega)])) (by omega)) ?_
   rintro v H' c3 ⟨id2,ia2,ib2,rfl,rfl⟩ hcc3
   have hb2:=stmtM_len l d (base+(valueM l 0 p1).1.length+1) ((valueM l 0 p1).2)
   have hs4:=w_sum (a:=base+(valueM l 0 p1).1.length) (b:=2) (by omega)
   have two:((2:Nat):Int)=2:=rfl
   rw [two] at hs4
   have hs3:=w_sum (a:=base+(valueM l 0 p1).1.length+2) (b:=(stmtM l d (base+(valueM l 0 p1).1.length+1) (valueM l 0 p1).2).1.length) (by omega)
   have hl2:=insC_len2 (stmtM l d (base+(valueM l 0 p1).1.length+1) (valueM l 0 p1).2).1
   have hle2:(stmtM l d (base+(valueM l 0 p1).1.length+1) (valueM l 0 p1).2).1.length * 2≤(insC (stmtM l d (base+(valueM l 0 p1).1.length+1) (valueM l 0 p1).2).1).length:=by omega
   have htk:=List.take_of_length_le (l:=insC (stmtM l d (base+(valueM l 0 p1).1.length+1) (valueM l 0 p1).2).1) (i:=(stmtM l d (base+(valueM l 0 p1).1.length+1) (valueM l 0 p1).2).1.length * 2) (by omega)
   have hl3:=fun x y=>insL1 (valueM l 0 p1).1 x y
   have hl4:=fun x y=>insL3 (valueM l 0 p1).1 (stmtM l d (base+(valueM l 0 p1).1.length+1) (valueM l 0 p1).2).1 x y
   have ne0:¬t=id1∧¬t=id2∧¬t=c3∧¬t=c3+1∧¬t=c3+2∧¬t=c3+3∧¬t=c3+4∧¬id1=t∧¬id1=id2∧¬id1=c3∧¬id1=c3+1∧¬id1=c3+2∧¬id1=c3+3∧¬id1=c3+4∧¬id2=t∧¬id2=id1∧¬id2=c3∧¬id2=c3+1∧¬id2=c3+2∧¬id2=c3+3∧¬id2=c3+4∧¬c3=t∧¬c3=id1∧¬c3=id2∧¬c3=c3+1∧¬c3=c3+2∧¬c3=c3+3∧¬c3=c3+4∧¬c3+1=t∧¬c3+1=id1∧¬c3+1=id2∧¬c3+1=c3∧¬c3+1=c3+2∧¬c3+1=c3+3∧¬c3+1=c3+4∧¬c3+2=t∧¬c3+2=id1∧¬c3+2=id2∧¬c3+2=c3∧¬c3+2=c3+1∧¬c3+2=c3+3∧¬c3+2=c3+4∧¬c3+3=t∧¬c3+3=id1∧¬c3+3=id2∧¬c3+3=c3∧¬c3+3=c3+1∧¬c3+3=c3+2∧¬c3+3=c3+4∧¬c3+4=t∧¬c3+4=id1∧¬c3+4=id2∧¬c3+4=c3∧¬c3+4=c3+1∧¬c3+4=c3+2∧¬c3+4=c3+3:=by and_intros<;>omega
   simp only [go_sem,seval,hs1,hs2,hs3,hs4,hle2,htk,ne0]
   repeat' ((first|with_reducible refine wr ?_|((with_reducible refine wb2 ?_ ?_)<;>(intro hb;try simp only [hb]))|((with_reducible refine k_eval (b_appx (insC_len2 _) (by omega) (by omega)) ?_))|((with_reducible refine k_eval (b_appx (hl3 _ _) (by omega) (by omega)) ?_))|((with_reducible refine k_eval (b_appx (hl4 _ _) (by omega) (by omega)) ?_))|fail)<;>try simp only [go_sem,seval,hs1,hs2,hs3,hs4,hle2,htk,ne0])
   have es:stmtM l (d+1) base p=stK l (stmtM l d) base 14 p1:=by simp only [stmtM];rw [e0];try rfl
   rw [es]
   refine v_end (id:=c3+4) hfr (by omega) (by omega) htc (by first|rfl|simp only [stK,List.length_append,List.length_singleton]) ?_ ?_ fun j h1 h2=>?_
   ·repeat (first|exact h_same|rw [h_ne (by omega)]|rw [h_dne (by omega)])
   ·rw [h_same];simp only [stK,insC_app,insC_one]
   ·repeat (first|rfl|rw [h_ne (by omega)]|rw [h_dne (by omega)])
end Go.Proofs.YtcallbfckjlagaaGreat
namespace Go.Proofs.YtcallbfckjlagaaGreat
open Go.Eng (IC IOper DReg IFn IsFn)
open Go.Sym Go.Pb
section
def u8_10:IC:=.cond (.t 37) .skip (.exit 0)
def u8_9r:List IOper:=[oM 34 6,oM 35 5,oH 36 35,oB 37 34 36 .lss]
def u8_9:IC:=.seq (.reg u8_9r) u8_10
def u8_14:IC:=.cond (.t 46) (.exit 1) .skip
def u8_13r:List IOper:=[oM 40 6,oK 41 40 .gtr 0,oM 42 41,gM 43 3 42,⟨some 44,.call 20 [.t 43,.k (.int .i64 2)],some (42,true)⟩,gK 45 44 42 .eql 0,oP 46 (.pick (.t 42) (.t 45) (.k (.bool false)))]
def u8_13:IC:=.seq (.reg u8_13r) u8_14
def u8_23:IC:=.cond (.t 64) .skip (.exit 2)
def u8_22r:List IOper:=[oM 63 8,oK 64 63 .gtr 0]
def u8_22:IC:=.seq (.reg u8_22r) u8_23
def u8_25r:DReg:=⟨[oF 67 4 0,oL 68 67,oM 69 3,oF 70 4 0,oL 71 70,oH 72 71,oC 73 21 [.t 69,.t 72,.k (.int .i64 2)],⟨some 74,.eff (.app 2 16 (.t 68) (.t 73)),none⟩,oF 75 4 0,oS 75 74 1],[[],[0],[],[],[3],[4,3],[2,5,4,3],[1,6,0,2,5,4,3],[0,1,2,3,4,5,6,7],[8,7,0,1,2,3,4,5,6]],[(0,none),(1,none),(2,none),(3,none),(4,none),(5,none),(6,some [0,1]),(7,some []),(8,none),(9,some [])]⟩
def u8_25:IC:=.drw 10 u8_25r
def u8_26r:List IOper:=[oM 65 8,oK 66 65 .sub 1,oM 8 66]
def u8_26:IC:=.reg u8_26r
def u8_24:IC:=.seq (.blk 3 u8_25) u8_26
def u8_21:IC:=.seq u8_22 u8_24
def u8_20:IC:=.blk 2 (.loop u8_21)
def u8_19r:List IOper:=[oM 61 3,oC 62 20 [.t 61,.k (.int .i64 4)],oM 8 62]
def u8_19:IC:=.seq (.reg u8_19r) u8_20
def u8_27r:List IOper:=[oF 76 4 0,oL 77 76,oP 78 (.bld #[.int .i64 0,.int .i64 0] [(0,1),(1,1)] [(0,.k (.int .i64 31))]),⟨some 79,.new (.bsl 2 1 #[.int .i64 0,.int .i64 0] [(0,.t 78)]),none⟩,⟨some 80,.eff (.app 2 16 (.t 77) (.t 79)),none⟩,oF 81 4 0,oS 81 80 1]
def u8_27:IC:=.reg u8_27r
def u8_18:IC:=.seq u8_19 u8_27
def u8_17r:List IOper:=[oF 55 4 2,oL 56 55,oD 57 7 4,⟨some 58,.new (.bsl 4 1 #[.int .i64 0,.int .i64 0,.int .i64 0,.int .i64 0] [(0,.t 57)]),none⟩,⟨some 59,.eff (.app 4 32 (.t 56) (.t 58)),none⟩,oF 60 4 2,oS 60 59 1]
def u8_17:IC:=.seq (.reg u8_17r) u8_18
def u8_16r:List IOper:=[oF 51 4 0,oL 52 51,oH 53 52,oF 54 7 3,oS 54 53 1]
def u8_16:IC:=.seq (.reg u8_16r) u8_17
def u8_15r:List IOper:=[oM 47 5,oM 48 6,oA 49 47 48 4,oD 50 49 4,⟨some 7,.new (.box (.k (.agg #[.int .i64 0,.int .i64 0,.int .i64 0,.int .i64 0]))),none⟩,oS 7 50 4]
def u8_15:IC:=.seq (.reg u8_15r) u8_16
def u8_12:IC:=.seq u8_13 u8_15
def u8_28r:List IOper:=[oM 38 6,oK 39 38 .add 1,oM 6 39]
def u8_28:IC:=.reg u8_28r
def u8_11:IC:=.seq (.blk 1 u8_12) u8_28
def u8_8:IC:=.seq u8_9 u8_11
def u8_7:IC:=.blk 0 (.loop u8_8)
def u8_6r:List IOper:=[oI 6 0]
def u8_6:IC:=.seq (.reg u8_6r) u8_7
def u8_29r:List IOper:=[oD 82 4 7,oS 2 82 7]
def u8_29:IC:=.seq (.reg u8_29r) .ret
def u8_5:IC:=.seq u8_6 u8_29
def u8_4r:List IOper:=[oP 24 (.bld #[.int .i64 0,.int .i64 0,.int .i64 0,.int .i64 0] [(0,1),(1,1),(2,1),(3,1)] [(1,.k (.int .i64 1))]),oP 25 (.bld #[.int .i64 0,.int .i64 0,.int .i64 0,.int .i64 0] [(0,1),(1,1),(2,1),(3,1)] [(1,.k (.int .i64 2))]),oP 26 (.bld #[.int .i64 0,.int .i64 0,.int .i64 0,.int .i64 0] [(0,1),(1,1),(2,1),(3,1)] [(1,.k (.int .i64 3)),(2,.k (.int .i64 3))]),oP 27 (.bld #[.int .i64 0,.int .i64 0,.int .i64 0,.int .i64 0] [(0,1),(1,1),(2,1),(3,1)] [(1,.k (.int .i64 5)),(2,.k (.int .i64 1))]),oP 28 (.bld #[.int .i64 0,.int .i64 0,.int .i64 0,.int .i64 0] [(0,1),(1,1),(2,1),(3,1)] [(1,.k (.int .i64 6))]),oP 29 (.bld #[.int .i64 0,.int .i64 0,.int .i64 0,.int .i64 0] [(0,1),(1,1),(2,1),(3,1)] [(0,.k (.int .i64 1)),(1,.k (.int .i64 1))]),oP 30 (.bld #[.int .i64 0,.int .i64 0,.int .i64 0,.int .i64 0] [(0,1),(1,1),(2,1),(3,1)] [(0,.k (.int .i64 1)),(1,.k (.int .i64 3)),(2,.k (.int .i64 3))]),oP 31 (.bld #[.int .i64 0,.int .i64 0,.int .i64 0,.int .i64 0] [(0,1),(1,1),(2,1),(3,1)] [(0,.k (.int .i64 1)),(1,.k (.int .i64 4)),(2,.k (.int .i64 63))]),oP 32 (.bld #[.int .i64 0,.int .i64 0,.int .i64 0,.int .i64 0] [(0,1),(1,1),(2,1),(3,1)] [(0,.k (.int .i64 1)),(1,.k (.int .i64 6)),(2,.k (.int .i64 1))]),⟨some 33,.new (.bsl 4 9 #[.int .i64 0,.int .i64 0,.int .i64 0,.int .i64 0] [(0,.t 24),(1,.t 25),(2,.t 26),(3,.t 27),(4,.t 28),(5,.t 29),(6,.t 30),(7,.t 31),(8,.t 32)]),none⟩,oM 5 33]
def u8_4:IC:=.seq (.reg u8_4r) u8_5
def u8_3r:List IOper:=[⟨some 16,.new (.bsl 1 2 #[.string ⟨#[]⟩] [(0,.k (.string ⟨#[103,111]⟩)),(1,.k (.string ⟨#[111,118,101,114]⟩))]),none⟩,oM 17 3,oC 18 20 [.t 17,.k (.int .i64 4)],oM 19 3,oC 20 20 [.t 19,.k (.int .i64 4)],⟨some 21,.new (.bsl 1 2 #[.int .i64 0] [(0,.t 18),(1,.t 20)]),none⟩,⟨some 22,.new (.bsl 1 3 #[.int .i64 0] [(0,.k (.int .i64 0)),(1,.k (.int .i64 5)),(2,.k (.int .i64 (-3)))]),none⟩,oP 23 (.bld #[.slice none 0 0,.slice none 0 0,.slice none 0 0,.slice none 0 0,.slice none 0 0,.int .i64 0,.int .i64 0] [(0,1),(1,1),(2,1),(3,1),(4,1),(5,1),(6,1)] [(1,.t 16),(3,.t 21),(4,.t 22),(5,.k (.int .i64 2)),(6,.k (.int .i64 2))]),⟨some 4,.new (.box (.k (.agg #[.slice none 0 0,.slice none 0 0,.slice none 0 0,.slice none 0 0,.slice none 0 0,.int .i64 0,.int .i64 0]))),none⟩,oS 4 23 7]
def u8_3:IC:=.seq (.reg u8_3r) u8_4
def u8_2r:List IOper:=[oM 9 0,oM 10 0,oH 11 10,oP 12 (.mn (.t 11) (.k (.int .i64 200))),oP 13 (.slc 1 (.t 9) none (some (.t 12))),oP 14 (.bld #[.slice none 0 0,.int .i64 0] [(0,1),(1,1)] [(0,.t 13)]),⟨some 15,.new (.box (.t 14)),none⟩,oM 3 15]
def u8_2:IC:=.seq (.reg u8_2r) u8_3
def u8_1r:List IOper:=[⟨some 2,.new (.box (.k (.agg #[.slice none 0 0,.slice none 0 0,.slice none 0 0,.slice none 0 0,.slice none 0 0,.int .i64 0,.int .i64 0]))),none⟩]
def u8_1:IC:=.seq (.reg u8_1r) u8_2
def u8:IFn:=⟨83,u8_1,[.cell 2 7 true]⟩
end
theorem isU8:IsFn Tryz.prog 8 u8:=by unfold IsFn;kernel_rfl
instance i8_10:WR Tryz.prog 83 u8_10 (rCE (.t 37) .skip (.exit 0) [2,3,4,5,6,37]):=⟨mkCE⟩
instance i8_9:WR Tryz.prog 83 u8_9 (rS u8_9r u8_10 [2,3,4,5,6]):=⟨mkS⟩
instance i8_14:WR Tryz.prog 83 u8_14 (rCE (.t 46) (.exit 1) .skip [2,3,4,5,6,46]):=⟨mkCE⟩
instance i8_13:WR Tryz.prog 83 u8_13 (rS u8_13r u8_14 [2,3,4,5,6]):=⟨mkS⟩
instance i8_23:WR Tryz.prog 83 u8_23 (rCE (.t 64) .skip (.exit 2) [2,3,4,5,6,8,64]):=⟨mkCE⟩
instance i8_22:WR Tryz.prog 83 u8_22 (rS u8_22r u8_23 [2,3,4,5,6,8]):=⟨mkS⟩
instance i8_25:WR Tryz.prog 83 u8_25 (rDE 10 u8_25r [2,3,4,5,6,8]):=⟨mkDE⟩
instance i8_26:WR Tryz.prog 83 u8_26 (rE u8_26r [2,3,4,5,6,8]):=⟨mkE⟩
instance i8_24:WR Tryz.prog 83 u8_24 (rB 3 u8_25 u8_26 [2,3,4,5,6,8]):=⟨mkB⟩
instance i8_21:WR Tryz.prog 83 u8_21 (rQ u8_22 u8_24 [2,3,4,5,6,8]):=⟨mkQ⟩
instance i8_20:WR Tryz.prog 83 u8_20 (rBE 2 (.loop u8_21) [2,3,4,5,6,8]):=⟨mkBE⟩
instance i8_19:WR Tryz.prog 83 u8_19 (rS u8_19r u8_20 [2,3,4,5,6]):=⟨mkS⟩
instance i8_27:WR Tryz.prog 83 u8_27 (rE u8_27r [2,3,4,5,6]):=⟨mkE⟩
instance i8_18:WR Tryz.prog 83 u8_18 (rQ u8_19 u8_27 [2,3,4,5,6]):=⟨mkQ⟩
instance i8_17:WR Tryz.prog 83 u8_17 (rS u8_17r u8_18 [2,3,4,5,6,7]):=⟨mkS⟩
instance i8_16:WR Tryz.prog 83 u8_16 (rS u8_16r u8_17 [2,3,4,5,6,7]):=⟨mkS⟩
instance i8_15:WR Tryz.prog 83 u8_15 (rS u8_15r u8_16 [2,3,4,5,6]):=⟨mkS⟩
instance i8_12:WR Tryz.prog 83 u8_12 (rQ u8_13 u8_15 [2,3,4,5,6]):=⟨mkQ⟩
instance i8_28:WR Tryz.prog 83 u8_28 (rE u8_28r [2,3,4,5,6]):=⟨mkE⟩
instance i8_11:WR Tryz.prog 83 u8_11 (rB 1 u8_12 u8_28 [2,3,4,5,6]):=⟨mkB⟩
instance i8_8:WR Tryz.prog 83 u8_8 (rQ u8_9 u8_11 [2,3,4,5,6]):=⟨mkQ⟩
instance i8_7:WR Tryz.prog 83 u8_7 (rBE 0 (.loop u8_8) [2,3,4,5,6]):=⟨mkBE⟩
instance i8_6:WR Tryz.prog 83 u8_6 (rS u8_6r u8_7 [2,3,4,5]):=⟨mkS⟩
instance i8_29:WR Tryz.prog 83 u8_29 (rS u8_29r .ret [2,4]):=⟨mkS⟩
instance i8_5:WR Tryz.prog 83 u8_5 (rQ u8_6 u8_29 [2,3,4,5]):=⟨mkQ⟩
instance i8_4:WR Tryz.prog 83 u8_4 (rS u8_4r u8_5 [2,3,4]):=⟨mkS⟩
instance i8_3:WR Tryz.prog 83 u8_3 (rS u8_3r u8_4 [2,3]):=⟨mkS⟩
instance i8_2:WR Tryz.prog 83 u8_2 (rS u8_2r u8_3 [0,2]):=⟨mkS⟩
instance i8_1:WR Tryz.prog 83 u8_1 (rS u8_1r u8_2 [0]):=⟨mkS⟩
attribute [go_sem] u8_9r u8_13r u8_22r u8_25r u8_26r u8_19r u8_27r u8_17r u8_16r u8_15r u8_28r u8_6r u8_29r u8_4r u8_3r u8_2r u8_1r
theorem c_Made (l:List UInt8) (hl:l.length≤9223372036854775807):PC Tryz.prog 8 [.lst (bytesC l)] (madeM l).v:=by
 have nlb:DV.nlL (bytesC l)=true:=nlL_map (fun _=>rfl) l
 refine PC.of mixedU isU8 (Nat.le_of_ble_eq_true rfl) (by simp [DV.nlL,DV.nl,nlb]) (by simp [DV.nlL,DV.nl,nlL_ints,nlL_strs,nlL_instrs,nlL_entries]) ?_
 show IW Tryz.prog 83 u8_1 ⟨argT _,_,_⟩ (rt [.cell 2 7 true] _)
 have hlen:=bytesC_len l
 obtain ⟨t,ht⟩:∃ t,t=l.take 200:=⟨_,rfl⟩
 have htl:t.length≤200:=by rw [ht,List.length_take];omega
 have hmn:(if (200:Int)<((l.length:Nat):Int) then (200:Int) else ((l.length:Nat):Int))=((t.length:Nat):Int):=by
  rw [ht,List.length_take];split<;>omega
 have hsl:∀ H,slcR H 1 (.lst (bytesC l)) none (some (I64 (t.length:Int)))=some (.lst (bytesC t)):=fun H=>by
  have e:l.take t.length=t:=by
   rw [ht,List.length_take]
   by_cases h:200≤l.length
   ·rw [Nat.min_eq_left h]
   ·rw [Nat.min_eq_right (by omega),List.take_of_length_le (Nat.le_refl _),List.take_of_length_le (by omega)]
  rw [slc_bytes (by rw [ht,List.length_take];omega),e]
 repeat' ((first|with_reducible refine wr ?_|((with_reducible refine wb2 ?_ ?_)<;>(intro hb;try simp only [hb]))|fail)<;>try simp only [go_sem,seval,hlen,hmn,hsl])
 refine AC.call (c_next t (by omega) 0 (by omega) 4 (by omega) (by omega) _ _ 1 rfl (by omega)) ?_
 rintro v H' c1 ⟨rfl,rfl⟩ hc1
 have hp1:=nextM_le (l:=t) (p:=0) (n:=4) (by omega)
 simp only [go_sem,seval]
 repeat' ((first|with_reducible refine wr ?_|((with_reducible refine wb2 ?_ ?_)<;>(intro hb;try simp only [hb]))|fail)<;>try simp only [go_sem,seval])
 refine AC.call (c_next t (by omega) _ hp1 4 (by omega) (by omega) _ _ 1 h_same (by omega)) ?_
 rintro v H' c2 ⟨rfl,rfl⟩ hc2
 have hp2:=nextM_le (l:=t) (p:=(nextM t 0 4).2) (n:=4) hp1
 rw [h_upd2]
 have ne0:¬0=c2∧¬0=c2+1∧¬0=c2+2∧¬0=c2+3∧¬1=c2∧¬1=c2+1∧¬1=c2+2∧¬1=c2+3∧¬2=c2∧¬2=c2+1∧¬2=c2+2∧¬2=c2+3∧¬c2=0∧¬c2=1∧¬c2=2∧¬c2=c2+1∧¬c2=c2+2∧¬c2=c2+3∧¬c2+1=0∧¬c2+1=1∧¬c2+1=2∧¬c2+1=c2∧¬c2+1=c2+2∧¬c2+1=c2+3∧¬c2+2=0∧¬c2+2=1∧¬c2+2=2∧¬c2+2=c2∧¬c2+2=c2+1∧¬c2+2=c2+3∧¬c2+3=0∧¬c2+3=1∧¬c2+3=2∧¬c2+3=c2∧¬c2+3=c2+1∧¬c2+3=c2+2:=by and_intros<;>omega
 simp only [go_sem,seval,ne0]
 repeat' ((first|with_reducible refine wr ?_|((with_reducible refine wb2 ?_ ?_)<;>(intro hb;try simp only [hb]))|fail)<;>try simp only [go_sem,seval,ne0])
 have hkk:∃ k,k=c2+1+1:=⟨_,rfl⟩
 have hkeys:(entsV keysM)=entsV keysM:=rfl
 refine IW.keep [2,3,4,5,6] [.ptr 0 0,.ptr 1 0,.ptr (c2+1+1) 0,entsV keysM,I64 0]
  (H':=MH (c2+1+1) t (nextM t (nextM t 0 4).2 4).2 (strs mdS) (ints (mdP t)) (ints mdV) [] [] none none)
  ((g_cell (a:=2) (k:=c2+1+1) (u:=1) (u':=1) (pre:=[.snil]) (suf:=[.snil,.slc c2 0 2,.slc (c2+1) 0 3,I64 2,I64 2]) (xs:=mdS.map DV.str) (junk:=[]) (by simp only [go_sem,ne0,List.cons_append,List.nil_append];rfl) (by simp only [go_sem,ne0];rfl) (by simp [DV.one]) rfl (str_unit _) (by omega)).trans
  ((g_cell (a:=c2) (k:=c2+1+1) (u:=1) (u':=1) (pre:=[.snil,strs mdS,.snil]) (suf:=[.slc (c2+1) 0 3,I64 2,I64 2]) (xs:=(mdP t).map I64) (junk:=[]) (by simp only [go_sem,ne0,List.cons_append,List.nil_append];rfl) (by simp only [go_sem,ne0];rfl) (by simp [DV.one]) rfl (ints_unit _) (by omega)).trans
  ((g_cell (a:=c2+1) (k:=c2+1+1) (u:=1) (u':=1) (pre:=[.snil,strs mdS,.snil,ints (mdP t)]) (suf:=[I64 2,I64 2]) (xs:=mdV.map I64) (junk:=[]) (by simp only [go_sem,ne0,List.cons_append,List.nil_append];rfl) (by simp only [go_sem,ne0];rfl) (by simp [DV.one]) rfl (ints_unit _) (by omega)).trans
  (GL.frzS (id:=c2+1+1+1) (b:=⟨4,true,cellsL (keysM.map Ent.v)⟩) (by simp only [go_sem,ne0];rfl) rfl (fun j=>?_) (.cons _ _ _ _ (.same _) (.cons _ _ _ _ (.same _) (.cons _ _ _ _ (.same _) (.cons _ _ _ _ (fz_slc (u:=4) rfl (ent_unit _) ⟨[],by simp⟩) (.cons _ _ _ _ (.same _) .nil))))))))) ?_
 ·by_cases e1:j=c2+1+1
  ·subst e1;right;refine ⟨by omega,?_⟩;rw [h_same];unfold MH;simp only [optH];rw [h_same];rfl
  ·by_cases e2:j=1
   ·subst e2;right;refine ⟨by omega,?_⟩;rw [h_ne (by omega),h_dne (by omega),h_ne (by omega),h_dne (by omega),h_ne (by omega),h_dne (by omega)];simp only [go_sem,ne0];rfl
   ·by_cases e3:j=0
    ·subst e3;right;refine ⟨by omega,?_⟩;rw [h_ne (by omega),h_dne (by omega),h_ne (by omega),h_dne (by omega),h_ne (by omega),h_dne (by omega)];simp only [go_sem,ne0];rfl
    ·left;unfold MH;simp only [optH];rw [h_ne e1,h_ne e2,h_ne e3];rfl
 obtain ⟨k,hk⟩:∃ k,k=c2+1+1:=⟨_,rfl⟩
 rw [← hk]
 have hkl:keysM.length=9:=rfl
 refine i_loop (fun q:Nat × Option Nat × Option Nat=>[(2,.ptr 0 0),(3,.ptr 1 0),(4,.ptr k 0),(5,entsV keysM),(6,I64 q.1)]) (fun q=>MH k t (mdK t q.1).p (strs mdS) (ints (mdP t)) (ints mdV) (mdK t q.1).I (mdK t q.1).E q.2.1 q.2.2)
  (fun q cc=>MO k q.2.1 q.2.2 cc∧q.1≤9∧(q.2.1=none→(mdK t q.1).I=[])∧(q.2.2=none→(mdK t q.1).E=[])∧(q.1≠0→q.2.1≠none∧q.2.2≠none)) (fun q=>9-q.1) (0,none,none)
  (by simp [tmLe,tm,Tm.upd]) (Sub.refl _) ⟨⟨by omega,by omega,by simp,by simp,by simp⟩,by simp,fun _=>rfl,fun _=>rfl,by simp⟩ ?_
 clear hkeys hkk
 rintro ⟨i,o1,o2⟩ cc ⟨hO,hi9,hn1,hn2,hne⟩
 simp only at hO hi9 hn1 hn2 hne
 obtain ⟨B1,B2,B3⟩:=mdK_bd (l:=t) i
 by_cases hlt:i<9
 ·have hd:decide ((i:Int)<9)=true:=by simp;omega
  have hw:IntKind.i64.wrap ((i:Int)+1)=((i+1:Nat):Int):=by rw [w64 (by omega) (by omega)];omega
  obtain ⟨e,he⟩:∃ e,e=keysM.getD i ⟨0,0,0,0⟩:=⟨_,rfl⟩
  have hg:keysM[i]? = some e:=by rw [he,List.getD,List.getElem?_eq_getElem (by rw [hkl];exact hlt)];rfl
  obtain ⟨x,hx⟩:∃ x,x=mdK t i:=⟨_,rfl⟩
  have hmd:mdK t (i+1)=mdI t e i x:=by rw [he,hx];rfl
  rw [← hx] at B1 B2 B3 hn1 hn2
  simp only
  rw [← hx]
  obtain ⟨I,E,p⟩:=x
  simp only at B1 B2 B3 hn1 hn2 ⊢
  by_cases hi0:i=0
  ·have hgt:decide ((i:Int)>0)=false:=by simp;omega
   obtain ⟨pp,hpp⟩:∃ pp,pp=p:=⟨_,rfl⟩
   have hmd2:mdK t (i+1)=mdH t e ⟨I,E,p⟩ pp:=by rw [hmd,mdI,if_pos hi0,hpp]
   have Hpp:pp≤t.length:=by rw [hpp];exact B1
   rw [← hpp]
   have hlt1:=r_lentodo (o:=o1) (n:=I.length) (fun e=>len_nil (hn1 e))
   have hD:=fun (p:Nat)=>MH_k (l:=t) (p:=p) (S:=strs mdS) (P:=ints (mdP t)) (V:=ints mdV) (I:=I) (E:=E) hO
   have hcc:=hO.kc
   have hk2:=hO.k2
   have hdk:∀ X,delO X o2 k=X k:=fun X=>delO_ne (fun i hi e=>by have:=hO.b i hi;omega)
   have hd1:∀ X,delO X o2 1=X 1:=fun X=>delO_ne (fun i hi e=>by have:=hO.b i hi;omega)
   have hd0:∀ X,delO X o2 0=X 0:=fun X=>delO_ne (fun i hi e=>by have:=hO.b i hi;omega)
   have hda:∀ X j,o1=some j→delO X o2 j=X j:=fun X j hj=>delO_ne (fun i hi e=>hO.ne j hj (by rw [e];exact hi))
   have ne0:¬0=k∧¬0=cc∧¬0=cc+1∧¬0=cc+2∧¬1=k∧¬1=cc∧¬1=cc+1∧¬1=cc+2∧¬k=0∧¬k=1∧¬k=cc∧¬k=cc+1∧¬k=cc+2∧¬cc=0∧¬cc=1∧¬cc=k∧¬cc=cc+1∧¬cc=cc+2∧¬cc+1=0∧¬cc+1=1∧¬cc+1=k∧¬cc+1=cc∧¬cc+1=cc+2∧¬cc+2=0∧¬cc+2=1∧¬cc+2=k∧¬cc+2=cc∧¬cc+2=cc+1:=by and_intros<;>omega
   repeat' ((first|with_reducible refine wr ?_|((with_reducible refine wb2 ?_ ?_)<;>(intro hb;try simp only [hb]))|fail)<;>try simp only [go_sem,seval,hkl,hd,hgt,hg,hlt1,hD,ne0])
   refine k_eval (r_apptodo (cs:=cellsL (E.map Ent.v)) (fun e=>⟨len_nil (hn2 e),entC_nil (hn2 e)⟩) (fun i hi=>?_) (entC_len' E) (by omega) (by omega) (by omega)) ?_
   ·have:=hO.b i hi
    rw [h_ne (by omega),h_ne (by omega),h_ne (by omega),h_ne (by omega)];exact MH_b hi
   simp only [go_sem,seval,hdk,hD,ne0]
   repeat' ((first|with_reducible refine wr ?_|((with_reducible refine wb2 ?_ ?_)<;>(intro hb;try simp only [hb]))|fail)<;>try simp only [go_sem,seval,hdk,hD,ne0])
   refine AC.call (c_next t (by omega) pp Hpp 4 (by omega) (by omega) _ _ 1 (by repeat (first|exact MH_1 hO|rw [h_ne (by omega)]|rw [hd1])) (by omega)) ?_
   rintro v H' c4 ⟨rfl,rfl⟩ hc4
   have hq4:=nextM_lt (l:=t) (p:=pp) (n:=4) (by omega)
   have hp4:=nextM_le (l:=t) (p:=pp) (n:=4) Hpp
   obtain ⟨n,hn⟩:∃ n,n=(nextM t pp 4).1:=⟨_,rfl⟩
   obtain ⟨p2,hp2⟩:∃ p2,p2=(nextM t pp 4).2:=⟨_,rfl⟩
   rw [← hn, ← hp2]
   rw [← hn] at hq4
   rw [← hp2] at hp4
   simp only [go_sem,seval]
   repeat' ((first|with_reducible refine wr ?_|((with_reducible refine wb2 ?_ ?_)<;>(intro hb;try simp only [hb]))|fail)<;>try simp only [go_sem,seval])
   obtain ⟨e',he'⟩:∃ e':Ent,e'=⟨e.mode,e.trigger,e.index,(I.length:Int)⟩:=⟨_,rfl⟩
   have hE':cellsL ((E++[e']).map Ent.v)=cellsL (E.map Ent.v)++[I64 e.mode,I64 e.trigger,I64 e.index,I64 (I.length:Int)]:=by rw [entC_snoc,he']
   refine i_loop (fun q:Nat × Option Nat=>[(2,.ptr 0 0),(3,.ptr 1 0),(4,.ptr k 0),(5,entsV keysM),(6,I64 i),(8,I64 ((n-q.1:Nat):Int))]) (fun q=>MH k t (mdB t q.1 (I,p2)).2 (strs mdS) (ints (mdP t)) (ints mdV) (mdB t q.1 (I,p2)).1 (E++[e']) q.2 (some (cc+1+1)))
    (fun q c=>MO k q.2 (some (cc+1+1)) c∧q.1≤n∧(q.2=none→(mdB t q.1 (I,p2)).1=[])) (fun q=>n-q.1) (0,o1) (by simp [tmLe,tm,Tm.upd]) ?_ ?_ ?_
   ·refine MH_sub (by repeat (first|exact MH_0 hO|rw [h_ne (by omega)]|rw [hd0])) h_same ?_ (fun j hj=>?_) (fun j hj=>?_)
    ·rw [h_ne (by omega),h_same,List.length_append];rfl
    ·have:=hO.a j hj
     rw [h_ne (by omega),h_ne (by omega),h_ne (by omega),hda _ j hj,h_ne (by omega),h_ne (by omega),h_ne (by omega),h_ne (by omega)];exact MH_a hO hj
    ·cases hj
     rw [h_ne (by omega),h_ne (by omega),h_same,hE']
   ·exact ⟨⟨hk2,by omega,fun j hj=>by have:=hO.a j hj;omega,fun j hj=>by cases hj;omega,fun j hj e=>by cases e;have:=hO.a _ hj;omega⟩,by simp,hn1⟩
   rintro ⟨j,oj⟩ cj ⟨hOj,hjn,hnj⟩
   simp only at hOj hjn hnj
   have hbl:=mdB_len (l:=t) (x:=(I,p2)) j
   have hbp:=mdB_pos (l:=t) (x:=(I,p2)) hp4 j
   simp only at hbl
   obtain ⟨Ij,hIj⟩:∃ x,x=(mdB t j (I,p2)).1:=⟨_,rfl⟩
   obtain ⟨pj,hpj⟩:∃ x,x=(mdB t j (I,p2)).2:=⟨_,rfl⟩
   simp only
   rw [← hIj, ← hpj]
   rw [← hIj] at hbl hnj
   rw [← hpj] at hbp
   have hDj:=fun (p:Nat)=>MH_k (l:=t) (p:=p) (S:=strs mdS) (P:=ints (mdP t)) (V:=ints mdV) (I:=Ij) (E:=E++[e']) hOj
   have hltj:=r_lentodo (o:=oj) (n:=Ij.length) (fun e=>len_nil (hnj e))
   have hckj:=hOj.kc
   by_cases hj0:j<n
   ·have hgj:decide (((n-j:Nat):Int)>0)=true:=by simp;omega
    have hwj:IntKind.i64.wrap (((n-j:Nat):Int)-1)=((n-(j+1):Nat):Int):=by rw [w64 (by omega) (by omega)];omega
    have f0:=MH_n (l:=t) (p:=pj) (S:=strs mdS) (P:=ints (mdP t)) (V:=ints mdV) (I:=Ij) (E:=E++[e']) hOj (j:=cj) (by omega)
    have f1:=MH_n (l:=t) (p:=pj) (S:=strs mdS) (P:=ints (mdP t)) (V:=ints mdV) (I:=Ij) (E:=E++[e']) hOj (j:=cj+1) (by omega)
    have ne0:¬0=k∧¬0=cj∧¬0=cj+1∧¬1=k∧¬1=cj∧¬1=cj+1∧¬k=0∧¬k=1∧¬k=cj∧¬k=cj+1∧¬cj=0∧¬cj=1∧¬cj=k∧¬cj=cj+1∧¬cj+1=0∧¬cj+1=1∧¬cj+1=k∧¬cj+1=cj:=by and_intros<;>omega
    repeat' ((first|with_reducible refine wr ?_|((with_reducible refine wb2 ?_ ?_)<;>(intro hb;try simp only [hb]))|fail)<;>try simp only [go_sem,seval,hgj,hDj,hltj,ne0])
    refine AC.call (c_stmt t (by omega) 2 (by omega) Ij.length pj (by omega) hbp _ _ 1 (MH_1 hOj) (by omega)) ?_
    rintro v H' c5 ⟨id,ia,ib,rfl,rfl⟩ hc5
    have hsl:=stmtM_len t 2 Ij.length pj
    have hs1:1≤(stmtM t 2 Ij.length pj).1.length:=stmtM_ne
    have ne0:¬0=k∧¬0=cj∧¬0=cj+1∧¬0=id∧¬0=c5∧¬1=k∧¬1=cj∧¬1=cj+1∧¬1=id∧¬1=c5∧¬k=0∧¬k=1∧¬k=cj∧¬k=cj+1∧¬k=id∧¬k=c5∧¬cj=0∧¬cj=1∧¬cj=k∧¬cj=cj+1∧¬cj=id∧¬cj=c5∧¬cj+1=0∧¬cj+1=1∧¬cj+1=k∧¬cj+1=cj∧¬cj+1=id∧¬cj+1=c5∧¬id=0∧¬id=1∧¬id=k∧¬id=cj∧¬id=cj+1∧¬id=c5∧¬c5=0∧¬c5=1∧¬c5=k∧¬c5=cj∧¬c5=cj+1∧¬c5=id:=by and_intros<;>omega
    have hl2:=insC_len2 (stmtM t 2 Ij.length pj).1
    have hle2:(stmtM t 2 Ij.length pj).1.length * 2≤(insC (stmtM t 2 Ij.length pj).1).length:=by omega
    have htk:=List.take_of_length_le (l:=insC (stmtM t 2 Ij.length pj).1) (i:=(stmtM t 2 Ij.length pj).1.length * 2) (by omega)
    have hdkj:∀ X,delO X oj k=X k:=fun X=>delO_ne (fun i hi e=>by have:=hOj.a i hi;omega)
    simp only [go_sem,seval,f0,f1,hDj,hltj,hle2,htk,ne0]
    repeat' ((first|with_reducible refine wr ?_|((with_reducible refine wb2 ?_ ?_)<;>(intro hb;try simp only [hb]))|fail)<;>try simp only [go_sem,seval,f0,f1,hDj,hltj,hle2,htk,ne0])
    refine x_eval (r_apptodo (cs:=insC Ij) (fun e=>⟨len_nil (hnj e),insC_nil (hnj e)⟩) (fun i hi=>?_) (insC_len2 Ij) (by omega) (by omega) (by omega)) ?_
    ·have:=hOj.a i hi
     rw [h_ne (by omega),h_ne (by omega)];exact MH_a hOj hi
    simp only [go_sem,seval,hdkj,hDj,ne0]
    repeat' ((first|with_reducible refine wr ?_|((with_reducible refine wb2 ?_ ?_)<;>(intro hb;try simp only [hb]))|fail)<;>try simp only [go_sem,seval,hdkj,hDj,hwj,ne0])
    have hOb:=hOj.b _ rfl
    have hd0j:∀ X,delO X oj 0=X 0:=fun X=>delO_ne (fun i hi e=>by have:=hOj.a i hi;omega)
    have hd1j:∀ X,delO X oj 1=X 1:=fun X=>delO_ne (fun i hi e=>by have:=hOj.a i hi;omega)
    have hdej:∀ X,delO X oj (cc+1+1)=X (cc+1+1):=fun X=>delO_ne (fun i hi e=>hOj.ne i hi (by rw [← e]))
    have m1:(mdB t (j+1) (I,p2)).1=Ij++(stmtM t 2 Ij.length pj).1:=by simp only [mdB];rw [← hIj, ← hpj]
    have m2:(mdB t (j+1) (I,p2)).2=(stmtM t 2 Ij.length pj).2:=by simp only [mdB];rw [← hIj, ← hpj]
    refine ⟨(j+1,some c5),rfl,?_,inv ⟨⟨hk2,by omega,fun i hi=>by cases hi;omega,fun i hi=>by cases hi;omega,fun i hi e=>by cases hi;cases e;omega⟩,hj0,by simp⟩,by simp only;omega⟩
    simp only [m1,m2]
    refine MH_sub ?_ ?_ ?_ (fun i hi=>?_) (fun i hi=>?_)
    ·rw [h_ne (by omega),h_ne (by omega),hd0j,h_ne (by omega),h_ne (by omega)];exact MH_0 hOj
    ·rw [h_ne (by omega),h_ne (by omega),hd1j,h_ne (by omega),h_same]
    ·rw [h_same];simp only [todo_s,List.length_append,List.length_singleton]
    ·cases hi;rw [h_ne (by omega),h_same,insC_app]
    ·cases hi;rw [h_ne (by omega),h_ne (by omega),hdej,h_ne (by omega),h_ne (by omega)];exact MH_b rfl
   ·have hjn2:j=n:=by omega
    have hgj:decide (((n-j:Nat):Int)>0)=false:=by simp;omega
    have hdkj:∀ X,delO X oj k=X k:=fun X=>delO_ne (fun i hi e=>by have:=hOj.a i hi;omega)
    have ne0:¬0=k∧¬0=cj∧¬0=cj+1∧¬1=k∧¬1=cj∧¬1=cj+1∧¬k=0∧¬k=1∧¬k=cj∧¬k=cj+1∧¬cj=0∧¬cj=1∧¬cj=k∧¬cj=cj+1∧¬cj+1=0∧¬cj+1=1∧¬cj+1=k∧¬cj+1=cj:=by and_intros<;>omega
    repeat' ((first|with_reducible refine wr ?_|((with_reducible refine wb2 ?_ ?_)<;>(intro hb;try simp only [hb]))|fail)<;>try simp only [go_sem,seval,hgj,hDj,ne0])
    refine k_eval (r_apptodo (cs:=insC Ij) (fun e=>⟨len_nil (hnj e),insC_nil (hnj e)⟩) (fun i hi=>?_) (insC_len2 Ij) (by omega) (by omega) (by omega)) ?_
    ·have:=hOj.a i hi
     rw [h_ne (by omega)];exact MH_a hOj hi
    simp only [go_sem,seval,hdkj,hDj,ne0]
    repeat' ((first|with_reducible refine wr ?_|((with_reducible refine wb2 ?_ ?_)<;>(intro hb;try simp only [hb]))|fail)<;>try simp only [go_sem,seval,hdkj,hDj,hw,ne0])
    have hOb:=hOj.b _ rfl
    have hd0j:∀ X,delO X oj 0=X 0:=fun X=>delO_ne (fun i hi e=>by have:=hOj.a i hi;omega)
    have hd1j:∀ X,delO X oj 1=X 1:=fun X=>delO_ne (fun i hi e=>by have:=hOj.a i hi;omega)
    have hdej:∀ X,delO X oj (cc+1+1)=X (cc+1+1):=fun X=>delO_ne (fun i hi e=>hOj.ne i hi (by rw [← e]))
    have M1:(mdK t (i+1)).I=Ij++[⟨31,0⟩]:=by rw [hmd2];simp only [mdH];rw [← hn, ← hp2, ← hjn2, ← hIj]
    have M2:(mdK t (i+1)).E=E++[e']:=by rw [hmd2,he'];rfl
    have M3:(mdK t (i+1)).p=pj:=by rw [hmd2];simp only [mdH];rw [← hn, ← hp2, ← hjn2, ← hpj]
    refine ⟨(i+1,some (cj+1),some (cc+1+1)),rfl,?_,inv ⟨⟨hk2,by omega,fun i hi=>by cases hi;omega,fun i hi=>by cases hi;omega,fun i hi e=>by cases hi;cases e;omega⟩,hlt,by simp,by simp,by simp⟩,by simp only;omega⟩
    simp only [M1,M2,M3]
    refine MH_sub ?_ ?_ ?_ (fun i hi=>?_) (fun i hi=>?_)
    ·rw [h_ne (by omega),h_ne (by omega),hd0j,h_ne (by omega)];exact MH_0 hOj
    ·rw [h_ne (by omega),h_ne (by omega),hd1j,h_ne (by omega)];exact MH_1 hOj
    ·rw [h_same];simp only [todo_s,List.length_append,List.length_singleton]
    ·cases hi;rw [h_ne (by omega),h_same,insC_app,insC_one]
    ·cases hi;rw [h_ne (by omega),h_ne (by omega),hdej,h_ne (by omega)];exact MH_b rfl
  ·have hgt:decide ((i:Int)>0)=true:=by simp;omega
   repeat' ((first|with_reducible refine wr ?_|((with_reducible refine wb2 ?_ ?_)<;>(intro hb;try simp only [hb]))|fail)<;>try simp only [go_sem,seval,hkl,hd,hgt])
   refine AC.call (c_next t (by omega) p B1 2 (by omega) (by omega) _ _ 1 (MH_1 hO) (by have:=hO.kc;have:=hO.k2;omega)) ?_
   rintro v H' c3 ⟨rfl,rfl⟩ hc3
   rw [MH_t hO]
   replace hO:=hO.mono hc3
   by_cases hz:(nextM t p 2).1=0
   ·have hz1:(((nextM t p 2).1:Int) == 0)=true:=by simp [hz]
    have hmd2:mdK t (i+1)=⟨I,E,(nextM t p 2).2⟩:=by rw [hmd,mdI,if_neg hi0,if_pos hz]
    simp only [go_sem,seval,hz1]
    repeat' ((first|with_reducible refine wr ?_|((with_reducible refine wb2 ?_ ?_)<;>(intro hb;try simp only [hb]))|fail)<;>try simp only [go_sem,seval,hz1,hw])
    refine ⟨(i+1,o1,o2),rfl,?_,inv ⟨hO,hlt,?_,?_,fun _=>hne hi0⟩,by simp only;omega⟩
    ·simp only [hmd2];exact Sub.refl _
    ·simp only [hmd2];exact hn1
    ·simp only [hmd2];exact hn2
   ·have hz1:(((nextM t p 2).1:Int) == 0)=false:=by simp [hz]
    obtain ⟨pp,hpp⟩:∃ pp,pp=(nextM t p 2).2:=⟨_,rfl⟩
    have hmd2:mdK t (i+1)=mdH t e ⟨I,E,p⟩ pp:=by rw [hmd,mdI,if_neg hi0,if_neg hz,hpp]
    have Hpp:pp≤t.length:=by rw [hpp];exact nextM_le B1
    rw [← hpp]
    have hlt1:=r_lentodo (o:=o1) (n:=I.length) (fun e=>len_nil (hn1 e))
    have hD:=fun (p:Nat)=>MH_k (l:=t) (p:=p) (S:=strs mdS) (P:=ints (mdP t)) (V:=ints mdV) (I:=I) (E:=E) hO
    have hcc:=hO.kc
    have hk2:=hO.k2
    have hdk:∀ X,delO X o2 k=X k:=fun X=>delO_ne (fun i hi e=>by have:=hO.b i hi;omega)
    have hd1:∀ X,delO X o2 1=X 1:=fun X=>delO_ne (fun i hi e=>by have:=hO.b i hi;omega)
    have hd0:∀ X,delO X o2 0=X 0:=fun X=>delO_ne (fun i hi e=>by have:=hO.b i hi;omega)
    have hda:∀ X j,o1=some j→delO X o2 j=X j:=fun X j hj=>delO_ne (fun i hi e=>hO.ne j hj (by rw [e];exact hi))
    have ne0:¬0=k∧¬0=c3∧¬0=c3+1∧¬0=c3+2∧¬1=k∧¬1=c3∧¬1=c3+1∧¬1=c3+2∧¬k=0∧¬k=1∧¬k=c3∧¬k=c3+1∧¬k=c3+2∧¬c3=0∧¬c3=1∧¬c3=k∧¬c3=c3+1∧¬c3=c3+2∧¬c3+1=0∧¬c3+1=1∧¬c3+1=k∧¬c3+1=c3∧¬c3+1=c3+2∧¬c3+2=0∧¬c3+2=1∧¬c3+2=k∧¬c3+2=c3∧¬c3+2=c3+1:=by and_intros<;>omega
    simp only [go_sem,seval,hz1,hkl,hg,hlt1,hD,ne0]
    repeat' ((first|with_reducible refine wr ?_|((with_reducible refine wb2 ?_ ?_)<;>(intro hb;try simp only [hb]))|fail)<;>try simp only [go_sem,seval,hz1,hkl,hd,hg,hlt1,hD,ne0])
    refine k_eval (r_apptodo (cs:=cellsL (E.map Ent.v)) (fun e=>⟨len_nil (hn2 e),entC_nil (hn2 e)⟩) (fun i hi=>?_) (entC_len' E) (by omega) (by omega) (by omega)) ?_
    ·have:=hO.b i hi
     rw [h_ne (by omega),h_ne (by omega),h_ne (by omega),h_ne (by omega)];exact MH_b hi
    simp only [go_sem,seval,hdk,hD,ne0]
    repeat' ((first|with_reducible refine wr ?_|((with_reducible refine wb2 ?_ ?_)<;>(intro hb;try simp only [hb]))|fail)<;>try simp only [go_sem,seval,hdk,hD,ne0])
    refine AC.call (c_next t (by omega) pp Hpp 4 (by omega) (by omega) _ _ 1 (by repeat (first|exact MH_1 hO|rw [h_ne (by omega)]|rw [hd1])) (by omega)) ?_
    rintro v H' c4 ⟨rfl,rfl⟩ hc4
    have hq4:=nextM_lt (l:=t) (p:=pp) (n:=4) (by omega)
    have hp4:=nextM_le (l:=t) (p:=pp) (n:=4) Hpp
    obtain ⟨n,hn⟩:∃ n,n=(nextM t pp 4).1:=⟨_,rfl⟩
    obtain ⟨p2,hp2⟩:∃ p2,p2=(nextM t pp 4).2:=⟨_,rfl⟩
    rw [← hn, ← hp2]
    rw [← hn] at hq4
    rw [← hp2] at hp4
    simp only [go_sem,seval]
    repeat' ((first|with_reducible refine wr ?_|((with_reducible refine wb2 ?_ ?_)<;>(intro hb;try simp only [hb]))|fail)<;>try simp only [go_sem,seval])
    obtain ⟨e',he'⟩:∃ e':Ent,e'=⟨e.mode,e.trigger,e.index,(I.length:Int)⟩:=⟨_,rfl⟩
    have hE':cellsL ((E++[e']).map Ent.v)=cellsL (E.map Ent.v)++[I64 e.mode,I64 e.trigger,I64 e.index,I64 (I.length:Int)]:=by rw [entC_snoc,he']
    refine i_loop (fun q:Nat × Option Nat=>[(2,.ptr 0 0),(3,.ptr 1 0),(4,.ptr k 0),(5,entsV keysM),(6,I64 i),(8,I64 ((n-q.1:Nat):Int))]) (fun q=>MH k t (mdB t q.1 (I,p2)).2 (strs mdS) (ints (mdP t)) (ints mdV) (mdB t q.1 (I,p2)).1 (E++[e']) q.2 (some (c3+1+1)))
     (fun q c=>MO k q.2 (some (c3+1+1)) c∧q.1≤n∧(q.2=none→(mdB t q.1 (I,p2)).1=[])) (fun q=>n-q.1) (0,o1) (by simp [tmLe,tm,Tm.upd]) ?_ ?_ ?_
    ·refine MH_sub (by repeat (first|exact MH_0 hO|rw [h_ne (by omega)]|rw [hd0])) h_same ?_ (fun j hj=>?_) (fun j hj=>?_)
     ·rw [h_ne (by omega),h_same,List.length_append];rfl
     ·have:=hO.a j hj
      rw [h_ne (by omega),h_ne (by omega),h_ne (by omega),hda _ j hj,h_ne (by omega),h_ne (by omega),h_ne (by omega),h_ne (by omega)];exact MH_a hO hj
     ·cases hj
      rw [h_ne (by omega),h_ne (by omega),h_same,hE']
    ·exact ⟨⟨hk2,by omega,fun j hj=>by have:=hO.a j hj;omega,fun j hj=>by cases hj;omega,fun j hj e=>by cases e;have:=hO.a _ hj;omega⟩,by simp,hn1⟩
    rintro ⟨j,oj⟩ cj ⟨hOj,hjn,hnj⟩
    simp only at hOj hjn hnj
    have hbl:=mdB_len (l:=t) (x:=(I,p2)) j
    have hbp:=mdB_pos (l:=t) (x:=(I,p2)) hp4 j
    simp only at hbl
    obtain ⟨Ij,hIj⟩:∃ x,x=(mdB t j (I,p2)).1:=⟨_,rfl⟩
    obtain ⟨pj,hpj⟩:∃ x,x=(mdB t j (I,p2)).2:=⟨_,rfl⟩
    simp only
    rw [← hIj, ← hpj]
    rw [← hIj] at hbl hnj
    rw [← hpj] at hbp
    have hDj:=fun (p:Nat)=>MH_k (l:=t) (p:=p) (S:=strs mdS) (P:=ints (mdP t)) (V:=ints mdV) (I:=Ij) (E:=E++[e']) hOj
    have hltj:=r_lentodo (o:=oj) (n:=Ij.length) (fun e=>len_nil (hnj e))
    have hckj:=hOj.kc
    by_cases hj0:j<n
    ·have hgj:decide (((n-j:Nat):Int)>0)=true:=by simp;omega
     have hwj:IntKind.i64.wrap (((n-j:Nat):Int)-1)=((n-(j+1):Nat):Int):=by rw [w64 (by omega) (by omega)];omega
     have f0:=MH_n (l:=t) (p:=pj) (S:=strs mdS) (P:=ints (mdP t)) (V:=ints mdV) (I:=Ij) (E:=E++[e']) hOj (j:=cj) (by omega)
     have f1:=MH_n (l:=t) (p:=pj) (S:=strs mdS) (P:=ints (mdP t)) (V:=ints mdV) (I:=Ij) (E:=E++[e']) hOj (j:=cj+1) (by omega)
     have ne0:¬0=k∧¬0=cj∧¬0=cj+1∧¬1=k∧¬1=cj∧¬1=cj+1∧¬k=0∧¬k=1∧¬k=cj∧¬k=cj+1∧¬cj=0∧¬cj=1∧¬cj=k∧¬cj=cj+1∧¬cj+1=0∧¬cj+1=1∧¬cj+1=k∧¬cj+1=cj:=by and_intros<;>omega
     repeat' ((first|with_reducible refine wr ?_|((with_reducible refine wb2 ?_ ?_)<;>(intro hb;try simp only [hb]))|fail)<;>try simp only [go_sem,seval,hgj,hDj,hltj,ne0])
     refine AC.call (c_stmt t (by omega) 2 (by omega) Ij.length pj (by omega) hbp _ _ 1 (MH_1 hOj) (by omega)) ?_
     rintro v H' c5 ⟨id,ia,ib,rfl,rfl⟩ hc5
     have hsl:=stmtM_len t 2 Ij.length pj
     have hs1:1≤(stmtM t 2 Ij.length pj).1.length:=stmtM_ne
     have ne0:¬0=k∧¬0=cj∧¬0=cj+1∧¬0=id∧¬0=c5∧¬1=k∧¬1=cj∧¬1=cj+1∧¬1=id∧¬1=c5∧¬k=0∧¬k=1∧¬k=cj∧¬k=cj+1∧¬k=id∧¬k=c5∧¬cj=0∧¬cj=1∧¬cj=k∧¬cj=cj+1∧¬cj=id∧¬cj=c5∧¬cj+1=0∧¬cj+1=1∧¬cj+1=k∧¬cj+1=cj∧¬cj+1=id∧¬cj+1=c5∧¬id=0∧¬id=1∧¬id=k∧¬id=cj∧¬id=cj+1∧¬id=c5∧¬c5=0∧¬c5=1∧¬c5=k∧¬c5=cj∧¬c5=cj+1∧¬c5=id:=by and_intros<;>omega
     have hl2:=insC_len2 (stmtM t 2 Ij.length pj).1
     have hle2:(stmtM t 2 Ij.length pj).1.length * 2≤(insC (stmtM t 2 Ij.length pj).1).length:=by omega
     have htk:=List.take_of_length_le (l:=insC (stmtM t 2 Ij.length pj).1) (i:=(stmtM t 2 Ij.length pj).1.length * 2) (by omega)
     have hdkj:∀ X,delO X oj k=X k:=fun X=>delO_ne (fun i hi e=>by have:=hOj.a i hi;omega)
     simp only [go_sem,seval,f0,f1,hDj,hltj,hle2,htk,ne0]
     repeat' ((first|with_reducible refine wr ?_|((with_reducible refine wb2 ?_ ?_)<;>(intro hb;try simp only [hb]))|fail)<;>try simp only [go_sem,seval,f0,f1,hDj,hltj,hle2,htk,ne0])
     refine x_eval (r_apptodo (cs:=insC Ij) (fun e=>⟨len_nil (hnj e),insC_nil (hnj e)⟩) (fun i hi=>?_) (insC_len2 Ij) (by omega) (by omega) (by omega)) ?_
     ·have:=hOj.a i hi
      rw [h_ne (by omega),h_ne (by omega)];exact MH_a hOj hi
     simp only [go_sem,seval,hdkj,hDj,ne0]
     repeat' ((first|with_reducible refine wr ?_|((with_reducible refine wb2 ?_ ?_)<;>(intro hb;try simp only [hb]))|fail)<;>try simp only [go_sem,seval,hdkj,hDj,hwj,ne0])
     have hOb:=hOj.b _ rfl
     have hd0j:∀ X,delO X oj 0=X 0:=fun X=>delO_ne (fun i hi e=>by have:=hOj.a i hi;omega)
     have hd1j:∀ X,delO X oj 1=X 1:=fun X=>delO_ne (fun i hi e=>by have:=hOj.a i hi;omega)
     have hdej:∀ X,delO X oj (c3+1+1)=X (c3+1+1):=fun X=>delO_ne (fun i hi e=>hOj.ne i hi (by rw [← e]))
     have m1:(mdB t (j+1) (I,p2)).1=Ij++(stmtM t 2 Ij.length pj).1:=by simp only [mdB];rw [← hIj, ← hpj]
     have m2:(mdB t (j+1) (I,p2)).2=(stmtM t 2 Ij.length pj).2:=by simp only [mdB];rw [← hIj, ← hpj]
     refine ⟨(j+1,some c5),rfl,?_,inv ⟨⟨hk2,by omega,fun i hi=>by cases hi;omega,fun i hi=>by cases hi;omega,fun i hi e=>by cases hi;cases e;omega⟩,hj0,by simp⟩,by simp only;omega⟩
     simp only [m1,m2]
     refine MH_sub ?_ ?_ ?_ (fun i hi=>?_) (fun i hi=>?_)
     ·rw [h_ne (by omega),h_ne (by omega),hd0j,h_ne (by omega),h_ne (by omega)];exact MH_0 hOj
     ·rw [h_ne (by omega),h_ne (by omega),hd1j,h_ne (by omega),h_same]
     ·rw [h_same];simp only [todo_s,List.length_append,List.length_singleton]
     ·cases hi;rw [h_ne (by omega),h_same,insC_app]
     ·cases hi;rw [h_ne (by omega),h_ne (by omega),hdej,h_ne (by omega),h_ne (by omega)];exact MH_b rfl
    ·have hjn2:j=n:=by omega
     have hgj:decide (((n-j:Nat):Int)>0)=false:=by simp;omega
     have hdkj:∀ X,delO X oj k=X k:=fun X=>delO_ne (fun i hi e=>by have:=hOj.a i hi;omega)
     have ne0:¬0=k∧¬0=cj∧¬0=cj+1∧¬1=k∧¬1=cj∧¬1=cj+1∧¬k=0∧¬k=1∧¬k=cj∧¬k=cj+1∧¬cj=0∧¬cj=1∧¬cj=k∧¬cj=cj+1∧¬cj+1=0∧¬cj+1=1∧¬cj+1=k∧¬cj+1=cj:=by and_intros<;>omega
     repeat' ((first|with_reducible refine wr ?_|((with_reducible refine wb2 ?_ ?_)<;>(intro hb;try simp only [hb]))|fail)<;>try simp only [go_sem,seval,hgj,hDj,ne0])
     refine k_eval (r_apptodo (cs:=insC Ij) (fun e=>⟨len_nil (hnj e),insC_nil (hnj e)⟩) (fun i hi=>?_) (insC_len2 Ij) (by omega) (by omega) (by omega)) ?_
     ·have:=hOj.a i hi
      rw [h_ne (by omega)];exact MH_a hOj hi
     simp only [go_sem,seval,hdkj,hDj,ne0]
     repeat' ((first|with_reducible refine wr ?_|((with_reducible refine wb2 ?_ ?_)<;>(intro hb;try simp only [hb]))|fail)<;>try simp only [go_sem,seval,hdkj,hDj,hw,ne0])
     have hOb:=hOj.b _ rfl
     have hd0j:∀ X,delO X oj 0=X 0:=fun X=>delO_ne (fun i hi e=>by have:=hOj.a i hi;omega)
     have hd1j:∀ X,delO X oj 1=X 1:=fun X=>delO_ne (fun i hi e=>by have:=hOj.a i hi;omega)
     have hdej:∀ X,delO X oj (c3+1+1)=X (c3+1+1):=fun X=>delO_ne (fun i hi e=>hOj.ne i hi (by rw [← e]))
     have M1:(mdK t (i+1)).I=Ij++[⟨31,0⟩]:=by rw [hmd2];simp only [mdH];rw [← hn, ← hp2, ← hjn2, ← hIj]
     have M2:(mdK t (i+1)).E=E++[e']:=by rw [hmd2,he'];rfl
     have M3:(mdK t (i+1)).p=pj:=by rw [hmd2];simp only [mdH];rw [← hn, ← hp2, ← hjn2, ← hpj]
     refine ⟨(i+1,some (cj+1),some (c3+1+1)),rfl,?_,inv ⟨⟨hk2,by omega,fun i hi=>by cases hi;omega,fun i hi=>by cases hi;omega,fun i hi e=>by cases hi;cases e;omega⟩,hlt,by simp,by simp,by simp⟩,by simp only;omega⟩
     simp only [M1,M2,M3]
     refine MH_sub ?_ ?_ ?_ (fun i hi=>?_) (fun i hi=>?_)
     ·rw [h_ne (by omega),h_ne (by omega),hd0j,h_ne (by omega)];exact MH_0 hOj
     ·rw [h_ne (by omega),h_ne (by omega),hd1j,h_ne (by omega)];exact MH_1 hOj
     ·rw [h_same];simp only [todo_s,List.length_append,List.length_singleton]
     ·cases hi;rw [h_ne (by omega),h_same,insC_app,insC_one]
     ·cases hi;rw [h_ne (by omega),h_ne (by omega),hdej,h_ne (by omega)];exact MH_b rfl
 ·have hi:i=9:=by omega
  have hd:decide ((i:Int)<9)=false:=by simp;omega
  obtain ⟨n1,n2⟩:=hne (by omega)
  have hD:=MH_k (l:=t) (p:=(mdK t i).p) (S:=strs mdS) (P:=ints (mdP t)) (V:=ints mdV) (I:=(mdK t i).I) (E:=(mdK t i).E) hO
  have hD0:=MH_0 (l:=t) (p:=(mdK t i).p) (S:=strs mdS) (P:=ints (mdP t)) (V:=ints mdV) (I:=(mdK t i).I) (E:=(mdK t i).E) hO
  rcases o1 with _|a
  ·exact absurd rfl n1
  rcases o2 with _|b
  ·exact absurd rfl n2
  have hDa:=MH_a (l:=t) (p:=(mdK t i).p) (S:=strs mdS) (P:=ints (mdP t)) (V:=ints mdV) (I:=(mdK t i).I) (E:=(mdK t i).E) hO rfl
  have hDb:=MH_b (k:=k) (l:=t) (p:=(mdK t i).p) (S:=strs mdS) (P:=ints (mdP t)) (V:=ints mdV) (I:=(mdK t i).I) (E:=(mdK t i).E) (o1:=some a) (o2:=some b) rfl
  simp only [todo_s] at hD
  repeat' ((first|with_reducible refine wr ?_|((with_reducible refine wb2 ?_ ?_)<;>(intro hb;try simp only [hb]))|fail)<;>try simp only [go_sem,seval,hkl,hd,hD,hD0])
  rw [k_rv (v:=.agg [.slc a 0 (mdK t i).I.length,strs mdS,.slc b 0 (mdK t i).E.length,ints (mdP t),ints mdV,I64 2,I64 2]) rfl]
  have ha:=hO.a a rfl
  have hb:=hO.b b rfl
  have hab:¬ a=b:=fun e=>hO.ne a rfl (by rw [e])
  have hm:madeM l=madeT t:=by rw [madeM,ht]
  have hr:DV.agg [inssV (mdK t i).I,strs mdS,entsV (mdK t i).E,ints (mdP t),ints mdV,I64 2,I64 2]=(madeM l).v:=by rw [hm,hi];rfl
  rw [← hr]
  refine ⟨_,(g_one (a:=a) (k:=0) (u:=2) (u':=2) (pre:=[]) (suf:=[strs mdS,.slc b 0 (mdK t i).E.length,ints (mdP t),ints mdV,I64 2,I64 2]) (xs:=(mdK t i).I.map Ins.v) (junk:=[]) h_same (by rw [h_ne (by omega),List.append_nil];exact hDa) (by simp [DV.one]) (by simp) (ins_unit _) (by omega)).trans
   (g_one (a:=b) (k:=0) (u:=4) (u':=4) (pre:=[inssV (mdK t i).I,strs mdS]) (suf:=[ints (mdP t),ints mdV,I64 2,I64 2]) (xs:=(mdK t i).E.map Ent.v) (junk:=[]) h_same (by rw [h_ne (by omega),h_dne (Ne.symm hab),h_ne (by omega),List.append_nil];exact hDb) (by simp [DV.one]) (by simp) (ent_unit _) (by omega))⟩
end Go.Proofs.YtcallbfckjlagaaGreat
set_option maxHeartbeats 8000000
namespace Go.Proofs.YtcallbfckjlagaaGreat
open Go.Eng (IC IOper DReg IFn IsFn)
open Go.Sym Go.Pb
theorem env_nl (e:Envr):e.v.nl=true:=by simp [DV.nl,DV.nlL,nlL_ints]
theorem sized_made (l:List UInt8) {e:Envr} (h:EnvM (madeM l) e):Sized (madeM l) e:=by
 obtain ⟨h1,h2,h3,h4,h5⟩:=made_sized l
 have e1:=h.vl
 have e2:=h.ll
 have e3:=h.act
 have h2P:2 ^ min (madeM l).prios.length 16≤2 ^ 16:=Nat.pow_le_pow_right (by omega) (by omega)
 exact ⟨h1,by omega,by omega,by omega,by omega,fun h=>by rw [h] at h4;simp at h4,h.clo,by omega⟩
end Go.Proofs.YtcallbfckjlagaaGreat
namespace Go.Pb
open Go.Sym
def isE (i:Ins):Bool:=decide (15≤i.op∧i.op≤30)
def Fw (b:Nat) (L:List Ins):Prop:=∀ k i,L[k]? = some i→i.op≠12∧(i.op=13→((b+k:Nat):Int)<i.A)
structure Ah (b:Nat) (L:List Ins) (m:Nat):Prop where
 fw:(∀ i∈L,i.op≠14)→Fw b L
 ef:L.countP isE≤m
theorem Fw.app {b:Nat} {L M:List Ins} (h:Fw b L) (k:Fw (b+L.length) M):Fw b (L++M):=by
 intro j i hj
 by_cases hl:j<L.length
 ·rw [List.getElem?_append_left hl] at hj;exact h j i hj
 ·rw [List.getElem?_append_right (by omega)] at hj
  obtain ⟨h1,h2⟩:=k _ i hj
  exact ⟨h1,fun e=>by have:=h2 e;omega⟩
theorem Ah.app {b:Nat} {L M:List Ins} {m n k:Nat} (h:Ah b L m) (h2:Ah (b+L.length) M n) (hk:m+n≤k):Ah b (L++M) k :=
 ⟨fun h0=>(h.fw fun i hi=>h0 i (List.mem_append_left _ hi)).app (h2.fw fun i hi=>h0 i (List.mem_append_right _ hi)),by rw [List.countP_append];have:=h.ef;have:=h2.ef;omega⟩
theorem Ah.one {b:Nat} {i:Ins} {m:Nat} (h1:i.op≠12) (h2:i.op≠13) (h3:isE i=false∨1≤m):Ah b [i] m:=by
 refine ⟨fun _ j k hj=>?_,?_⟩
 ·cases j with
  | zero=>cases hj;exact ⟨h1,fun e=>absurd e h2⟩
  | succ j=>cases hj
 ·rw [List.countP_singleton]
  rcases h3 with h3|h3
  ·rw [h3];simp
  ·split<;>omega
theorem Ah.nil {b m:Nat}:Ah b [] m:=⟨fun _ j k hj=>(by cases hj),Nat.zero_le _⟩
theorem Ah.put {b:Nat} {op A:Int} (h1:1≤op) (h2:op≤11):Ah b [⟨op,A⟩] 0:=Ah.one (by show op≠12;omega) (by show op≠13;omega) (.inl (by simp [isE];omega))
theorem Ah.eff {b:Nat} {op A:Int} (h1:15≤op):Ah b [⟨op,A⟩] 1:=Ah.one (by show op≠12;omega) (by show op≠13;omega) (.inr (Nat.le_refl _))
theorem valueM_ah (l:List UInt8):∀ (d b p:Nat),Ah b (valueM l d p).1 0:=by
 intro d
 induction d with
 | zero =>
  intro b p
  unfold valueM
  have h2:=fun p=>nextM_lt (l:=l) (p:=p) (n:=2) (by omega)
  dsimp only
  split<;>first|exact Ah.put (by omega) (by omega)|(have:=h2 (nextM l p 9).2;exact Ah.put (by omega) (by omega))|skip
  all_goals first|(rename_i h;simp at h)|skip
 | succ d ih =>
  intro b p
  unfold valueM
  have h2:=fun p=>nextM_lt (l:=l) (p:=p) (n:=2) (by omega)
  dsimp only
  split
  all_goals first
   | exact Ah.put (by omega) (by omega)
   | (have:=h2 (nextM l p 9).2;exact Ah.put (by omega) (by omega))
   | (rename_i h;cases h;exact ((ih _ _).app (ih _ _) (Nat.le_refl _)).app (Ah.put (by omega) (by omega)) (Nat.le_refl _))
   | (rename_i h;cases h;have:=h2 (valueM l d (nextM l p 9).2).2;exact (ih _ _).app (Ah.put (by omega) (by omega)) (Nat.le_refl _))
   | skip
theorem Ah.un {b:Nat} {A:Int} (h:(b:Int)<A):Ah b [⟨13,A⟩] 0:=by
 refine ⟨fun _ j k hj=>?_,by simp [isE]⟩
 cases j with
 | zero=>cases hj;exact ⟨by show (13:Int)≠12;omega,fun _=>h⟩
 | succ j=>cases hj
theorem Ah.loop {b:Nat} {L:List Ins} {m:Nat} {i:Ins} (hi:i∈L) (ho:i.op=14) (he:L.countP isE≤m):Ah b L m:=⟨fun h=>absurd ho (h i hi),he⟩
theorem Ah.low {b:Nat} {L:List Ins} {m n:Nat} (h:Ah b L m) (hk:m≤n):Ah b L n:=⟨h.fw,Nat.le_trans h.ef hk⟩
theorem stK_ah {l:List UInt8} {rec:Nat→Nat→List Ins × Nat} (hr:∀ b p,Ah b (rec b p).1 1) (base k p:Nat):Ah base (stK l rec base k p).1 1:=by
 unfold stK
 have v:=valueM_ah l
 split
 ·exact (v _ _ _).app (Ah.eff (by omega)) (Nat.le_refl _)
 ·exact Ah.eff (by omega)
 ·exact (v _ _ _).app (Ah.eff (by omega)) (Nat.le_refl _)
 ·exact ((v _ _ _).app (v _ _ _) (Nat.le_refl _)).app (Ah.eff (by omega)) (Nat.le_refl _)
 ·exact (v _ _ _).app (Ah.eff (by omega)) (Nat.le_refl _)
 ·exact Ah.eff (by omega)
 ·exact Ah.eff (by omega)
 ·exact Ah.eff (by omega)
 ·exact Ah.eff (by omega)
 ·exact (v _ _ _).app (Ah.eff (by omega)) (Nat.le_refl _)
 ·exact Ah.eff (by omega)
 ·refine ((v _ _ _).app (Ah.un (by omega)) (Nat.le_refl _)).app (n:=1) ?_ (Nat.le_refl _)
  rw [List.length_append,List.length_singleton, ← Nat.add_assoc]
  exact hr _ _
 ·have h1:=(v 0 0 p).ef
  have h2:=(hr (base+(valueM l 0 p).1.length+1) (valueM l 0 p).2).ef
  refine Ah.loop (i:=⟨14,_⟩) (List.mem_append_left _ (List.mem_append_left _ (List.mem_append_right _ List.mem_cons_self))) rfl ?_
  simp only [List.countP_append,List.countP_singleton]
  have e1:∀ A,isE ⟨14,A⟩=false:=fun A=>by simp [isE]
  have e2:∀ A,isE ⟨12,A⟩=false:=fun A=>by simp [isE]
  rw [e1,e2];simp only [Bool.false_eq_true,if_false];omega
 ·have h1:=(v 0 0 p).ef
  have h2:=(hr (base+(valueM l 0 p).1.length+1) (valueM l 0 p).2).ef
  refine Ah.loop (i:=⟨14,_⟩) (List.mem_append_left _ (List.mem_append_left _ (List.mem_append_right _ List.mem_cons_self))) rfl ?_
  simp only [List.countP_append,List.countP_singleton]
  have e1:∀ A,isE ⟨14,A⟩=false:=fun A=>by simp [isE]
  have e2:∀ A,isE ⟨12,A⟩=false:=fun A=>by simp [isE]
  rw [e1,e2];simp only [Bool.false_eq_true,if_false];omega
 ·exact ((v _ _ _).app (Ah.put (by omega) (by omega)) (Nat.le_refl _)).low (by omega)
theorem stmtM_ah (l:List UInt8):∀ (d b p:Nat),Ah b (stmtM l d b p).1 1
 | 0,b,p=>stK_ah (fun _ _=>Ah.nil) _ _ _
 | d+1,b,p=>stK_ah (stmtM_ah l d) _ _ _
theorem mdB_ah {l:List UInt8} {x:List Ins × Nat} {m:Nat} (h:Ah 0 x.1 m):∀ n,Ah 0 (mdB l n x).1 (m+n)
 | 0=>h
 | n+1=>(mdB_ah h n).app (by rw [Nat.zero_add];exact stmtM_ah l 2 _ _) (by omega)
theorem mdH_ah {l:List UInt8} {key:Ent} {x:MS} {p m:Nat} (h:Ah 0 x.I m):Ah 0 (mdH l key x p).I (m+3):=by
 have h4:=nextM_lt (l:=l) (p:=p) (n:=4) (by omega)
 exact ((mdB_ah (x:=(x.I,(nextM l p 4).2)) h (nextM l p 4).1).app (Ah.one (m:=0) (by decide) (by decide) (.inl (by decide))) (Nat.le_refl _)).low (by omega)
theorem mdK_ah {l:List UInt8}:∀ i,Ah 0 (mdK l i).I (3 * i)
 | 0=>Ah.nil
 | i+1=>by
  have h:=mdK_ah (l:=l) i
  simp only [mdK,mdI]
  split
  ·exact (mdH_ah h).low (by omega)
  ·split
   ·exact h.low (by omega)
   ·exact (mdH_ah h).low (by omega)
theorem made_ah (l:List UInt8):Ah 0 (madeM l).instrs 27:=mdK_ah 9
theorem step_ah {c:Prg} {e:Envr} {x:Mch} (hE:EnvOk c e) (h:Inv c x) (hd:x.done=false) (hF:Fw 0 c.instrs) (h14:∀ i∈c.instrs,i.op≠14) :
  x.pc<c.instrs.length∧x.pc+1≤(stepM c e x).pc∧(stepM c e x).effs.length≤x.effs.length+(if isE (c.ins x.pc)=true then 1 else 0):=by
 obtain ⟨hH,hj,hl⟩:=vHts_hts hE.val
 obtain ⟨hL,hp, -⟩:=valid_all hE.val
 obtain ⟨⟨o1, -⟩, -⟩:=hH.all _ _ (h.rch hd)
 have hg:c.instrs[x.pc]? = some (c.ins x.pc):=by
  show _=some (c.instrs.getD x.pc ⟨0,0⟩)
  rw [List.getD,List.getElem?_eq_getElem o1];rfl
 have hm:=List.mem_of_getElem? hg
 have hnum:numberM c (c.ins x.pc)=true:=by
  simp only [partsM,Bool.and_eq_true,List.all_eq_true] at hp
  exact hp.2 _ hm
 obtain ⟨f1,f2⟩:=hF _ _ hg
 have f3:=h14 _ hm
 refine ⟨o1,?_⟩
 have hst:stepM c e x=opM c e (c.ins x.pc).op (c.ins x.pc).A (nx x):=rfl
 rw [hst]
 generalize c.ins x.pc=i at *
 obtain ⟨op,A⟩:=i
 have ho:1≤op∧op≤31:=by
  by_cases g:1≤op∧op≤31
  ·exact g
  ·have:effM op=(0,0, -1):=by
    unfold effM
    repeat rw [if_neg (by omega)]
   simp only [numberM,this] at hnum
   exact absurd hnum (by simp [kindM])
 obtain ⟨p1,p2⟩:=ho
 obtain ⟨k,rfl⟩:∃ k:Nat,op=(k:Int):=⟨op.toNat,by omega⟩
 have hk:k<32:=by omega
 clear hst hg hm p2 hnum
 have n0:x.pc+1≤x.pc+1:=Nat.le_refl _
 have q0:∀ b:Nat,x.effs.length≤x.effs.length+b:=fun b=>Nat.le_add_right _ _
 match k,hk,p1 with
 | 0,_,h=>exact absurd h (by decide)
 | 1,_,_=>exact ⟨n0,q0 _⟩
 | 2,_,_=>exact ⟨n0,q0 _⟩
 | 3,_,_=>exact ⟨n0,q0 _⟩
 | 4,_,_=>exact ⟨n0,q0 _⟩
 | 5,_,_=>exact ⟨n0,q0 _⟩
 | 6,_,_=>exact ⟨n0,q0 _⟩
 | 7,_,_=>exact ⟨n0,q0 _⟩
 | 8,_,_=>exact ⟨n0,q0 _⟩
 | 9,_,_=>exact ⟨n0,q0 _⟩
 | 10,_,_=>exact ⟨n0,q0 _⟩
 | 11,_,_=>exact ⟨n0,q0 _⟩
 | 12,_,_=>exact absurd rfl f1
 | 13,_,_ =>
  have h2:=f2 rfl
  refine ⟨?_,?_⟩
  ·show x.pc+1≤(if (nx x).top=0 then { (nx x).pop with pc:=A.toNat } else (nx x).pop).pc
   split
   ·show x.pc+1≤A.toNat
    simp only at h2
    omega
   ·exact n0
  ·show (if (nx x).top=0 then { (nx x).pop with pc:=A.toNat } else (nx x).pop).effs.length≤_
   split<;>exact q0 _
 | 14,_,_=>exact absurd rfl f3
 | 15,_,_=>exact ⟨n0,by show (x.effs++[_]).length≤_;rw [List.length_append];exact Nat.le_refl _⟩
 | 16,_,_=>exact ⟨n0,by show (x.effs++[_]).length≤_;rw [List.length_append];exact Nat.le_refl _⟩
 | 17,_,_=>exact ⟨n0,by show (x.effs++[_]).length≤_;rw [List.length_append];exact Nat.le_refl _⟩
 | 18,_,_=>exact ⟨n0,by show (x.effs++[_]).length≤_;rw [List.length_append];exact Nat.le_refl _⟩
 | 19,_,_=>exact ⟨n0,by show (x.effs++[_]).length≤_;rw [List.length_append];exact Nat.le_refl _⟩
 | 20,_,_=>exact ⟨n0,by show (x.effs++[_]).length≤_;rw [List.length_append];exact Nat.le_refl _⟩
 | 21,_,_=>exact ⟨n0,by show (x.effs++[_]).length≤_;rw [List.length_append];exact Nat.le_refl _⟩
 | 22,_,_=>exact ⟨n0,by show (x.effs++[_]).length≤_;rw [List.length_append];exact Nat.le_refl _⟩
 | 23,_,_=>exact ⟨n0,by show (x.effs++[_]).length≤_;rw [List.length_append];exact Nat.le_refl _⟩
 | 24,_,_=>exact ⟨n0,by show (x.effs++[_]).length≤_;rw [List.length_append];exact Nat.le_refl _⟩
 | 25,_,_=>exact ⟨n0,by show (x.effs++[_]).length≤_;rw [List.length_append];exact Nat.le_refl _⟩
 | 26,_,_=>exact ⟨n0,by show (x.effs++[_]).length≤_;rw [List.length_append];exact Nat.le_refl _⟩
 | 27,_,_=>exact ⟨n0,by show (x.effs++[_]).length≤_;rw [List.length_append];exact Nat.le_refl _⟩
 | 28,_,_=>exact ⟨n0,by show (x.effs++[_]).length≤_;rw [List.length_append];exact Nat.le_refl _⟩
 | 29,_,_=>exact ⟨n0,by show (x.effs++[_]).length≤_;rw [List.length_append];exact Nat.le_refl _⟩
 | 30,_,_=>exact ⟨n0,by show (x.effs++[_]).length≤_;rw [List.length_append];exact Nat.le_refl _⟩
 | 31,_,_=>exact ⟨n0,q0 _⟩
 | n+32,h,_=>exact absurd h (by omega)
theorem run_ends {c:Prg} {e:Envr} (hE:EnvOk c e) (hA:Ah 0 c.instrs 27) (h14:∀ i∈c.instrs,i.op≠14):∀ (f:Nat) (x:Mch) (n:Nat),Inv c x→x.effs.length≤(c.instrs.take x.pc).countP isE→(x.done=false→c.instrs.length≤x.pc+f) →
  (exM c e f x n).1.done=true∧(exM c e f x n).1.effs.length≤256∧(exM c e f x n).2≤n+f:=by
 have cnt:∀ k,(c.instrs.take k).countP isE≤27:=fun k=>Nat.le_trans (List.Sublist.countP_le (List.take_sublist k _)) hA.ef
 have hF:=hA.fw h14
 intro f
 induction f with
 | zero =>
  intro x n hI he hl
  have:=cnt x.pc
  refine ⟨?_,by show x.effs.length≤256;omega,Nat.le_refl _⟩
  show x.done=true
  cases hd:x.done with
  | true=>rfl
  | false =>
   obtain ⟨o1, -⟩:=step_ah hE hI hd hF h14
   have:=hl hd
   omega
 | succ f ih =>
  intro x n hI he hl
  have hc:=cnt x.pc
  cases hd:x.done with
  | true =>
   rw [exM_stop (.inr (.inl hd))]
   exact ⟨hd,by show x.effs.length≤256;omega,Nat.le_add_right _ _⟩
  | false =>
   obtain ⟨o1,o2,o3⟩:=step_ah hE hI hd hF h14
   have h0:=hl hd
   have hcn:(c.instrs.take (x.pc+1)).countP isE=(c.instrs.take x.pc).countP isE+(if isE (c.ins x.pc)=true then 1 else 0):=by
    have hg:c.instrs[x.pc]=c.ins x.pc:=by
     show _=c.instrs.getD x.pc ⟨0,0⟩
     rw [List.getD,List.getElem?_eq_getElem o1];rfl
    rw [List.take_succ_eq_append_getElem o1,List.countP_append,List.countP_singleton,hg]
   have hmono:(c.instrs.take (x.pc+1)).countP isE≤(c.instrs.take (stepM c e x).pc).countP isE:=by
    have hs:List.Sublist (c.instrs.take (x.pc+1)) (c.instrs.take (stepM c e x).pc):=by
     have:c.instrs.take (x.pc+1)=(c.instrs.take (stepM c e x).pc).take (x.pc+1):=by rw [List.take_take,Nat.min_eq_left o2]
     rw [this];exact List.take_sublist _ _
    exact List.Sublist.countP_le hs
   rw [exM_go hd (by omega)]
   obtain ⟨i1,i2,i3⟩:=ih (stepM c e x) (n+1) (hI.step hE hd) (by omega) (fun _=>by omega)
   exact ⟨i1,i2,by omega⟩
theorem ends_law {c:Prg} {e:Envr} {a:Int} {n:Nat} (hA:Ah 0 c.instrs 27) (h14:∀ i∈c.instrs,i.op≠14) (hn:c.instrs.length≤n) (hb:begM c e a (n:Int)=0) :
  (execM c e a (n:Int)).2.2.2=0∧(execM c e a (n:Int)).2.2.1≤n:=by
 obtain ⟨hE, -, -,x,hx,hp,h0⟩:=begM_0 hb
 have hI:Inv c (mch0 e a.toNat):=mch0_inv hE hx (by omega)
 obtain ⟨r1,r2,r3⟩:=run_ends hE hA h14 n (mch0 e a.toNat) 0 hI (Nat.zero_le _) (fun _=>by show _≤a.toNat+n;omega)
 unfold execM
 rw [if_neg (by rw [hb];simp),Int.toNat_natCast,if_neg (by rw [r1];simp;omega)]
 exact ⟨rfl,by show (exM c e n (mch0 e a.toNat) 0).2≤n;omega⟩
end Go.Pb
namespace Go.Proofs.YtcallbfckjlagaaGreat
open Go.Eng (IC IOper DReg IFn IsFn)
open Go.Sym Go.Pb
section
def u4_9:IC:=.cond (.t 23) .skip (.exit 0)
def u4_8r:List IOper:=[oM 19 7,oF 20 5 0,oL 21 20,oH 22 21,oB 23 19 22 .lss]
def u4_8:IC:=.seq (.reg u4_8r) u4_9
def u4_13r:List IOper:=[oC 33 13 [],oM 4 33]
def u4_13:IC:=.seq (.reg u4_13r) .ret
def u4_12:IC:=.cond (.t 32) u4_13 .skip
def u4_11r:List IOper:=[oF 26 5 0,oL 27 26,oM 28 7,oA 29 27 28 2,oF 30 29 0,oL 31 30,oK 32 31 .eql 14]
def u4_11:IC:=.seq (.reg u4_11r) u4_12
def u4_14r:List IOper:=[oM 24 7,oK 25 24 .add 1,oM 7 25]
def u4_14:IC:=.reg u4_14r
def u4_10:IC:=.seq (.blk 1 u4_11) u4_14
def u4_7:IC:=.seq u4_8 u4_10
def u4_6:IC:=.blk 0 (.loop u4_7)
def u4_5r:List IOper:=[oI 7 0]
def u4_5:IC:=.seq (.reg u4_5r) u4_6
def u4_20:IC:=.cond (.t 38) .skip (.exit 2)
def u4_19r:List IOper:=[oM 34 8,oF 35 5 2,oL 36 35,oH 37 36,oB 38 34 37 .lss]
def u4_19:IC:=.seq (.reg u4_19r) u4_20
def u4_26r:List IOper:=[oP 4 (.mv (.k (.bool false)))]
def u4_26:IC:=.seq (.reg u4_26r) .ret
def u4_25:IC:=.cond (.t 72) u4_26 .skip
def u4_24r:List IOper:=[oF 60 5 0,oL 61 60,oH 62 61,oK 63 62 .leq 1000,oM 64 63,gM 65 13 64,gK 66 65 64 .neq 0,gM 67 66 64,⟨some 68,.pur (.mv (.t 12)),some (67,false)⟩,⟨some 69,.pur (.mv (.t 9)),some (67,false)⟩,⟨some 70,.pur (.bin .gtr (.t 68) (.t 69)),some (67,false)⟩,oG 71 (.pick (.t 67) (.k (.bool true)) (.t 70)) 64,oP 72 (.pick (.t 64) (.t 71) (.k (.bool false)))]
def u4_24:IC:=.seq (.reg u4_24r) u4_25
def u4_23r:DReg:=⟨[oD 46 5 7,oF 47 5 2,oL 48 47,oM 49 8,oA 50 48 49 4,oF 51 50 3,oL 52 51,oD 53 6 6,oM 54 9,oC 55 10 [.t 46,.t 52,.t 53,.t 54],oM 45 55,oE 56 45 0,oE 57 45 1,oE 58 45 2,oE 59 45 3,oM 10 56,oM 11 57,oM 12 58,oM 13 59],[[],[],[1],[],[2,3,1],[4,2,3,1],[5,4,2,3,1],[],[],[0,6,7,8,5,4,2,3,1],[9,0,6,7,8,5,4,2,3,1],[10,9,0,6,7,8,5,4,2,3,1],[10,9,0,6,7,8,5,4,2,3,1],[10,9,0,6,7,8,5,4,2,3,1],[10,9,0,6,7,8,5,4,2,3,1],[11,9,0,1,2,3,4,5,6,7,8,10],[12,15,0,1,2,3,4,5,6,7,8,9,10,11],[13,16,0,1,2,3,4,5,6,7,8,9,10,11,12,15],[14,17,0,1,2,3,4,5,6,7,8,9,10,11,12,13,15,16]],[(0,none),(1,none),(2,none),(3,none),(4,none),(5,none),(6,none),(7,none),(8,none),(9,some []),(10,none),(11,none),(12,none),(13,none),(14,none),(15,some [12,13,14]),(16,some [13,14]),(17,some [14]),(18,some [])]⟩
def u4_23:IC:=.seq (.drw 19 u4_23r) u4_24
def u4_22r:List IOper:=[oF 41 5 0,oL 42 41,oH 43 42,oP 44 (.mn (.t 43) (.k (.int .i64 1000))),oM 9 44]
def u4_22:IC:=.seq (.reg u4_22r) u4_23
def u4_27r:List IOper:=[oM 39 8,oK 40 39 .add 1,oM 8 40]
def u4_27:IC:=.reg u4_27r
def u4_21:IC:=.seq (.blk 3 u4_22) u4_27
def u4_18:IC:=.seq u4_19 u4_21
def u4_17:IC:=.blk 2 (.loop u4_18)
def u4_16r:List IOper:=[oI 8 0]
def u4_16:IC:=.seq (.reg u4_16r) u4_17
def u4_28r:List IOper:=[oC 73 13 [],oM 4 73]
def u4_28:IC:=.seq (.reg u4_28r) .ret
def u4_15:IC:=.seq u4_16 u4_28
def u4_4:IC:=.seq u4_5 u4_15
def u4_3r:List IOper:=[oD 16 5 7,oM 17 1,oC 18 9 [.t 16,.t 17],⟨some 6,.new (.box (.k (.agg #[.slice none 0 0,.slice none 0 0,.int .u64 0,.int .u32 0,.int .i64 0,.int .i64 0]))),none⟩,oS 6 18 6]
def u4_3:IC:=.seq (.reg u4_3r) u4_4
def u4_2r:List IOper:=[oM 14 0,oC 15 8 [.t 14],⟨some 5,.new (.box (.k (.agg #[.slice none 0 0,.slice none 0 0,.slice none 0 0,.slice none 0 0,.slice none 0 0,.int .i64 0,.int .i64 0]))),none⟩,oS 5 15 7]
def u4_2:IC:=.seq (.reg u4_2r) u4_3
def u4_1r:List IOper:=[oP 4 (.mv (.k (.bool false)))]
def u4_1:IC:=.seq (.reg u4_1r) u4_2
def u4:IFn:=⟨74,u4_1,[.tmp 4]⟩
end
theorem isU4:IsFn Tryz.prog 4 u4:=by unfold IsFn;kernel_rfl
instance i4_9:WR Tryz.prog 74 u4_9 (rCE (.t 23) .skip (.exit 0) [5,6,7,23]):=⟨mkCE⟩
instance i4_8:WR Tryz.prog 74 u4_8 (rS u4_8r u4_9 [5,6,7]):=⟨mkS⟩
instance i4_13:WR Tryz.prog 74 u4_13 (rS u4_13r .ret []):=⟨mkS⟩
instance i4_12:WR Tryz.prog 74 u4_12 (rCE (.t 32) u4_13 .skip [5,6,7,32]):=⟨mkCE⟩
instance i4_11:WR Tryz.prog 74 u4_11 (rS u4_11r u4_12 [5,6,7]):=⟨mkS⟩
instance i4_14:WR Tryz.prog 74 u4_14 (rE u4_14r [5,6,7]):=⟨mkE⟩
instance i4_10:WR Tryz.prog 74 u4_10 (rB 1 u4_11 u4_14 [5,6,7]):=⟨mkB⟩
instance i4_7:WR Tryz.prog 74 u4_7 (rQ u4_8 u4_10 [5,6,7]):=⟨mkQ⟩
instance i4_6:WR Tryz.prog 74 u4_6 (rBE 0 (.loop u4_7) [5,6,7]):=⟨mkBE⟩
instance i4_5:WR Tryz.prog 74 u4_5 (rS u4_5r u4_6 [5,6]):=⟨mkS⟩
instance i4_20:WR Tryz.prog 74 u4_20 (rCE (.t 38) .skip (.exit 2) [5,6,8,38]):=⟨mkCE⟩
instance i4_19:WR Tryz.prog 74 u4_19 (rS u4_19r u4_20 [5,6,8]):=⟨mkS⟩
instance i4_25:WR Tryz.prog 74 u4_25 (rCE (.t 72) u4_26 .skip [5,6,8,72]):=⟨mkCE⟩
instance i4_24:WR Tryz.prog 74 u4_24 (rS u4_24r u4_25 [5,6,8,9,12,13]):=⟨mkS⟩
instance i4_23:WR Tryz.prog 74 u4_23 (rD 19 u4_23r u4_24 [5,6,8,9]):=⟨mkD⟩
instance i4_22:WR Tryz.prog 74 u4_22 (rS u4_22r u4_23 [5,6,8]):=⟨mkS⟩
instance i4_27:WR Tryz.prog 74 u4_27 (rE u4_27r [5,6,8]):=⟨mkE⟩
instance i4_21:WR Tryz.prog 74 u4_21 (rB 3 u4_22 u4_27 [5,6,8]):=⟨mkB⟩
instance i4_18:WR Tryz.prog 74 u4_18 (rQ u4_19 u4_21 [5,6,8]):=⟨mkQ⟩
instance i4_17:WR Tryz.prog 74 u4_17 (rBE 2 (.loop u4_18) [5,6,8]):=⟨mkBE⟩
instance i4_16:WR Tryz.prog 74 u4_16 (rS u4_16r u4_17 [5,6]):=⟨mkS⟩
instance i4_28:WR Tryz.prog 74 u4_28 (rS u4_28r .ret []):=⟨mkS⟩
instance i4_15:WR Tryz.prog 74 u4_15 (rQ u4_16 u4_28 [5,6]):=⟨mkQ⟩
instance i4_4:WR Tryz.prog 74 u4_4 (rQ u4_5 u4_15 [5,6]):=⟨mkQ⟩
instance i4_3:WR Tryz.prog 74 u4_3 (rS u4_3r u4_4 [1,5]):=⟨mkS⟩
instance i4_2:WR Tryz.prog 74 u4_2 (rS u4_2r u4_3 [0,1]):=⟨mkS⟩
instance i4_1:WR Tryz.prog 74 u4_1 (rS u4_1r u4_2 [0,1]):=⟨mkS⟩
attribute [go_sem] u4_8r u4_13r u4_11r u4_14r u4_5r u4_19r u4_26r u4_24r u4_23r u4_22r u4_27r u4_16r u4_28r u4_3r u4_2r u4_1r
theorem c_ends (l m:List UInt8) (hl:l.length≤9223372036854775807) (hm:m.length≤9223372036854775807):PC Tryz.prog 4 [.lst (bytesC l),.lst (bytesC m)] (.bool true):=by
 have nlb:∀ l,DV.nlL (bytesC l)=true:=fun l=>nlL_map (fun _=>rfl) l
 refine PC.of mixedU isU4 (Nat.le_of_ble_eq_true rfl) (by simp [DV.nlL,DV.nl,nlb]) rfl ?_
 show IW Tryz.prog 74 u4_1 ⟨argT _,_,_⟩ (rt [.tmp 4] _)
 have hval:=made_valid l
 have hah:=made_ah l
 obtain ⟨z1, -,z3,z4,z5⟩:=made_sized l
 have z2:(madeM l).instrs.length≤441:=(mdK_bd (l:=l.take 200) 9).2.1
 have cM:=c_Made l hl
 have cE:=c_Env (madeM l) m hm (by omega) (by omega)
 have hsz:=fun e (h:EnvM (madeM l) e)=>sized_made l h
 generalize madeM l=c at *
 repeat' ((first|with_reducible refine wr ?_|((with_reducible refine wb2 ?_ ?_)<;>(intro hb;try simp only [hb]))|((with_reducible refine AC.call ((cM).at _ _) ?_);rintro _ _ _ ⟨rfl,rfl,rfl⟩ -)|fail)<;>try simp only [go_sem,seval])
 refine AC.call (AC.lift (Q:=fun r => ∃ e,EnvM c e∧r=e.v) cE (by simp [DV.nlL,DV.nl,nlb,nlL_ints,nlL_strs,nlL_instrs,nlL_entries]) (fun v hv=>by obtain ⟨e, -,rfl⟩:=hv;exact env_nl e) _ _) ?_
 rintro v H' c' ⟨⟨e,he,rfl⟩,rfl,rfl⟩ hc1
 have hs:=hsz e he
 have hE:=EnvOk.of (he.is hval)
 simp only [go_sem,seval]
 repeat' ((first|with_reducible refine wr ?_|((with_reducible refine wb2 ?_ ?_)<;>(intro hb;try simp only [hb]))|fail)<;>try simp only [go_sem,seval])
 refine i_loop (fun i:Nat=>[(5,.ptr 0 0),(6,.ptr 1 0),(7,I64 (i:Int))]) (fun _=>(Sym.nil.upd 0 ⟨0,true,c.cs⟩).upd 1 ⟨0,true,e.cs⟩) (fun i cc=>2≤cc∧i≤c.instrs.length∧∀ j x,j<i→c.instrs[j]? = some x→x.op≠14) (fun i=>c.instrs.length-i) 0
  (by simp [tmLe,tm,Tm.upd]) (by simp only [h_upd2];exact Sub.refl _) ⟨by omega,by omega,fun j x h=>absurd h (by omega)⟩ ?_
 rintro i cc ⟨h2c,hi,h14⟩
 by_cases hlt:i<c.instrs.length
 ·have hd:decide ((i:Int)<(c.instrs.length:Int))=true:=by simpa using hlt
  have hw:IntKind.i64.wrap ((i:Int)+1)=((i+1:Nat):Int):=by rw [w64 (by omega) (by omega)];omega
  obtain ⟨x,hx⟩:∃ x,x=c.instrs[i]:=⟨_,rfl⟩
  have hg:c.instrs[i]? = some x:=by rw [hx];exact List.getElem?_eq_getElem hlt
  cases ho:(x.op == 14)
  ·repeat' ((first|with_reducible refine wr ?_|((with_reducible refine wb2 ?_ ?_)<;>(intro hb;try simp only [hb]))|fail)<;>try simp only [go_sem,seval,hd,hg,hw,ho])
   refine ⟨i+1,rfl,Sub.refl _,inv ⟨by omega,hlt,fun j y hj hy=>?_⟩,by omega⟩
   by_cases e:j=i
   ·subst e;rw [hg] at hy;cases hy;exact fun h=>by rw [h] at ho;exact absurd ho (by decide)
   ·exact h14 j y (by omega) hy
  ·repeat' ((first|with_reducible refine wr ?_|((with_reducible refine wb2 ?_ ?_)<;>(intro hb;try simp only [hb]))|((with_reducible refine AC.call ((c_sane35).at _ _) ?_);rintro _ _ _ ⟨rfl,rfl,rfl⟩ -)|fail)<;>try simp only [go_sem,seval,hd,hg,ho])
   exact pc_ret rfl
 ·have hd:decide ((i:Int)<(c.instrs.length:Int))=false:=by simpa using hlt
  have hno:∀ x∈c.instrs,x.op≠14:=fun x hx=>by
   obtain ⟨j,hj,rfl⟩:=List.mem_iff_getElem.1 hx
   exact h14 j _ (by omega) (List.getElem?_eq_getElem hj)
  clear h14 hi
  repeat' ((first|with_reducible refine wr ?_|((with_reducible refine wb2 ?_ ?_)<;>(intro hb;try simp only [hb]))|fail)<;>try simp only [go_sem,seval,hd])
  refine i_loop (fun i:Nat=>[(5,.ptr 0 0),(6,.ptr 1 0),(8,I64 (i:Int))]) (fun _=>(Sym.nil.upd 0 ⟨0,true,c.cs⟩).upd 1 ⟨0,true,e.cs⟩) (fun i cc=>2≤cc∧i≤c.entries.length) (fun i=>c.entries.length-i) 0
   (by simp [tmLe,tm,Tm.upd]) (Sub.refl _) ⟨by omega,by omega⟩ ?_
  rintro k cc2 ⟨h2c2,hk⟩
  by_cases hl2:k<c.entries.length
  ·have hd2:decide ((k:Int)<(c.entries.length:Int))=true:=by simpa using hl2
   have hw2:IntKind.i64.wrap ((k:Int)+1)=((k+1:Nat):Int):=by rw [w64 (by omega) (by omega)];omega
   obtain ⟨x,hx⟩:∃ x,x=c.entries[k]:=⟨_,rfl⟩
   have hg:c.entries[k]? = some x:=by rw [hx];exact List.getElem?_eq_getElem hl2
   have hb:=beg_ok hval he (List.mem_of_getElem? hg) (b:=(c.instrs.length:Int)) (by omega) (by omega)
   obtain ⟨r1,r2⟩:=ends_law hah hno (Nat.le_refl _) hb
   have cX:=c_Exec c e x.pos (c.instrs.length:Int) hs
   obtain ⟨A,X,n,q,hr⟩:∃ A X n q,execM c e x.pos (c.instrs.length:Int)=(A,X,n,q):=⟨_,_,_,_,rfl⟩
   rw [hr] at cX r1 r2
   simp only at r1 r2
   subst r1
   have cX':PC Tryz.prog 10 [c.v,I64 x.pos,e.v,I64 (c.instrs.length:Int)] (.tup [ints A,effsV X,I64 (n:Int),I64 0]):=cX
   have hmn:(if (1000:Int)<(c.instrs.length:Int) then (1000:Int) else (c.instrs.length:Int))=(c.instrs.length:Int):=by rw [if_neg (by omega)]
   have e1:decide ((c.instrs.length:Int)≤1000)=true:=by simp;omega
   have e2:decide ((n:Int)>(c.instrs.length:Int))=false:=by simp;omega
   repeat' ((first|with_reducible refine wr ?_|((with_reducible refine wb2 ?_ ?_)<;>(intro hb;try simp only [hb]))|((with_reducible refine AC.call ((cX').at _ _) ?_);rintro _ _ _ ⟨rfl,rfl,rfl⟩ -)|fail)<;>try simp only [go_sem,seval,hd2,hg,hw2,hmn,e1,e2])
   exact ⟨k+1,rfl,Sub.refl _,inv ⟨by omega,hl2⟩,by omega⟩
  ·have hd2:decide ((k:Int)<(c.entries.length:Int))=false:=by simpa using hl2
   repeat' ((first|with_reducible refine wr ?_|((with_reducible refine wb2 ?_ ?_)<;>(intro hb;try simp only [hb]))|((with_reducible refine AC.call ((c_sane35).at _ _) ?_);rintro _ _ _ ⟨rfl,rfl,rfl⟩ -)|fail)<;>try simp only [go_sem,seval,hd2])
   exact pc_ret rfl
end Go.Proofs.YtcallbfckjlagaaGreat
end
