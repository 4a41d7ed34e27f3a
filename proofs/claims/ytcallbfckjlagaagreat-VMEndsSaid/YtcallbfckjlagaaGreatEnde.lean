/-
  HELPERS of the claim: part 5 of its texts.
-/
import Derived.Test.YtcallbfckjlagaaGreatEndd
noncomputable section
set_option maxHeartbeats 8000000
set_option maxRecDepth 100000
set_option linter.unusedSimpArgs false
set_option linter.unusedVariables false
namespace Go.Proofs.YtcallbfckjlagaaGreat
open Go.Eng (IC IOper DReg IFn IsFn)
open Go.Sym Go.Pb
section
def u24_7r:List IOper:=[oM 31 0,oF 32 2 1,oL 33 32,oC 34 39 [.t 31,.t 33]]
def u24_7:IC:=.reg u24_7r
def u24_10r:DReg:=⟨[oM 37 0,oM 38 0,oN 39 38,oF 40 39 7,oF 41 40 0,oL 42 41,oF 43 2 1,oL 44 43,oA 45 42 44 1,oL 46 45,oC 47 39 [.t 37,.t 46]],[[],[],[1],[2,1],[3,2,1],[4,3,2,1],[],[6],[5,7,4,3,2,1,6],[8,5,7,4,3,2,1,6],[0,9,8,5,7,4,3,2,1,6]],[(0,none),(1,none),(2,none),(3,none),(4,none),(5,none),(6,none),(7,none),(8,none),(9,none),(10,some [])]⟩
def u24_10:IC:=.drw 11 u24_10r
def u24_13r:DReg:=⟨[oM 50 0,oN 51 50,oF 52 51 7,oF 53 52 0,oL 54 53,oF 55 2 1,oL 56 55,oM 57 0,oC 58 40 [.t 57],oA 59 54 56 1,oS 59 58 1],[[],[0],[1,0],[2,1,0],[3,2,1,0],[],[5],[],[7],[4,6,0,1,2,3,5,7,8],[9,8,0,1,2,3,4,5,6,7]],[(0,none),(1,none),(2,none),(3,none),(4,none),(5,none),(6,none),(7,none),(8,some [0,1,2,3,4,5,6]),(9,none),(10,some [])]⟩
def u24_13:IC:=.drw 11 u24_13r
def u24_16r:DReg:=⟨[oM 62 0,oM 63 0,oN 64 63,oF 65 64 7,oF 66 65 2,oL 67 66,oF 68 2 1,oL 69 68,oB 70 67 69 .shr,oP 71 (.bin .and (.t 70) (.k (.int .u64 1))),oP 72 (.cvi .i64 (.t 71)),oC 73 39 [.t 62,.t 72]],[[],[],[1],[2,1],[3,2,1],[4,3,2,1],[],[6],[5,7,4,3,2,1,6],[8,5,7,4,3,2,1,6],[9,8,5,7,4,3,2,1,6],[0,10,9,8,5,7,4,3,2,1,6]],[(0,none),(1,none),(2,none),(3,none),(4,none),(5,none),(6,none),(7,none),(8,none),(9,none),(10,none),(11,some [])]⟩
def u24_16:IC:=.drw 12 u24_16r
def u24_19r:DReg:=⟨[oM 76 0,oM 77 0,oN 78 77,oF 79 78 7,oF 80 79 3,oL 81 80,oF 82 2 1,oL 83 82,oB 84 81 83 .shr,oP 85 (.bin .and (.t 84) (.k (.int .u32 1))),oP 86 (.cvi .i64 (.t 85)),oC 87 39 [.t 76,.t 86]],[[],[],[1],[2,1],[3,2,1],[4,3,2,1],[],[6],[5,7,4,3,2,1,6],[8,5,7,4,3,2,1,6],[9,8,5,7,4,3,2,1,6],[0,10,9,8,5,7,4,3,2,1,6]],[(0,none),(1,none),(2,none),(3,none),(4,none),(5,none),(6,none),(7,none),(8,none),(9,none),(10,none),(11,some [])]⟩
def u24_19:IC:=.drw 12 u24_19r
def u24_22r:DReg:=⟨[oM 90 0,oM 91 0,oN 92 91,oF 93 92 7,oF 94 93 1,oL 95 94,oF 96 2 1,oL 97 96,oA 98 95 97 1,oL 99 98,oC 100 39 [.t 90,.t 99]],[[],[],[1],[2,1],[3,2,1],[4,3,2,1],[],[6],[5,7,4,3,2,1,6],[8,5,7,4,3,2,1,6],[0,9,8,5,7,4,3,2,1,6]],[(0,none),(1,none),(2,none),(3,none),(4,none),(5,none),(6,none),(7,none),(8,none),(9,none),(10,some [])]⟩
def u24_22:IC:=.drw 11 u24_22r
def u24_25r:List IOper:=[oM 103 0,oM 104 0,oN 105 104,oF 106 105 7,oF 107 106 4,oL 108 107,oC 109 39 [.t 103,.t 108]]
def u24_25:IC:=.reg u24_25r
def u24_28r:List IOper:=[oM 112 0,oM 113 0,oN 114 113,oF 115 114 7,oF 116 115 5,oL 117 116,oC 118 39 [.t 112,.t 117]]
def u24_28:IC:=.reg u24_28r
def u24_31r:List IOper:=[oM 121 0,oM 122 0,oC 123 40 [.t 122],oC 124 41 [.k (.int .i64 10),.t 123],oC 125 39 [.t 121,.t 124]]
def u24_31:IC:=.reg u24_31r
def u24_34r:List IOper:=[oM 128 0,oM 129 0,oC 130 40 [.t 129],oC 131 41 [.k (.int .i64 11),.t 130],oC 132 39 [.t 128,.t 131]]
def u24_34:IC:=.reg u24_34r
def u24_38r:DReg:=⟨[oM 137 0,oF 138 2 1,oL 139 138,oM 140 0,oC 141 40 [.t 140],oM 142 3,oC 143 42 [.t 139,.t 141,.t 142],oC 144 39 [.t 137,.t 143]],[[],[],[1],[],[3],[],[2,4,5,1,3],[0,6,2,4,5,1,3]],[(0,none),(1,none),(2,none),(3,none),(5,none),(4,some [0,1,2,5]),(6,some [0]),(7,some [])]⟩
def u24_38:IC:=.drw 8 u24_38r
def u24_37r:List IOper:=[oM 135 0,oC 136 40 [.t 135],oM 3 136]
def u24_37:IC:=.seq (.reg u24_37r) u24_38
def u24_41r:List IOper:=[oM 147 0,oF 148 2 1,oL 149 148,oN 150 147,oF 151 150 13,oS 151 149 1]
def u24_41:IC:=.reg u24_41r
def u24_46r:List IOper:=[oM 157 0,oF 158 2 1,oL 159 158,oN 160 157,oF 161 160 13,oS 161 159 1]
def u24_46:IC:=.reg u24_46r
def u24_45:IC:=.cond (.t 156) u24_46 .skip
def u24_44r:List IOper:=[oM 154 0,oC 155 40 [.t 154],oK 156 155 .eql 0]
def u24_44:IC:=.seq (.reg u24_44r) u24_45
def u24_52r:List IOper:=[oM 168 0,oF 169 2 1,oL 170 169,oN 171 168,oF 172 171 13,oS 172 170 1]
def u24_52:IC:=.reg u24_52r
def u24_53r:List IOper:=[oM 173 0,oM 174 4,oK 175 174 .sub 1,oC 176 39 [.t 173,.t 175]]
def u24_53:IC:=.reg u24_53r
def u24_51:IC:=.cond (.t 167) u24_52 u24_53
def u24_50r:List IOper:=[oM 166 4,oK 167 166 .leq 0]
def u24_50:IC:=.seq (.reg u24_50r) u24_51
def u24_49r:List IOper:=[oM 164 0,oC 165 40 [.t 164],oM 4 165]
def u24_49:IC:=.seq (.reg u24_49r) u24_50
def u24_59r:List IOper:=[oK 180 25 .eql 21,oM 177 180]
def u24_59:IC:=.reg u24_59r
def u24_58:IC:=.cond (.t 177) .skip u24_59
def u24_57r:List IOper:=[oK 179 25 .eql 19,oM 177 179]
def u24_57:IC:=.seq (.reg u24_57r) u24_58
def u24_56:IC:=.cond (.t 177) .skip u24_57
def u24_55r:List IOper:=[oK 178 25 .eql 15,oM 177 178]
def u24_55:IC:=.seq (.reg u24_55r) u24_56
def u24_61r:DReg:=⟨[oM 181 0,oD 182 2 2,oM 183 0,oC 184 40 [.t 183],oC 185 43 [.t 181,.t 182,.t 184,.k (.int .i64 0)]],[[],[],[],[2],[0,1,3,2]],[(0,none),(1,none),(2,none),(3,some [0,1]),(4,some [])]⟩
def u24_61:IC:=.drw 5 u24_61r
def u24_65r:DReg:=⟨[oM 190 0,oD 191 2 2,oM 192 0,oC 193 40 [.t 192],oM 194 5,oC 195 43 [.t 190,.t 191,.t 193,.t 194]],[[],[],[],[2],[],[0,1,3,4,2]],[(0,none),(1,none),(2,none),(4,none),(3,some [0,1,4]),(5,some [])]⟩
def u24_65:IC:=.drw 6 u24_65r
def u24_64r:List IOper:=[oM 188 0,oC 189 40 [.t 188],oM 5 189]
def u24_64:IC:=.seq (.reg u24_64r) u24_65
def u24_68r:DReg:=⟨[oM 198 0,oM 199 0,oN 200 199,oF 201 200 16,oL 202 201,oF 203 2 0,oL 204 203,oM 205 0,oC 206 40 [.t 205],oM 207 0,oN 208 207,oF 209 208 0,oF 210 209 1,oL 211 210,oF 212 2 1,oL 213 212,oA 214 211 213 1,oL 215 214,oP 216 (.bld #[.int .i64 0,.int .i64 0,.int .i64 0,.int .i64 0,.string ⟨#[]⟩] [(0,1),(1,1),(2,1),(3,1),(4,1)] [(0,.t 204),(2,.t 206),(4,.t 215)]),⟨some 217,.new (.bsl 5 1 #[.int .i64 0,.int .i64 0,.int .i64 0,.int .i64 0,.string ⟨#[]⟩] [(0,.t 216)]),none⟩,⟨some 218,.eff (.app 5 48 (.t 202) (.t 217)),none⟩,oN 219 198,oF 220 219 16,oS 220 218 1],[[],[],[1],[2,1],[3,2,1],[],[5],[],[7],[],[9],[10,9],[11,10,9],[12,11,10,9],[],[14],[13,15,12,11,10,9,14],[16,13,15,12,11,10,9,14],[6,8,17,5,7,16,13,15,12,11,10,9,14],[18,6,8,17,5,7,16,13,15,12,11,10,9,14],[4,19,8,3,2,1,18,6,17,5,7,16,13,15,12,11,10,9,14],[0,1,2,3,4,5,6,7,8,9,10,11,12,13,14,15,16,17,18,19,20],[21,0,1,2,3,4,5,6,7,8,9,10,11,12,13,14,15,16,17,18,19,20],[22,20,0,1,2,3,4,5,6,7,8,9,10,11,12,13,14,15,16,17,18,19,21]],[(0,none),(1,none),(2,none),(3,none),(4,none),(5,none),(6,none),(7,none),(9,none),(10,none),(11,none),(12,none),(13,none),(14,none),(15,none),(16,none),(17,none),(8,some [0,1,2,3,4,5,6,9,10,11,12,13,14,15,16,17]),(18,none),(19,none),(20,some [0]),(21,none),(22,none),(23,some [])]⟩
def u24_68:IC:=.drw 24 u24_68r
def u24_71r:List IOper:=[oM 223 0,oN 224 223,oF 225 224 14,⟨none,.eff (.st 1 (.t 225) (.k (.bool true))),none⟩]
def u24_71:IC:=.reg u24_71r
def u24_72r:List IOper:=[oM 26 0,oD 27 2 2,oC 28 43 [.t 26,.t 27,.k (.int .i64 0),.k (.int .i64 0)]]
def u24_72:IC:=.reg u24_72r
def u24_70:IC:=.cond (.t 221) u24_71 u24_72
def u24_69r:List IOper:=[oK 222 25 .eql 31,oM 221 222]
def u24_69:IC:=.seq (.reg u24_69r) u24_70
def u24_67:IC:=.cond (.t 196) u24_68 u24_69
def u24_66r:List IOper:=[oK 197 25 .eql 29,oM 196 197]
def u24_66:IC:=.seq (.reg u24_66r) u24_67
def u24_63:IC:=.cond (.t 186) u24_64 u24_66
def u24_62r:List IOper:=[oK 187 25 .eql 20,oM 186 187]
def u24_62:IC:=.seq (.reg u24_62r) u24_63
def u24_60:IC:=.cond (.t 177) u24_61 u24_62
def u24_54:IC:=.seq u24_55 u24_60
def u24_48:IC:=.cond (.t 162) u24_49 u24_54
def u24_47r:List IOper:=[oK 163 25 .eql 14,oM 162 163]
def u24_47:IC:=.seq (.reg u24_47r) u24_48
def u24_43:IC:=.cond (.t 152) u24_44 u24_47
def u24_42r:List IOper:=[oK 153 25 .eql 13,oM 152 153]
def u24_42:IC:=.seq (.reg u24_42r) u24_43
def u24_40:IC:=.cond (.t 145) u24_41 u24_42
def u24_39r:List IOper:=[oK 146 25 .eql 12,oM 145 146]
def u24_39:IC:=.seq (.reg u24_39r) u24_40
def u24_36:IC:=.cond (.t 133) u24_37 u24_39
def u24_35r:List IOper:=[oK 134 25 .eql 11,oM 133 134]
def u24_35:IC:=.seq (.reg u24_35r) u24_36
def u24_33:IC:=.cond (.t 126) u24_34 u24_35
def u24_32r:List IOper:=[oK 127 25 .eql 10,oM 126 127]
def u24_32:IC:=.seq (.reg u24_32r) u24_33
def u24_30:IC:=.cond (.t 119) u24_31 u24_32
def u24_29r:List IOper:=[oK 120 25 .eql 9,oM 119 120]
def u24_29:IC:=.seq (.reg u24_29r) u24_30
def u24_27:IC:=.cond (.t 110) u24_28 u24_29
def u24_26r:List IOper:=[oK 111 25 .eql 8,oM 110 111]
def u24_26:IC:=.seq (.reg u24_26r) u24_27
def u24_24:IC:=.cond (.t 101) u24_25 u24_26
def u24_23r:List IOper:=[oK 102 25 .eql 7,oM 101 102]
def u24_23:IC:=.seq (.reg u24_23r) u24_24
def u24_21:IC:=.cond (.t 88) u24_22 u24_23
def u24_20r:List IOper:=[oK 89 25 .eql 6,oM 88 89]
def u24_20:IC:=.seq (.reg u24_20r) u24_21
def u24_18:IC:=.cond (.t 74) u24_19 u24_20
def u24_17r:List IOper:=[oK 75 25 .eql 5,oM 74 75]
def u24_17:IC:=.seq (.reg u24_17r) u24_18
def u24_15:IC:=.cond (.t 60) u24_16 u24_17
def u24_14r:List IOper:=[oK 61 25 .eql 4,oM 60 61]
def u24_14:IC:=.seq (.reg u24_14r) u24_15
def u24_12:IC:=.cond (.t 48) u24_13 u24_14
def u24_11r:List IOper:=[oK 49 25 .eql 3,oM 48 49]
def u24_11:IC:=.seq (.reg u24_11r) u24_12
def u24_9:IC:=.cond (.t 35) u24_10 u24_11
def u24_8r:List IOper:=[oK 36 25 .eql 2,oM 35 36]
def u24_8:IC:=.seq (.reg u24_8r) u24_9
def u24_6:IC:=.cond (.t 29) u24_7 u24_8
def u24_5r:List IOper:=[oK 30 25 .eql 1,oM 29 30]
def u24_5:IC:=.seq (.reg u24_5r) u24_6
def u24_4:IC:=.blk 0 u24_5
def u24_3r:List IOper:=[oF 24 2 0,oL 25 24]
def u24_3:IC:=.seq (.reg u24_3r) u24_4
def u24_2r:List IOper:=[oM 17 0,oN 18 17,oF 19 18 13,oL 20 19,oK 21 20 .add 1,oN 22 17,oF 23 22 13,oS 23 21 1]
def u24_2:IC:=.seq (.reg u24_2r) u24_3
def u24_1r:DReg:=⟨[oM 6 0,oN 7 6,oF 8 7 0,oF 9 8 0,oL 10 9,oM 11 0,oN 12 11,oF 13 12 13,oL 14 13,oA 15 10 14 2,oD 16 15 2,⟨some 2,.new (.box (.k (.agg #[.int .i64 0,.int .i64 0]))),none⟩,oS 2 16 2],[[],[0],[1,0],[2,1,0],[3,2,1,0],[],[5],[6,5],[7,6,5],[4,8,3,2,1,0,7,6,5],[9,4,8,3,2,1,0,7,6,5],[],[11,10,0,1,2,3,4,5,6,7,8,9]],[(0,none),(1,none),(2,none),(3,none),(4,none),(5,none),(6,none),(7,none),(8,none),(9,none),(10,none),(11,none),(12,some [])]⟩
def u24_1:IC:=.seq (.drw 13 u24_1r) u24_2
def u24:IFn:=⟨226,u24_1,[]⟩
end
theorem isU24:IsFn Tryz.prog 24 u24:=by unfold IsFn;kernel_rfl
instance i24_7:WR Tryz.prog 226 u24_7 (rE u24_7r [0,2]):=⟨mkE⟩
instance i24_10:WR Tryz.prog 226 u24_10 (rPE 11 u24_10r [0,2]):=⟨mkPE rfl⟩
instance i24_13:WR Tryz.prog 226 u24_13 (rDE 11 u24_13r [0,2]):=⟨mkDE⟩
instance i24_16:WR Tryz.prog 226 u24_16 (rPE 12 u24_16r [0,2]):=⟨mkPE rfl⟩
instance i24_19:WR Tryz.prog 226 u24_19 (rPE 12 u24_19r [0,2]):=⟨mkPE rfl⟩
instance i24_22:WR Tryz.prog 226 u24_22 (rPE 11 u24_22r [0,2]):=⟨mkPE rfl⟩
instance i24_25:WR Tryz.prog 226 u24_25 (rE u24_25r [0]):=⟨mkE⟩
instance i24_28:WR Tryz.prog 226 u24_28 (rE u24_28r [0]):=⟨mkE⟩
instance i24_31:WR Tryz.prog 226 u24_31 (rE u24_31r [0]):=⟨mkE⟩
instance i24_34:WR Tryz.prog 226 u24_34 (rE u24_34r [0]):=⟨mkE⟩
instance i24_38:WR Tryz.prog 226 u24_38 (rDE 8 u24_38r [0,2,3]):=⟨mkDE⟩
instance i24_37:WR Tryz.prog 226 u24_37 (rS u24_37r u24_38 [0,2]):=⟨mkS⟩
instance i24_41:WR Tryz.prog 226 u24_41 (rE u24_41r [0,2]):=⟨mkE⟩
instance i24_46:WR Tryz.prog 226 u24_46 (rE u24_46r [0,2]):=⟨mkE⟩
instance i24_45:WR Tryz.prog 226 u24_45 (rCE (.t 156) u24_46 .skip [0,2,156]):=⟨mkCE⟩
instance i24_44:WR Tryz.prog 226 u24_44 (rS u24_44r u24_45 [0,2]):=⟨mkS⟩
instance i24_52:WR Tryz.prog 226 u24_52 (rE u24_52r [0,2]):=⟨mkE⟩
instance i24_53:WR Tryz.prog 226 u24_53 (rE u24_53r [0,4]):=⟨mkE⟩
instance i24_51:WR Tryz.prog 226 u24_51 (rCE (.t 167) u24_52 u24_53 [0,2,4,167]):=⟨mkCE⟩
instance i24_50:WR Tryz.prog 226 u24_50 (rS u24_50r u24_51 [0,2,4]):=⟨mkS⟩
instance i24_49:WR Tryz.prog 226 u24_49 (rS u24_49r u24_50 [0,2]):=⟨mkS⟩
instance i24_59:WR Tryz.prog 226 u24_59 (rE u24_59r [0,2,25]):=⟨mkE⟩
instance i24_58:WR Tryz.prog 226 u24_58 (rCE (.t 177) .skip u24_59 [0,2,25,177]):=⟨mkCE⟩
instance i24_57:WR Tryz.prog 226 u24_57 (rS u24_57r u24_58 [0,2,25]):=⟨mkS⟩
instance i24_56:WR Tryz.prog 226 u24_56 (rCE (.t 177) .skip u24_57 [0,2,25,177]):=⟨mkCE⟩
instance i24_55:WR Tryz.prog 226 u24_55 (rS u24_55r u24_56 [0,2,25]):=⟨mkS⟩
instance i24_61:WR Tryz.prog 226 u24_61 (rDE 5 u24_61r [0,2]):=⟨mkDE⟩
instance i24_65:WR Tryz.prog 226 u24_65 (rDE 6 u24_65r [0,2,5]):=⟨mkDE⟩
instance i24_64:WR Tryz.prog 226 u24_64 (rS u24_64r u24_65 [0,2]):=⟨mkS⟩
instance i24_68:WR Tryz.prog 226 u24_68 (rDE 24 u24_68r [0,2]):=⟨mkDE⟩
instance i24_71:WR Tryz.prog 226 u24_71 (rE u24_71r [0]):=⟨mkE⟩
instance i24_72:WR Tryz.prog 226 u24_72 (rE u24_72r [0,2]):=⟨mkE⟩
instance i24_70:WR Tryz.prog 226 u24_70 (rCE (.t 221) u24_71 u24_72 [0,2,221]):=⟨mkCE⟩
instance i24_69:WR Tryz.prog 226 u24_69 (rS u24_69r u24_70 [0,2,25]):=⟨mkS⟩
instance i24_67:WR Tryz.prog 226 u24_67 (rCE (.t 196) u24_68 u24_69 [0,2,25,196]):=⟨mkCE⟩
instance i24_66:WR Tryz.prog 226 u24_66 (rS u24_66r u24_67 [0,2,25]):=⟨mkS⟩
instance i24_63:WR Tryz.prog 226 u24_63 (rCE (.t 186) u24_64 u24_66 [0,2,25,186]):=⟨mkCE⟩
instance i24_62:WR Tryz.prog 226 u24_62 (rS u24_62r u24_63 [0,2,25]):=⟨mkS⟩
instance i24_60:WR Tryz.prog 226 u24_60 (rCE (.t 177) u24_61 u24_62 [0,2,25,177]):=⟨mkCE⟩
instance i24_54:WR Tryz.prog 226 u24_54 (rQ u24_55 u24_60 [0,2,25]):=⟨mkQ⟩
instance i24_48:WR Tryz.prog 226 u24_48 (rCE (.t 162) u24_49 u24_54 [0,2,25,162]):=⟨mkCE⟩
instance i24_47:WR Tryz.prog 226 u24_47 (rS u24_47r u24_48 [0,2,25]):=⟨mkS⟩
instance i24_43:WR Tryz.prog 226 u24_43 (rCE (.t 152) u24_44 u24_47 [0,2,25,152]):=⟨mkCE⟩
instance i24_42:WR Tryz.prog 226 u24_42 (rS u24_42r u24_43 [0,2,25]):=⟨mkS⟩
instance i24_40:WR Tryz.prog 226 u24_40 (rCE (.t 145) u24_41 u24_42 [0,2,25,145]):=⟨mkCE⟩
instance i24_39:WR Tryz.prog 226 u24_39 (rS u24_39r u24_40 [0,2,25]):=⟨mkS⟩
instance i24_36:WR Tryz.prog 226 u24_36 (rCE (.t 133) u24_37 u24_39 [0,2,25,133]):=⟨mkCE⟩
instance i24_35:WR Tryz.prog 226 u24_35 (rS u24_35r u24_36 [0,2,25]):=⟨mkS⟩
instance i24_33:WR Tryz.prog 226 u24_33 (rCE (.t 126) u24_34 u24_35 [0,2,25,126]):=⟨mkCE⟩
instance i24_32:WR Tryz.prog 226 u24_32 (rS u24_32r u24_33 [0,2,25]):=⟨mkS⟩
instance i24_30:WR Tryz.prog 226 u24_30 (rCE (.t 119) u24_31 u24_32 [0,2,25,119]):=⟨mkCE⟩
instance i24_29:WR Tryz.prog 226 u24_29 (rS u24_29r u24_30 [0,2,25]):=⟨mkS⟩
instance i24_27:WR Tryz.prog 226 u24_27 (rCE (.t 110) u24_28 u24_29 [0,2,25,110]):=⟨mkCE⟩
instance i24_26:WR Tryz.prog 226 u24_26 (rS u24_26r u24_27 [0,2,25]):=⟨mkS⟩
instance i24_24:WR Tryz.prog 226 u24_24 (rCE (.t 101) u24_25 u24_26 [0,2,25,101]):=⟨mkCE⟩
instance i24_23:WR Tryz.prog 226 u24_23 (rS u24_23r u24_24 [0,2,25]):=⟨mkS⟩
instance i24_21:WR Tryz.prog 226 u24_21 (rCE (.t 88) u24_22 u24_23 [0,2,25,88]):=⟨mkCE⟩
instance i24_20:WR Tryz.prog 226 u24_20 (rS u24_20r u24_21 [0,2,25]):=⟨mkS⟩
instance i24_18:WR Tryz.prog 226 u24_18 (rCE (.t 74) u24_19 u24_20 [0,2,25,74]):=⟨mkCE⟩
instance i24_17:WR Tryz.prog 226 u24_17 (rS u24_17r u24_18 [0,2,25]):=⟨mkS⟩
instance i24_15:WR Tryz.prog 226 u24_15 (rCE (.t 60) u24_16 u24_17 [0,2,25,60]):=⟨mkCE⟩
instance i24_14:WR Tryz.prog 226 u24_14 (rS u24_14r u24_15 [0,2,25]):=⟨mkS⟩
instance i24_12:WR Tryz.prog 226 u24_12 (rCE (.t 48) u24_13 u24_14 [0,2,25,48]):=⟨mkCE⟩
instance i24_11:WR Tryz.prog 226 u24_11 (rS u24_11r u24_12 [0,2,25]):=⟨mkS⟩
instance i24_9:WR Tryz.prog 226 u24_9 (rCE (.t 35) u24_10 u24_11 [0,2,25,35]):=⟨mkCE⟩
instance i24_8:WR Tryz.prog 226 u24_8 (rS u24_8r u24_9 [0,2,25]):=⟨mkS⟩
instance i24_6:WR Tryz.prog 226 u24_6 (rCE (.t 29) u24_7 u24_8 [0,2,25,29]):=⟨mkCE⟩
instance i24_5:WR Tryz.prog 226 u24_5 (rS u24_5r u24_6 [0,2,25]):=⟨mkS⟩
instance i24_4:WR Tryz.prog 226 u24_4 (rBE 0 u24_5 [0,2,25]):=⟨mkBE⟩
instance i24_3:WR Tryz.prog 226 u24_3 (rS u24_3r u24_4 [0,2]):=⟨mkS⟩
instance i24_2:WR Tryz.prog 226 u24_2 (rS u24_2r u24_3 [0,2]):=⟨mkS⟩
instance i24_1:WR Tryz.prog 226 u24_1 (rD 13 u24_1r u24_2 [0]):=⟨mkD⟩
attribute [go_sem] u24_7r u24_10r u24_13r u24_16r u24_19r u24_22r u24_25r u24_28r u24_31r u24_34r u24_38r u24_37r u24_41r u24_46r u24_44r u24_52r u24_53r u24_50r u24_49r u24_59r u24_57r u24_55r u24_61r u24_65r u24_64r u24_68r u24_71r u24_72r u24_69r u24_66r u24_62r u24_47r u24_42r u24_39r u24_35r u24_32r u24_29r u24_26r u24_23r u24_20r u24_17r u24_14r u24_11r u24_8r u24_5r u24_3r u24_2r u24_1r
abbrev Stepped (c:Prg) (e:Envr) (x:Mch) (m v:Nat) (r:DV) (H':Hp) (c':Nat):Prop :=
 r=.tup []∧∃ so' eo' junk',MN m v so' eo' x c'∧H'=VM c e x m v so' eo' junk'
theorem step_end {c:Prg} {e:Envr} {x z:Mch} {m v c' k:Nat} {so eo:Option Nat} {junk:List DV} {B:Blk} {r:DV} (hn:MN m v so eo z c') (hk:VM c e z m v so eo junk k=none) (hz:z=x) (hr:r=.tup []) :
  ∃ v2 H2,GL ((VM c e z m v so eo junk).upd k B) [r] H2 [v2]∧Stepped c e x m v v2 H2 c':=by
 subst hz hr
 exact ⟨_,_,GL.less' (Sub.upd (Sub.refl _) B hk),rfl,so,eo,junk,hn,rfl⟩
theorem step_end' {c:Prg} {e:Envr} {x z:Mch} {m v c':Nat} {so eo:Option Nat} {junk:List DV} {X:Hp} {r:DV} (hn:MN m v so eo z c') (hm:X m=some (vmB c e z v so eo)) (hv:X v=some ⟨1,true,z.vars.map I64⟩)
  (hs:∀ i,so=some i→X i=some ⟨1,true,z.stk.reverse.map I64++junk⟩) (he:∀ i,eo=some i→X i=some ⟨5,true,effC z.effs⟩) (hz:z=x) (hr:r=.tup []) :
  ∃ v2 H2,GL X [r] H2 [v2]∧Stepped c e x m v v2 H2 c':=by
 subst hz hr
 exact ⟨_,_,GL.less' (VR_sub hm hv hs he),rfl,so,eo,junk,hn,rfl⟩
section
variable {c:Prg} {e:Envr} {x:Mch} {m v cc:Nat} {so eo:Option Nat} {junk:List DV}
theorem step_pre (h:MN m v so eo x cc) {op A:Int} (s:StepOk c e x ⟨op,A⟩):∃ y:Mch,stepM c e x=opM c e op A y∧y.stk=x.stk∧y.effs=x.effs∧y.vars=x.vars∧(∀ c',cc≤c'→MN m v so eo y c') ∧
  (∀ B:Blk,((VM c e x m v so eo junk).upd (cc+11) B).upd m ⟨0,true,mcC c e v x.vars.length ((x.pc+1:Nat):Int) x.done (todoV so x.stk.length) (todoV eo x.effs.length)⟩=(VM c e y m v so eo junk).upd (cc+11) B) ∧
  VM c e y m v so eo junk m=some (vmB c e y v so eo)∧VM c e y m v so eo junk v=some ⟨1,true,y.vars.map I64⟩∧VM c e y m v so eo junk (cc+11)=none∧y.stk.length≤1000∧y.effs.length≤1000 ∧
  IntKind.i64.wrap ((x.pc:Int)+1)=((x.pc+1:Nat):Int)∧VM c e x m v so eo junk m=some (vmB c e x v so eo)∧m<cc∧v<cc∧m≠v∧c.prios.length≤16:=by
 obtain ⟨s1,s2,s3,s4,s5,s6,s7,s8,s9,s10,s11,s12⟩:=s
 obtain ⟨d1,d2,d3,d4,d5,d6,d7,d8,d9⟩:=Lim.dims s1
 have hpc:x.pc<c.instrs.length:=(List.getElem?_eq_some_iff.1 s2).1
 obtain ⟨y,hy⟩:∃ y:Mch,y = { x with pc:=x.pc+1 }:=⟨_,rfl⟩
 have y1:y.stk=x.stk:=by rw [hy]
 have y2:y.effs=x.effs:=by rw [hy]
 have y3:y.vars=x.vars:=by rw [hy]
 have hN:∀ c',cc≤c'→MN m v so eo y c':=fun c' hc=>h.keep hc (by rw [y1];exact h.sn) (by rw [y2];exact h.en)
 have hmc:=h.mc
 exact ⟨y,by simp [stepM,List.getD,s2,hy],y1,y2,y3,hN,fun B=>by subst hy;exact VR_com h (by omega) B _,VM_m (hN cc (Nat.le_refl _)),VR_v (hN cc (Nat.le_refl _)),VR_n (hN cc (Nat.le_refl _)) (by omega),by rw [y1];exact s8,by rw [y2];exact s9,
  by rw [w64 (by omega) (by omega)];omega,VM_m h,hmc,h.vc,h.mv,d4⟩
theorem c_vstep_1 (h:MN m v so eo x cc) (A:Int) (s:StepOk c e x ⟨1,A⟩):AC Tryz.prog 24 [.ptr m 0] (VM c e x m v so eo junk) cc (Stepped c e (stepM c e x) m v):=by
 obtain ⟨y,hst,y1,y2,y3,hN,hcom,hY,hV,hk,l1,l2,hw,hM,hmc,hvc,hmv,d4⟩:=step_pre (junk:=junk) h s
 obtain ⟨s1,s2,s3,s4,s5,s6,s7,s8,s9,s10,s11,s12⟩:=s
 refine AC.body mixedU isU24 (Nat.le_of_ble_eq_true rfl) fun hfr=>?_
 show IW Tryz.prog 226 u24_1 ⟨argT _,_,_⟩ (rt [] _)
 have hn:=hN (cc+13) (by omega)
 rw [hst]
 clear s8 s9 hst
 have ne0:¬m=v∧¬m=cc∧¬m=cc+11∧¬v=m∧¬v=cc∧¬v=cc+11∧¬cc=m∧¬cc=v∧¬cc=cc+11∧¬cc+11=m∧¬cc+11=v∧¬cc+11=cc:=by and_intros<;>omega
 repeat' ((first|with_reducible refine wr ?_|((with_reducible refine wb2 ?_ ?_)<;>(intro hb;try simp only [hb]))|fail)<;>try simp only [go_sem,seval,hM,hw,s2,h_upd2,hcom,hY,hV,ne0])
 refine AC.call ((c_vput (hN _ (by omega)) (by omega) _).beside hk _) ?_
 rintro r H' c9 ⟨H9,⟨rfl,i2,q1,q2,rfl⟩,hk9,rfl⟩ hc9
 simp only [go_sem,seval]
 repeat' ((first|with_reducible refine wr ?_|((with_reducible refine wb2 ?_ ?_)<;>(intro hb;try simp only [hb]))|fail)<;>try simp only [go_sem,seval])
 exact step_end ((hN _ (by omega)).newS q1 q2 rfl) hk9 rfl rfl
theorem c_vstep_7 (h:MN m v so eo x cc) (A:Int) (s:StepOk c e x ⟨7,A⟩):AC Tryz.prog 24 [.ptr m 0] (VM c e x m v so eo junk) cc (Stepped c e (stepM c e x) m v):=by
 obtain ⟨y,hst,y1,y2,y3,hN,hcom,hY,hV,hk,l1,l2,hw,hM,hmc,hvc,hmv,d4⟩:=step_pre (junk:=junk) h s
 obtain ⟨s1,s2,s3,s4,s5,s6,s7,s8,s9,s10,s11,s12⟩:=s
 refine AC.body mixedU isU24 (Nat.le_of_ble_eq_true rfl) fun hfr=>?_
 show IW Tryz.prog 226 u24_1 ⟨argT _,_,_⟩ (rt [] _)
 have hn:=hN (cc+13) (by omega)
 rw [hst]
 clear s8 s9 hst
 have ne0:¬m=v∧¬m=cc∧¬m=cc+11∧¬v=m∧¬v=cc∧¬v=cc+11∧¬cc=m∧¬cc=v∧¬cc=cc+11∧¬cc+11=m∧¬cc+11=v∧¬cc+11=cc:=by and_intros<;>omega
 repeat' ((first|with_reducible refine wr ?_|((with_reducible refine wb2 ?_ ?_)<;>(intro hb;try simp only [hb]))|fail)<;>try simp only [go_sem,seval,hM,hw,s2,h_upd2,hcom,hY,hV,ne0])
 refine AC.call ((c_vput (hN _ (by omega)) (by omega) _).beside hk _) ?_
 rintro r H' c9 ⟨H9,⟨rfl,i2,q1,q2,rfl⟩,hk9,rfl⟩ hc9
 simp only [go_sem,seval]
 repeat' ((first|with_reducible refine wr ?_|((with_reducible refine wb2 ?_ ?_)<;>(intro hb;try simp only [hb]))|fail)<;>try simp only [go_sem,seval])
 exact step_end ((hN _ (by omega)).newS q1 q2 rfl) hk9 rfl rfl
theorem c_vstep_8 (h:MN m v so eo x cc) (A:Int) (s:StepOk c e x ⟨8,A⟩):AC Tryz.prog 24 [.ptr m 0] (VM c e x m v so eo junk) cc (Stepped c e (stepM c e x) m v):=by
 obtain ⟨y,hst,y1,y2,y3,hN,hcom,hY,hV,hk,l1,l2,hw,hM,hmc,hvc,hmv,d4⟩:=step_pre (junk:=junk) h s
 obtain ⟨s1,s2,s3,s4,s5,s6,s7,s8,s9,s10,s11,s12⟩:=s
 refine AC.body mixedU isU24 (Nat.le_of_ble_eq_true rfl) fun hfr=>?_
 show IW Tryz.prog 226 u24_1 ⟨argT _,_,_⟩ (rt [] _)
 have hn:=hN (cc+13) (by omega)
 rw [hst]
 clear s8 s9 hst
 have ne0:¬m=v∧¬m=cc∧¬m=cc+11∧¬v=m∧¬v=cc∧¬v=cc+11∧¬cc=m∧¬cc=v∧¬cc=cc+11∧¬cc+11=m∧¬cc+11=v∧¬cc+11=cc:=by and_intros<;>omega
 repeat' ((first|with_reducible refine wr ?_|((with_reducible refine wb2 ?_ ?_)<;>(intro hb;try simp only [hb]))|fail)<;>try simp only [go_sem,seval,hM,hw,s2,h_upd2,hcom,hY,hV,ne0])
 refine AC.call ((c_vput (hN _ (by omega)) (by omega) _).beside hk _) ?_
 rintro r H' c9 ⟨H9,⟨rfl,i2,q1,q2,rfl⟩,hk9,rfl⟩ hc9
 simp only [go_sem,seval]
 repeat' ((first|with_reducible refine wr ?_|((with_reducible refine wb2 ?_ ?_)<;>(intro hb;try simp only [hb]))|fail)<;>try simp only [go_sem,seval])
 exact step_end ((hN _ (by omega)).newS q1 q2 rfl) hk9 rfl rfl
theorem c_vstep_2 (h:MN m v so eo x cc) (A:Int) (s:StepOk c e x ⟨2,A⟩):AC Tryz.prog 24 [.ptr m 0] (VM c e x m v so eo junk) cc (Stepped c e (stepM c e x) m v):=by
 obtain ⟨y,hst,y1,y2,y3,hN,hcom,hY,hV,hk,l1,l2,hw,hM,hmc,hvc,hmv,d4⟩:=step_pre (junk:=junk) h s
 obtain ⟨s1,s2,s3,s4,s5,s6,s7,s8,s9,s10,s11,s12⟩:=s
 refine AC.body mixedU isU24 (Nat.le_of_ble_eq_true rfl) fun hfr=>?_
 show IW Tryz.prog 226 u24_1 ⟨argT _,_,_⟩ (rt [] _)
 have hn:=hN (cc+13) (by omega)
 rw [hst]
 clear s8 s9 hst
 have ne0:¬m=v∧¬m=cc∧¬m=cc+11∧¬v=m∧¬v=cc∧¬v=cc+11∧¬cc=m∧¬cc=v∧¬cc=cc+11∧¬cc+11=m∧¬cc+11=v∧¬cc+11=cc:=by and_intros<;>omega
 obtain ⟨a,rfl,ha⟩:∃ a:Nat,A=(a:Int)∧a<y.vars.length:=by
  have h3:inM A 0 ((c.vars.length:Int)-1)=true:=s3
  simp only [inM,Bool.and_eq_true,decide_eq_true_eq] at h3
  exact ⟨A.toNat,by omega,by rw [y3,s7];omega⟩
 have hg:y.vars[a]? = some (y.vars.getD a 0):=by rw [List.getD,List.getElem?_eq_getElem ha];rfl
 repeat' ((first|with_reducible refine wr ?_|((with_reducible refine wb2 ?_ ?_)<;>(intro hb;try simp only [hb]))|fail)<;>try simp only [go_sem,seval,hM,hw,s2,h_upd2,hcom,hY,hV,ne0,hg,ha])
 refine AC.call ((c_vput (hN _ (by omega)) (by omega) _).beside hk _) ?_
 rintro r H' c9 ⟨H9,⟨rfl,i2,q1,q2,rfl⟩,hk9,rfl⟩ hc9
 simp only [go_sem,seval]
 repeat' ((first|with_reducible refine wr ?_|((with_reducible refine wb2 ?_ ?_)<;>(intro hb;try simp only [hb]))|fail)<;>try simp only [go_sem,seval])
 exact step_end ((hN _ (by omega)).newS q1 q2 rfl) hk9 rfl rfl
theorem c_vstep_6 (h:MN m v so eo x cc) (A:Int) (s:StepOk c e x ⟨6,A⟩):AC Tryz.prog 24 [.ptr m 0] (VM c e x m v so eo junk) cc (Stepped c e (stepM c e x) m v):=by
 obtain ⟨y,hst,y1,y2,y3,hN,hcom,hY,hV,hk,l1,l2,hw,hM,hmc,hvc,hmv,d4⟩:=step_pre (junk:=junk) h s
 obtain ⟨s1,s2,s3,s4,s5,s6,s7,s8,s9,s10,s11,s12⟩:=s
 refine AC.body mixedU isU24 (Nat.le_of_ble_eq_true rfl) fun hfr=>?_
 show IW Tryz.prog 226 u24_1 ⟨argT _,_,_⟩ (rt [] _)
 have hn:=hN (cc+13) (by omega)
 rw [hst]
 clear s8 s9 hst
 have ne0:¬m=v∧¬m=cc∧¬m=cc+11∧¬v=m∧¬v=cc∧¬v=cc+11∧¬cc=m∧¬cc=v∧¬cc=cc+11∧¬cc+11=m∧¬cc+11=v∧¬cc+11=cc:=by and_intros<;>omega
 obtain ⟨a,rfl,ha⟩:∃ a:Nat,A=(a:Int)∧a<e.left.length:=by
  have h3:inM A 0 (c.timers-1)=true:=s3
  simp only [inM,Bool.and_eq_true,decide_eq_true_eq] at h3
  exact ⟨A.toNat,by omega,by omega⟩
 have hg:e.left[a]? = some (e.left.getD a 0):=by rw [List.getD,List.getElem?_eq_getElem ha];rfl
 repeat' ((first|with_reducible refine wr ?_|((with_reducible refine wb2 ?_ ?_)<;>(intro hb;try simp only [hb]))|fail)<;>try simp only [go_sem,seval,hM,hw,s2,h_upd2,hcom,hY,hV,ne0,hg,ha])
 refine AC.call ((c_vput (hN _ (by omega)) (by omega) _).beside hk _) ?_
 rintro r H' c9 ⟨H9,⟨rfl,i2,q1,q2,rfl⟩,hk9,rfl⟩ hc9
 simp only [go_sem,seval]
 repeat' ((first|with_reducible refine wr ?_|((with_reducible refine wb2 ?_ ?_)<;>(intro hb;try simp only [hb]))|fail)<;>try simp only [go_sem,seval])
 exact step_end ((hN _ (by omega)).newS q1 q2 rfl) hk9 rfl rfl
theorem c_vstep_9 (h:MN m v so eo x cc) (A:Int) (s:StepOk c e x ⟨9,A⟩):AC Tryz.prog 24 [.ptr m 0] (VM c e x m v so eo junk) cc (Stepped c e (stepM c e x) m v):=by
 obtain ⟨y,hst,y1,y2,y3,hN,hcom,hY,hV,hk,l1,l2,hw,hM,hmc,hvc,hmv,d4⟩:=step_pre (junk:=junk) h s
 obtain ⟨s1,s2,s3,s4,s5,s6,s7,s8,s9,s10,s11,s12⟩:=s
 refine AC.body mixedU isU24 (Nat.le_of_ble_eq_true rfl) fun hfr=>?_
 show IW Tryz.prog 226 u24_1 ⟨argT _,_,_⟩ (rt [] _)
 have hn:=hN (cc+13) (by omega)
 rw [hst]
 clear s8 s9 hst
 have ne0:¬m=v∧¬m=cc∧¬m=cc+11∧¬v=m∧¬v=cc∧¬v=cc+11∧¬cc=m∧¬cc=v∧¬cc=cc+11∧¬cc+11=m∧¬cc+11=v∧¬cc+11=cc:=by and_intros<;>omega
 have s5':(1:Int)≤(x.stk.length:Int):=s5
 obtain ⟨n,S,hS⟩:∃ n S,y.stk=n :: S:=by
  rw [y1]
  cases hx:x.stk with
  | nil=>rw [hx] at s5';simp at s5'
  | cons n S=>exact ⟨n,S,rfl⟩
 have ht:y.top=n:=by rw [Mch.top,hS];rfl
 have lp:y.pop.stk.length≤1000:=by rw [Mch.pop,hS];rw [hS,List.length_cons] at l1;simp only [List.tail_cons];omega
 have hnp:∀ c',cc≤c'→MN m v so eo y.pop c':=fun c' hc=>h.keep hc (fun e=>by rw [hn.sn e] at hS;cases hS) hn.en
 have fA:∀ J d,VM c e y.pop m v so eo J (cc+13+d)=none:=fun J d=>VR_n (hnp cc (by omega)) (by omega)
 have fB:∀ J,VM c e y.pop m v so eo J (cc+13)=none:=fun J=>VR_n (hnp cc (by omega)) (by omega)
 have hY2:∀ J,VM c e y.pop m v so eo J m=some (vmB c e y.pop v so eo):=fun J=>VM_m (hnp cc (by omega))
 have hV2:∀ J,VM c e y.pop m v so eo J v=some ⟨1,true,y.pop.vars.map I64⟩:=fun J=>VR_v (hnp cc (by omega))
 have pv:y.pop.vars=y.vars:=rfl
 have pe:y.pop.effs=y.effs:=rfl
 have pp:y.pop.pc=y.pc:=rfl
 have pd:y.pop.done=y.done:=rfl
 have nA:∀ d,¬ cc+13+d=cc+11:=fun d=>by omega
 have nB:¬ cc+13=cc+11:=by omega
 repeat' ((first|with_reducible refine wr ?_|((with_reducible refine wb2 ?_ ?_)<;>(intro hb;try simp only [hb]))|fail)<;>try simp only [go_sem,seval,hM,hw,s2,h_upd2,hcom,hY,hV,ne0])
 refine AC.call ((c_vtake (hN _ (by omega)) (by omega) n S hS).beside hk _) ?_
 rintro r H' c2 ⟨H2,⟨rfl,rfl⟩,hk2,rfl⟩ hc2
 simp only [go_sem,seval]
 repeat' ((first|with_reducible refine wr ?_|((with_reducible refine wb2 ?_ ?_)<;>(intro hb;try simp only [hb]))|((with_reducible refine AC.call ((c_Unary _ _).at _ _) ?_);rintro _ _ _ ⟨rfl,rfl,rfl⟩ -)|fail)<;>try simp only [go_sem,seval])
 refine AC.call ((c_vput (hnp _ (by omega)) (by omega) _).beside hk2 _) ?_
 rintro r H' c9 ⟨H9,⟨rfl,i2,q1,q2,rfl⟩,hk9,rfl⟩ hc9
 simp only [go_sem,seval]
 repeat' ((first|with_reducible refine wr ?_|((with_reducible refine wb2 ?_ ?_)<;>(intro hb;try simp only [hb]))|fail)<;>try simp only [go_sem,seval])
 exact step_end ((hnp _ (by omega)).newS q1 q2 rfl) hk9 (by rw [← ht];rfl) rfl
theorem c_vstep_10 (h:MN m v so eo x cc) (A:Int) (s:StepOk c e x ⟨10,A⟩):AC Tryz.prog 24 [.ptr m 0] (VM c e x m v so eo junk) cc (Stepped c e (stepM c e x) m v):=by
 obtain ⟨y,hst,y1,y2,y3,hN,hcom,hY,hV,hk,l1,l2,hw,hM,hmc,hvc,hmv,d4⟩:=step_pre (junk:=junk) h s
 obtain ⟨s1,s2,s3,s4,s5,s6,s7,s8,s9,s10,s11,s12⟩:=s
 refine AC.body mixedU isU24 (Nat.le_of_ble_eq_true rfl) fun hfr=>?_
 show IW Tryz.prog 226 u24_1 ⟨argT _,_,_⟩ (rt [] _)
 have hn:=hN (cc+13) (by omega)
 rw [hst]
 clear s8 s9 hst
 have ne0:¬m=v∧¬m=cc∧¬m=cc+11∧¬v=m∧¬v=cc∧¬v=cc+11∧¬cc=m∧¬cc=v∧¬cc=cc+11∧¬cc+11=m∧¬cc+11=v∧¬cc+11=cc:=by and_intros<;>omega
 have s5':(1:Int)≤(x.stk.length:Int):=s5
 obtain ⟨n,S,hS⟩:∃ n S,y.stk=n :: S:=by
  rw [y1]
  cases hx:x.stk with
  | nil=>rw [hx] at s5';simp at s5'
  | cons n S=>exact ⟨n,S,rfl⟩
 have ht:y.top=n:=by rw [Mch.top,hS];rfl
 have lp:y.pop.stk.length≤1000:=by rw [Mch.pop,hS];rw [hS,List.length_cons] at l1;simp only [List.tail_cons];omega
 have hnp:∀ c',cc≤c'→MN m v so eo y.pop c':=fun c' hc=>h.keep hc (fun e=>by rw [hn.sn e] at hS;cases hS) hn.en
 have fA:∀ J d,VM c e y.pop m v so eo J (cc+13+d)=none:=fun J d=>VR_n (hnp cc (by omega)) (by omega)
 have fB:∀ J,VM c e y.pop m v so eo J (cc+13)=none:=fun J=>VR_n (hnp cc (by omega)) (by omega)
 have hY2:∀ J,VM c e y.pop m v so eo J m=some (vmB c e y.pop v so eo):=fun J=>VM_m (hnp cc (by omega))
 have hV2:∀ J,VM c e y.pop m v so eo J v=some ⟨1,true,y.pop.vars.map I64⟩:=fun J=>VR_v (hnp cc (by omega))
 have pv:y.pop.vars=y.vars:=rfl
 have pe:y.pop.effs=y.effs:=rfl
 have pp:y.pop.pc=y.pc:=rfl
 have pd:y.pop.done=y.done:=rfl
 have nA:∀ d,¬ cc+13+d=cc+11:=fun d=>by omega
 have nB:¬ cc+13=cc+11:=by omega
 repeat' ((first|with_reducible refine wr ?_|((with_reducible refine wb2 ?_ ?_)<;>(intro hb;try simp only [hb]))|fail)<;>try simp only [go_sem,seval,hM,hw,s2,h_upd2,hcom,hY,hV,ne0])
 refine AC.call ((c_vtake (hN _ (by omega)) (by omega) n S hS).beside hk _) ?_
 rintro r H' c2 ⟨H2,⟨rfl,rfl⟩,hk2,rfl⟩ hc2
 simp only [go_sem,seval]
 repeat' ((first|with_reducible refine wr ?_|((with_reducible refine wb2 ?_ ?_)<;>(intro hb;try simp only [hb]))|((with_reducible refine AC.call ((c_Unary _ _).at _ _) ?_);rintro _ _ _ ⟨rfl,rfl,rfl⟩ -)|fail)<;>try simp only [go_sem,seval])
 refine AC.call ((c_vput (hnp _ (by omega)) (by omega) _).beside hk2 _) ?_
 rintro r H' c9 ⟨H9,⟨rfl,i2,q1,q2,rfl⟩,hk9,rfl⟩ hc9
 simp only [go_sem,seval]
 repeat' ((first|with_reducible refine wr ?_|((with_reducible refine wb2 ?_ ?_)<;>(intro hb;try simp only [hb]))|fail)<;>try simp only [go_sem,seval])
 exact step_end ((hnp _ (by omega)).newS q1 q2 rfl) hk9 (by rw [← ht];rfl) rfl
theorem c_vstep_11 (h:MN m v so eo x cc) (A:Int) (s:StepOk c e x ⟨11,A⟩):AC Tryz.prog 24 [.ptr m 0] (VM c e x m v so eo junk) cc (Stepped c e (stepM c e x) m v):=by
 obtain ⟨y,hst,y1,y2,y3,hN,hcom,hY,hV,hk,l1,l2,hw,hM,hmc,hvc,hmv,d4⟩:=step_pre (junk:=junk) h s
 obtain ⟨s1,s2,s3,s4,s5,s6,s7,s8,s9,s10,s11,s12⟩:=s
 refine AC.body mixedU isU24 (Nat.le_of_ble_eq_true rfl) fun hfr=>?_
 show IW Tryz.prog 226 u24_1 ⟨argT _,_,_⟩ (rt [] _)
 have hn:=hN (cc+13) (by omega)
 rw [hst]
 clear s8 s9 hst
 have ne0:¬m=v∧¬m=cc∧¬m=cc+11∧¬v=m∧¬v=cc∧¬v=cc+11∧¬cc=m∧¬cc=v∧¬cc=cc+11∧¬cc+11=m∧¬cc+11=v∧¬cc+11=cc:=by and_intros<;>omega
 have s5':(2:Int)≤(x.stk.length:Int):=s5
 obtain ⟨n,n2,S,hS⟩:∃ n n2 S,y.stk=n :: n2 :: S:=by
  rw [y1]
  match hx:x.stk with
  | []=>rw [hx] at s5';simp at s5'
  | [_]=>rw [hx] at s5';simp at s5'
  | n :: n2 :: S=>exact ⟨n,n2,S,rfl⟩
 have ht:y.top=n:=by rw [Mch.top,hS];rfl
 have hS2:y.pop.stk=n2 :: S:=by rw [Mch.pop,hS];rfl
 have ht2:y.pop.top=n2:=by rw [Mch.top,hS2];rfl
 rw [hS,List.length_cons,List.length_cons] at l1
 have l1':y.stk.length≤100000:=by rw [hS,List.length_cons,List.length_cons];omega
 have lp:y.pop.stk.length≤1000:=by rw [hS2,List.length_cons];omega
 have lpp:y.pop.pop.stk.length≤1000:=by rw [Mch.pop,hS2];simp only [List.tail_cons];omega
 have hnp:∀ c',cc≤c'→MN m v so eo y.pop c':=fun c' hc=>h.keep hc (fun e=>by rw [hn.sn e] at hS;cases hS) hn.en
 have fA:∀ J d,VM c e y.pop m v so eo J (cc+13+d)=none:=fun J d=>VR_n (hnp cc (by omega)) (by omega)
 have fB:∀ J,VM c e y.pop m v so eo J (cc+13)=none:=fun J=>VR_n (hnp cc (by omega)) (by omega)
 have hY2:∀ J,VM c e y.pop m v so eo J m=some (vmB c e y.pop v so eo):=fun J=>VM_m (hnp cc (by omega))
 have hV2:∀ J,VM c e y.pop m v so eo J v=some ⟨1,true,y.pop.vars.map I64⟩:=fun J=>VR_v (hnp cc (by omega))
 have pv:y.pop.vars=y.vars:=rfl
 have pe:y.pop.effs=y.effs:=rfl
 have pp:y.pop.pc=y.pc:=rfl
 have pd:y.pop.done=y.done:=rfl
 have nA:∀ d,¬ cc+13+d=cc+11:=fun d=>by omega
 have nB:¬ cc+13=cc+11:=by omega
 have hnpp:∀ c',cc≤c'→MN m v so eo y.pop.pop c':=fun c' hc=>h.keep hc (fun e=>by rw [hn.sn e] at hS;cases hS) hn.en
 repeat' ((first|with_reducible refine wr ?_|((with_reducible refine wb2 ?_ ?_)<;>(intro hb;try simp only [hb]))|fail)<;>try simp only [go_sem,seval,hM,hw,s2,h_upd2,hcom,hY,hV,ne0])
 refine AC.call ((c_vtake (hN _ (by omega)) (by exact l1') n (n2 :: S) hS).beside hk _) ?_
 rintro r H' c2 ⟨H2,⟨rfl,rfl⟩,hk2,rfl⟩ hc2
 simp only [go_sem,seval]
 repeat' ((first|with_reducible refine wr ?_|((with_reducible refine wb2 ?_ ?_)<;>(intro hb;try simp only [hb]))|fail)<;>try simp only [go_sem,seval])
 have fC:∀ J d,VM c e y.pop.pop m v so eo J (c2+d)=none:=fun J d=>VR_n (hnpp cc (by omega)) (by omega)
 have fD:∀ J,VM c e y.pop.pop m v so eo J c2=none:=fun J=>VR_n (hnpp cc (by omega)) (by omega)
 have nC:∀ d,¬ c2+d=cc+11:=fun d=>by omega
 have nD:¬ c2=cc+11:=by omega
 refine AC.call ((c_vtake (hnp _ (by omega)) (by omega) n2 S hS2).beside hk2 _) ?_
 rintro r H' c3 ⟨H3,⟨rfl,rfl⟩,hk3,rfl⟩ hc3
 simp only [go_sem,seval,fC,fD,nC,nD,ne0]
 repeat' ((first|with_reducible refine wr ?_|((with_reducible refine wb2 ?_ ?_)<;>(intro hb;try simp only [hb]))|((with_reducible refine AC.call ((c_Binary _ _ _).at _ _) ?_);rintro _ _ _ ⟨rfl,rfl,rfl⟩ -)|fail)<;>try simp only [go_sem,seval,fC,fD,nC,nD,ne0])
 refine AC.call ((c_vput (hnpp _ (by omega)) (by omega) _).beside hk3 _) ?_
 rintro r H' c9 ⟨H9,⟨rfl,i2,q1,q2,rfl⟩,hk9,rfl⟩ hc9
 simp only [go_sem,seval]
 repeat' ((first|with_reducible refine wr ?_|((with_reducible refine wb2 ?_ ?_)<;>(intro hb;try simp only [hb]))|fail)<;>try simp only [go_sem,seval])
 exact step_end ((hnpp _ (by omega)).newS q1 q2 rfl) hk9 (by rw [← ht, ← ht2];rfl) rfl
theorem c_vstep_15 (h:MN m v so eo x cc) (A:Int) (s:StepOk c e x ⟨15,A⟩):AC Tryz.prog 24 [.ptr m 0] (VM c e x m v so eo junk) cc (Stepped c e (stepM c e x) m v):=by
 obtain ⟨y,hst,y1,y2,y3,hN,hcom,hY,hV,hk,l1,l2,hw,hM,hmc,hvc,hmv,d4⟩:=step_pre (junk:=junk) h s
 obtain ⟨s1,s2,s3,s4,s5,s6,s7,s8,s9,s10,s11,s12⟩:=s
 refine AC.body mixedU isU24 (Nat.le_of_ble_eq_true rfl) fun hfr=>?_
 show IW Tryz.prog 226 u24_1 ⟨argT _,_,_⟩ (rt [] _)
 have hn:=hN (cc+13) (by omega)
 rw [hst]
 clear s8 s9 hst
 have ne0:¬m=v∧¬m=cc∧¬m=cc+11∧¬v=m∧¬v=cc∧¬v=cc+11∧¬cc=m∧¬cc=v∧¬cc=cc+11∧¬cc+11=m∧¬cc+11=v∧¬cc+11=cc:=by and_intros<;>omega
 have s5':(1:Int)≤(x.stk.length:Int):=s5
 obtain ⟨n,S,hS⟩:∃ n S,y.stk=n :: S:=by
  rw [y1]
  cases hx:x.stk with
  | nil=>rw [hx] at s5';simp at s5'
  | cons n S=>exact ⟨n,S,rfl⟩
 have ht:y.top=n:=by rw [Mch.top,hS];rfl
 have lp:y.pop.stk.length≤1000:=by rw [Mch.pop,hS];rw [hS,List.length_cons] at l1;simp only [List.tail_cons];omega
 have hnp:∀ c',cc≤c'→MN m v so eo y.pop c':=fun c' hc=>h.keep hc (fun e=>by rw [hn.sn e] at hS;cases hS) hn.en
 have fA:∀ J d,VM c e y.pop m v so eo J (cc+13+d)=none:=fun J d=>VR_n (hnp cc (by omega)) (by omega)
 have fB:∀ J,VM c e y.pop m v so eo J (cc+13)=none:=fun J=>VR_n (hnp cc (by omega)) (by omega)
 have hY2:∀ J,VM c e y.pop m v so eo J m=some (vmB c e y.pop v so eo):=fun J=>VM_m (hnp cc (by omega))
 have hV2:∀ J,VM c e y.pop m v so eo J v=some ⟨1,true,y.pop.vars.map I64⟩:=fun J=>VR_v (hnp cc (by omega))
 have pv:y.pop.vars=y.vars:=rfl
 have pe:y.pop.effs=y.effs:=rfl
 have pp:y.pop.pc=y.pc:=rfl
 have pd:y.pop.done=y.done:=rfl
 have nA:∀ d,¬ cc+13+d=cc+11:=fun d=>by omega
 have nB:¬ cc+13=cc+11:=by omega
 repeat' ((first|with_reducible refine wr ?_|((with_reducible refine wb2 ?_ ?_)<;>(intro hb;try simp only [hb]))|fail)<;>try simp only [go_sem,seval,hM,hw,s2,h_upd2,hcom,hY,hV,ne0])
 refine AC.call ((c_vtake (hN _ (by omega)) (by omega) n S hS).beside hk _) ?_
 rintro r H' c2 ⟨H2,⟨rfl,rfl⟩,hk2,rfl⟩ hc2
 simp only [go_sem,seval,fA,fB,nA,nB,ne0]
 repeat' ((first|with_reducible refine wr ?_|((with_reducible refine wb2 ?_ ?_)<;>(intro hb;try simp only [hb]))|fail)<;>try simp only [go_sem,seval,fA,fB,nA,nB,ne0])
 refine AC.call ((c_veff (hnp _ (by omega)) (by show y.effs.length≤_;omega) 15 A n 0).beside hk2 _) ?_
 rintro r H' c9 ⟨H9,⟨rfl,i2,q1,q2,rfl⟩,hk9,rfl⟩ hc9
 simp only [go_sem,seval]
 repeat' ((first|with_reducible refine wr ?_|((with_reducible refine wb2 ?_ ?_)<;>(intro hb;try simp only [hb]))|fail)<;>try simp only [go_sem,seval])
 exact step_end ((hnp _ (by omega)).newE q1 q2 rfl) hk9 (by rw [← ht];rfl) rfl
theorem c_vstep_19 (h:MN m v so eo x cc) (A:Int) (s:StepOk c e x ⟨19,A⟩):AC Tryz.prog 24 [.ptr m 0] (VM c e x m v so eo junk) cc (Stepped c e (stepM c e x) m v):=by
 obtain ⟨y,hst,y1,y2,y3,hN,hcom,hY,hV,hk,l1,l2,hw,hM,hmc,hvc,hmv,d4⟩:=step_pre (junk:=junk) h s
 obtain ⟨s1,s2,s3,s4,s5,s6,s7,s8,s9,s10,s11,s12⟩:=s
 refine AC.body mixedU isU24 (Nat.le_of_ble_eq_true rfl) fun hfr=>?_
 show IW Tryz.prog 226 u24_1 ⟨argT _,_,_⟩ (rt [] _)
 have hn:=hN (cc+13) (by omega)
 rw [hst]
 clear s8 s9 hst
 have ne0:¬m=v∧¬m=cc∧¬m=cc+11∧¬v=m∧¬v=cc∧¬v=cc+11∧¬cc=m∧¬cc=v∧¬cc=cc+11∧¬cc+11=m∧¬cc+11=v∧¬cc+11=cc:=by and_intros<;>omega
 have s5':(1:Int)≤(x.stk.length:Int):=s5
 obtain ⟨n,S,hS⟩:∃ n S,y.stk=n :: S:=by
  rw [y1]
  cases hx:x.stk with
  | nil=>rw [hx] at s5';simp at s5'
  | cons n S=>exact ⟨n,S,rfl⟩
 have ht:y.top=n:=by rw [Mch.top,hS];rfl
 have lp:y.pop.stk.length≤1000:=by rw [Mch.pop,hS];rw [hS,List.length_cons] at l1;simp only [List.tail_cons];omega
 have hnp:∀ c',cc≤c'→MN m v so eo y.pop c':=fun c' hc=>h.keep hc (fun e=>by rw [hn.sn e] at hS;cases hS) hn.en
 have fA:∀ J d,VM c e y.pop m v so eo J (cc+13+d)=none:=fun J d=>VR_n (hnp cc (by omega)) (by omega)
 have fB:∀ J,VM c e y.pop m v so eo J (cc+13)=none:=fun J=>VR_n (hnp cc (by omega)) (by omega)
 have hY2:∀ J,VM c e y.pop m v so eo J m=some (vmB c e y.pop v so eo):=fun J=>VM_m (hnp cc (by omega))
 have hV2:∀ J,VM c e y.pop m v so eo J v=some ⟨1,true,y.pop.vars.map I64⟩:=fun J=>VR_v (hnp cc (by omega))
 have pv:y.pop.vars=y.vars:=rfl
 have pe:y.pop.effs=y.effs:=rfl
 have pp:y.pop.pc=y.pc:=rfl
 have pd:y.pop.done=y.done:=rfl
 have nA:∀ d,¬ cc+13+d=cc+11:=fun d=>by omega
 have nB:¬ cc+13=cc+11:=by omega
 repeat' ((first|with_reducible refine wr ?_|((with_reducible refine wb2 ?_ ?_)<;>(intro hb;try simp only [hb]))|fail)<;>try simp only [go_sem,seval,hM,hw,s2,h_upd2,hcom,hY,hV,ne0])
 refine AC.call ((c_vtake (hN _ (by omega)) (by omega) n S hS).beside hk _) ?_
 rintro r H' c2 ⟨H2,⟨rfl,rfl⟩,hk2,rfl⟩ hc2
 simp only [go_sem,seval,fA,fB,nA,nB,ne0]
 repeat' ((first|with_reducible refine wr ?_|((with_reducible refine wb2 ?_ ?_)<;>(intro hb;try simp only [hb]))|fail)<;>try simp only [go_sem,seval,fA,fB,nA,nB,ne0])
 refine AC.call ((c_veff (hnp _ (by omega)) (by show y.effs.length≤_;omega) 19 A n 0).beside hk2 _) ?_
 rintro r H' c9 ⟨H9,⟨rfl,i2,q1,q2,rfl⟩,hk9,rfl⟩ hc9
 simp only [go_sem,seval]
 repeat' ((first|with_reducible refine wr ?_|((with_reducible refine wb2 ?_ ?_)<;>(intro hb;try simp only [hb]))|fail)<;>try simp only [go_sem,seval])
 exact step_end ((hnp _ (by omega)).newE q1 q2 rfl) hk9 (by rw [← ht];rfl) rfl
theorem c_vstep_21 (h:MN m v so eo x cc) (A:Int) (s:StepOk c e x ⟨21,A⟩):AC Tryz.prog 24 [.ptr m 0] (VM c e x m v so eo junk) cc (Stepped c e (stepM c e x) m v):=by
 obtain ⟨y,hst,y1,y2,y3,hN,hcom,hY,hV,hk,l1,l2,hw,hM,hmc,hvc,hmv,d4⟩:=step_pre (junk:=junk) h s
 obtain ⟨s1,s2,s3,s4,s5,s6,s7,s8,s9,s10,s11,s12⟩:=s
 refine AC.body mixedU isU24 (Nat.le_of_ble_eq_true rfl) fun hfr=>?_
 show IW Tryz.prog 226 u24_1 ⟨argT _,_,_⟩ (rt [] _)
 have hn:=hN (cc+13) (by omega)
 rw [hst]
 clear s8 s9 hst
 have ne0:¬m=v∧¬m=cc∧¬m=cc+11∧¬v=m∧¬v=cc∧¬v=cc+11∧¬cc=m∧¬cc=v∧¬cc=cc+11∧¬cc+11=m∧¬cc+11=v∧¬cc+11=cc:=by and_intros<;>omega
 have s5':(1:Int)≤(x.stk.length:Int):=s5
 obtain ⟨n,S,hS⟩:∃ n S,y.stk=n :: S:=by
  rw [y1]
  cases hx:x.stk with
  | nil=>rw [hx] at s5';simp at s5'
  | cons n S=>exact ⟨n,S,rfl⟩
 have ht:y.top=n:=by rw [Mch.top,hS];rfl
 have lp:y.pop.stk.length≤1000:=by rw [Mch.pop,hS];rw [hS,List.length_cons] at l1;simp only [List.tail_cons];omega
 have hnp:∀ c',cc≤c'→MN m v so eo y.pop c':=fun c' hc=>h.keep hc (fun e=>by rw [hn.sn e] at hS;cases hS) hn.en
 have fA:∀ J d,VM c e y.pop m v so eo J (cc+13+d)=none:=fun J d=>VR_n (hnp cc (by omega)) (by omega)
 have fB:∀ J,VM c e y.pop m v so eo J (cc+13)=none:=fun J=>VR_n (hnp cc (by omega)) (by omega)
 have hY2:∀ J,VM c e y.pop m v so eo J m=some (vmB c e y.pop v so eo):=fun J=>VM_m (hnp cc (by omega))
 have hV2:∀ J,VM c e y.pop m v so eo J v=some ⟨1,true,y.pop.vars.map I64⟩:=fun J=>VR_v (hnp cc (by omega))
 have pv:y.pop.vars=y.vars:=rfl
 have pe:y.pop.effs=y.effs:=rfl
 have pp:y.pop.pc=y.pc:=rfl
 have pd:y.pop.done=y.done:=rfl
 have nA:∀ d,¬ cc+13+d=cc+11:=fun d=>by omega
 have nB:¬ cc+13=cc+11:=by omega
 repeat' ((first|with_reducible refine wr ?_|((with_reducible refine wb2 ?_ ?_)<;>(intro hb;try simp only [hb]))|fail)<;>try simp only [go_sem,seval,hM,hw,s2,h_upd2,hcom,hY,hV,ne0])
 refine AC.call ((c_vtake (hN _ (by omega)) (by omega) n S hS).beside hk _) ?_
 rintro r H' c2 ⟨H2,⟨rfl,rfl⟩,hk2,rfl⟩ hc2
 simp only [go_sem,seval,fA,fB,nA,nB,ne0]
 repeat' ((first|with_reducible refine wr ?_|((with_reducible refine wb2 ?_ ?_)<;>(intro hb;try simp only [hb]))|fail)<;>try simp only [go_sem,seval,fA,fB,nA,nB,ne0])
 refine AC.call ((c_veff (hnp _ (by omega)) (by show y.effs.length≤_;omega) 21 A n 0).beside hk2 _) ?_
 rintro r H' c9 ⟨H9,⟨rfl,i2,q1,q2,rfl⟩,hk9,rfl⟩ hc9
 simp only [go_sem,seval]
 repeat' ((first|with_reducible refine wr ?_|((with_reducible refine wb2 ?_ ?_)<;>(intro hb;try simp only [hb]))|fail)<;>try simp only [go_sem,seval])
 exact step_end ((hnp _ (by omega)).newE q1 q2 rfl) hk9 (by rw [← ht];rfl) rfl
theorem c_vstep_20 (h:MN m v so eo x cc) (A:Int) (s:StepOk c e x ⟨20,A⟩):AC Tryz.prog 24 [.ptr m 0] (VM c e x m v so eo junk) cc (Stepped c e (stepM c e x) m v):=by
 obtain ⟨y,hst,y1,y2,y3,hN,hcom,hY,hV,hk,l1,l2,hw,hM,hmc,hvc,hmv,d4⟩:=step_pre (junk:=junk) h s
 obtain ⟨s1,s2,s3,s4,s5,s6,s7,s8,s9,s10,s11,s12⟩:=s
 refine AC.body mixedU isU24 (Nat.le_of_ble_eq_true rfl) fun hfr=>?_
 show IW Tryz.prog 226 u24_1 ⟨argT _,_,_⟩ (rt [] _)
 have hn:=hN (cc+13) (by omega)
 rw [hst]
 clear s8 s9 hst
 have ne0:¬m=v∧¬m=cc∧¬m=cc+11∧¬v=m∧¬v=cc∧¬v=cc+11∧¬cc=m∧¬cc=v∧¬cc=cc+11∧¬cc+11=m∧¬cc+11=v∧¬cc+11=cc:=by and_intros<;>omega
 have s5':(2:Int)≤(x.stk.length:Int):=s5
 obtain ⟨n,n2,S,hS⟩:∃ n n2 S,y.stk=n :: n2 :: S:=by
  rw [y1]
  match hx:x.stk with
  | []=>rw [hx] at s5';simp at s5'
  | [_]=>rw [hx] at s5';simp at s5'
  | n :: n2 :: S=>exact ⟨n,n2,S,rfl⟩
 have ht:y.top=n:=by rw [Mch.top,hS];rfl
 have hS2:y.pop.stk=n2 :: S:=by rw [Mch.pop,hS];rfl
 have ht2:y.pop.top=n2:=by rw [Mch.top,hS2];rfl
 rw [hS,List.length_cons,List.length_cons] at l1
 have l1':y.stk.length≤100000:=by rw [hS,List.length_cons,List.length_cons];omega
 have lp:y.pop.stk.length≤1000:=by rw [hS2,List.length_cons];omega
 have lpp:y.pop.pop.stk.length≤1000:=by rw [Mch.pop,hS2];simp only [List.tail_cons];omega
 have hnp:∀ c',cc≤c'→MN m v so eo y.pop c':=fun c' hc=>h.keep hc (fun e=>by rw [hn.sn e] at hS;cases hS) hn.en
 have fA:∀ J d,VM c e y.pop m v so eo J (cc+13+d)=none:=fun J d=>VR_n (hnp cc (by omega)) (by omega)
 have fB:∀ J,VM c e y.pop m v so eo J (cc+13)=none:=fun J=>VR_n (hnp cc (by omega)) (by omega)
 have hY2:∀ J,VM c e y.pop m v so eo J m=some (vmB c e y.pop v so eo):=fun J=>VM_m (hnp cc (by omega))
 have hV2:∀ J,VM c e y.pop m v so eo J v=some ⟨1,true,y.pop.vars.map I64⟩:=fun J=>VR_v (hnp cc (by omega))
 have pv:y.pop.vars=y.vars:=rfl
 have pe:y.pop.effs=y.effs:=rfl
 have pp:y.pop.pc=y.pc:=rfl
 have pd:y.pop.done=y.done:=rfl
 have nA:∀ d,¬ cc+13+d=cc+11:=fun d=>by omega
 have nB:¬ cc+13=cc+11:=by omega
 have hnpp:∀ c',cc≤c'→MN m v so eo y.pop.pop c':=fun c' hc=>h.keep hc (fun e=>by rw [hn.sn e] at hS;cases hS) hn.en
 repeat' ((first|with_reducible refine wr ?_|((with_reducible refine wb2 ?_ ?_)<;>(intro hb;try simp only [hb]))|fail)<;>try simp only [go_sem,seval,hM,hw,s2,h_upd2,hcom,hY,hV,ne0])
 refine AC.call ((c_vtake (hN _ (by omega)) (by exact l1') n (n2 :: S) hS).beside hk _) ?_
 rintro r H' c2 ⟨H2,⟨rfl,rfl⟩,hk2,rfl⟩ hc2
 simp only [go_sem,seval]
 repeat' ((first|with_reducible refine wr ?_|((with_reducible refine wb2 ?_ ?_)<;>(intro hb;try simp only [hb]))|fail)<;>try simp only [go_sem,seval])
 have fC:∀ J d,VM c e y.pop.pop m v so eo J (c2+d)=none:=fun J d=>VR_n (hnpp cc (by omega)) (by omega)
 have fD:∀ J,VM c e y.pop.pop m v so eo J c2=none:=fun J=>VR_n (hnpp cc (by omega)) (by omega)
 have nC:∀ d,¬ c2+d=cc+11:=fun d=>by omega
 have nD:¬ c2=cc+11:=by omega
 refine AC.call ((c_vtake (hnp _ (by omega)) (by omega) n2 S hS2).beside hk2 _) ?_
 rintro r H' c3 ⟨H3,⟨rfl,rfl⟩,hk3,rfl⟩ hc3
 simp only [go_sem,seval,fC,fD,nC,nD,ne0]
 repeat' ((first|with_reducible refine wr ?_|((with_reducible refine wb2 ?_ ?_)<;>(intro hb;try simp only [hb]))|fail)<;>try simp only [go_sem,seval,fC,fD,nC,nD,ne0])
 refine AC.call ((c_veff (hnpp _ (by omega)) (by show y.effs.length≤_;omega) 20 A n2 n).beside hk3 _) ?_
 rintro r H' c9 ⟨H9,⟨rfl,i2,q1,q2,rfl⟩,hk9,rfl⟩ hc9
 simp only [go_sem,seval]
 repeat' ((first|with_reducible refine wr ?_|((with_reducible refine wb2 ?_ ?_)<;>(intro hb;try simp only [hb]))|fail)<;>try simp only [go_sem,seval])
 exact step_end ((hnpp _ (by omega)).newE q1 q2 rfl) hk9 (by rw [← ht, ← ht2];rfl) rfl
theorem c_vstep_16 (h:MN m v so eo x cc) (A:Int) (s:StepOk c e x ⟨16,A⟩):AC Tryz.prog 24 [.ptr m 0] (VM c e x m v so eo junk) cc (Stepped c e (stepM c e x) m v):=by
 obtain ⟨y,hst,y1,y2,y3,hN,hcom,hY,hV,hk,l1,l2,hw,hM,hmc,hvc,hmv,d4⟩:=step_pre (junk:=junk) h s
 obtain ⟨s1,s2,s3,s4,s5,s6,s7,s8,s9,s10,s11,s12⟩:=s
 refine AC.body mixedU isU24 (Nat.le_of_ble_eq_true rfl) fun hfr=>?_
 show IW Tryz.prog 226 u24_1 ⟨argT _,_,_⟩ (rt [] _)
 have hn:=hN (cc+13) (by omega)
 rw [hst]
 clear s8 s9 hst
 have ne0:¬m=v∧¬m=cc∧¬m=cc+11∧¬v=m∧¬v=cc∧¬v=cc+11∧¬cc=m∧¬cc=v∧¬cc=cc+11∧¬cc+11=m∧¬cc+11=v∧¬cc+11=cc:=by and_intros<;>omega
 repeat' ((first|with_reducible refine wr ?_|((with_reducible refine wb2 ?_ ?_)<;>(intro hb;try simp only [hb]))|fail)<;>try simp only [go_sem,seval,hM,hw,s2,h_upd2,hcom,hY,hV,ne0])
 refine AC.call ((c_veff (hN _ (by omega)) (by omega) 16 A 0 0).beside hk _) ?_
 rintro r H' c9 ⟨H9,⟨rfl,i2,q1,q2,rfl⟩,hk9,rfl⟩ hc9
 simp only [go_sem,seval]
 repeat' ((first|with_reducible refine wr ?_|((with_reducible refine wb2 ?_ ?_)<;>(intro hb;try simp only [hb]))|fail)<;>try simp only [go_sem,seval])
 exact step_end ((hN _ (by omega)).newE q1 q2 rfl) hk9 rfl rfl
theorem c_vstep_17 (h:MN m v so eo x cc) (A:Int) (s:StepOk c e x ⟨17,A⟩):AC Tryz.prog 24 [.ptr m 0] (VM c e x m v so eo junk) cc (Stepped c e (stepM c e x) m v):=by
 obtain ⟨y,hst,y1,y2,y3,hN,hcom,hY,hV,hk,l1,l2,hw,hM,hmc,hvc,hmv,d4⟩:=step_pre (junk:=junk) h s
 obtain ⟨s1,s2,s3,s4,s5,s6,s7,s8,s9,s10,s11,s12⟩:=s
 refine AC.body mixedU isU24 (Nat.le_of_ble_eq_true rfl) fun hfr=>?_
 show IW Tryz.prog 226 u24_1 ⟨argT _,_,_⟩ (rt [] _)
 have hn:=hN (cc+13) (by omega)
 rw [hst]
 clear s8 s9 hst
 have ne0:¬m=v∧¬m=cc∧¬m=cc+11∧¬v=m∧¬v=cc∧¬v=cc+11∧¬cc=m∧¬cc=v∧¬cc=cc+11∧¬cc+11=m∧¬cc+11=v∧¬cc+11=cc:=by and_intros<;>omega
 repeat' ((first|with_reducible refine wr ?_|((with_reducible refine wb2 ?_ ?_)<;>(intro hb;try simp only [hb]))|fail)<;>try simp only [go_sem,seval,hM,hw,s2,h_upd2,hcom,hY,hV,ne0])
 refine AC.call ((c_veff (hN _ (by omega)) (by omega) 17 A 0 0).beside hk _) ?_
 rintro r H' c9 ⟨H9,⟨rfl,i2,q1,q2,rfl⟩,hk9,rfl⟩ hc9
 simp only [go_sem,seval]
 repeat' ((first|with_reducible refine wr ?_|((with_reducible refine wb2 ?_ ?_)<;>(intro hb;try simp only [hb]))|fail)<;>try simp only [go_sem,seval])
 exact step_end ((hN _ (by omega)).newE q1 q2 rfl) hk9 rfl rfl
theorem c_vstep_18 (h:MN m v so eo x cc) (A:Int) (s:StepOk c e x ⟨18,A⟩):AC Tryz.prog 24 [.ptr m 0] (VM c e x m v so eo junk) cc (Stepped c e (stepM c e x) m v):=by
 obtain ⟨y,hst,y1,y2,y3,hN,hcom,hY,hV,hk,l1,l2,hw,hM,hmc,hvc,hmv,d4⟩:=step_pre (junk:=junk) h s
 obtain ⟨s1,s2,s3,s4,s5,s6,s7,s8,s9,s10,s11,s12⟩:=s
 refine AC.body mixedU isU24 (Nat.le_of_ble_eq_true rfl) fun hfr=>?_
 show IW Tryz.prog 226 u24_1 ⟨argT _,_,_⟩ (rt [] _)
 have hn:=hN (cc+13) (by omega)
 rw [hst]
 clear s8 s9 hst
 have ne0:¬m=v∧¬m=cc∧¬m=cc+11∧¬v=m∧¬v=cc∧¬v=cc+11∧¬cc=m∧¬cc=v∧¬cc=cc+11∧¬cc+11=m∧¬cc+11=v∧¬cc+11=cc:=by and_intros<;>omega
 repeat' ((first|with_reducible refine wr ?_|((with_reducible refine wb2 ?_ ?_)<;>(intro hb;try simp only [hb]))|fail)<;>try simp only [go_sem,seval,hM,hw,s2,h_upd2,hcom,hY,hV,ne0])
 refine AC.call ((c_veff (hN _ (by omega)) (by omega) 18 A 0 0).beside hk _) ?_
 rintro r H' c9 ⟨H9,⟨rfl,i2,q1,q2,rfl⟩,hk9,rfl⟩ hc9
 simp only [go_sem,seval]
 repeat' ((first|with_reducible refine wr ?_|((with_reducible refine wb2 ?_ ?_)<;>(intro hb;try simp only [hb]))|fail)<;>try simp only [go_sem,seval])
 exact step_end ((hN _ (by omega)).newE q1 q2 rfl) hk9 rfl rfl
theorem c_vstep_22 (h:MN m v so eo x cc) (A:Int) (s:StepOk c e x ⟨22,A⟩):AC Tryz.prog 24 [.ptr m 0] (VM c e x m v so eo junk) cc (Stepped c e (stepM c e x) m v):=by
 obtain ⟨y,hst,y1,y2,y3,hN,hcom,hY,hV,hk,l1,l2,hw,hM,hmc,hvc,hmv,d4⟩:=step_pre (junk:=junk) h s
 obtain ⟨s1,s2,s3,s4,s5,s6,s7,s8,s9,s10,s11,s12⟩:=s
 refine AC.body mixedU isU24 (Nat.le_of_ble_eq_true rfl) fun hfr=>?_
 show IW Tryz.prog 226 u24_1 ⟨argT _,_,_⟩ (rt [] _)
 have hn:=hN (cc+13) (by omega)
 rw [hst]
 clear s8 s9 hst
 have ne0:¬m=v∧¬m=cc∧¬m=cc+11∧¬v=m∧¬v=cc∧¬v=cc+11∧¬cc=m∧¬cc=v∧¬cc=cc+11∧¬cc+11=m∧¬cc+11=v∧¬cc+11=cc:=by and_intros<;>omega
 repeat' ((first|with_reducible refine wr ?_|((with_reducible refine wb2 ?_ ?_)<;>(intro hb;try simp only [hb]))|fail)<;>try simp only [go_sem,seval,hM,hw,s2,h_upd2,hcom,hY,hV,ne0])
 refine AC.call ((c_veff (hN _ (by omega)) (by omega) 22 A 0 0).beside hk _) ?_
 rintro r H' c9 ⟨H9,⟨rfl,i2,q1,q2,rfl⟩,hk9,rfl⟩ hc9
 simp only [go_sem,seval]
 repeat' ((first|with_reducible refine wr ?_|((with_reducible refine wb2 ?_ ?_)<;>(intro hb;try simp only [hb]))|fail)<;>try simp only [go_sem,seval])
 exact step_end ((hN _ (by omega)).newE q1 q2 rfl) hk9 rfl rfl
theorem c_vstep_23 (h:MN m v so eo x cc) (A:Int) (s:StepOk c e x ⟨23,A⟩):AC Tryz.prog 24 [.ptr m 0] (VM c e x m v so eo junk) cc (Stepped c e (stepM c e x) m v):=by
 obtain ⟨y,hst,y1,y2,y3,hN,hcom,hY,hV,hk,l1,l2,hw,hM,hmc,hvc,hmv,d4⟩:=step_pre (junk:=junk) h s
 obtain ⟨s1,s2,s3,s4,s5,s6,s7,s8,s9,s10,s11,s12⟩:=s
 refine AC.body mixedU isU24 (Nat.le_of_ble_eq_true rfl) fun hfr=>?_
 show IW Tryz.prog 226 u24_1 ⟨argT _,_,_⟩ (rt [] _)
 have hn:=hN (cc+13) (by omega)
 rw [hst]
 clear s8 s9 hst
 have ne0:¬m=v∧¬m=cc∧¬m=cc+11∧¬v=m∧¬v=cc∧¬v=cc+11∧¬cc=m∧¬cc=v∧¬cc=cc+11∧¬cc+11=m∧¬cc+11=v∧¬cc+11=cc:=by and_intros<;>omega
 repeat' ((first|with_reducible refine wr ?_|((with_reducible refine wb2 ?_ ?_)<;>(intro hb;try simp only [hb]))|fail)<;>try simp only [go_sem,seval,hM,hw,s2,h_upd2,hcom,hY,hV,ne0])
 refine AC.call ((c_veff (hN _ (by omega)) (by omega) 23 A 0 0).beside hk _) ?_
 rintro r H' c9 ⟨H9,⟨rfl,i2,q1,q2,rfl⟩,hk9,rfl⟩ hc9
 simp only [go_sem,seval]
 repeat' ((first|with_reducible refine wr ?_|((with_reducible refine wb2 ?_ ?_)<;>(intro hb;try simp only [hb]))|fail)<;>try simp only [go_sem,seval])
 exact step_end ((hN _ (by omega)).newE q1 q2 rfl) hk9 rfl rfl
theorem c_vstep_24 (h:MN m v so eo x cc) (A:Int) (s:StepOk c e x ⟨24,A⟩):AC Tryz.prog 24 [.ptr m 0] (VM c e x m v so eo junk) cc (Stepped c e (stepM c e x) m v):=by
 obtain ⟨y,hst,y1,y2,y3,hN,hcom,hY,hV,hk,l1,l2,hw,hM,hmc,hvc,hmv,d4⟩:=step_pre (junk:=junk) h s
 obtain ⟨s1,s2,s3,s4,s5,s6,s7,s8,s9,s10,s11,s12⟩:=s
 refine AC.body mixedU isU24 (Nat.le_of_ble_eq_true rfl) fun hfr=>?_
 show IW Tryz.prog 226 u24_1 ⟨argT _,_,_⟩ (rt [] _)
 have hn:=hN (cc+13) (by omega)
 rw [hst]
 clear s8 s9 hst
 have ne0:¬m=v∧¬m=cc∧¬m=cc+11∧¬v=m∧¬v=cc∧¬v=cc+11∧¬cc=m∧¬cc=v∧¬cc=cc+11∧¬cc+11=m∧¬cc+11=v∧¬cc+11=cc:=by and_intros<;>omega
 repeat' ((first|with_reducible refine wr ?_|((with_reducible refine wb2 ?_ ?_)<;>(intro hb;try simp only [hb]))|fail)<;>try simp only [go_sem,seval,hM,hw,s2,h_upd2,hcom,hY,hV,ne0])
 refine AC.call ((c_veff (hN _ (by omega)) (by omega) 24 A 0 0).beside hk _) ?_
 rintro r H' c9 ⟨H9,⟨rfl,i2,q1,q2,rfl⟩,hk9,rfl⟩ hc9
 simp only [go_sem,seval]
 repeat' ((first|with_reducible refine wr ?_|((with_reducible refine wb2 ?_ ?_)<;>(intro hb;try simp only [hb]))|fail)<;>try simp only [go_sem,seval])
 exact step_end ((hN _ (by omega)).newE q1 q2 rfl) hk9 rfl rfl
theorem c_vstep_25 (h:MN m v so eo x cc) (A:Int) (s:StepOk c e x ⟨25,A⟩):AC Tryz.prog 24 [.ptr m 0] (VM c e x m v so eo junk) cc (Stepped c e (stepM c e x) m v):=by
 obtain ⟨y,hst,y1,y2,y3,hN,hcom,hY,hV,hk,l1,l2,hw,hM,hmc,hvc,hmv,d4⟩:=step_pre (junk:=junk) h s
 obtain ⟨s1,s2,s3,s4,s5,s6,s7,s8,s9,s10,s11,s12⟩:=s
 refine AC.body mixedU isU24 (Nat.le_of_ble_eq_true rfl) fun hfr=>?_
 show IW Tryz.prog 226 u24_1 ⟨argT _,_,_⟩ (rt [] _)
 have hn:=hN (cc+13) (by omega)
 rw [hst]
 clear s8 s9 hst
 have ne0:¬m=v∧¬m=cc∧¬m=cc+11∧¬v=m∧¬v=cc∧¬v=cc+11∧¬cc=m∧¬cc=v∧¬cc=cc+11∧¬cc+11=m∧¬cc+11=v∧¬cc+11=cc:=by and_intros<;>omega
 repeat' ((first|with_reducible refine wr ?_|((with_reducible refine wb2 ?_ ?_)<;>(intro hb;try simp only [hb]))|fail)<;>try simp only [go_sem,seval,hM,hw,s2,h_upd2,hcom,hY,hV,ne0])
 refine AC.call ((c_veff (hN _ (by omega)) (by omega) 25 A 0 0).beside hk _) ?_
 rintro r H' c9 ⟨H9,⟨rfl,i2,q1,q2,rfl⟩,hk9,rfl⟩ hc9
 simp only [go_sem,seval]
 repeat' ((first|with_reducible refine wr ?_|((with_reducible refine wb2 ?_ ?_)<;>(intro hb;try simp only [hb]))|fail)<;>try simp only [go_sem,seval])
 exact step_end ((hN _ (by omega)).newE q1 q2 rfl) hk9 rfl rfl
theorem c_vstep_26 (h:MN m v so eo x cc) (A:Int) (s:StepOk c e x ⟨26,A⟩):AC Tryz.prog 24 [.ptr m 0] (VM c e x m v so eo junk) cc (Stepped c e (stepM c e x) m v):=by
 obtain ⟨y,hst,y1,y2,y3,hN,hcom,hY,hV,hk,l1,l2,hw,hM,hmc,hvc,hmv,d4⟩:=step_pre (junk:=junk) h s
 obtain ⟨s1,s2,s3,s4,s5,s6,s7,s8,s9,s10,s11,s12⟩:=s
 refine AC.body mixedU isU24 (Nat.le_of_ble_eq_true rfl) fun hfr=>?_
 show IW Tryz.prog 226 u24_1 ⟨argT _,_,_⟩ (rt [] _)
 have hn:=hN (cc+13) (by omega)
 rw [hst]
 clear s8 s9 hst
 have ne0:¬m=v∧¬m=cc∧¬m=cc+11∧¬v=m∧¬v=cc∧¬v=cc+11∧¬cc=m∧¬cc=v∧¬cc=cc+11∧¬cc+11=m∧¬cc+11=v∧¬cc+11=cc:=by and_intros<;>omega
 repeat' ((first|with_reducible refine wr ?_|((with_reducible refine wb2 ?_ ?_)<;>(intro hb;try simp only [hb]))|fail)<;>try simp only [go_sem,seval,hM,hw,s2,h_upd2,hcom,hY,hV,ne0])
 refine AC.call ((c_veff (hN _ (by omega)) (by omega) 26 A 0 0).beside hk _) ?_
 rintro r H' c9 ⟨H9,⟨rfl,i2,q1,q2,rfl⟩,hk9,rfl⟩ hc9
 simp only [go_sem,seval]
 repeat' ((first|with_reducible refine wr ?_|((with_reducible refine wb2 ?_ ?_)<;>(intro hb;try simp only [hb]))|fail)<;>try simp only [go_sem,seval])
 exact step_end ((hN _ (by omega)).newE q1 q2 rfl) hk9 rfl rfl
theorem c_vstep_27 (h:MN m v so eo x cc) (A:Int) (s:StepOk c e x ⟨27,A⟩):AC Tryz.prog 24 [.ptr m 0] (VM c e x m v so eo junk) cc (Stepped c e (stepM c e x) m v):=by
 obtain ⟨y,hst,y1,y2,y3,hN,hcom,hY,hV,hk,l1,l2,hw,hM,hmc,hvc,hmv,d4⟩:=step_pre (junk:=junk) h s
 obtain ⟨s1,s2,s3,s4,s5,s6,s7,s8,s9,s10,s11,s12⟩:=s
 refine AC.body mixedU isU24 (Nat.le_of_ble_eq_true rfl) fun hfr=>?_
 show IW Tryz.prog 226 u24_1 ⟨argT _,_,_⟩ (rt [] _)
 have hn:=hN (cc+13) (by omega)
 rw [hst]
 clear s8 s9 hst
 have ne0:¬m=v∧¬m=cc∧¬m=cc+11∧¬v=m∧¬v=cc∧¬v=cc+11∧¬cc=m∧¬cc=v∧¬cc=cc+11∧¬cc+11=m∧¬cc+11=v∧¬cc+11=cc:=by and_intros<;>omega
 repeat' ((first|with_reducible refine wr ?_|((with_reducible refine wb2 ?_ ?_)<;>(intro hb;try simp only [hb]))|fail)<;>try simp only [go_sem,seval,hM,hw,s2,h_upd2,hcom,hY,hV,ne0])
 refine AC.call ((c_veff (hN _ (by omega)) (by omega) 27 A 0 0).beside hk _) ?_
 rintro r H' c9 ⟨H9,⟨rfl,i2,q1,q2,rfl⟩,hk9,rfl⟩ hc9
 simp only [go_sem,seval]
 repeat' ((first|with_reducible refine wr ?_|((with_reducible refine wb2 ?_ ?_)<;>(intro hb;try simp only [hb]))|fail)<;>try simp only [go_sem,seval])
 exact step_end ((hN _ (by omega)).newE q1 q2 rfl) hk9 rfl rfl
theorem c_vstep_28 (h:MN m v so eo x cc) (A:Int) (s:StepOk c e x ⟨28,A⟩):AC Tryz.prog 24 [.ptr m 0] (VM c e x m v so eo junk) cc (Stepped c e (stepM c e x) m v):=by
 obtain ⟨y,hst,y1,y2,y3,hN,hcom,hY,hV,hk,l1,l2,hw,hM,hmc,hvc,hmv,d4⟩:=step_pre (junk:=junk) h s
 obtain ⟨s1,s2,s3,s4,s5,s6,s7,s8,s9,s10,s11,s12⟩:=s
 refine AC.body mixedU isU24 (Nat.le_of_ble_eq_true rfl) fun hfr=>?_
 show IW Tryz.prog 226 u24_1 ⟨argT _,_,_⟩ (rt [] _)
 have hn:=hN (cc+13) (by omega)
 rw [hst]
 clear s8 s9 hst
 have ne0:¬m=v∧¬m=cc∧¬m=cc+11∧¬v=m∧¬v=cc∧¬v=cc+11∧¬cc=m∧¬cc=v∧¬cc=cc+11∧¬cc+11=m∧¬cc+11=v∧¬cc+11=cc:=by and_intros<;>omega
 repeat' ((first|with_reducible refine wr ?_|((with_reducible refine wb2 ?_ ?_)<;>(intro hb;try simp only [hb]))|fail)<;>try simp only [go_sem,seval,hM,hw,s2,h_upd2,hcom,hY,hV,ne0])
 refine AC.call ((c_veff (hN _ (by omega)) (by omega) 28 A 0 0).beside hk _) ?_
 rintro r H' c9 ⟨H9,⟨rfl,i2,q1,q2,rfl⟩,hk9,rfl⟩ hc9
 simp only [go_sem,seval]
 repeat' ((first|with_reducible refine wr ?_|((with_reducible refine wb2 ?_ ?_)<;>(intro hb;try simp only [hb]))|fail)<;>try simp only [go_sem,seval])
 exact step_end ((hN _ (by omega)).newE q1 q2 rfl) hk9 rfl rfl
theorem c_vstep_30 (h:MN m v so eo x cc) (A:Int) (s:StepOk c e x ⟨30,A⟩):AC Tryz.prog 24 [.ptr m 0] (VM c e x m v so eo junk) cc (Stepped c e (stepM c e x) m v):=by
 obtain ⟨y,hst,y1,y2,y3,hN,hcom,hY,hV,hk,l1,l2,hw,hM,hmc,hvc,hmv,d4⟩:=step_pre (junk:=junk) h s
 obtain ⟨s1,s2,s3,s4,s5,s6,s7,s8,s9,s10,s11,s12⟩:=s
 refine AC.body mixedU isU24 (Nat.le_of_ble_eq_true rfl) fun hfr=>?_
 show IW Tryz.prog 226 u24_1 ⟨argT _,_,_⟩ (rt [] _)
 have hn:=hN (cc+13) (by omega)
 rw [hst]
 clear s8 s9 hst
 have ne0:¬m=v∧¬m=cc∧¬m=cc+11∧¬v=m∧¬v=cc∧¬v=cc+11∧¬cc=m∧¬cc=v∧¬cc=cc+11∧¬cc+11=m∧¬cc+11=v∧¬cc+11=cc:=by and_intros<;>omega
 repeat' ((first|with_reducible refine wr ?_|((with_reducible refine wb2 ?_ ?_)<;>(intro hb;try simp only [hb]))|fail)<;>try simp only [go_sem,seval,hM,hw,s2,h_upd2,hcom,hY,hV,ne0])
 refine AC.call ((c_veff (hN _ (by omega)) (by omega) 30 A 0 0).beside hk _) ?_
 rintro r H' c9 ⟨H9,⟨rfl,i2,q1,q2,rfl⟩,hk9,rfl⟩ hc9
 simp only [go_sem,seval]
 repeat' ((first|with_reducible refine wr ?_|((with_reducible refine wb2 ?_ ?_)<;>(intro hb;try simp only [hb]))|fail)<;>try simp only [go_sem,seval])
 exact step_end ((hN _ (by omega)).newE q1 q2 rfl) hk9 rfl rfl
theorem c_vstep_4 (h:MN m v so eo x cc) (A:Int) (s:StepOk c e x ⟨4,A⟩):AC Tryz.prog 24 [.ptr m 0] (VM c e x m v so eo junk) cc (Stepped c e (stepM c e x) m v):=by
 obtain ⟨y,hst,y1,y2,y3,hN,hcom,hY,hV,hk,l1,l2,hw,hM,hmc,hvc,hmv,d4⟩:=step_pre (junk:=junk) h s
 obtain ⟨s1,s2,s3,s4,s5,s6,s7,s8,s9,s10,s11,s12⟩:=s
 refine AC.body mixedU isU24 (Nat.le_of_ble_eq_true rfl) fun hfr=>?_
 show IW Tryz.prog 226 u24_1 ⟨argT _,_,_⟩ (rt [] _)
 have hn:=hN (cc+13) (by omega)
 rw [hst]
 clear s8 s9 hst
 have ne0:¬m=v∧¬m=cc∧¬m=cc+11∧¬v=m∧¬v=cc∧¬v=cc+11∧¬cc=m∧¬cc=v∧¬cc=cc+11∧¬cc+11=m∧¬cc+11=v∧¬cc+11=cc:=by and_intros<;>omega
 obtain ⟨a,rfl,ha⟩:∃ a:Nat,A=(a:Int)∧a≤63:=by
  have h3:inM A 0 63=true:=s3
  simp only [inM,Bool.and_eq_true,decide_eq_true_eq] at h3
  exact ⟨A.toNat,by omega,by omega⟩
 have f1:binR .shr (.int .u64 (e.closed:Int)) (.int .i64 (a:Int))=some (.int .u64 ((e.closed / 2 ^ a:Nat):Int)):=shr_nat (by simp only [IntKind.bits];omega)
 have f0:e.closed / 2 ^ a≤e.closed:=Nat.div_le_self _ _
 have f2:=and1_64 (q:=e.closed / 2 ^ a) (by omega)
 have f3:=w64 (n:=((e.closed / 2 ^ a % 2:Nat):Int)) (by omega) (by omega)
 repeat' ((first|with_reducible refine wr ?_|((with_reducible refine wb2 ?_ ?_)<;>(intro hb;try simp only [hb]))|fail)<;>try simp only [go_sem,seval,hM,hw,s2,h_upd2,hcom,hY,hV,ne0,f1,f2,f3])
 refine AC.call ((c_vput (hN _ (by omega)) (by omega) _).beside hk _) ?_
 rintro r H' c9 ⟨H9,⟨rfl,i2,q1,q2,rfl⟩,hk9,rfl⟩ hc9
 simp only [go_sem,seval]
 repeat' ((first|with_reducible refine wr ?_|((with_reducible refine wb2 ?_ ?_)<;>(intro hb;try simp only [hb]))|fail)<;>try simp only [go_sem,seval])
 exact step_end ((hN _ (by omega)).newS q1 q2 rfl) hk9 rfl rfl
theorem c_vstep_5 (h:MN m v so eo x cc) (A:Int) (s:StepOk c e x ⟨5,A⟩):AC Tryz.prog 24 [.ptr m 0] (VM c e x m v so eo junk) cc (Stepped c e (stepM c e x) m v):=by
 obtain ⟨y,hst,y1,y2,y3,hN,hcom,hY,hV,hk,l1,l2,hw,hM,hmc,hvc,hmv,d4⟩:=step_pre (junk:=junk) h s
 obtain ⟨s1,s2,s3,s4,s5,s6,s7,s8,s9,s10,s11,s12⟩:=s
 refine AC.body mixedU isU24 (Nat.le_of_ble_eq_true rfl) fun hfr=>?_
 show IW Tryz.prog 226 u24_1 ⟨argT _,_,_⟩ (rt [] _)
 have hn:=hN (cc+13) (by omega)
 rw [hst]
 clear s8 s9 hst
 have ne0:¬m=v∧¬m=cc∧¬m=cc+11∧¬v=m∧¬v=cc∧¬v=cc+11∧¬cc=m∧¬cc=v∧¬cc=cc+11∧¬cc+11=m∧¬cc+11=v∧¬cc+11=cc:=by and_intros<;>omega
 obtain ⟨a,rfl,ha⟩:∃ a:Nat,A=(a:Int)∧a≤16:=by
  have h3:inM A 0 ((c.prios.length:Int)-1)=true:=s3
  simp only [inM,Bool.and_eq_true,decide_eq_true_eq] at h3
  exact ⟨A.toNat,by omega,by omega⟩
 have f1:binR .shr (.int .u32 (e.active:Int)) (.int .i64 (a:Int))=some (.int .u32 ((e.active / 2 ^ a:Nat):Int)):=shr_nat (by simp only [IntKind.bits];omega)
 have f0:e.active / 2 ^ a≤e.active:=Nat.div_le_self _ _
 have f2:=and1_32 (q:=e.active / 2 ^ a) (by omega)
 have f3:=w64 (n:=((e.active / 2 ^ a % 2:Nat):Int)) (by omega) (by omega)
 repeat' ((first|with_reducible refine wr ?_|((with_reducible refine wb2 ?_ ?_)<;>(intro hb;try simp only [hb]))|fail)<;>try simp only [go_sem,seval,hM,hw,s2,h_upd2,hcom,hY,hV,ne0,f1,f2,f3])
 refine AC.call ((c_vput (hN _ (by omega)) (by omega) _).beside hk _) ?_
 rintro r H' c9 ⟨H9,⟨rfl,i2,q1,q2,rfl⟩,hk9,rfl⟩ hc9
 simp only [go_sem,seval]
 repeat' ((first|with_reducible refine wr ?_|((with_reducible refine wb2 ?_ ?_)<;>(intro hb;try simp only [hb]))|fail)<;>try simp only [go_sem,seval])
 exact step_end ((hN _ (by omega)).newS q1 q2 rfl) hk9 rfl rfl
theorem c_vstep_12 (h:MN m v so eo x cc) (A:Int) (s:StepOk c e x ⟨12,A⟩):AC Tryz.prog 24 [.ptr m 0] (VM c e x m v so eo junk) cc (Stepped c e (stepM c e x) m v):=by
 obtain ⟨y,hst,y1,y2,y3,hN,hcom,hY,hV,hk,l1,l2,hw,hM,hmc,hvc,hmv,d4⟩:=step_pre (junk:=junk) h s
 obtain ⟨s1,s2,s3,s4,s5,s6,s7,s8,s9,s10,s11,s12⟩:=s
 refine AC.body mixedU isU24 (Nat.le_of_ble_eq_true rfl) fun hfr=>?_
 show IW Tryz.prog 226 u24_1 ⟨argT _,_,_⟩ (rt [] _)
 have hn:=hN (cc+13) (by omega)
 rw [hst]
 clear s8 s9 hst
 have ne0:¬m=v∧¬m=cc∧¬m=cc+11∧¬v=m∧¬v=cc∧¬v=cc+11∧¬cc=m∧¬cc=v∧¬cc=cc+11∧¬cc+11=m∧¬cc+11=v∧¬cc+11=cc:=by and_intros<;>omega
 obtain ⟨a,rfl⟩:∃ a:Nat,A=(a:Int):=⟨A.toNat,by have h4:0≤A:=(s4 (by simp)).1;omega⟩
 have hj:∀ B:Blk,((VM c e y m v so eo junk).upd (cc+11) B).upd m ⟨0,true,mcC c e v y.vars.length (a:Int) y.done (todoV so y.stk.length) (todoV eo y.effs.length)⟩=(VM c e { y with pc:=a } m v so eo junk).upd (cc+11) B:=fun B=>VR_com (hN _ (Nat.le_refl _)) (by omega) B _
 repeat' ((first|with_reducible refine wr ?_|((with_reducible refine wb2 ?_ ?_)<;>(intro hb;try simp only [hb]))|fail)<;>try simp only [go_sem,seval,hM,hw,s2,h_upd2,hcom,hY,hV,ne0,hj])
 exact step_end ((hN _ (by omega)).keep (x':={ y with pc:=a }) (Nat.le_refl _) hn.sn hn.en) (VR_n (cc:=cc) ((hN _ (Nat.le_refl _)).keep (Nat.le_refl _) hn.sn hn.en) (by omega)) rfl rfl
theorem c_vstep_31 (h:MN m v so eo x cc) (A:Int) (s:StepOk c e x ⟨31,A⟩):AC Tryz.prog 24 [.ptr m 0] (VM c e x m v so eo junk) cc (Stepped c e (stepM c e x) m v):=by
 obtain ⟨y,hst,y1,y2,y3,hN,hcom,hY,hV,hk,l1,l2,hw,hM,hmc,hvc,hmv,d4⟩:=step_pre (junk:=junk) h s
 obtain ⟨s1,s2,s3,s4,s5,s6,s7,s8,s9,s10,s11,s12⟩:=s
 refine AC.body mixedU isU24 (Nat.le_of_ble_eq_true rfl) fun hfr=>?_
 show IW Tryz.prog 226 u24_1 ⟨argT _,_,_⟩ (rt [] _)
 have hn:=hN (cc+13) (by omega)
 rw [hst]
 clear s8 s9 hst
 have ne0:¬m=v∧¬m=cc∧¬m=cc+11∧¬v=m∧¬v=cc∧¬v=cc+11∧¬cc=m∧¬cc=v∧¬cc=cc+11∧¬cc+11=m∧¬cc+11=v∧¬cc+11=cc:=by and_intros<;>omega
 have hj:∀ B:Blk,((VM c e y m v so eo junk).upd (cc+11) B).upd m ⟨0,true,mcC c e v y.vars.length (y.pc:Int) true (todoV so y.stk.length) (todoV eo y.effs.length)⟩=(VM c e { y with done:=true } m v so eo junk).upd (cc+11) B:=fun B=>VR_com (hN _ (Nat.le_refl _)) (by omega) B _
 repeat' ((first|with_reducible refine wr ?_|((with_reducible refine wb2 ?_ ?_)<;>(intro hb;try simp only [hb]))|fail)<;>try simp only [go_sem,seval,hM,hw,s2,h_upd2,hcom,hY,hV,ne0,hj])
 exact step_end ((hN _ (by omega)).keep (x':={ y with done:=true }) (Nat.le_refl _) hn.sn hn.en) (VR_n (cc:=cc) ((hN _ (Nat.le_refl _)).keep (Nat.le_refl _) hn.sn hn.en) (by omega)) rfl rfl
theorem c_vstep_13 (h:MN m v so eo x cc) (A:Int) (s:StepOk c e x ⟨13,A⟩):AC Tryz.prog 24 [.ptr m 0] (VM c e x m v so eo junk) cc (Stepped c e (stepM c e x) m v):=by
 obtain ⟨y,hst,y1,y2,y3,hN,hcom,hY,hV,hk,l1,l2,hw,hM,hmc,hvc,hmv,d4⟩:=step_pre (junk:=junk) h s
 obtain ⟨s1,s2,s3,s4,s5,s6,s7,s8,s9,s10,s11,s12⟩:=s
 refine AC.body mixedU isU24 (Nat.le_of_ble_eq_true rfl) fun hfr=>?_
 show IW Tryz.prog 226 u24_1 ⟨argT _,_,_⟩ (rt [] _)
 have hn:=hN (cc+13) (by omega)
 rw [hst]
 clear s8 s9 hst
 have ne0:¬m=v∧¬m=cc∧¬m=cc+11∧¬v=m∧¬v=cc∧¬v=cc+11∧¬cc=m∧¬cc=v∧¬cc=cc+11∧¬cc+11=m∧¬cc+11=v∧¬cc+11=cc:=by and_intros<;>omega
 obtain ⟨a,rfl⟩:∃ a:Nat,A=(a:Int):=⟨A.toNat,by have h4:0≤A:=(s4 (by simp)).1;omega⟩
 have s5':(1:Int)≤(x.stk.length:Int):=s5
 obtain ⟨n,S,hS⟩:∃ n S,y.stk=n :: S:=by
  rw [y1]
  cases hx:x.stk with
  | nil=>rw [hx] at s5';simp at s5'
  | cons n S=>exact ⟨n,S,rfl⟩
 have ht:y.top=n:=by rw [Mch.top,hS];rfl
 have lp:y.pop.stk.length≤1000:=by rw [Mch.pop,hS];rw [hS,List.length_cons] at l1;simp only [List.tail_cons];omega
 have hnp:∀ c',cc≤c'→MN m v so eo y.pop c':=fun c' hc=>h.keep hc (fun e=>by rw [hn.sn e] at hS;cases hS) hn.en
 have fA:∀ J d,VM c e y.pop m v so eo J (cc+13+d)=none:=fun J d=>VR_n (hnp cc (by omega)) (by omega)
 have fB:∀ J,VM c e y.pop m v so eo J (cc+13)=none:=fun J=>VR_n (hnp cc (by omega)) (by omega)
 have hY2:∀ J,VM c e y.pop m v so eo J m=some (vmB c e y.pop v so eo):=fun J=>VM_m (hnp cc (by omega))
 have hV2:∀ J,VM c e y.pop m v so eo J v=some ⟨1,true,y.pop.vars.map I64⟩:=fun J=>VR_v (hnp cc (by omega))
 have pv:y.pop.vars=y.vars:=rfl
 have pe:y.pop.effs=y.effs:=rfl
 have pp:y.pop.pc=y.pc:=rfl
 have pd:y.pop.done=y.done:=rfl
 have nA:∀ d,¬ cc+13+d=cc+11:=fun d=>by omega
 have nB:¬ cc+13=cc+11:=by omega
 have hps:so=none→y.pop.stk=[]:=fun e=>by rw [hn.sn e] at hS;cases hS
 have hj:∀ B:Blk,((VM c e y.pop m v so eo (I64 n :: junk)).upd (cc+11) B).upd m ⟨0,true,mcC c e v y.vars.length (a:Int) y.done (todoV so y.pop.stk.length) (todoV eo y.effs.length)⟩=(VM c e { y.pop with pc:=a } m v so eo (I64 n :: junk)).upd (cc+11) B:=fun B=>VR_com (hnp _ (Nat.le_refl _)) (by omega) B _
 by_cases h0:n=0
 ·have hz:(n == 0)=true:=by simp [h0]
  repeat' ((first|with_reducible refine wr ?_|((with_reducible refine wb2 ?_ ?_)<;>(intro hb;try simp only [hb]))|fail)<;>try simp only [go_sem,seval,hM,hw,s2,h_upd2,hcom,hY,hV,ne0])
  refine AC.call ((c_vtake (hN _ (by omega)) (by omega) n S hS).beside hk _) ?_
  rintro r H' c2 ⟨H2,⟨rfl,rfl⟩,hk2,rfl⟩ hc2
  simp only [go_sem,seval,hz,hY2,pv,pe,pp,pd,hj,ne0]
  repeat' ((first|with_reducible refine wr ?_|((with_reducible refine wb2 ?_ ?_)<;>(intro hb;try simp only [hb]))|fail)<;>try simp only [go_sem,seval,hz,hY2,pv,pe,pp,pd,hj,ne0])
  exact step_end ((hnp _ (by omega)).keep (x':={ y.pop with pc:=a }) (Nat.le_refl _) hps hn.en) (VR_n (cc:=cc) ((hnp _ (Nat.le_refl _)).keep (Nat.le_refl _) hps hn.en) (by omega)) (by simp [opM,ht,h0];exact ⟨rfl,rfl,rfl⟩) rfl
 ·have hz:(n == 0)=false:=by simp [h0]
  repeat' ((first|with_reducible refine wr ?_|((with_reducible refine wb2 ?_ ?_)<;>(intro hb;try simp only [hb]))|fail)<;>try simp only [go_sem,seval,hM,hw,s2,h_upd2,hcom,hY,hV,ne0])
  refine AC.call ((c_vtake (hN _ (by omega)) (by omega) n S hS).beside hk _) ?_
  rintro r H' c2 ⟨H2,⟨rfl,rfl⟩,hk2,rfl⟩ hc2
  simp only [go_sem,seval,hz,hY2,pv,pe,pp,pd,ne0]
  repeat' ((first|with_reducible refine wr ?_|((with_reducible refine wb2 ?_ ?_)<;>(intro hb;try simp only [hb]))|fail)<;>try simp only [go_sem,seval,hz,hY2,pv,pe,pp,pd,ne0])
  exact step_end (hnp _ (by omega)) hk2 (by simp [opM,ht,h0]) rfl
theorem c_vstep_14 (h:MN m v so eo x cc) (A:Int) (s:StepOk c e x ⟨14,A⟩):AC Tryz.prog 24 [.ptr m 0] (VM c e x m v so eo junk) cc (Stepped c e (stepM c e x) m v):=by
 obtain ⟨y,hst,y1,y2,y3,hN,hcom,hY,hV,hk,l1,l2,hw,hM,hmc,hvc,hmv,d4⟩:=step_pre (junk:=junk) h s
 obtain ⟨s1,s2,s3,s4,s5,s6,s7,s8,s9,s10,s11,s12⟩:=s
 refine AC.body mixedU isU24 (Nat.le_of_ble_eq_true rfl) fun hfr=>?_
 show IW Tryz.prog 226 u24_1 ⟨argT _,_,_⟩ (rt [] _)
 have hn:=hN (cc+13) (by omega)
 rw [hst]
 clear s8 s9 hst
 have ne0:¬m=v∧¬m=cc∧¬m=cc+11∧¬v=m∧¬v=cc∧¬v=cc+11∧¬cc=m∧¬cc=v∧¬cc=cc+11∧¬cc+11=m∧¬cc+11=v∧¬cc+11=cc:=by and_intros<;>omega
 obtain ⟨a,rfl⟩:∃ a:Nat,A=(a:Int):=⟨A.toNat,by have h4:0≤A:=(s4 (by simp)).1;omega⟩
 have s5':(1:Int)≤(x.stk.length:Int):=s5
 obtain ⟨n,S,hS⟩:∃ n S,y.stk=n :: S:=by
  rw [y1]
  cases hx:x.stk with
  | nil=>rw [hx] at s5';simp at s5'
  | cons n S=>exact ⟨n,S,rfl⟩
 have ht:y.top=n:=by rw [Mch.top,hS];rfl
 have lp:y.pop.stk.length≤1000:=by rw [Mch.pop,hS];rw [hS,List.length_cons] at l1;simp only [List.tail_cons];omega
 have hnp:∀ c',cc≤c'→MN m v so eo y.pop c':=fun c' hc=>h.keep hc (fun e=>by rw [hn.sn e] at hS;cases hS) hn.en
 have fA:∀ J d,VM c e y.pop m v so eo J (cc+13+d)=none:=fun J d=>VR_n (hnp cc (by omega)) (by omega)
 have fB:∀ J,VM c e y.pop m v so eo J (cc+13)=none:=fun J=>VR_n (hnp cc (by omega)) (by omega)
 have hY2:∀ J,VM c e y.pop m v so eo J m=some (vmB c e y.pop v so eo):=fun J=>VM_m (hnp cc (by omega))
 have hV2:∀ J,VM c e y.pop m v so eo J v=some ⟨1,true,y.pop.vars.map I64⟩:=fun J=>VR_v (hnp cc (by omega))
 have pv:y.pop.vars=y.vars:=rfl
 have pe:y.pop.effs=y.effs:=rfl
 have pp:y.pop.pc=y.pc:=rfl
 have pd:y.pop.done=y.done:=rfl
 have nA:∀ d,¬ cc+13+d=cc+11:=fun d=>by omega
 have nB:¬ cc+13=cc+11:=by omega
 have hps:so=none→y.pop.stk=[]:=fun e=>by rw [hn.sn e] at hS;cases hS
 have hj:∀ B:Blk,((VM c e y.pop m v so eo (I64 n :: junk)).upd (cc+11) B).upd m ⟨0,true,mcC c e v y.vars.length (a:Int) y.done (todoV so y.pop.stk.length) (todoV eo y.effs.length)⟩=(VM c e { y.pop with pc:=a } m v so eo (I64 n :: junk)).upd (cc+11) B:=fun B=>VR_com (hnp _ (Nat.le_refl _)) (by omega) B _
 by_cases h0:n≤0
 ·have hz:decide (n≤0)=true:=by simp [h0]
  repeat' ((first|with_reducible refine wr ?_|((with_reducible refine wb2 ?_ ?_)<;>(intro hb;try simp only [hb]))|fail)<;>try simp only [go_sem,seval,hM,hw,s2,h_upd2,hcom,hY,hV,ne0])
  refine AC.call ((c_vtake (hN _ (by omega)) (by omega) n S hS).beside hk _) ?_
  rintro r H' c2 ⟨H2,⟨rfl,rfl⟩,hk2,rfl⟩ hc2
  simp only [go_sem,seval,hz,hY2,pv,pe,pp,pd,hj,ne0]
  repeat' ((first|with_reducible refine wr ?_|((with_reducible refine wb2 ?_ ?_)<;>(intro hb;try simp only [hb]))|fail)<;>try simp only [go_sem,seval,hz,hY2,pv,pe,pp,pd,hj,ne0])
  exact step_end ((hnp _ (by omega)).keep (x':={ y.pop with pc:=a }) (Nat.le_refl _) hps hn.en) (VR_n (cc:=cc) ((hnp _ (Nat.le_refl _)).keep (Nat.le_refl _) hps hn.en) (by omega)) (by simp [opM,ht,h0];exact ⟨rfl,rfl,rfl⟩) rfl
 ·have hz:decide (n≤0)=false:=by simp [h0]
  have hb:=s10 n (by rw [← y1,hS];exact List.mem_cons_self)
  have w2:=w64 (n:=n-1) (by omega) (by omega)
  repeat' ((first|with_reducible refine wr ?_|((with_reducible refine wb2 ?_ ?_)<;>(intro hb;try simp only [hb]))|fail)<;>try simp only [go_sem,seval,hM,hw,s2,h_upd2,hcom,hY,hV,ne0])
  refine AC.call ((c_vtake (hN _ (by omega)) (by omega) n S hS).beside hk _) ?_
  rintro r H' c2 ⟨H2,⟨rfl,rfl⟩,hk2,rfl⟩ hc2
  simp only [go_sem,seval,hz,w2]
  repeat' ((first|with_reducible refine wr ?_|((with_reducible refine wb2 ?_ ?_)<;>(intro hb;try simp only [hb]))|fail)<;>try simp only [go_sem,seval,hz,w2])
  refine AC.call ((c_vput (hnp _ (by omega)) (by omega) _).beside hk2 _) ?_
  rintro r H' c9 ⟨H9,⟨rfl,i2,q1,q2,rfl⟩,hk9,rfl⟩ hc9
  simp only [go_sem,seval]
  repeat' ((first|with_reducible refine wr ?_|((with_reducible refine wb2 ?_ ?_)<;>(intro hb;try simp only [hb]))|fail)<;>try simp only [go_sem,seval])
  exact step_end ((hnp _ (by omega)).newS q1 q2 rfl) hk9 (by simp [opM,ht,h0]) rfl
theorem c_vstep_3 (h:MN m v so eo x cc) (A:Int) (s:StepOk c e x ⟨3,A⟩):AC Tryz.prog 24 [.ptr m 0] (VM c e x m v so eo junk) cc (Stepped c e (stepM c e x) m v):=by
 obtain ⟨y,hst,y1,y2,y3,hN,hcom,hY,hV,hk,l1,l2,hw,hM,hmc,hvc,hmv,d4⟩:=step_pre (junk:=junk) h s
 obtain ⟨s1,s2,s3,s4,s5,s6,s7,s8,s9,s10,s11,s12⟩:=s
 refine AC.body mixedU isU24 (Nat.le_of_ble_eq_true rfl) fun hfr=>?_
 show IW Tryz.prog 226 u24_1 ⟨argT _,_,_⟩ (rt [] _)
 have hn:=hN (cc+13) (by omega)
 rw [hst]
 clear s8 s9 hst
 have ne0:¬m=v∧¬m=cc∧¬m=cc+11∧¬v=m∧¬v=cc∧¬v=cc+11∧¬cc=m∧¬cc=v∧¬cc=cc+11∧¬cc+11=m∧¬cc+11=v∧¬cc+11=cc:=by and_intros<;>omega
 obtain ⟨a,rfl,ha⟩:∃ a:Nat,A=(a:Int)∧a<y.vars.length:=by
  have h3:inM A 0 ((c.vars.length:Int)-1)=true:=s3
  simp only [inM,Bool.and_eq_true,decide_eq_true_eq] at h3
  exact ⟨A.toNat,by omega,by rw [y3,s7];omega⟩
 have s5':(1:Int)≤(x.stk.length:Int):=s5
 obtain ⟨n,S,hS⟩:∃ n S,y.stk=n :: S:=by
  rw [y1]
  cases hx:x.stk with
  | nil=>rw [hx] at s5';simp at s5'
  | cons n S=>exact ⟨n,S,rfl⟩
 have ht:y.top=n:=by rw [Mch.top,hS];rfl
 have lp:y.pop.stk.length≤1000:=by rw [Mch.pop,hS];rw [hS,List.length_cons] at l1;simp only [List.tail_cons];omega
 have hnp:∀ c',cc≤c'→MN m v so eo y.pop c':=fun c' hc=>h.keep hc (fun e=>by rw [hn.sn e] at hS;cases hS) hn.en
 have fA:∀ J d,VM c e y.pop m v so eo J (cc+13+d)=none:=fun J d=>VR_n (hnp cc (by omega)) (by omega)
 have fB:∀ J,VM c e y.pop m v so eo J (cc+13)=none:=fun J=>VR_n (hnp cc (by omega)) (by omega)
 have hY2:∀ J,VM c e y.pop m v so eo J m=some (vmB c e y.pop v so eo):=fun J=>VM_m (hnp cc (by omega))
 have hV2:∀ J,VM c e y.pop m v so eo J v=some ⟨1,true,y.pop.vars.map I64⟩:=fun J=>VR_v (hnp cc (by omega))
 have pv:y.pop.vars=y.vars:=rfl
 have pe:y.pop.effs=y.effs:=rfl
 have pp:y.pop.pc=y.pc:=rfl
 have pd:y.pop.done=y.done:=rfl
 have nA:∀ d,¬ cc+13+d=cc+11:=fun d=>by omega
 have nB:¬ cc+13=cc+11:=by omega
 have hput:=put_map (f:=I64) (l:=y.vars) (n:=a) (a:=n) ha
 have hle:a+1≤y.vars.length:=ha
 repeat' ((first|with_reducible refine wr ?_|((with_reducible refine wb2 ?_ ?_)<;>(intro hb;try simp only [hb]))|fail)<;>try simp only [go_sem,seval,hM,hw,s2,h_upd2,hcom,hY,hV,ne0])
 refine AC.call ((c_vtake (hN _ (by omega)) (by omega) n S hS).beside hk _) ?_
 rintro r H' c2 ⟨H2,⟨rfl,rfl⟩,hk2,rfl⟩ hc2
 simp only [go_sem,seval,fA,fB,nA,nB,hY2,hV2,pv,pe,pp,pd,ha,hput,hle,ne0]
 repeat' ((first|with_reducible refine wr ?_|((with_reducible refine wb2 ?_ ?_)<;>(intro hb;try simp only [hb]))|fail)<;>try simp only [go_sem,seval,fA,fB,nA,nB,hY2,hV2,pv,pe,pp,pd,ha,hput,hle,ne0])
 have hps:so=none→y.pop.stk=[]:=fun e=>by rw [hn.sn e] at hS;cases hS
 refine step_end' (z:={ y.pop with vars:=y.vars.set a n }) (so:=so) (eo:=eo) (junk:=I64 n :: junk) ((hnp _ (by omega)).keep (Nat.le_refl _) hps hn.en) ?_ ?_ (fun i hi=>?_) (fun i hi=>?_) (by rw [← ht];rfl) rfl
 ·rw [h_ne (by omega),h_ne (by omega),hY2];simp [Mch.pop]
 ·rw [h_same]
 ·have:=h.sb i hi
  rw [h_ne (by omega),h_ne (by omega)];exact VR_s (hnp cc (Nat.le_refl _)) hi
 ·have:=h.eb i hi
  rw [h_ne (by omega),h_ne (by omega)];exact VR_e hi
theorem c_vstep_29 (h:MN m v so eo x cc) (A:Int) (s:StepOk c e x ⟨29,A⟩):AC Tryz.prog 24 [.ptr m 0] (VM c e x m v so eo junk) cc (Stepped c e (stepM c e x) m v):=by
 obtain ⟨y,hst,y1,y2,y3,hN,hcom,hY,hV,hk,l1,l2,hw,hM,hmc,hvc,hmv,d4⟩:=step_pre (junk:=junk) h s
 obtain ⟨s1,s2,s3,s4,s5,s6,s7,s8,s9,s10,s11,s12⟩:=s
 refine AC.body mixedU isU24 (Nat.le_of_ble_eq_true rfl) fun hfr=>?_
 show IW Tryz.prog 226 u24_1 ⟨argT _,_,_⟩ (rt [] _)
 have hn:=hN (cc+13) (by omega)
 rw [hst]
 clear s8 s9 hst
 have ne0:¬m=v∧¬m=cc∧¬m=cc+11∧¬v=m∧¬v=cc∧¬v=cc+11∧¬cc=m∧¬cc=v∧¬cc=cc+11∧¬cc+11=m∧¬cc+11=v∧¬cc+11=cc:=by and_intros<;>omega
 obtain ⟨a,rfl,ha⟩:∃ a:Nat,A=(a:Int)∧a<c.strings.length:=by
  have h3:inM A 0 ((c.strings.length:Int)-1)=true:=s3
  simp only [inM,Bool.and_eq_true,decide_eq_true_eq] at h3
  exact ⟨A.toNat,by omega,by omega⟩
 have hg:c.strings[a]? = some (c.strings.getD a []):=by rw [List.getD,List.getElem?_eq_getElem ha];rfl
 have s5':(1:Int)≤(x.stk.length:Int):=s5
 obtain ⟨n,S,hS⟩:∃ n S,y.stk=n :: S:=by
  rw [y1]
  cases hx:x.stk with
  | nil=>rw [hx] at s5';simp at s5'
  | cons n S=>exact ⟨n,S,rfl⟩
 have ht:y.top=n:=by rw [Mch.top,hS];rfl
 have lp:y.pop.stk.length≤1000:=by rw [Mch.pop,hS];rw [hS,List.length_cons] at l1;simp only [List.tail_cons];omega
 have hnp:∀ c',cc≤c'→MN m v so eo y.pop c':=fun c' hc=>h.keep hc (fun e=>by rw [hn.sn e] at hS;cases hS) hn.en
 have fA:∀ J d,VM c e y.pop m v so eo J (cc+13+d)=none:=fun J d=>VR_n (hnp cc (by omega)) (by omega)
 have fB:∀ J,VM c e y.pop m v so eo J (cc+13)=none:=fun J=>VR_n (hnp cc (by omega)) (by omega)
 have hY2:∀ J,VM c e y.pop m v so eo J m=some (vmB c e y.pop v so eo):=fun J=>VM_m (hnp cc (by omega))
 have hV2:∀ J,VM c e y.pop m v so eo J v=some ⟨1,true,y.pop.vars.map I64⟩:=fun J=>VR_v (hnp cc (by omega))
 have pv:y.pop.vars=y.vars:=rfl
 have pe:y.pop.effs=y.effs:=rfl
 have pp:y.pop.pc=y.pc:=rfl
 have pd:y.pop.done=y.done:=rfl
 have nA:∀ d,¬ cc+13+d=cc+11:=fun d=>by omega
 have nB:¬ cc+13=cc+11:=by omega
 have dm:∀ X,delO X eo m=X m:=fun X=>delO_ne (fun i hi e=>(h.eb i hi).1 e.symm)
 have dv:∀ X,delO X eo v=X v:=fun X=>delO_ne (fun i hi e=>(h.eb i hi).2.1 e.symm)
 have dd:∀ X d,delO X eo (cc+d)=X (cc+d):=fun X d=>delO_ne (fun i hi e=>by have:=h.eb i hi;omega)
 have de:∀ X d,delO X eo (cc+13+d)=X (cc+13+d):=fun X d=>delO_ne (fun i hi e=>by have:=h.eb i hi;omega)
 have de0:∀ X,delO X eo (cc+13)=X (cc+13):=fun X=>delO_ne (fun i hi e=>by have:=h.eb i hi;omega)
 repeat' ((first|with_reducible refine wr ?_|((with_reducible refine wb2 ?_ ?_)<;>(intro hb;try simp only [hb]))|fail)<;>try simp only [go_sem,seval,hM,hw,s2,h_upd2,hcom,hY,hV,ne0,hg])
 refine AC.call ((c_vtake (hN _ (by omega)) (by omega) n S hS).beside hk _) ?_
 rintro r H' c2 ⟨H2,⟨rfl,rfl⟩,hk2,rfl⟩ hc2
 simp only [go_sem,seval,fA,fB,nA,nB,hg,hY2,hV2,pv,pe,pp,pd,ne0]
 repeat' ((first|with_reducible refine wr ?_|((with_reducible refine wb2 ?_ ?_)<;>(intro hb;try simp only [hb]))|fail)<;>try simp only [go_sem,seval,fA,fB,nA,nB,hg,hY2,hV2,pv,pe,pp,pd,ne0])
 refine x_eval (r_apptodo (cs:=effC y.effs) (fun e=>⟨len_nil (hn.en e),by rw [hn.en e];rfl⟩) (fun i hi=>?_) (effC_len _) (by omega) (by omega) (by omega)) ?_
 ·have:=h.eb i hi
  rw [h_ne (by omega),h_ne (by omega)];exact VR_e hi
 have ne0:¬m=v∧¬m=cc+11∧¬m=cc+13∧¬m=cc+13+19∧¬m=c2∧¬v=m∧¬v=cc+11∧¬v=cc+13∧¬v=cc+13+19∧¬v=c2∧¬cc+11=m∧¬cc+11=v∧¬cc+11=cc+13∧¬cc+11=cc+13+19∧¬cc+11=c2∧¬cc+13=m∧¬cc+13=v∧¬cc+13=cc+11∧¬cc+13=cc+13+19∧¬cc+13=c2∧¬cc+13+19=m∧¬cc+13+19=v∧¬cc+13+19=cc+11∧¬cc+13+19=cc+13∧¬cc+13+19=c2∧¬c2=m∧¬c2=v∧¬c2=cc+11∧¬c2=cc+13∧¬c2=cc+13+19:=by and_intros<;>omega
 simp only [go_sem,seval,dm,dd,de,de0,fA,fB,nA,nB,hY2,pv,pe,pp,pd,ne0]
 repeat' ((first|with_reducible refine wr ?_|((with_reducible refine wb2 ?_ ?_)<;>(intro hb;try simp only [hb]))|fail)<;>try simp only [go_sem,seval,dm,dd,de,de0,fA,fB,nA,nB,hY2,pv,pe,pp,pd,ne0])
 refine step_end' (z:=y.pop.ask ⟨29,0,n,0,c.strings.getD a []⟩) (so:=so) (eo:=some c2) (junk:=I64 n :: junk) ((hnp c2 (by omega)).newE (Nat.le_refl _) (Nat.lt_succ_self _) rfl) ?_ ?_ (fun i hi=>?_) (fun i hi=>?_) (by rw [← ht];rfl) rfl
 ·rw [h_same];simp [Mch.ask,Mch.pop,todoV]
 ·rw [h_ne (by omega),h_ne (by omega),dv,h_ne (by omega),h_ne (by omega)];exact VR_v (hnp cc (Nat.le_refl _))
 ·have:=h.sb i hi
  rw [h_ne (by omega),h_ne (by omega),delO_ne (fun j hj=>h.se i j hi hj),h_ne (by omega),h_ne (by omega)];exact VR_s (hnp cc (Nat.le_refl _)) hi
 ·cases hi;rw [h_ne (by omega),h_same];simp [Mch.ask,Mch.pop,effC_app,effC_one]
theorem c_vstep (h:MN m v so eo x cc) (i:Ins) (s:StepOk c e x i):AC Tryz.prog 24 [.ptr m 0] (VM c e x m v so eo junk) cc (Stepped c e (stepM c e x) m v):=by
 obtain ⟨op,A⟩:=i
 have ho:1≤op∧op≤31:=by
  have h3:=s.num
  by_cases g:1≤op∧op≤31
  ·exact g
  ·have:effM op=(0,0, -1):=by
    unfold effM
    repeat rw [if_neg (by omega)]
   simp only [numberM,this] at h3
   exact absurd h3 (by simp [kindM])
 obtain ⟨o1,o2⟩:=ho
 obtain ⟨k,rfl⟩:∃ k:Nat,op=(k:Int):=⟨op.toNat,by omega⟩
 have hk:k<32:=by omega
 match k,hk,o1 with
 | 1,_,_=>exact c_vstep_1 h A s
 | 2,_,_=>exact c_vstep_2 h A s
 | 3,_,_=>exact c_vstep_3 h A s
 | 4,_,_=>exact c_vstep_4 h A s
 | 5,_,_=>exact c_vstep_5 h A s
 | 6,_,_=>exact c_vstep_6 h A s
 | 7,_,_=>exact c_vstep_7 h A s
 | 8,_,_=>exact c_vstep_8 h A s
 | 9,_,_=>exact c_vstep_9 h A s
 | 10,_,_=>exact c_vstep_10 h A s
 | 11,_,_=>exact c_vstep_11 h A s
 | 12,_,_=>exact c_vstep_12 h A s
 | 13,_,_=>exact c_vstep_13 h A s
 | 14,_,_=>exact c_vstep_14 h A s
 | 15,_,_=>exact c_vstep_15 h A s
 | 16,_,_=>exact c_vstep_16 h A s
 | 17,_,_=>exact c_vstep_17 h A s
 | 18,_,_=>exact c_vstep_18 h A s
 | 19,_,_=>exact c_vstep_19 h A s
 | 20,_,_=>exact c_vstep_20 h A s
 | 21,_,_=>exact c_vstep_21 h A s
 | 22,_,_=>exact c_vstep_22 h A s
 | 23,_,_=>exact c_vstep_23 h A s
 | 24,_,_=>exact c_vstep_24 h A s
 | 25,_,_=>exact c_vstep_25 h A s
 | 26,_,_=>exact c_vstep_26 h A s
 | 27,_,_=>exact c_vstep_27 h A s
 | 28,_,_=>exact c_vstep_28 h A s
 | 29,_,_=>exact c_vstep_29 h A s
 | 30,_,_=>exact c_vstep_30 h A s
 | 31,_,_=>exact c_vstep_31 h A s
end
end Go.Proofs.YtcallbfckjlagaaGreat
namespace Go.Pb
open Go.Sym
theorem valid_lens {c:Prg} (h0:validM c=0):(∀ s∈c.strings,s.length≤140737488355328)∧c.instrs.length≤4000∧c.strings.length≤200∧c.entries.length≤512∧c.prios.length≤16∧c.vars.length≤128:=by
 obtain ⟨b1,b2,b3,b4,b5,b6,b7⟩:=Bnd.valid h0
 obtain ⟨hL, -⟩:=valid_all h0
 obtain ⟨d1,d2,d3,d4,d5, -⟩:=Lim.dims hL
 exact ⟨fun s hs=>by have:=b7 s hs;omega,d1,d2,d3,d4,d5⟩
end Go.Pb
namespace Go.Proofs.YtcallbfckjlagaaGreat
open Go.Eng (IC IOper DReg IFn IsFn)
open Go.Sym Go.Pb
section
def u16_3r:DReg:=⟨[oD 6 2 7,oC 7 32 [.t 6],oK 8 7 .eql 0,oM 9 8,gF 10 3 0 9,gL 11 10 9,oG 12 (.len (.t 11)) 9,gF 13 2 4 9,gL 14 13 9,oG 15 (.len (.t 14)) 9,oG 16 (.bin .eql (.t 12) (.t 15)) 9,oP 17 (.pick (.t 9) (.t 16) (.k (.bool false))),oM 18 17,gF 19 3 1 18,gL 20 19 18,oG 21 (.len (.t 20)) 18,gF 22 2 5 18,gL 23 22 18,oG 24 (.bin .eql (.t 21) (.t 23)) 18,oP 25 (.pick (.t 18) (.t 24) (.k (.bool false))),oM 26 25,gF 27 3 0 26,gL 28 27 26,gM 29 5 26,⟨some 30,.callv (.t 29) [.k (.int .i64 (-2147483647))],some (26,true)⟩,⟨some 31,.call 33 [.t 28,.t 30],some (26,true)⟩,oG 32 (.un .not (.t 31)) 26,oP 33 (.pick (.t 26) (.t 32) (.k (.bool false))),oM 34 33,gF 35 3 1 34,gL 36 35 34,gM 37 5 34,⟨some 38,.callv (.t 37) [.k (.int .i64 0)],some (34,true)⟩,⟨some 39,.call 33 [.t 36,.t 38],some (34,true)⟩,oG 40 (.un .not (.t 39)) 34,oP 41 (.pick (.t 34) (.t 40) (.k (.bool false))),oM 42 41,gF 43 3 3 42,gL 44 43 42,gF 45 2 3 42,gL 46 45 42,oG 47 (.len (.t 46)) 42,oG 48 (.bin .shr (.t 44) (.t 47)) 42,oG 49 (.bin .eql (.t 48) (.k (.int .u32 0))) 42,oP 50 (.pick (.t 42) (.t 49) (.k (.bool false))),oM 51 50,gM 52 5 51,⟨some 53,.callv (.t 52) [.k (.int .i64 0)],some (51,true)⟩,gF 54 3 4 51,gL 55 54 51,⟨some 56,.callv (.t 53) [.t 55],some (51,true)⟩,oG 57 (.un .not (.t 56)) 51,oP 58 (.pick (.t 51) (.t 57) (.k (.bool false))),oM 59 58,gM 60 5 59,⟨some 61,.callv (.t 60) [.k (.int .i64 0)],some (59,true)⟩,gF 62 3 5 59,gL 63 62 59,⟨some 64,.callv (.t 61) [.t 63],some (59,true)⟩,oG 65 (.un .not (.t 64)) 59,oP 66 (.pick (.t 59) (.t 65) (.k (.bool false))),oM 4 66],[[],[0],[1,0],[2,1,0],[3,2,1,0],[4,3,2,1,0],[5,3,4,2,1,0],[3,2,1,0],[7,3,2,1,0],[8,3,7,2,1,0],[6,9,3,5,4,2,1,0,8,7],[3,10,2,1,0,6,9,5,4,8,7],[11,3,10,2,1,0,6,9,5,4,8,7],[12,11,3,10,2,1,0,6,9,5,4,8,7],[13,12,11,3,10,2,1,0,6,9,5,4,8,7],[14,12,13,11,3,10,2,1,0,6,9,5,4,8,7],[12,11,3,10,2,1,0,6,9,5,4,8,7],[16,12,11,3,10,2,1,0,6,9,5,4,8,7],[15,17,12,14,13,11,3,10,2,1,0,6,9,5,4,8,7,16],[12,18,11,3,10,2,1,0,6,9,5,4,8,7,15,17,14,13,16],[19,12,18,11,3,10,2,1,0,6,9,5,4,8,7,15,17,14,13,16],[20,19,12,18,11,3,10,2,1,0,6,9,5,4,8,7,15,17,14,13,16],[21,20,19,12,18,11,3,10,2,1,0,6,9,5,4,8,7,15,17,14,13,16],[20,19,12,18,11,3,10,2,1,0,6,9,5,4,8,7,15,17,14,13,16],[23,20,19,12,18,11,3,10,2,1,0,6,9,5,4,8,7,15,17,14,13,16],[22,24,20,21,19,12,18,11,3,10,2,1,0,6,9,5,4,8,7,15,17,14,13,16,23],[25,20,22,24,21,19,12,18,11,3,10,2,1,0,6,9,5,4,8,7,15,17,14,13,16,23],[20,26,19,12,18,11,3,10,2,1,0,6,9,5,4,8,7,15,17,14,13,16,25,22,24,21,23],[27,25,20,26,19,12,18,11,3,10,2,1,0,6,9,5,4,8,7,15,17,14,13,16,22,24,21,23],[28,27,25,20,26,19,12,18,11,3,10,2,1,0,6,9,5,4,8,7,15,17,14,13,16,22,24,21,23],[29,28,27,25,20,26,19,12,18,11,3,10,2,1,0,6,9,5,4,8,7,15,17,14,13,16,22,24,21,23],[28,27,25,20,26,19,12,18,11,3,10,2,1,0,6,9,5,4,8,7,15,17,14,13,16,22,24,21,23],[31,28,27,25,20,26,19,12,18,11,3,10,2,1,0,6,9,5,4,8,7,15,17,14,13,16,22,24,21,23],[30,32,28,29,27,25,20,26,19,12,18,11,3,10,2,1,0,6,9,5,4,8,7,15,17,14,13,16,22,24,21,23,31],[33,28,30,32,29,27,25,20,26,19,12,18,11,3,10,2,1,0,6,9,5,4,8,7,15,17,14,13,16,22,24,21,23,31],[28,34,27,25,20,26,19,12,18,11,3,10,2,1,0,6,9,5,4,8,7,15,17,14,13,16,22,24,21,23,33,30,32,29,31],[35,33,28,34,27,25,20,26,19,12,18,11,3,10,2,1,0,6,9,5,4,8,7,15,17,14,13,16,22,24,21,23,30,32,29,31],[36,35,33,28,34,27,25,20,26,19,12,18,11,3,10,2,1,0,6,9,5,4,8,7,15,17,14,13,16,22,24,21,23,30,32,29,31],[37,36,35,33,28,34,27,25,20,26,19,12,18,11,3,10,2,1,0,6,9,5,4,8,7,15,17,14,13,16,22,24,21,23,30,32,29,31],[36,35,33,28,34,27,25,20,26,19,12,18,11,3,10,2,1,0,6,9,5,4,8,7,15,17,14,13,16,22,24,21,23,30,32,29,31],[39,36,35,33,28,34,27,25,20,26,19,12,18,11,3,10,2,1,0,6,9,5,4,8,7,15,17,14,13,16,22,24,21,23,30,32,29,31],[40,36,39,35,33,28,34,27,25,20,26,19,12,18,11,3,10,2,1,0,6,9,5,4,8,7,15,17,14,13,16,22,24,21,23,30,32,29,31],[38,41,36,37,35,33,28,34,27,25,20,26,19,12,18,11,3,10,2,1,0,6,9,5,4,8,7,15,17,14,13,16,22,24,21,23,30,32,29,31,40,39],[42,36,38,41,37,35,33,28,34,27,25,20,26,19,12,18,11,3,10,2,1,0,6,9,5,4,8,7,15,17,14,13,16,22,24,21,23,30,32,29,31,40,39],[36,43,35,33,28,34,27,25,20,26,19,12,18,11,3,10,2,1,0,6,9,5,4,8,7,15,17,14,13,16,22,24,21,23,30,32,29,31,42,38,41,37,40,39],[44,36,43,35,33,28,34,27,25,20,26,19,12,18,11,3,10,2,1,0,6,9,5,4,8,7,15,17,14,13,16,22,24,21,23,30,32,29,31,42,38,41,37,40,39],[45,44,36,43,35,33,28,34,27,25,20,26,19,12,18,11,3,10,2,1,0,6,9,5,4,8,7,15,17,14,13,16,22,24,21,23,30,32,29,31,42,38,41,37,40,39],[46,45,44,36,43,35,33,28,34,27,25,20,26,19,12,18,11,3,10,2,1,0,6,9,5,4,8,7,15,17,14,13,16,22,24,21,23,30,32,29,31,42,38,41,37,40,39],[45,44,36,43,35,33,28,34,27,25,20,26,19,12,18,11,3,10,2,1,0,6,9,5,4,8,7,15,17,14,13,16,22,24,21,23,30,32,29,31,42,38,41,37,40,39],[48,45,44,36,43,35,33,28,34,27,25,20,26,19,12,18,11,3,10,2,1,0,6,9,5,4,8,7,15,17,14,13,16,22,24,21,23,30,32,29,31,42,38,41,37,40,39],[47,49,45,46,44,36,43,35,33,28,34,27,25,20,26,19,12,18,11,3,10,2,1,0,6,9,5,4,8,7,15,17,14,13,16,22,24,21,23,30,32,29,31,42,38,41,37,40,39,48],[50,45,47,49,46,44,36,43,35,33,28,34,27,25,20,26,19,12,18,11,3,10,2,1,0,6,9,5,4,8,7,15,17,14,13,16,22,24,21,23,30,32,29,31,42,38,41,37,40,39,48],[45,51,44,36,43,35,33,28,34,27,25,20,26,19,12,18,11,3,10,2,1,0,6,9,5,4,8,7,15,17,14,13,16,22,24,21,23,30,32,29,31,42,38,41,37,40,39,50,47,49,46,48],[52,50,45,51,44,36,43,35,33,28,34,27,25,20,26,19,12,18,11,3,10,2,1,0,6,9,5,4,8,7,15,17,14,13,16,22,24,21,23,30,32,29,31,42,38,41,37,40,39,47,49,46,48],[53,52,50,45,51,44,36,43,35,33,28,34,27,25,20,26,19,12,18,11,3,10,2,1,0,6,9,5,4,8,7,15,17,14,13,16,22,24,21,23,30,32,29,31,42,38,41,37,40,39,47,49,46,48],[54,53,52,50,45,51,44,36,43,35,33,28,34,27,25,20,26,19,12,18,11,3,10,2,1,0,6,9,5,4,8,7,15,17,14,13,16,22,24,21,23,30,32,29,31,42,38,41,37,40,39,47,49,46,48],[53,52,50,45,51,44,36,43,35,33,28,34,27,25,20,26,19,12,18,11,3,10,2,1,0,6,9,5,4,8,7,15,17,14,13,16,22,24,21,23,30,32,29,31,42,38,41,37,40,39,47,49,46,48],[56,53,52,50,45,51,44,36,43,35,33,28,34,27,25,20,26,19,12,18,11,3,10,2,1,0,6,9,5,4,8,7,15,17,14,13,16,22,24,21,23,30,32,29,31,42,38,41,37,40,39,47,49,46,48],[55,57,53,54,52,50,45,51,44,36,43,35,33,28,34,27,25,20,26,19,12,18,11,3,10,2,1,0,6,9,5,4,8,7,15,17,14,13,16,22,24,21,23,30,32,29,31,42,38,41,37,40,39,47,49,46,48,56],[58,53,55,57,54,52,50,45,51,44,36,43,35,33,28,34,27,25,20,26,19,12,18,11,3,10,2,1,0,6,9,5,4,8,7,15,17,14,13,16,22,24,21,23,30,32,29,31,42,38,41,37,40,39,47,49,46,48,56],[53,59,52,50,45,51,44,36,43,35,33,28,34,27,25,20,26,19,12,18,11,3,10,2,1,0,6,9,5,4,8,7,15,17,14,13,16,22,24,21,23,30,32,29,31,42,38,41,37,40,39,47,49,46,48,58,55,57,54,56],[60,58,0,1,2,3,4,5,6,7,8,9,10,11,12,13,14,15,16,17,18,19,20,21,22,23,24,25,26,27,28,29,30,31,32,33,34,35,36,37,38,39,40,41,42,43,44,45,46,47,48,49,50,51,52,53,54,55,56,57,59]],[(0,none),(1,some []),(2,none),(3,none),(4,none),(5,none),(6,none),(7,none),(8,none),(9,none),(10,none),(11,none),(12,none),(13,none),(14,none),(15,none),(16,none),(17,none),(18,none),(19,none),(20,none),(21,none),(22,none),(23,none),(24,some [21,22]),(25,some []),(26,none),(27,none),(28,none),(29,none),(30,none),(31,none),(32,some [29,30]),(33,some []),(34,none),(35,none),(36,none),(37,none),(38,none),(39,none),(40,none),(41,none),(42,none),(43,none),(44,none),(45,none),(46,none),(48,none),(49,none),(47,some [48,49]),(50,some []),(51,none),(52,none),(53,none),(54,none),(56,none),(57,none),(55,some [56,57]),(58,some []),(59,none),(60,none),(61,some [])]⟩
def u16_3:IC:=.seq (.drw 62 u16_3r) .ret
def u16_2r:List IOper:=[oP 5 (.mv (.f 30))]
def u16_2:IC:=.seq (.reg u16_2r) u16_3
def u16_1r:List IOper:=[⟨some 2,.new (.box (.t 0)),none⟩,⟨some 3,.new (.box (.t 1)),none⟩,oP 4 (.mv (.k (.bool false)))]
def u16_1:IC:=.seq (.reg u16_1r) u16_2
def u16:IFn:=⟨67,u16_1,[.tmp 4]⟩
end
theorem isU16:IsFn Tryz.prog 16 u16:=by unfold IsFn;kernel_rfl
instance i16_3:WR Tryz.prog 67 u16_3 (rD 62 u16_3r .ret [2,3,5]):=⟨mkD⟩
instance i16_2:WR Tryz.prog 67 u16_2 (rS u16_2r u16_3 [2,3]):=⟨mkS⟩
instance i16_1:WR Tryz.prog 67 u16_1 (rS u16_1r u16_2 [0,1]):=⟨mkS⟩
attribute [go_sem] u16_3r u16_2r u16_1r
section
def u30_2r:List IOper:=[oP 3 (.mkf 31 [] [.t 1]),oM 2 3]
def u30_2:IC:=.seq (.reg u30_2r) .ret
def u30_1r:List IOper:=[⟨some 1,.new (.box (.t 0)),none⟩,oP 2 (.mv (.k .nilFunc))]
def u30_1:IC:=.seq (.reg u30_1r) u30_2
def u30:IFn:=⟨4,u30_1,[.tmp 2]⟩
end
theorem isU30:IsFn Tryz.prog 30 u30:=by unfold IsFn;kernel_rfl
instance i30_2:WR Tryz.prog 4 u30_2 (rS u30_2r .ret [1]):=⟨mkS⟩
instance i30_1:WR Tryz.prog 4 u30_1 (rS u30_1r u30_2 [0]):=⟨mkS⟩
attribute [go_sem] u30_2r u30_1r
section
def u31_2r:List IOper:=[oM 4 0,oL 5 1,oB 6 4 5 .lss,oM 7 6,⟨some 8,.pur (.mv (.t 0)),some (7,false)⟩,⟨some 9,.pur (.bin .gtr (.t 8) (.k (.int .i64 2147483647))),some (7,false)⟩,oP 10 (.pick (.t 7) (.k (.bool true)) (.t 9)),oM 3 10]
def u31_2:IC:=.seq (.reg u31_2r) .ret
def u31_1r:List IOper:=[oP 3 (.mv (.k (.bool false)))]
def u31_1:IC:=.seq (.reg u31_1r) u31_2
def u31:IFn:=⟨11,u31_1,[.tmp 3]⟩
end
theorem isU31:IsFn Tryz.prog 31 u31:=by unfold IsFn;kernel_rfl
instance i31_2:WR Tryz.prog 11 u31_2 (rS u31_2r .ret [0,1]):=⟨mkS⟩
instance i31_1:WR Tryz.prog 11 u31_1 (rS u31_1r u31_2 [0,1]):=⟨mkS⟩
attribute [go_sem] u31_2r u31_1r
theorem c_bad1 (least n:Int):PC Tryz.prog 31 [I64 n,.fptr [I64 least]] (.bool (badM least n)):=by
 refine PC.of mixedU isU31 (Nat.le_of_ble_eq_true rfl) (by simp [DV.nlL,DV.nl,nlL_ints,nlL_strs,nlL_instrs,nlL_entries,nlL_stp]) (by simp [DV.nlL,DV.nl,nlL_ints,nlL_strs,nlL_instrs,nlL_entries,nlL_stp]) ?_
 show IW Tryz.prog 11 u31_1 ⟨argT _,_,_⟩ (rt [.tmp 3] _)
 repeat' ((first|with_reducible refine wr ?_|((with_reducible refine wb2 ?_ ?_)<;>(intro hb;try simp only [hb]))|fail)<;>try simp only [go_sem,seval])
 all_goals (refine pc_ret ?_;simp_all [badM]<;>omega)
theorem c_bad (least:Int):PC Tryz.prog 30 [I64 least] (.func 31 [] [.fptr [I64 least]]):=by
 refine PC.of mixedU isU30 (Nat.le_of_ble_eq_true rfl) (by simp [DV.nlL,DV.nl,nlL_ints,nlL_strs,nlL_instrs,nlL_entries,nlL_stp]) (by simp [DV.nlL,DV.nl,nlL_ints,nlL_strs,nlL_instrs,nlL_entries,nlL_stp]) ?_
 show IW Tryz.prog 4 u30_1 ⟨argT _,_,_⟩ (rt [.tmp 2] _)
 repeat' ((first|with_reducible refine wr ?_|((with_reducible refine wb2 ?_ ?_)<;>(intro hb;try simp only [hb]))|fail)<;>try simp only [go_sem,seval])
 exact ⟨Sym.nil,GL.one (id:=0) h_same rfl (.cons _ _ _ _ (.func _ _ _ _ _ (FzL.refl _) (.cons _ _ _ _ (.ptr 0 _ (by simp) rfl) .nil)) .nil)⟩
theorem c_IsEnv (c:Prg) (e:Envr) (hs:∀ s∈c.strings,s.length≤140737488355328) (n1:c.instrs.length≤9223372036854775807) (n2:e.vars.length≤9223372036854775807) (n3:e.left.length≤9223372036854775807):PC Tryz.prog 16 [c.v,e.v] (.bool (isEnvM c e)):=by
 refine PC.of mixedU isU16 (Nat.le_of_ble_eq_true rfl) (by simp [DV.nlL,DV.nl,nlL_ints,nlL_strs,nlL_instrs,nlL_entries]) rfl ?_
 show IW Tryz.prog 67 u16_1 ⟨argT _,_,_⟩ (rt [.tmp 4] _)
 have cV:=c_CF_int e.vars n2 rfl rfl (g:=badM (-2147483647)) (f:=31) (a:=[]) (cs:=[.fptr [I64 (-2147483647)]]) (fun x _=>c_bad1 _ x)
 have cL:=c_CF_int e.left n3 rfl rfl (g:=badM 0) (f:=31) (a:=[]) (cs:=[.fptr [I64 0]]) (fun x _=>c_bad1 _ x)
 by_cases h0:validM c=0
 ·have z0:(validM c == 0)=true:=by simp [h0]
  obtain ⟨l1,l2,l3,l4,l5,l6⟩:=valid_lens h0
  have f1:binR .shr (.int .u32 (e.active:Int)) (.int .i64 (c.prios.length:Int))=some (.int .u32 ((e.active / 2 ^ c.prios.length:Nat):Int)):=shr_nat (by simp only [IntKind.bits];omega)
  have z1:((e.vars.length:Int) == (c.vars.length:Int))=decide (e.vars.length=c.vars.length):=by rw [Bool.eq_iff_iff];simp;omega
  have z2:((e.left.length:Int) == c.timers)=decide ((e.left.length:Int)=c.timers):=by rw [Bool.eq_iff_iff];simp
  have z3':∀ X:Nat,((X:Int) == 0)=decide (X=0):=fun X=>by rw [Bool.eq_iff_iff];simp
  have z3:=z3' (e.active / 2 ^ c.prios.length)
  have hM:isEnvM c e=(decide (e.vars.length=c.vars.length) && decide ((e.left.length:Int)=c.timers) && !e.vars.any (badM (-2147483647)) && !e.left.any (badM 0) && decide (e.active / 2 ^ c.prios.length=0) && !badM 0 e.player && !badM 0 e.ball):=by simp [isEnvM,h0]
  rw [hM]
  have cP:=c_bad1 0 e.player
  have cQ:=c_bad1 0 e.ball
  generalize decide (e.vars.length=c.vars.length)=b1 at *
  generalize decide ((e.left.length:Int)=c.timers)=b2 at *
  generalize e.vars.any (badM (-2147483647))=b3 at *
  generalize e.left.any (badM 0)=b4 at *
  generalize decide (e.active / 2 ^ c.prios.length=0)=b5 at *
  generalize badM 0 e.player=b6 at *
  generalize badM 0 e.ball=b7 at *
  have cB:=c_valid c hs n1
  cases b1
  ·repeat' ((first|with_reducible refine wr ?_|((with_reducible refine wb2 ?_ ?_)<;>(intro hb;try simp only [hb]))|((with_reducible refine AC.call ((cB).at _ _) ?_);rintro _ _ _ ⟨rfl,rfl,rfl⟩ -)|((with_reducible refine AC.call ((c_bad _).at _ _) ?_);rintro _ _ _ ⟨rfl,rfl,rfl⟩ -)|((with_reducible refine AC.call ((cV).at _ _) ?_);rintro _ _ _ ⟨rfl,rfl,rfl⟩ -)|((with_reducible refine AC.call ((cL).at _ _) ?_);rintro _ _ _ ⟨rfl,rfl,rfl⟩ -)|((with_reducible refine AC.call ((cP).at _ _) ?_);rintro _ _ _ ⟨rfl,rfl,rfl⟩ -)|((with_reducible refine AC.call ((cQ).at _ _) ?_);rintro _ _ _ ⟨rfl,rfl,rfl⟩ -)|fail)<;>try simp only [go_sem,seval,z0,z1,z2,z3,f1])
   exact pc_ret (by simp)
  cases b2
  ·repeat' ((first|with_reducible refine wr ?_|((with_reducible refine wb2 ?_ ?_)<;>(intro hb;try simp only [hb]))|((with_reducible refine AC.call ((cB).at _ _) ?_);rintro _ _ _ ⟨rfl,rfl,rfl⟩ -)|((with_reducible refine AC.call ((c_bad _).at _ _) ?_);rintro _ _ _ ⟨rfl,rfl,rfl⟩ -)|((with_reducible refine AC.call ((cV).at _ _) ?_);rintro _ _ _ ⟨rfl,rfl,rfl⟩ -)|((with_reducible refine AC.call ((cL).at _ _) ?_);rintro _ _ _ ⟨rfl,rfl,rfl⟩ -)|((with_reducible refine AC.call ((cP).at _ _) ?_);rintro _ _ _ ⟨rfl,rfl,rfl⟩ -)|((with_reducible refine AC.call ((cQ).at _ _) ?_);rintro _ _ _ ⟨rfl,rfl,rfl⟩ -)|fail)<;>try simp only [go_sem,seval,z0,z1,z2,z3,f1])
   exact pc_ret (by simp)
  cases b3
  case true =>
   repeat' ((first|with_reducible refine wr ?_|((with_reducible refine wb2 ?_ ?_)<;>(intro hb;try simp only [hb]))|((with_reducible refine AC.call ((cB).at _ _) ?_);rintro _ _ _ ⟨rfl,rfl,rfl⟩ -)|((with_reducible refine AC.call ((c_bad _).at _ _) ?_);rintro _ _ _ ⟨rfl,rfl,rfl⟩ -)|((with_reducible refine AC.call ((cV).at _ _) ?_);rintro _ _ _ ⟨rfl,rfl,rfl⟩ -)|((with_reducible refine AC.call ((cL).at _ _) ?_);rintro _ _ _ ⟨rfl,rfl,rfl⟩ -)|((with_reducible refine AC.call ((cP).at _ _) ?_);rintro _ _ _ ⟨rfl,rfl,rfl⟩ -)|((with_reducible refine AC.call ((cQ).at _ _) ?_);rintro _ _ _ ⟨rfl,rfl,rfl⟩ -)|fail)<;>try simp only [go_sem,seval,z0,z1,z2,z3,f1])
   exact pc_ret (by simp)
  cases b4
  case true =>
   repeat' ((first|with_reducible refine wr ?_|((with_reducible refine wb2 ?_ ?_)<;>(intro hb;try simp only [hb]))|((with_reducible refine AC.call ((cB).at _ _) ?_);rintro _ _ _ ⟨rfl,rfl,rfl⟩ -)|((with_reducible refine AC.call ((c_bad _).at _ _) ?_);rintro _ _ _ ⟨rfl,rfl,rfl⟩ -)|((with_reducible refine AC.call ((cV).at _ _) ?_);rintro _ _ _ ⟨rfl,rfl,rfl⟩ -)|((with_reducible refine AC.call ((cL).at _ _) ?_);rintro _ _ _ ⟨rfl,rfl,rfl⟩ -)|((with_reducible refine AC.call ((cP).at _ _) ?_);rintro _ _ _ ⟨rfl,rfl,rfl⟩ -)|((with_reducible refine AC.call ((cQ).at _ _) ?_);rintro _ _ _ ⟨rfl,rfl,rfl⟩ -)|fail)<;>try simp only [go_sem,seval,z0,z1,z2,z3,f1])
   exact pc_ret (by simp)
  cases b5
  ·repeat' ((first|with_reducible refine wr ?_|((with_reducible refine wb2 ?_ ?_)<;>(intro hb;try simp only [hb]))|((with_reducible refine AC.call ((cB).at _ _) ?_);rintro _ _ _ ⟨rfl,rfl,rfl⟩ -)|((with_reducible refine AC.call ((c_bad _).at _ _) ?_);rintro _ _ _ ⟨rfl,rfl,rfl⟩ -)|((with_reducible refine AC.call ((cV).at _ _) ?_);rintro _ _ _ ⟨rfl,rfl,rfl⟩ -)|((with_reducible refine AC.call ((cL).at _ _) ?_);rintro _ _ _ ⟨rfl,rfl,rfl⟩ -)|((with_reducible refine AC.call ((cP).at _ _) ?_);rintro _ _ _ ⟨rfl,rfl,rfl⟩ -)|((with_reducible refine AC.call ((cQ).at _ _) ?_);rintro _ _ _ ⟨rfl,rfl,rfl⟩ -)|fail)<;>try simp only [go_sem,seval,z0,z1,z2,z3,f1])
   exact pc_ret (by simp)
  cases b6
  case true =>
   repeat' ((first|with_reducible refine wr ?_|((with_reducible refine wb2 ?_ ?_)<;>(intro hb;try simp only [hb]))|((with_reducible refine AC.call ((cB).at _ _) ?_);rintro _ _ _ ⟨rfl,rfl,rfl⟩ -)|((with_reducible refine AC.call ((c_bad _).at _ _) ?_);rintro _ _ _ ⟨rfl,rfl,rfl⟩ -)|((with_reducible refine AC.call ((cV).at _ _) ?_);rintro _ _ _ ⟨rfl,rfl,rfl⟩ -)|((with_reducible refine AC.call ((cL).at _ _) ?_);rintro _ _ _ ⟨rfl,rfl,rfl⟩ -)|((with_reducible refine AC.call ((cP).at _ _) ?_);rintro _ _ _ ⟨rfl,rfl,rfl⟩ -)|((with_reducible refine AC.call ((cQ).at _ _) ?_);rintro _ _ _ ⟨rfl,rfl,rfl⟩ -)|fail)<;>try simp only [go_sem,seval,z0,z1,z2,z3,f1])
   exact pc_ret (by simp)
  repeat' ((first|with_reducible refine wr ?_|((with_reducible refine wb2 ?_ ?_)<;>(intro hb;try simp only [hb]))|((with_reducible refine AC.call ((cB).at _ _) ?_);rintro _ _ _ ⟨rfl,rfl,rfl⟩ -)|((with_reducible refine AC.call ((c_bad _).at _ _) ?_);rintro _ _ _ ⟨rfl,rfl,rfl⟩ -)|((with_reducible refine AC.call ((cV).at _ _) ?_);rintro _ _ _ ⟨rfl,rfl,rfl⟩ -)|((with_reducible refine AC.call ((cL).at _ _) ?_);rintro _ _ _ ⟨rfl,rfl,rfl⟩ -)|((with_reducible refine AC.call ((cP).at _ _) ?_);rintro _ _ _ ⟨rfl,rfl,rfl⟩ -)|((with_reducible refine AC.call ((cQ).at _ _) ?_);rintro _ _ _ ⟨rfl,rfl,rfl⟩ -)|fail)<;>try simp only [go_sem,seval,z0,z1,z2,z3,f1])
  exact pc_ret (by simp)
 ·have z0:(validM c == 0)=false:=by simp [h0]
  repeat' ((first|with_reducible refine wr ?_|((with_reducible refine wb2 ?_ ?_)<;>(intro hb;try simp only [hb]))|((with_reducible refine AC.call ((c_valid c hs n1).at _ _) ?_);rintro _ _ _ ⟨rfl,rfl,rfl⟩ -)|fail)<;>try simp only [go_sem,seval,z0])
  refine pc_ret ?_
  simp [isEnvM,z0]
end Go.Proofs.YtcallbfckjlagaaGreat
namespace Go.Sym
variable {P:Program}
section
open Go.Eng (IC)
variable {N:Nat} {x:IC} {T:Tm} {H:Hp} {c:Nat} {Q:Exit→St→Prop}
end
section
open Go.Eng (AOp)
variable {c0:Nat} {T:Tm} {H:Hp}
def agN (T:Tm) (H:Hp) (d n:Nat):Option (Option Nat × Blk)→Prop
 | some (k,b)=>T d=mkv n k∧H n=some b
 | none=>False
theorem ag_n' {j d:Nat} {f:AOp}:agK c0 j T H (some d) (.new f) (some true)=agN T H d (c0+j) (aev (ev T) f):=by
 simp only [agK,agN]
 cases aev (ev T) f with
 | none=>simp
 | some x=>obtain ⟨k,b⟩:=x;simp
theorem agN_s {d n:Nat} {k:Option Nat} {b:Blk}:agN T H d n (some (k,b))=(T d=mkv n k∧H n=some b):=propext Iff.rfl
end
attribute [go_sem] ag_n' agN_s
end Go.Sym
namespace Go.Pb
open Go.Sym
theorem vHts_hts {c:Prg} (h0:validM c=0):Hts c (vHts c)∧jumpsM c=true∧c.instrs.length≤4000:=by
 obtain ⟨hL,hj,h,hh⟩:=valid_0 h0
 have hl:=(Lim.of hL).li
 have hs:=hR_says hl hj
 rw [hh] at hs
 have e:vHts c=h:=by unfold vHts;rw [if_pos h0,hh];rfl
 rw [e];exact ⟨hs,hj,hl⟩
end Go.Pb
namespace Go.Pb
open Go.Sym
def Wi (n:Int):Prop := -2147483647≤n∧n≤2147483647
theorem bitM_wi (b:Bool):Wi (bitM b):=by cases b<;>exact ⟨by decide,by decide⟩
theorem unM_wi (k a:Int):Wi (unM k a):=by
 unfold unM
 have:=clM_bd a
 split
 ·exact ⟨by omega,by omega⟩
 ·split
  ·exact bitM_wi _
  ·exact ⟨by decide,by decide⟩
theorem rem_wi {A B:Int} (a:Wi A):Wi (A.tmod B):=by
 have h:(A.tmod B).natAbs≤A.natAbs:=by
  rw [Int.natAbs_tmod]
  exact Nat.mod_le _ _
 have:=a.1
 have:=a.2
 exact ⟨by omega,by omega⟩
theorem wi_ite {p:Prop} [Decidable p] {a b:Int} (ha:Wi a) (hb:Wi b):Wi (if p then a else b):=by
 by_cases h:p
 ·rw [if_pos h];exact ha
 ·rw [if_neg h];exact hb
theorem binM_wi (k a b:Int):Wi (binM k a b):=by
 unfold binM bzM
 have hA:Wi (clM a):=clM_bd a
 have hB:Wi (clM b):=clM_bd b
 have z:Wi 0:=⟨by decide,by decide⟩
 have hq:Wi ((clM a).tdiv (clM b)):=quo_bd hA
 have hr:Wi ((clM a).tmod (clM b)):=rem_wi hA
 repeat' (first|exact clM_bd _|exact bitM_wi _|exact z|exact hq|exact hr|refine wi_ite ?_ ?_)
structure Inv (c:Prg) (x:Mch):Prop where
 rch:x.done=false→Rch c x.pc (x.stk.length:Int)
 vl:x.vars.length=c.vars.length
 sb:∀ n∈x.stk,Wi n
 vb:∀ n∈x.vars,Wi n
 fin:x.done=true→x.stk=[]
structure EnvOk (c:Prg) (e:Envr):Prop where
 val:validM c=0
 vl:e.vars.length=c.vars.length
 ll:(e.left.length:Int)=c.timers
 vb:∀ n∈e.vars,Wi n
 lb:∀ n∈e.left,Wi n
 pl:Wi e.player
 ba:Wi e.ball
theorem EnvOk.of {c:Prg} {e:Envr} (h:isEnvM c e=true):EnvOk c e:=by
 simp only [isEnvM,Bool.and_eq_true,beq_iff_eq,decide_eq_true_eq,Bool.not_eq_true',List.any_eq_false,badM,Bool.or_eq_false_iff,decide_eq_false_iff_not] at h
 obtain ⟨⟨⟨⟨⟨⟨⟨h1,h2⟩,h3⟩,h4⟩,h5⟩,h6⟩,h7⟩,h8⟩:=h
 simp only [Bool.or_eq_true,decide_eq_true_eq] at h4 h5
 refine ⟨h1,h2,h3,fun n hn=>?_,fun n hn=>?_,⟨by omega,by omega⟩,⟨by omega,by omega⟩⟩
 ·have:=h4 n hn;exact ⟨by omega,by omega⟩
 ·have:=h5 n hn;exact ⟨by omega,by omega⟩
def nx (x:Mch):Mch:={ x with pc:=x.pc+1 }
section
variable {c:Prg} {e:Envr} {x:Mch}
theorem Inv.ok (hE:EnvOk c e) (h:Inv c x) (hd:x.done=false) (he:x.effs.length≤1000) (hc:e.closed<18446744073709551616) (ha:e.active<4294967296):StepOk c e x (c.ins x.pc):=by
 obtain ⟨hH,hj,hl⟩:=vHts_hts hE.val
 obtain ⟨hL,hp, -⟩:=valid_all hE.val
 obtain ⟨hO, -⟩:=hH.all _ _ (h.rch hd)
 obtain ⟨o1,o2,o3,o4⟩:=hO
 have hg:c.instrs[x.pc]? = some (c.ins x.pc):=by
  show _=some (c.instrs.getD x.pc ⟨0,0⟩)
  rw [List.getD,List.getElem?_eq_getElem o1];rfl
 have hm:=List.mem_of_getElem? hg
 refine ⟨hL,hg,?_,jump_bd hj _ hm,o3,hE.ll,h.vl,by omega,he,fun n hn=>h.sb n hn,hc,ha⟩
 simp only [partsM,Bool.and_eq_true,List.all_eq_true] at hp
 exact hp.2 _ hm
theorem inv_push {n:Int} (h:Inv c x) (hr:Rch c (x.pc+1) ((x.stk.length:Int)+1)) (hd:x.done=false) (hn:Wi n):Inv c ((nx x).push n) :=
 ⟨fun _=>by
  show Rch c (x.pc+1) (((n :: x.stk).length:Nat):Int)
  rw [List.length_cons];push_cast;exact hr,h.vl,fun k hk=>by
  rcases List.mem_cons.1 hk with rfl|hk
  ·exact hn
  ·exact h.sb k hk,h.vb,fun hd'=>by
  have:x.done=true:=hd'
  rw [hd] at this;cases this⟩
theorem inv_to {z:Mch} (h:Inv c x) (hd:z.done=false) (hr:Rch c z.pc (z.stk.length:Int)) (hv:z.vars=x.vars) (hs:∀ n∈z.stk,Wi n):Inv c z :=
 ⟨fun _=>hr,by rw [hv];exact h.vl,hs,by rw [hv];exact h.vb,fun hd'=>by rw [hd] at hd';cases hd'⟩
theorem top_cons {n:Int} {S:List Int} (hS:x.stk=n :: S):(nx x).top=n:=by show x.stk.headD 0=n;rw [hS];rfl
theorem pop_cons {n:Int} {S:List Int} (hS:x.stk=n :: S):(nx x).pop.stk=S:=by show x.stk.tail=S;rw [hS];rfl
theorem st_one (h:1≤(x.stk.length:Int)):∃ n S,x.stk=n :: S:=by
 cases hx:x.stk with
 | nil=>rw [hx] at h;simp at h
 | cons n S=>exact ⟨n,S,rfl⟩
theorem st_two (h:2≤(x.stk.length:Int)):∃ n n2 S,x.stk=n :: n2 :: S:=by
 match hx:x.stk with
 | []=>rw [hx] at h;simp at h
 | [_]=>rw [hx] at h;simp at h
 | n :: n2 :: S=>exact ⟨n,n2,S,rfl⟩
theorem getD_wi {l:List Int} (h:∀ n∈l,Wi n) (a:Nat):Wi (l.getD a 0):=by
 rw [List.getD]
 cases hg:l[a]? with
 | none=>exact ⟨by decide,by decide⟩
 | some n=>exact h n (List.mem_of_getElem? hg)
theorem set_wi {l:List Int} (h:∀ n∈l,Wi n) {a:Nat} {k:Int} (hk:Wi k):∀ n∈l.set a k,Wi n:=by
 intro n hn
 rcases List.mem_or_eq_of_mem_set hn with h1|h1
 ·exact h n h1
 ·rw [h1];exact hk
theorem mod2_wi (q:Nat):Wi ((q % 2:Nat):Int):=⟨by omega,by omega⟩
theorem Inv.step (hE:EnvOk c e) (h:Inv c x) (hd:x.done=false):Inv c (stepM c e x):=by
 obtain ⟨hH,hj,hl⟩:=vHts_hts hE.val
 obtain ⟨hL,hp, -⟩:=valid_all hE.val
 have hR:=h.rch hd
 obtain ⟨hO, -⟩:=hH.all _ _ hR
 have key:∀ q z,(q,z)∈afterM (c.ins x.pc) x.pc (x.stk.length:Int)→Rch c q z:=fun q z hs=>.step hR hO hs
 obtain ⟨o1,o2,o3,o4⟩:=hO
 have hg:c.instrs[x.pc]? = some (c.ins x.pc):=by
  show _=some (c.instrs.getD x.pc ⟨0,0⟩)
  rw [List.getD,List.getElem?_eq_getElem o1];rfl
 have hm:=List.mem_of_getElem? hg
 have hnum:numberM c (c.ins x.pc)=true:=by
  simp only [partsM,Bool.and_eq_true,List.all_eq_true] at hp
  exact hp.2 _ hm
 have hst:stepM c e x=opM c e (c.ins x.pc).op (c.ins x.pc).A (nx x):=rfl
 rw [hst]
 generalize c.ins x.pc=i at *
 obtain ⟨op,A⟩:=i
 have ho:1≤op∧op≤31:=by
  by_cases g:1≤op∧op≤31
  ·exact g
  ·have:effM op=(0,0, -1):=by
    unfold effM
    repeat rw [if_neg (by omega)]
   simp only [numberM,this] at hnum
   exact absurd hnum (by simp [kindM])
 obtain ⟨p1,p2⟩:=ho
 obtain ⟨k,rfl⟩:∃ k:Nat,op=(k:Int):=⟨op.toNat,by omega⟩
 have hk:k<32:=by omega
 clear hst hg hm p2
 have psh:∀ n,Wi n→Rch c (x.pc+1) ((x.stk.length:Int)+1)→Inv c ((nx x).push n):=fun n hn hr=>inv_push h hr hd hn
 match k,hk,p1 with
 | 1,_,_=>exact psh A (by
   have h3:inM A (-2147483647) 2147483647=true:=hnum
   simp only [inM,Bool.and_eq_true,decide_eq_true_eq] at h3;exact h3) (key _ _ (by simp [afterM,effM]))
 | 2,_,_=>exact psh _ (getD_wi h.vb _) (key _ _ (by simp [afterM,effM]))
 | 4,_,_=>exact psh _ (mod2_wi _) (key _ _ (by simp [afterM,effM]))
 | 5,_,_=>exact psh _ (mod2_wi _) (key _ _ (by simp [afterM,effM]))
 | 6,_,_=>exact psh _ (getD_wi hE.lb _) (key _ _ (by simp [afterM,effM]))
 | 7,_,_=>exact psh _ hE.pl (key _ _ (by simp [afterM,effM]))
 | 8,_,_=>exact psh _ hE.ba (key _ _ (by simp [afterM,effM]))
 | 3,_,_ =>
  show Inv c (opM c e 3 A (nx x))
  obtain ⟨n,S,hS⟩:=st_one (x:=x) o3
  have hl1:(x.stk.length:Int)=(S.length:Int)+1:=by rw [hS];simp
  have hb:=fun k hk=>h.sb k (by rw [hS];exact List.mem_cons_of_mem _ hk)
  have hb1:=h.sb n (by rw [hS];exact List.mem_cons_self)
  have hz:(opM c e 3 A (nx x)).stk=S:=pop_cons hS
  refine ⟨fun _=>?_,?_,?_,?_,fun hd'=>?_⟩
  ·rw [hz];exact key _ _ (by simp [afterM,effM,hl1];rfl)
  ·show (x.vars.set A.toNat _).length=_;rw [List.length_set];exact h.vl
  ·rw [hz];exact hb
  ·show ∀ k∈x.vars.set A.toNat (nx x).top,Wi k
   rw [top_cons hS];exact set_wi h.vb hb1
  ·have:x.done=true:=hd'
   rw [hd] at this;cases this
 | 9,_,_ =>
  show Inv c (opM c e 9 A (nx x))
  obtain ⟨n,S,hS⟩:=st_one (x:=x) o3
  have hl1:(x.stk.length:Int)=(S.length:Int)+1:=by rw [hS];simp
  have hb:=fun k hk=>h.sb k (by rw [hS];exact List.mem_cons_of_mem _ hk)
  have hb1:=h.sb n (by rw [hS];exact List.mem_cons_self)
  have hz:(opM c e 9 A (nx x)).stk=unM 10 (nx x).top :: S:=congrArg (_ :: ·) (pop_cons hS)
  refine inv_to h hd ?_ rfl (fun k hk=>?_)
  ·rw [hz];exact key _ _ (by simp [afterM,effM,hl1];rfl)
  ·rw [hz] at hk
   rcases List.mem_cons.1 hk with rfl|hk
   ·exact unM_wi _ _
   ·exact hb k hk
 | 10,_,_ =>
  show Inv c (opM c e 10 A (nx x))
  obtain ⟨n,S,hS⟩:=st_one (x:=x) o3
  have hl1:(x.stk.length:Int)=(S.length:Int)+1:=by rw [hS];simp
  have hb:=fun k hk=>h.sb k (by rw [hS];exact List.mem_cons_of_mem _ hk)
  have hb1:=h.sb n (by rw [hS];exact List.mem_cons_self)
  have hz:(opM c e 10 A (nx x)).stk=unM 11 (nx x).top :: S:=congrArg (_ :: ·) (pop_cons hS)
  refine inv_to h hd ?_ rfl (fun k hk=>?_)
  ·rw [hz];exact key _ _ (by simp [afterM,effM,hl1];rfl)
  ·rw [hz] at hk
   rcases List.mem_cons.1 hk with rfl|hk
   ·exact unM_wi _ _
   ·exact hb k hk
 | 11,_,_ =>
  show Inv c (opM c e 11 A (nx x))
  obtain ⟨n,n2,S,hS⟩:=st_two (x:=x) o3
  have hl1:(x.stk.length:Int)=(S.length:Int)+2:=by rw [hS];simp;omega
  have hb:=fun k hk=>h.sb k (by rw [hS];exact List.mem_cons_of_mem _ (List.mem_cons_of_mem _ hk))
  have hz:(opM c e 11 A (nx x)).stk=binM A (nx x).pop.top (nx x).top :: S:=congrArg (_ :: ·) (by show x.stk.tail.tail=S;rw [hS];rfl)
  refine inv_to h hd ?_ rfl (fun k hk=>?_)
  ·rw [hz];exact key _ _ (by simp [afterM,effM,hl1];first|rfl|exact ⟨rfl,by omega⟩|omega)
  ·rw [hz] at hk
   rcases List.mem_cons.1 hk with rfl|hk
   ·exact binM_wi _ _ _
   ·exact hb k hk
 | 12,_,_=>exact inv_to (z:={ nx x with pc:=A.toNat }) h hd (key _ _ (by simp [afterM];rfl)) rfl h.sb
 | 13,_,_ =>
  show Inv c (opM c e 13 A (nx x))
  obtain ⟨n,S,hS⟩:=st_one (x:=x) o3
  have hl1:(x.stk.length:Int)=(S.length:Int)+1:=by rw [hS];simp
  have hb:=fun k hk=>h.sb k (by rw [hS];exact List.mem_cons_of_mem _ hk)
  have hb1:=h.sb n (by rw [hS];exact List.mem_cons_self)
  show Inv c (if (nx x).top=0 then { (nx x).pop with pc:=A.toNat } else (nx x).pop)
  split
  ·refine inv_to h hd ?_ rfl (fun k hk=>?_)
   ·show Rch c A.toNat (((nx x).pop.stk.length:Nat):Int)
    rw [pop_cons hS];exact key _ _ (by simp [afterM,hl1])
   ·have hk':k∈(nx x).pop.stk:=hk
    rw [pop_cons hS] at hk';exact hb k hk'
  ·refine inv_to h hd ?_ rfl (fun k hk=>?_)
   ·rw [pop_cons hS];exact key _ _ (by simp [afterM,hl1];exact .inl rfl)
   ·rw [pop_cons hS] at hk;exact hb k hk
 | 14,_,_ =>
  show Inv c (opM c e 14 A (nx x))
  obtain ⟨n,S,hS⟩:=st_one (x:=x) o3
  have hl1:(x.stk.length:Int)=(S.length:Int)+1:=by rw [hS];simp
  have hb:=fun k hk=>h.sb k (by rw [hS];exact List.mem_cons_of_mem _ hk)
  have hb1:=h.sb n (by rw [hS];exact List.mem_cons_self)
  show Inv c (if (nx x).top≤0 then { (nx x).pop with pc:=A.toNat } else (nx x).pop.push ((nx x).top-1))
  rw [top_cons hS]
  split
  ·refine inv_to h hd ?_ rfl (fun k hk=>?_)
   ·show Rch c A.toNat (((nx x).pop.stk.length:Nat):Int)
    rw [pop_cons hS];exact key _ _ (by simp [afterM,hl1])
   ·have hk':k∈(nx x).pop.stk:=hk
    rw [pop_cons hS] at hk';exact hb k hk'
  ·rename_i hn
   have hz:((nx x).pop.push (n-1)).stk=(n-1) :: S:=congrArg (_ :: ·) (pop_cons hS)
   refine inv_to h hd ?_ rfl (fun k hk=>?_)
   ·rw [hz];exact key _ _ (by simp [afterM,hl1];exact .inl rfl)
   ·rw [hz] at hk
    rcases List.mem_cons.1 hk with rfl|hk
    ·have:=hb1.1;have:=hb1.2;exact ⟨by omega,by omega⟩
    ·exact hb k hk
 | 15,_,_ =>
  show Inv c (opM c e 15 A (nx x))
  obtain ⟨n,S,hS⟩:=st_one (x:=x) o3
  have hl1:(x.stk.length:Int)=(S.length:Int)+1:=by rw [hS];simp
  have hb:=fun k hk=>h.sb k (by rw [hS];exact List.mem_cons_of_mem _ hk)
  have hb1:=h.sb n (by rw [hS];exact List.mem_cons_self)
  have hz:(opM c e 15 A (nx x)).stk=S:=pop_cons hS
  refine inv_to h hd ?_ rfl (fun k hk=>?_)
  ·rw [hz];exact key _ _ (by simp [afterM,effM,hl1];rfl)
  ·rw [hz] at hk;exact hb k hk
 | 19,_,_ =>
  show Inv c (opM c e 19 A (nx x))
  obtain ⟨n,S,hS⟩:=st_one (x:=x) o3
  have hl1:(x.stk.length:Int)=(S.length:Int)+1:=by rw [hS];simp
  have hb:=fun k hk=>h.sb k (by rw [hS];exact List.mem_cons_of_mem _ hk)
  have hb1:=h.sb n (by rw [hS];exact List.mem_cons_self)
  have hz:(opM c e 19 A (nx x)).stk=S:=pop_cons hS
  refine inv_to h hd ?_ rfl (fun k hk=>?_)
  ·rw [hz];exact key _ _ (by simp [afterM,effM,hl1];rfl)
  ·rw [hz] at hk;exact hb k hk
 | 21,_,_ =>
  show Inv c (opM c e 21 A (nx x))
  obtain ⟨n,S,hS⟩:=st_one (x:=x) o3
  have hl1:(x.stk.length:Int)=(S.length:Int)+1:=by rw [hS];simp
  have hb:=fun k hk=>h.sb k (by rw [hS];exact List.mem_cons_of_mem _ hk)
  have hb1:=h.sb n (by rw [hS];exact List.mem_cons_self)
  have hz:(opM c e 21 A (nx x)).stk=S:=pop_cons hS
  refine inv_to h hd ?_ rfl (fun k hk=>?_)
  ·rw [hz];exact key _ _ (by simp [afterM,effM,hl1];rfl)
  ·rw [hz] at hk;exact hb k hk
 | 29,_,_ =>
  show Inv c (opM c e 29 A (nx x))
  obtain ⟨n,S,hS⟩:=st_one (x:=x) o3
  have hl1:(x.stk.length:Int)=(S.length:Int)+1:=by rw [hS];simp
  have hb:=fun k hk=>h.sb k (by rw [hS];exact List.mem_cons_of_mem _ hk)
  have hb1:=h.sb n (by rw [hS];exact List.mem_cons_self)
  have hz:(opM c e 29 A (nx x)).stk=S:=pop_cons hS
  refine inv_to h hd ?_ rfl (fun k hk=>?_)
  ·rw [hz];exact key _ _ (by simp [afterM,effM,hl1];rfl)
  ·rw [hz] at hk;exact hb k hk
 | 20,_,_ =>
  show Inv c (opM c e 20 A (nx x))
  obtain ⟨n,n2,S,hS⟩:=st_two (x:=x) o3
  have hl1:(x.stk.length:Int)=(S.length:Int)+2:=by rw [hS];simp;omega
  have hb:=fun k hk=>h.sb k (by rw [hS];exact List.mem_cons_of_mem _ (List.mem_cons_of_mem _ hk))
  have hz:(opM c e 20 A (nx x)).stk=S:=by show x.stk.tail.tail=S;rw [hS];rfl
  refine inv_to h hd ?_ rfl (fun k hk=>?_)
  ·rw [hz];exact key _ _ (by simp [afterM,effM,hl1];first|rfl|exact ⟨rfl,by omega⟩|omega)
  ·rw [hz] at hk;exact hb k hk
 | 31,_,_ =>
  show Inv c (opM c e 31 A (nx x))
  have h0:(x.stk.length:Int)=0:=Classical.byContradiction fun hne=>o4 ⟨rfl,hne⟩
  have h1:x.stk=[]:=List.eq_nil_of_length_eq_zero (by omega)
  exact ⟨fun hd'=>(by cases hd'),h.vl,h.sb,h.vb,fun _=>h1⟩
 | 16,_,_=>exact inv_to (z:=opM c e 16 A (nx x)) h hd (key _ _ (by simp [afterM,effM];exact ⟨rfl,rfl⟩)) rfl h.sb
 | 17,_,_=>exact inv_to (z:=opM c e 17 A (nx x)) h hd (key _ _ (by simp [afterM,effM];exact ⟨rfl,rfl⟩)) rfl h.sb
 | 18,_,_=>exact inv_to (z:=opM c e 18 A (nx x)) h hd (key _ _ (by simp [afterM,effM];exact ⟨rfl,rfl⟩)) rfl h.sb
 | 22,_,_=>exact inv_to (z:=opM c e 22 A (nx x)) h hd (key _ _ (by simp [afterM,effM];exact ⟨rfl,rfl⟩)) rfl h.sb
 | 23,_,_=>exact inv_to (z:=opM c e 23 A (nx x)) h hd (key _ _ (by simp [afterM,effM];exact ⟨rfl,rfl⟩)) rfl h.sb
 | 24,_,_=>exact inv_to (z:=opM c e 24 A (nx x)) h hd (key _ _ (by simp [afterM,effM];exact ⟨rfl,rfl⟩)) rfl h.sb
 | 25,_,_=>exact inv_to (z:=opM c e 25 A (nx x)) h hd (key _ _ (by simp [afterM,effM];exact ⟨rfl,rfl⟩)) rfl h.sb
 | 26,_,_=>exact inv_to (z:=opM c e 26 A (nx x)) h hd (key _ _ (by simp [afterM,effM];exact ⟨rfl,rfl⟩)) rfl h.sb
 | 27,_,_=>exact inv_to (z:=opM c e 27 A (nx x)) h hd (key _ _ (by simp [afterM,effM];exact ⟨rfl,rfl⟩)) rfl h.sb
 | 28,_,_=>exact inv_to (z:=opM c e 28 A (nx x)) h hd (key _ _ (by simp [afterM,effM];exact ⟨rfl,rfl⟩)) rfl h.sb
 | 30,_,_=>exact inv_to (z:=opM c e 30 A (nx x)) h hd (key _ _ (by simp [afterM,effM];exact ⟨rfl,rfl⟩)) rfl h.sb
end
end Go.Pb
namespace Go.Pb
open Go.Sym
def exM (c:Prg) (e:Envr):Nat→Mch→Nat→Mch × Nat
 | 0,x,n=>(x,n)
 | f+1,x,n=>if x.done=true∨x.effs.length>256 then (x,n) else exM c e f (stepM c e x) (n+1)
def mch0 (e:Envr) (p:Nat):Mch:=⟨p,false,e.vars,[],[]⟩
def begM (c:Prg) (e:Envr) (at_ b:Int):Int:=if isEnvM c e=false then 1 else if c.entries.any (fun x=>decide (x.pos=at_))=false then 54 else if b<0∨b>1000 then 5 else 0
def execM (c:Prg) (e:Envr) (at_ b:Int):List Int × List Eff × Nat × Int :=
 if begM c e at_ b≠0 then ([],[],0,begM c e at_ b)
 else if (exM c e b.toNat (mch0 e at_.toNat) 0).1.done=false∨(exM c e b.toNat (mch0 e at_.toNat) 0).1.effs.length>256 then ([],[],0,52)
 else ((exM c e b.toNat (mch0 e at_.toNat) 0).1.vars,(exM c e b.toNat (mch0 e at_.toNat) 0).1.effs,(exM c e b.toNat (mch0 e at_.toNat) 0).2,0)
abbrev effsV (l:List Eff):DV:=.lst (l.map Eff.v)
def exV (q:List Int × List Eff × Nat × Int):DV:=.tup [ints q.1,effsV q.2.1,I64 (q.2.2.1:Int),I64 q.2.2.2]
theorem exM_stop {c:Prg} {e:Envr} {f n:Nat} {x:Mch} (h:f=0∨x.done=true∨x.effs.length>256):exM c e f x n=(x,n):=by
 cases f with
 | zero=>rfl
 | succ f=>rw [exM,if_pos (h.resolve_left (by omega))]
theorem exM_go {c:Prg} {e:Envr} {f n:Nat} {x:Mch} (h1:x.done=false) (h2:x.effs.length≤256):exM c e (f+1) x n=exM c e f (stepM c e x) (n+1):=by
 rw [exM,if_neg (by rw [h1];simp;omega)]
theorem mch0_inv {c:Prg} {e:Envr} {p:Nat} (hE:EnvOk c e) {x:Ent} (hx:x∈c.entries) (hp:x.pos=(p:Int)):Inv c (mch0 e p):=by
 have h:=Rch.ent hx
 rw [hp,Int.toNat_natCast] at h
 exact ⟨fun _=>h,hE.vl,fun n hn=>(by cases hn),hE.vb,fun _=>rfl⟩
def Few (k:Nat) (y:Mch):Prop:=y.effs.length≤k
theorem few_ite {k:Nat} {p:Prop} [Decidable p] {a b:Mch} (ha:Few k a) (hb:Few k b):Few k (if p then a else b):=by
 by_cases h:p
 ·rw [if_pos h];exact ha
 ·rw [if_neg h];exact hb
theorem eff_step {c:Prg} {e:Envr} {x:Mch}:(stepM c e x).effs.length≤x.effs.length+1:=by
 show Few (x.effs.length+1) (stepM c e x)
 unfold stepM opM
 have hp:∀ y:Mch,y.effs=x.effs→Few (x.effs.length+1) y:=fun y h=>by show y.effs.length≤_;rw [h];omega
 have ha:∀ (y:Mch) (f:Eff),y.effs=x.effs→Few (x.effs.length+1) (y.ask f):=fun y f h=>by show (y.effs++[f]).length≤_;rw [h];simp
 repeat' (first|refine few_ite ?_ ?_|exact ha _ _ rfl|exact hp _ rfl)
theorem begM_0 {c:Prg} {e:Envr} {at_ b:Int} (h:begM c e at_ b=0):EnvOk c e∧0≤b∧b≤1000∧∃ x∈c.entries,x.pos=at_∧0≤at_:=by
 unfold begM at h
 split at h
 ·cases h
 rename_i h1
 split at h
 ·cases h
 rename_i h2
 split at h
 ·cases h
 rename_i h3
 have hE:=EnvOk.of (by simpa using h1)
 simp only [Bool.not_eq_false,List.any_eq_true,decide_eq_true_eq] at h2
 obtain ⟨x,hx,hp⟩:=h2
 obtain ⟨hH,hj,hl⟩:=vHts_hts hE.val
 have:=ent_bd hj x hx
 exact ⟨hE,by omega,by omega,x,hx,hp,by omega⟩
section
variable {c:Prg} {e:Envr} {x:Mch} {m v cc:Nat} {so eo:Option Nat} {junk:List DV} {M:Blk}
theorem FzL.same3 {id:Nat} {b:Blk} {x y:DV} (h:Fz id b x y) (r:List DV):FzL id b [.tup (x :: r)] [.tup (y :: r)]:=.cons _ _ _ _ (.tup _ _ (.cons _ _ _ _ h (FzL.refl _))) .nil
theorem g_vars {n:Nat} (h:MN m v so eo x cc) (hl:x.vars.length=n) (r:List DV):GL (VR x m v so eo junk M) [.tup (.slc v 0 n :: r)] ((VR x m v so eo junk M).del v) [.tup (ints x.vars :: r)] :=
 GL.frzS (id:=v) (VR_v h) rfl (fun j=>by
  by_cases e:j=v
  ·subst e;exact .inl h_dsame
  ·exact .inr ⟨e,h_dne e⟩) (FzL.same3 (fz_slc (u:=1) (by simpa using hl) (ints_unit _) ⟨[],by simp [cells_ints]⟩) r)
theorem g_exec (h:MN m v so eo x cc) (n d:DV):∃ H2,GL (VR x m v so eo junk M) [.tup [.slc v 0 x.vars.length,todoV eo x.effs.length,n,d]] H2 [.tup [ints x.vars,effsV x.effs,n,d]]:=by
 cases heo:eo with
 | none =>
  subst heo
  refine ⟨_,(g_vars h rfl _).trans (GL.view fun ρ vs hA=>?_)⟩
  refine arel_one (fun w hw=>?_) vs hA
  obtain ⟨b,rfl,hB⟩:=hw.tup_inv
  refine .tup _ _ (by rw [← hB.1];rfl) (fun i x' y' hx hy=>?_)
  rcases i with _|_|_|_|i
  ·cases hx;exact hB.2 0 _ y' rfl hy
  ·cases hx
   have:=hB.2 1 _ y' rfl hy
   show VRel _ (.lst (x.effs.map Eff.v)) _
   rw [h.en rfl];exact this.snil_lst
  ·cases hx;exact hB.2 2 _ y' rfl hy
  ·cases hx;exact hB.2 3 _ y' rfl hy
  ·cases hx
 | some i =>
  subst heo
  obtain ⟨e1,e2,e3⟩:=h.eb i rfl
  refine ⟨_,(g_vars h rfl _).trans (GL.one (id:=i) (b:=⟨5,true,effC x.effs⟩) (by rw [h_dne e2];exact VR_e (junk:=junk) (M:=M) rfl) rfl (.cons _ _ _ _ (.tup _ _ (.cons _ _ _ _ (.same _) (.cons _ _ _ _ (fz_slc (u:=5) (by simp) (eff_unit _) ⟨[],by simp [effC]⟩) (FzL.refl _)))) .nil))⟩
end
end Go.Pb
namespace Go.Proofs.YtcallbfckjlagaaGreat
open Go.Eng (IC IOper DReg IFn IsFn)
open Go.Sym Go.Pb
section
def u38_5r:List IOper:=[oP 2 (.mv (.k (.slice none 0 0)))]
def u38_5:IC:=.seq (.reg u38_5r) .ret
def u38_4:IC:=.cond (.t 4) u38_5 .skip
def u38_3r:List IOper:=[oM 3 0,oP 4 (.eqn false 1 (.t 3) (.k (.slice none 0 0)))]
def u38_3:IC:=.seq (.reg u38_3r) u38_4
def u38_6r:List IOper:=[⟨some 5,.new (.bsl 1 0 #[.int .i64 0] []),none⟩,oM 6 0,⟨some 7,.eff (.app 1 8 (.t 5) (.t 6)),none⟩,oM 2 7]
def u38_6:IC:=.seq (.reg u38_6r) .ret
def u38_2:IC:=.seq u38_3 u38_6
def u38_1r:List IOper:=[oP 2 (.mv (.k (.slice none 0 0)))]
def u38_1:IC:=.seq (.reg u38_1r) u38_2
def u38:IFn:=⟨8,u38_1,[.tmp 2]⟩
end
theorem isU38:IsFn Tryz.prog 38 u38:=by unfold IsFn;kernel_rfl
instance i38_4:WR Tryz.prog 8 u38_4 (rCE (.t 4) u38_5 .skip [0,4]):=⟨mkCE⟩
instance i38_3:WR Tryz.prog 8 u38_3 (rS u38_3r u38_4 [0]):=⟨mkS⟩
instance i38_6:WR Tryz.prog 8 u38_6 (rS u38_6r .ret [0]):=⟨mkS⟩
instance i38_2:WR Tryz.prog 8 u38_2 (rQ u38_3 u38_6 [0]):=⟨mkQ⟩
instance i38_1:WR Tryz.prog 8 u38_1 (rS u38_1r u38_2 [0]):=⟨mkS⟩
attribute [go_sem] u38_5r u38_3r u38_6r u38_1r
section
def u23_5r:List IOper:=[oP 8 (.mv (.k (.pointer none))),oI 9 1]
def u23_5:IC:=.seq (.reg u23_5r) .ret
def u23_8r:List IOper:=[oP 8 (.mv (.k (.pointer none))),oI 9 54]
def u23_8:IC:=.seq (.reg u23_8r) .ret
def u23_11r:List IOper:=[oP 8 (.mv (.k (.pointer none))),oI 9 5]
def u23_11:IC:=.seq (.reg u23_11r) .ret
def u23_10:IC:=.cond (.t 21) u23_11 .skip
def u23_9r:List IOper:=[oM 22 3,oK 23 22 .lss 0,oM 24 23,⟨some 25,.pur (.mv (.t 3)),some (24,false)⟩,⟨some 26,.pur (.bin .gtr (.t 25) (.k (.int .i64 1000))),some (24,false)⟩,oP 27 (.pick (.t 24) (.k (.bool true)) (.t 26)),oM 21 27]
def u23_9:IC:=.seq (.reg u23_9r) u23_10
def u23_7:IC:=.cond (.t 15) u23_8 u23_9
def u23_6r:List IOper:=[oF 16 4 2,oL 17 16,oP 18 (.mkf 37 [] [.t 5]),oC 19 36 [.t 17,.t 18],oP 20 (.un .not (.t 19)),oM 15 20]
def u23_6:IC:=.seq (.reg u23_6r) u23_7
def u23_4:IC:=.cond (.t 10) u23_5 u23_6
def u23_3r:List IOper:=[oD 11 4 7,oD 12 6 6,oC 13 16 [.t 11,.t 12],oP 14 (.un .not (.t 13)),oM 10 14]
def u23_3:IC:=.seq (.reg u23_3r) u23_4
def u23_13r:List IOper:=[oD 32 4 7,oD 33 6 6,oL 34 5,oP 35 (.bld #[.slice none 0 0,.slice none 0 0,.slice none 0 0,.slice none 0 0,.slice none 0 0,.int .i64 0,.int .i64 0,.slice none 0 0,.slice none 0 0,.int .u64 0,.int .u32 0,.int .i64 0,.int .i64 0,.int .i64 0,.bool false,.slice none 0 0,.slice none 0 0] [(0,7),(7,6),(13,1),(14,1),(15,1),(16,1)] [(0,.t 32),(1,.t 33),(2,.t 34)]),⟨some 36,.new (.box (.t 35)),none⟩,oM 8 36,oI 9 0]
def u23_13:IC:=.seq (.reg u23_13r) .ret
def u23_12r:List IOper:=[oF 28 6 0,oL 29 28,oC 30 38 [.t 29],oF 31 6 0,oS 31 30 1]
def u23_12:IC:=.seq (.reg u23_12r) u23_13
def u23_2:IC:=.seq (.blk 0 u23_3) u23_12
def u23_1r:List IOper:=[⟨some 4,.new (.box (.t 0)),none⟩,⟨some 5,.new (.box (.t 1)),none⟩,⟨some 6,.new (.box (.t 2)),none⟩,oP 8 (.mv (.k (.pointer none))),oI 9 0]
def u23_1:IC:=.seq (.reg u23_1r) u23_2
def u23:IFn:=⟨37,u23_1,[.tmp 8,.tmp 9]⟩
end
theorem isU23:IsFn Tryz.prog 23 u23:=by unfold IsFn;kernel_rfl
instance i23_5:WR Tryz.prog 37 u23_5 (rS u23_5r .ret []):=⟨mkS⟩
instance i23_8:WR Tryz.prog 37 u23_8 (rS u23_8r .ret []):=⟨mkS⟩
instance i23_11:WR Tryz.prog 37 u23_11 (rS u23_11r .ret []):=⟨mkS⟩
instance i23_10:WR Tryz.prog 37 u23_10 (rCE (.t 21) u23_11 .skip [4,5,6,21]):=⟨mkCE⟩
instance i23_9:WR Tryz.prog 37 u23_9 (rS u23_9r u23_10 [3,4,5,6]):=⟨mkS⟩
instance i23_7:WR Tryz.prog 37 u23_7 (rCE (.t 15) u23_8 u23_9 [3,4,5,6,15]):=⟨mkCE⟩
instance i23_6:WR Tryz.prog 37 u23_6 (rS u23_6r u23_7 [3,4,5,6]):=⟨mkS⟩
instance i23_4:WR Tryz.prog 37 u23_4 (rCE (.t 10) u23_5 u23_6 [3,4,5,6,10]):=⟨mkCE⟩
instance i23_3:WR Tryz.prog 37 u23_3 (rS u23_3r u23_4 [3,4,5,6]):=⟨mkS⟩
instance i23_13:WR Tryz.prog 37 u23_13 (rS u23_13r .ret [4,5,6]):=⟨mkS⟩
instance i23_12:WR Tryz.prog 37 u23_12 (rS u23_12r u23_13 [4,5,6]):=⟨mkS⟩
instance i23_2:WR Tryz.prog 37 u23_2 (rB 0 u23_3 u23_12 [3,4,5,6]):=⟨mkB⟩
instance i23_1:WR Tryz.prog 37 u23_1 (rS u23_1r u23_2 [0,1,2,3]):=⟨mkS⟩
attribute [go_sem] u23_5r u23_8r u23_11r u23_9r u23_6r u23_3r u23_13r u23_12r u23_1r
section
def u37_2r:List IOper:=[oF 4 2 3,oL 5 4,oL 6 1,oB 7 5 6 .eql,oM 3 7]
def u37_2:IC:=.seq (.reg u37_2r) .ret
def u37_1r:List IOper:=[⟨some 2,.new (.box (.t 0)),none⟩,oP 3 (.mv (.k (.bool false)))]
def u37_1:IC:=.seq (.reg u37_1r) u37_2
def u37:IFn:=⟨8,u37_1,[.tmp 3]⟩
end
theorem isU37:IsFn Tryz.prog 37 u37:=by unfold IsFn;kernel_rfl
instance i37_2:WR Tryz.prog 8 u37_2 (rS u37_2r .ret [1,2]):=⟨mkS⟩
instance i37_1:WR Tryz.prog 8 u37_1 (rS u37_1r u37_2 [0,1]):=⟨mkS⟩
attribute [go_sem] u37_2r u37_1r
theorem c_beg1 (x:Ent) (p:Int):PC Tryz.prog 37 [x.v,.fptr [I64 p]] (.bool (decide (x.pos=p))):=by
 refine PC.of mixedU isU37 (Nat.le_of_ble_eq_true rfl) (by simp [DV.nlL,DV.nl,nlL_ints,nlL_strs,nlL_instrs,nlL_entries,nlL_stp]) (by simp [DV.nlL,DV.nl,nlL_ints,nlL_strs,nlL_instrs,nlL_entries,nlL_stp]) ?_
 show IW Tryz.prog 8 u37_1 ⟨argT _,_,_⟩ (rt [.tmp 3] _)
 repeat' ((first|with_reducible refine wr ?_|((with_reducible refine wb2 ?_ ?_)<;>(intro hb;try simp only [hb]))|fail)<;>try simp only [go_sem,seval])
 exact pc_ret (by rw [Bool.eq_iff_iff.2 (by simp:(x.pos == p)=true↔decide (x.pos=p)=true)])
theorem c_Clone (xs:List Int) (h0:xs≠[]) (hl:xs.length≤100000) (H:Hp) (cc:Nat) :
  AC Tryz.prog 38 [ints xs] H cc (fun r H' c' => ∃ v,cc≤v∧v<c'∧r=.slc v 0 xs.length∧H'=H.upd v ⟨1,true,xs.map I64⟩):=by
 refine AC.body mixedU isU38 (Nat.le_of_ble_eq_true rfl) fun hfr=>?_
 show IW Tryz.prog 8 u38_1 ⟨argT _,_,_⟩ (rt [.tmp 2] _)
 have e1:eqnR false 1 (ints xs) .snil=some (.bool false):=by
  cases xs with
  | nil=>exact absurd rfl h0
  | cons a l=>rfl
 have hlen:¬ xs.length=0:=fun h=>h0 (List.eq_nil_of_length_eq_zero h)
 have hu:unit 1 (xs.map I64)=true:=by simp [unit,DV.cells]
 have hcl:cellsL (xs.map I64)=xs.map I64:=by simpa using cells_ints xs
 repeat' ((first|with_reducible refine wr ?_|((with_reducible refine wb2 ?_ ?_)<;>(intro hb;try simp only [hb]))|fail)<;>try simp only [go_sem,seval,e1,hu,hcl,List.length_map])
 refine k_eval (b_appx (cs':=[]) (by simp) (by omega) (by omega)) ?_
 simp only [go_sem,seval]
 repeat' ((first|with_reducible refine wr ?_|((with_reducible refine wb2 ?_ ?_)<;>(intro hb;try simp only [hb]))|fail)<;>try simp only [go_sem,seval])
 refine ⟨_,_,GL.less' (H0:=H.upd (cc+1) ⟨1,true,xs.map I64⟩) (fun j b hj=>?_),cc+1,by omega,by omega,rfl,rfl⟩
 by_cases e:j=cc+1
 ·subst e;rw [h_same] at hj ⊢;exact hj
 ·rw [h_ne e] at hj ⊢
  have:¬ j=cc:=fun e2=>by rw [hfr j (by omega)] at hj;cases hj
  rw [h_dne this,h_ne this];exact hj
theorem c_begE (c:Prg) (e:Envr) (at_ b:Int) (hs:∀ s∈c.strings,s.length≤140737488355328) (n1:c.instrs.length≤9223372036854775807) (n2:e.vars.length≤9223372036854775807) (n3:e.left.length≤9223372036854775807) (n4:c.entries.length≤9223372036854775807)
  (hb:begM c e at_ b≠0):PC Tryz.prog 23 [c.v,I64 at_,e.v,I64 b] (.tup [.pnil,I64 (begM c e at_ b)]):=by
 refine PC.of mixedU isU23 (Nat.le_of_ble_eq_true rfl) (by simp [DV.nlL,DV.nl,nlL_ints,nlL_strs,nlL_instrs,nlL_entries]) rfl ?_
 show IW Tryz.prog 37 u23_1 ⟨argT _,_,_⟩ (rt [.tmp 8,.tmp 9] _)
 have cI:=c_IsEnv c e hs n1 n2 n3
 have cF:=c_CF_ent c.entries n4 rfl rfl (g:=fun x=>decide (x.pos=at_)) (f:=37) (a:=[]) (cs:=[.fptr [I64 at_]]) (fun x _=>c_beg1 x at_)
 unfold begM at hb ⊢
 cases h1:isEnvM c e
 ·rw [h1] at cI
  repeat' ((first|with_reducible refine wr ?_|((with_reducible refine wb2 ?_ ?_)<;>(intro hb;try simp only [hb]))|((with_reducible refine AC.call ((cI).at _ _) ?_);rintro _ _ _ ⟨rfl,rfl,rfl⟩ -)|fail)<;>try simp only [go_sem,seval])
  exact pc_ret (by simp)
 ·rw [h1] at cI
  cases h2:c.entries.any (fun x=>decide (x.pos=at_))
  ·rw [h2] at cF
   repeat' ((first|with_reducible refine wr ?_|((with_reducible refine wb2 ?_ ?_)<;>(intro hb;try simp only [hb]))|((with_reducible refine AC.call ((cI).at _ _) ?_);rintro _ _ _ ⟨rfl,rfl,rfl⟩ -)|fail)<;>try simp only [go_sem,seval])
   refine AC.call (cF.lend (H0:=Sym.nil) rfl (GL.one (id:=1) (by rw [h_ne (by omega)];exact h_same) rfl (.cons _ _ _ _ (.same _) (.cons _ _ _ _ (.func _ _ _ _ _ (FzL.refl _) (.cons _ _ _ _ (.ptr 0 _ (by simp) rfl) .nil)) .nil)))) ?_
   rintro _ _ _ ⟨rfl,rfl,rfl⟩ -
   simp only [go_sem,seval]
   repeat' ((first|with_reducible refine wr ?_|((with_reducible refine wb2 ?_ ?_)<;>(intro hb;try simp only [hb]))|fail)<;>try simp only [go_sem,seval])
   exact pc_ret (by simp)
  ·rw [h2] at cF
   rw [h1,h2] at hb
   have hb':b<0∨b>1000:=Classical.byContradiction fun h=>hb (by rw [if_neg (by simp),if_neg (by simp),if_neg h])
   rw [if_neg (by simp),if_neg (by simp),if_pos hb']
   have hd:(decide (b<0)=true∨(decide (b<0)=false∧decide (b>1000)=true)):=by simp;omega
   rcases hd with hd|⟨hd,hd2⟩
   ·repeat' ((first|with_reducible refine wr ?_|((with_reducible refine wb2 ?_ ?_)<;>(intro hb;try simp only [hb]))|((with_reducible refine AC.call ((cI).at _ _) ?_);rintro _ _ _ ⟨rfl,rfl,rfl⟩ -)|fail)<;>try simp only [go_sem,seval])
    refine AC.call (cF.lend (H0:=Sym.nil) rfl (GL.one (id:=1) (by rw [h_ne (by omega)];exact h_same) rfl (.cons _ _ _ _ (.same _) (.cons _ _ _ _ (.func _ _ _ _ _ (FzL.refl _) (.cons _ _ _ _ (.ptr 0 _ (by simp) rfl) .nil)) .nil)))) ?_
    rintro _ _ _ ⟨rfl,rfl,rfl⟩ -
    simp only [go_sem,seval]
    repeat' ((first|with_reducible refine wr ?_|((with_reducible refine wb2 ?_ ?_)<;>(intro hb;try simp only [hb]))|fail)<;>try simp only [go_sem,seval,hd])
    exact pc_ret (by simp)
   ·repeat' ((first|with_reducible refine wr ?_|((with_reducible refine wb2 ?_ ?_)<;>(intro hb;try simp only [hb]))|((with_reducible refine AC.call ((cI).at _ _) ?_);rintro _ _ _ ⟨rfl,rfl,rfl⟩ -)|fail)<;>try simp only [go_sem,seval])
    refine AC.call (cF.lend (H0:=Sym.nil) rfl (GL.one (id:=1) (by rw [h_ne (by omega)];exact h_same) rfl (.cons _ _ _ _ (.same _) (.cons _ _ _ _ (.func _ _ _ _ _ (FzL.refl _) (.cons _ _ _ _ (.ptr 0 _ (by simp) rfl) .nil)) .nil)))) ?_
    rintro _ _ _ ⟨rfl,rfl,rfl⟩ -
    simp only [go_sem,seval]
    repeat' ((first|with_reducible refine wr ?_|((with_reducible refine wb2 ?_ ?_)<;>(intro hb;try simp only [hb]))|fail)<;>try simp only [go_sem,seval,hd,hd2])
    exact pc_ret (by simp)
theorem c_begO (c:Prg) (e:Envr) (p:Nat) (b:Int) (hs:∀ s∈c.strings,s.length≤140737488355328) (n1:c.instrs.length≤9223372036854775807) (n2:e.vars.length≤100000) (n3:e.left.length≤9223372036854775807) (n4:c.entries.length≤9223372036854775807)
  (hv:e.vars≠[]) (hb:begM c e p b=0) (cc:Nat) :
  AC Tryz.prog 23 [c.v,I64 (p:Int),e.v,I64 b] Sym.nil cc (fun r H' c' => ∃ m v,r=.tup [.ptr m 0,I64 0]∧MN m v none none (mch0 e p) c'∧H'=VM c e (mch0 e p) m v none none []):=by
 refine AC.body mixedU isU23 (Nat.le_of_ble_eq_true rfl) fun hfr=>?_
 show IW Tryz.prog 37 u23_1 ⟨argT _,_,_⟩ (rt [.tmp 8,.tmp 9] _)
 have cI:=c_IsEnv c e hs n1 (by omega) n3
 have cF:=c_CF_ent c.entries n4 rfl rfl (g:=fun x=>decide (x.pos=(p:Int))) (f:=37) (a:=[]) (cs:=[.fptr [I64 (p:Int)]]) (fun x _=>c_beg1 x p)
 unfold begM at hb
 have h1:isEnvM c e=true:=by
  cases h:isEnvM c e with
  | true=>rfl
  | false=>rw [h] at hb;simp at hb
 have h2:c.entries.any (fun x=>decide (x.pos=(p:Int)))=true:=by
  cases h:c.entries.any (fun x=>decide (x.pos=(p:Int))) with
  | true=>rfl
  | false=>rw [h,h1] at hb;simp at hb
 have h3:¬ (b<0∨b>1000):=fun h=>by rw [h1,h2,if_neg (by simp),if_neg (by simp),if_pos h] at hb;simp at hb
 rw [h1] at cI
 rw [h2] at cF
 have hd:decide (b<0)=false:=by simp;omega
 have hd2:decide (b>1000)=false:=by simp;omega
 have ne0:¬cc=cc+1∧¬cc=cc+2∧¬cc+1=cc∧¬cc+1=cc+2∧¬cc+2=cc∧¬cc+2=cc+1:=by and_intros<;>omega
 repeat' ((first|with_reducible refine wr ?_|((with_reducible refine wb2 ?_ ?_)<;>(intro hb;try simp only [hb]))|((with_reducible refine AC.call ((cI).at _ _) ?_);rintro _ _ _ ⟨rfl,rfl,rfl⟩ -)|fail)<;>try simp only [go_sem,seval,ne0])
 refine AC.call (cF.lend (H0:=Sym.nil) rfl (GL.one (id:=cc+1) (by rw [h_ne (by omega)];exact h_same) rfl (.cons _ _ _ _ (.same _) (.cons _ _ _ _ (.func _ _ _ _ _ (FzL.refl _) (.cons _ _ _ _ (.ptr 0 _ (by simp) rfl) .nil)) .nil)))) ?_
 rintro _ _ _ ⟨rfl,rfl,rfl⟩ -
 simp only [go_sem,seval]
 repeat' ((first|with_reducible refine wr ?_|((with_reducible refine wb2 ?_ ?_)<;>(intro hb;try simp only [hb]))|fail)<;>try simp only [go_sem,seval,hd,hd2,ne0])
 refine AC.call (c_Clone e.vars hv n2 _ _) ?_
 rintro _ _ c2 ⟨v,q1,q2,rfl,rfl⟩ hc
 have ne0:¬cc=cc+1∧¬cc=cc+2∧¬cc=v∧¬cc=c2∧¬cc+1=cc∧¬cc+1=cc+2∧¬cc+1=v∧¬cc+1=c2∧¬cc+2=cc∧¬cc+2=cc+1∧¬cc+2=v∧¬cc+2=c2∧¬v=cc∧¬v=cc+1∧¬v=cc+2∧¬v=c2∧¬c2=cc∧¬c2=cc+1∧¬c2=cc+2∧¬c2=v:=by and_intros<;>omega
 simp only [go_sem,seval,ne0]
 repeat' ((first|with_reducible refine wr ?_|((with_reducible refine wb2 ?_ ?_)<;>(intro hb;try simp only [hb]))|fail)<;>try simp only [go_sem,seval,ne0])
 exact ⟨_,_,GL.less' (VR_sub (x:=mch0 e p) (m:=c2) (v:=v) (so:=none) (eo:=none) (junk:=[]) (M:=vmB c e (mch0 e p) v none none) (by rw [h_same];rfl) (by rw [h_ne (by omega),h_ne (by omega),h_same];rfl) (fun i hi=>by cases hi) (fun i hi=>by cases hi)),c2,v,rfl,
  ⟨by omega,by omega,by omega,fun i hi=>(by cases hi),fun i hi=>(by cases hi),fun i j hi=>(by cases hi),fun _=>rfl,fun _=>rfl⟩,rfl⟩
theorem jn_nil (F:Hp):jn Sym.nil F=F:=by funext j;rfl
theorem c_begF (c:Prg) (e:Envr) (p:Nat) (b:Int) (hs:∀ s∈c.strings,s.length≤140737488355328) (n1:c.instrs.length≤9223372036854775807) (n2:e.vars.length≤100000) (n3:e.left.length≤9223372036854775807) (n4:c.entries.length≤9223372036854775807)
  (hv:e.vars≠[]) (hb:begM c e p b=0) (H:Hp) (cc:Nat) :
  AC Tryz.prog 23 [c.v,I64 (p:Int),e.v,I64 b] H cc (fun r H' c' => ∃ m v,r=.tup [.ptr m 0,I64 0]∧MN m v none none (mch0 e p) c'∧Sub (VM c e (mch0 e p) m v none none []) H'):=by
 have h:=(c_begO c e p b hs n1 n2 n3 n4 hv hb cc).frame (F:=H) (fun _ _=>rfl)
 rw [jn_nil] at h
 refine h.mono ?_
 rintro r H' c' ⟨H1,⟨m,v,rfl,hn,rfl⟩, -,rfl⟩
 exact ⟨m,v,rfl,hn,fun j b hj=>jn_l hj⟩
end Go.Proofs.YtcallbfckjlagaaGreat
namespace Go.Proofs.YtcallbfckjlagaaGreat
open Go.Eng (IC IOper DReg IFn IsFn)
open Go.Sym Go.Pb
section
def u10_6r:List IOper:=[oM 25 13,oP 8 (.mv (.k (.slice none 0 0))),oP 9 (.mv (.k (.slice none 0 0))),oI 10 0,oM 11 25]
def u10_6:IC:=.seq (.reg u10_6r) .ret
def u10_5:IC:=.cond (.t 24) u10_6 .skip
def u10_4r:List IOper:=[oM 23 13,oK 24 23 .neq 0]
def u10_4:IC:=.seq (.reg u10_4r) u10_5
def u10_11:IC:=.cond (.t 43) .skip (.exit 0)
def u10_10r:List IOper:=[oM 26 12,oN 27 26,oF 28 27 14,oL 29 28,oP 30 (.un .not (.t 29)),oM 31 30,gM 32 14 31,gM 33 3 31,oG 34 (.bin .lss (.t 32) (.t 33)) 31,oP 35 (.pick (.t 31) (.t 34) (.k (.bool false))),oM 36 35,gM 37 12 36,gN 38 37 36,gF 39 38 16 36,gL 40 39 36,oG 41 (.len (.t 40)) 36,gK 42 41 36 .leq 256,oP 43 (.pick (.t 36) (.t 42) (.k (.bool false)))]
def u10_10:IC:=.seq (.reg u10_10r) u10_11
def u10_13r:List IOper:=[oM 46 12,oC 47 24 [.t 46]]
def u10_13:IC:=.reg u10_13r
def u10_14r:List IOper:=[oM 44 14,oK 45 44 .add 1,oM 14 45]
def u10_14:IC:=.reg u10_14r
def u10_12:IC:=.seq (.blk 1 u10_13) u10_14
def u10_9:IC:=.seq u10_10 u10_12
def u10_18r:List IOper:=[oP 8 (.mv (.k (.slice none 0 0))),oP 9 (.mv (.k (.slice none 0 0))),oI 10 0,oI 11 52]
def u10_18:IC:=.seq (.reg u10_18r) .ret
def u10_17:IC:=.cond (.t 60) u10_18 .skip
def u10_16r:List IOper:=[oM 48 12,oN 49 48,oF 50 49 14,oL 51 50,oP 52 (.un .not (.t 51)),oM 53 52,⟨some 54,.pur (.mv (.t 12)),some (53,false)⟩,⟨some 55,.pur (.nck (.t 54)),some (53,false)⟩,⟨some 56,.pur (.fad 16 (.t 55)),some (53,false)⟩,⟨some 57,.pur (.ld 1 false (.t 56)),some (53,false)⟩,⟨some 58,.pur (.len (.t 57)),some (53,false)⟩,⟨some 59,.pur (.bin .gtr (.t 58) (.k (.int .i64 256))),some (53,false)⟩,oP 60 (.pick (.t 53) (.k (.bool true)) (.t 59))]
def u10_16:IC:=.seq (.reg u10_16r) u10_17
def u10_19r:DReg:=⟨[oM 61 12,oN 62 61,oF 63 62 7,oF 64 63 0,oL 65 64,oM 66 12,oN 67 66,oF 68 67 16,oL 69 68,oM 70 14,oM 8 65,oM 9 69,oM 10 70,oI 11 0],[[],[0],[1,0],[2,1,0],[3,2,1,0],[],[5],[6,5],[7,6,5],[],[4,0,1,2,3],[8,10,0,1,2,3,4,5,6,7],[9,11,0,1,2,3,4,5,6,7,8,10],[12,0,1,2,3,4,5,6,7,8,9,10,11]],[(0,none),(1,none),(2,none),(3,none),(4,none),(5,none),(6,none),(7,none),(8,none),(9,none),(10,some [5,6,7,8,9]),(11,some [9]),(12,some []),(13,some [])]⟩
def u10_19:IC:=.seq (.drw 14 u10_19r) .ret
def u10_15:IC:=.seq u10_16 u10_19
def u10_8:IC:=.seq (.blk 0 (.loop u10_9)) u10_15
def u10_7r:List IOper:=[oI 14 0]
def u10_7:IC:=.seq (.reg u10_7r) u10_8
def u10_3:IC:=.seq u10_4 u10_7
def u10_2r:List IOper:=[oD 16 4 7,oM 17 1,oD 18 6 6,oM 19 3,oC 20 23 [.t 16,.t 17,.t 18,.t 19],oM 15 20,oE 21 15 0,oE 22 15 1,oM 12 21,oM 13 22]
def u10_2:IC:=.seq (.reg u10_2r) u10_3
def u10_1r:List IOper:=[⟨some 4,.new (.box (.t 0)),none⟩,⟨some 6,.new (.box (.t 2)),none⟩,oP 8 (.mv (.k (.slice none 0 0))),oP 9 (.mv (.k (.slice none 0 0))),oI 10 0,oI 11 0]
def u10_1:IC:=.seq (.reg u10_1r) u10_2
def u10:IFn:=⟨71,u10_1,[.tmp 8,.tmp 9,.tmp 10,.tmp 11]⟩
end
theorem isU10:IsFn Tryz.prog 10 u10:=by unfold IsFn;kernel_rfl
instance i10_6:WR Tryz.prog 71 u10_6 (rS u10_6r .ret [13]):=⟨mkS⟩
instance i10_5:WR Tryz.prog 71 u10_5 (rCE (.t 24) u10_6 .skip [3,12,13,24]):=⟨mkCE⟩
instance i10_4:WR Tryz.prog 71 u10_4 (rS u10_4r u10_5 [3,12,13]):=⟨mkS⟩
instance i10_11:WR Tryz.prog 71 u10_11 (rCE (.t 43) .skip (.exit 0) [3,12,14,43]):=⟨mkCE⟩
instance i10_10:WR Tryz.prog 71 u10_10 (rS u10_10r u10_11 [3,12,14]):=⟨mkS⟩
instance i10_13:WR Tryz.prog 71 u10_13 (rE u10_13r [3,12,14]):=⟨mkE⟩
instance i10_14:WR Tryz.prog 71 u10_14 (rE u10_14r [3,12,14]):=⟨mkE⟩
instance i10_12:WR Tryz.prog 71 u10_12 (rB 1 u10_13 u10_14 [3,12,14]):=⟨mkB⟩
instance i10_9:WR Tryz.prog 71 u10_9 (rQ u10_10 u10_12 [3,12,14]):=⟨mkQ⟩
instance i10_18:WR Tryz.prog 71 u10_18 (rS u10_18r .ret []):=⟨mkS⟩
instance i10_17:WR Tryz.prog 71 u10_17 (rCE (.t 60) u10_18 .skip [12,14,60]):=⟨mkCE⟩
instance i10_16:WR Tryz.prog 71 u10_16 (rS u10_16r u10_17 [12,14]):=⟨mkS⟩
instance i10_19:WR Tryz.prog 71 u10_19 (rD 14 u10_19r .ret [12,14]):=⟨mkD⟩
instance i10_15:WR Tryz.prog 71 u10_15 (rQ u10_16 u10_19 [12,14]):=⟨mkQ⟩
instance i10_8:WR Tryz.prog 71 u10_8 (rB 0 (.loop u10_9) u10_15 [3,12,14]):=⟨mkB⟩
instance i10_7:WR Tryz.prog 71 u10_7 (rS u10_7r u10_8 [3,12]):=⟨mkS⟩
instance i10_3:WR Tryz.prog 71 u10_3 (rQ u10_4 u10_7 [3,12,13]):=⟨mkQ⟩
instance i10_2:WR Tryz.prog 71 u10_2 (rS u10_2r u10_3 [1,3,4,6]):=⟨mkS⟩
instance i10_1:WR Tryz.prog 71 u10_1 (rS u10_1r u10_2 [0,1,2,3]):=⟨mkS⟩
attribute [go_sem] u10_6r u10_4r u10_10r u10_13r u10_14r u10_18r u10_16r u10_19r u10_7r u10_2r u10_1r
structure Sized (c:Prg) (e:Envr):Prop where
 hs:∀ s∈c.strings,s.length≤140737488355328
 n1:c.instrs.length≤9223372036854775807
 n2:e.vars.length≤100000
 n3:e.left.length≤9223372036854775807
 n4:c.entries.length≤9223372036854775807
 hv:c.vars≠[]
 clo:e.closed<18446744073709551616
 act:e.active<4294967296
theorem g_errE (d:Int) {H:Hp}:∃ H2,GL H [.tup [.snil,.snil,I64 0,I64 d]] H2 [exV ([],[],0,d)] :=
 ⟨H,GL.view fun ρ vs hA=>arel_one (fun w hw=>by
  obtain ⟨b,rfl,hB⟩:=hw.tup_inv
  refine .tup _ _ (by rw [← hB.1];rfl) (fun i x' y' hx hy=>?_)
  rcases i with _|_|_|_|i
  ·cases hx;exact (hB.2 0 _ y' rfl hy).snil_lst
  ·cases hx;exact (hB.2 1 _ y' rfl hy).snil_lst
  ·cases hx;exact hB.2 2 _ y' rfl hy
  ·cases hx;exact hB.2 3 _ y' rfl hy
  ·cases hx) vs hA⟩
theorem exV_nl (q:List Int × List Eff × Nat × Int):(exV q).nl=true:=by simp [exV,DV.nl,DV.nlL,nlL_ints,nlL_effs]
theorem c_Exec (c:Prg) (e:Envr) (a b:Int) (z:Sized c e):PC Tryz.prog 10 [c.v,I64 a,e.v,I64 b] (exV (execM c e a b)):=by
 refine PC.of mixedU isU10 (Nat.le_of_ble_eq_true rfl) (by simp [DV.nlL,DV.nl,nlL_ints,nlL_strs,nlL_instrs,nlL_entries]) (exV_nl _) ?_
 show IW Tryz.prog 71 u10_1 ⟨argT _,_,_⟩ (rt [.tmp 8,.tmp 9,.tmp 10,.tmp 11] _)
 by_cases hb:begM c e a b=0
 case neg =>
  have cB:=c_begE c e a b z.hs z.n1 (by have:=z.n2;omega) z.n3 z.n4 hb
  have hd:(begM c e a b != 0)=true:=by simpa using hb
  have ex:execM c e a b=([],[],0,begM c e a b):=by unfold execM;rw [if_pos hb]
  rw [ex]
  repeat' ((first|with_reducible refine wr ?_|((with_reducible refine wb2 ?_ ?_)<;>(intro hb;try simp only [hb]))|((with_reducible refine AC.call ((cB).at _ _) ?_);rintro _ _ _ ⟨rfl,rfl,rfl⟩ -)|fail)<;>try simp only [go_sem,seval,hd])
  exact g_errE _
 obtain ⟨hE,b0,b1,en,hen,hpos,ha⟩:=begM_0 hb
 obtain ⟨p,rfl⟩:∃ p:Nat,a=(p:Int):=⟨a.toNat,by omega⟩
 obtain ⟨k,rfl⟩:∃ k:Nat,b=(k:Int):=⟨b.toNat,by omega⟩
 have ex:execM c e (p:Int) (k:Int)=if (exM c e k (mch0 e p) 0).1.done=false∨(exM c e k (mch0 e p) 0).1.effs.length>256 then ([],[],0,52) else ((exM c e k (mch0 e p) 0).1.vars,(exM c e k (mch0 e p) 0).1.effs,(exM c e k (mch0 e p) 0).2,0):=by
  unfold execM;rw [if_neg (by rw [hb];simp)];rfl
 rw [ex]
 have hv0:e.vars≠[]:=fun h=>z.hv (List.eq_nil_of_length_eq_zero (by rw [← hE.vl,h];rfl))
 repeat' ((first|with_reducible refine wr ?_|((with_reducible refine wb2 ?_ ?_)<;>(intro hb;try simp only [hb]))|fail)<;>try simp only [go_sem,seval])
 refine AC.call (c_begF c e p k z.hs z.n1 z.n2 z.n3 z.n4 hv0 hb _ _) ?_
 rintro r H' c1 ⟨m,v,rfl,hm0,hsub⟩ hc1
 have hz:((0:Int) != 0)=false:=rfl
 simp only [go_sem,seval,hz]
 repeat' ((first|with_reducible refine wr ?_|((with_reducible refine wb2 ?_ ?_)<;>(intro hb;try simp only [hb]))|fail)<;>try simp only [go_sem,seval,hz])
 refine i_loop (fun q:Nat × Nat × Mch × Option Nat × Option Nat × List DV=>[(3,I64 (k:Int)),(12,.ptr m 0),(14,I64 (q.2.1:Int))]) (fun q=>VM c e q.2.2.1 m v q.2.2.2.1 q.2.2.2.2.1 q.2.2.2.2.2)
  (fun q cc=>MN m v q.2.2.2.1 q.2.2.2.2.1 q.2.2.1 cc∧q.2.1+q.1=k∧Inv c q.2.2.1∧q.2.2.1.effs.length≤q.2.1∧exM c e q.1 q.2.2.1 q.2.1=exM c e k (mch0 e p) 0) (fun q=>q.1) (k,0,mch0 e p,none,none,[])
  (by simp [tmLe,tm,Tm.upd]) hsub ⟨hm0,by simp,mch0_inv hE hen hpos,by simp [mch0],rfl⟩ ?_
 clear hm0 hsub
 rintro ⟨f,n,x,so,eo,junk⟩ cc ⟨hn,hfk,hI,hle,hex⟩
 simp only at hn hfk hI hle hex
 simp only
 have hM:VM c e x m v so eo junk m=some (vmB c e x v so eo):=VM_m hn
 have hlen:=r_lentodo (o:=eo) (n:=x.effs.length) (fun h=>len_nil (hn.en h))
 rw [← hex]
 by_cases hd:x.done=true
 ·rw [exM_stop (.inr (.inl hd))]
  by_cases h2:x.effs.length>256
  ·have e2:decide ((x.effs.length:Int)>256)=true:=by simp;omega
   rw [if_pos (.inr h2)]
   repeat' ((first|with_reducible refine wr ?_|((with_reducible refine wb2 ?_ ?_)<;>(intro hb;try simp only [hb]))|fail)<;>try simp only [go_sem,seval,hM,hd,e2,hlen])
   exact g_errE _
  ·have e2:decide ((x.effs.length:Int)>256)=false:=by simp;omega
   rw [if_neg (by simp [hd];omega)]
   have fn:∀ d,VM c e x m v so eo junk (cc+d)=none:=fun d=>VR_n hn (by omega)
   repeat' ((first|with_reducible refine wr ?_|((with_reducible refine wb2 ?_ ?_)<;>(intro hb;try simp only [hb]))|fail)<;>try simp only [go_sem,seval,hM,hd,e2,hlen,fn])
   exact g_exec hn _ _
 ·have hd':x.done=false:=by simpa using hd
  by_cases hf:f=0
  ·have e1:decide ((n:Int)<(k:Int))=false:=by simp;omega
   rw [exM_stop (.inl hf),if_pos (.inl hd')]
   repeat' ((first|with_reducible refine wr ?_|((with_reducible refine wb2 ?_ ?_)<;>(intro hb;try simp only [hb]))|fail)<;>try simp only [go_sem,seval,hM,hd',e1,hlen])
   exact g_errE _
  ·have e1:decide ((n:Int)<(k:Int))=true:=by simp;omega
   by_cases h2:x.effs.length>256
   ·have e2:decide ((x.effs.length:Int)≤256)=false:=by simp;omega
    rw [exM_stop (.inr (.inr h2)),if_pos (.inl hd')]
    repeat' ((first|with_reducible refine wr ?_|((with_reducible refine wb2 ?_ ?_)<;>(intro hb;try simp only [hb]))|fail)<;>try simp only [go_sem,seval,hM,hd',e1,e2,hlen])
    exact g_errE _
   ·have e2:decide ((x.effs.length:Int)≤256)=true:=by simp;omega
    have hw:IntKind.i64.wrap ((n:Int)+1)=((n+1:Nat):Int):=by rw [w64 (by omega) (by omega)];omega
    repeat' ((first|with_reducible refine wr ?_|((with_reducible refine wb2 ?_ ?_)<;>(intro hb;try simp only [hb]))|fail)<;>try simp only [go_sem,seval,hM,hd',e1,e2,hlen])
    refine AC.call (c_vstep hn (c.ins x.pc) (hI.ok hE hd' (by omega) z.clo z.act)) ?_
    rintro r H' c2 ⟨rfl,so2,eo2,j2,hn2,rfl⟩ hc2
    obtain ⟨g,rfl⟩:∃ g,f=g+1:=⟨f-1,by omega⟩
    have hst:=eff_step (c:=c) (e:=e) (x:=x)
    simp only [go_sem,seval,hw]
    repeat' ((first|with_reducible refine wr ?_|((with_reducible refine wb2 ?_ ?_)<;>(intro hb;try simp only [hb]))|fail)<;>try simp only [go_sem,seval,hw])
    exact ⟨(g,n+1,stepM c e x,so2,eo2,j2),rfl,Sub.refl _,inv ⟨hn2,by simp only;omega,hI.step hE hd',by simp only;omega,by rw [exM_go hd' (by omega)]⟩,by simp only;omega⟩
end Go.Proofs.YtcallbfckjlagaaGreat
namespace Go.Pb
open Go.Sym
def nxtM (l:List UInt8) (i n:Nat):Nat:=((l[i]?.map fun b=>b.toNat % n)).getD 0
theorem nxtM_lt {l:List UInt8} {i n:Nat} (h:0<n):nxtM l i n<n:=by
 unfold nxtM
 cases l[i]? with
 | none=>exact h
 | some b=>exact Nat.mod_lt _ h
structure EnvM (c:Prg) (e:Envr):Prop where
 vl:e.vars.length=c.vars.length
 vb:∀ n∈e.vars,Wi n
 ll:e.left.length=(min c.timers 200).toNat
 lb:∀ n∈e.left,0≤n∧n≤2147483647
 clo:e.closed<18446744073709551616
 act:e.active<2 ^ min c.prios.length 16
 pl:0≤e.player∧e.player<5
 ba:0≤e.ball∧e.ball<4
theorem EnvM.is {c:Prg} {e:Envr} (h:EnvM c e) (h0:validM c=0):isEnvM c e=true:=by
 obtain ⟨hL, -⟩:=valid_all h0
 obtain ⟨d1,d2,d3,d4,d5,d6,d7, -⟩:=Lim.dims hL
 have ha:e.active / 2 ^ c.prios.length=0:=by
  have:=h.act
  rw [Nat.min_eq_left d4] at this
  exact Nat.div_eq_of_lt this
 have hl:=h.ll
 simp only [isEnvM,Bool.and_eq_true,beq_iff_eq,decide_eq_true_eq,Bool.not_eq_true',List.any_eq_false,badM,Bool.or_eq_false_iff,decide_eq_false_iff_not,Bool.or_eq_true]
 have p1:=h.pl.1;have p2:=h.pl.2;have q1:=h.ba.1;have q2:=h.ba.2
 refine ⟨⟨⟨⟨⟨⟨⟨h0,h.vl⟩,by omega⟩,fun n hn=>?_⟩,fun n hn=>?_⟩,ha⟩,by omega,by omega⟩,by omega,by omega⟩
 ·have:=h.vb n hn;unfold Wi at this;omega
 ·have:=h.lb n hn;omega
theorem tb10 {j:Nat} (h:j<10):∃ t:Int,([I64 0,I64 1,I64 2,I64 7,I64 (-1),I64 (-5),I64 100,I64 2147483647,I64 (-2147483647),I64 65536]:List DV)[j]? = some (I64 t)∧Wi t:=by
 match j,h with
 | 0,_=>exact ⟨0,rfl,by decide,by decide⟩
 | 1,_=>exact ⟨1,rfl,by decide,by decide⟩
 | 2,_=>exact ⟨2,rfl,by decide,by decide⟩
 | 3,_=>exact ⟨7,rfl,by decide,by decide⟩
 | 4,_=>exact ⟨-1,rfl,by decide,by decide⟩
 | 5,_=>exact ⟨-5,rfl,by decide,by decide⟩
 | 6,_=>exact ⟨100,rfl,by decide,by decide⟩
 | 7,_=>exact ⟨2147483647,rfl,by decide,by decide⟩
 | 8,_=>exact ⟨-2147483647,rfl,by decide,by decide⟩
 | 9,_=>exact ⟨65536,rfl,by decide,by decide⟩
theorem tb5 {j:Nat} (h:j<5):∃ t:Int,([I64 0,I64 0,I64 1,I64 50,I64 2147483647]:List DV)[j]? = some (I64 t)∧0≤t∧t≤2147483647:=by
 match j,h with
 | 0,_=>exact ⟨0,rfl,by decide,by decide⟩
 | 1,_=>exact ⟨0,rfl,by decide,by decide⟩
 | 2,_=>exact ⟨1,rfl,by decide,by decide⟩
 | 3,_=>exact ⟨50,rfl,by decide,by decide⟩
 | 4,_=>exact ⟨2147483647,rfl,by decide,by decide⟩
theorem or_nat (a b:Int):∃ t:Nat,t<18446744073709551616∧bits .or .u64 a b=(t:Int):=by
 refine ⟨(BitVec.ofInt 64 a ||| BitVec.ofInt 64 b).toNat,(BitVec.ofInt 64 a ||| BitVec.ofInt 64 b).isLt,?_⟩
 show IntKind.u64.wrap (((BitVec.ofInt 64 a) ||| (BitVec.ofInt 64 b)).toNat:Int)=_
 have:=(BitVec.ofInt 64 a ||| BitVec.ofInt 64 b).isLt
 rw [wu64 (by omega) (by omega)]
theorem wrap_nat (n:Int):∃ t:Nat,IntKind.u64.wrap n=(t:Int):=by
 refine ⟨(IntKind.u64.wrap n).toNat,?_⟩
 have:0≤IntKind.u64.wrap n:=by
  simp only [IntKind.wrap,IntKind.bits,IntKind.signed]
  simp
  omega
 omega
theorem shl_nat (z:Nat):∃ s:Nat,binR .shl (.int .u64 (z:Int)) (.int .u64 8)=some (.int .u64 (s:Int)):=by
 rw [r_shl (by omega)]
 obtain ⟨t,ht⟩:=wrap_nat ((z:Int) * 2 ^ min (8:Int).toNat IntKind.u64.bits)
 exact ⟨t,by rw [ht]⟩
theorem shl_one {k:Nat} (h:k≤16):binR .shl (.int .u32 1) (.int .u64 (k:Int))=some (.int .u32 ((2 ^ k:Nat):Int)):=by
 have h2:2 ^ k≤2 ^ 16:=Nat.pow_le_pow_right (by omega) h
 rw [r_shl (by omega),Int.toNat_natCast,Nat.min_eq_left (by simp only [IntKind.bits];omega),Int.one_mul]
 have e:((2:Int) ^ k)=((2 ^ k:Nat):Int):=by rw [Int.natCast_pow];rfl
 rw [e,wu32 (Int.natCast_nonneg _) (by omega)]
theorem and_mask {x k:Nat} (h:k≤16) (hx:x<4294967296):bits .and .u32 (x:Int) ((2 ^ k-1:Nat):Int)=((x % 2 ^ k:Nat):Int):=by
 have h2:2 ^ k≤2 ^ 16:=Nat.pow_le_pow_right (by omega) h
 have h3:0<2 ^ k:=Nat.two_pow_pos k
 have hm:x % 2 ^ k<2 ^ k:=Nat.mod_lt _ h3
 have e1:BitVec.ofInt 32 (x:Int)=BitVec.ofNat 32 x:=by simp
 have e2:BitVec.ofInt 32 ((2 ^ k-1:Nat):Int)=BitVec.ofNat 32 (2 ^ k-1):=BitVec.ofInt_natCast ..
 show IntKind.u32.wrap (((BitVec.ofInt 32 (x:Int)) &&& (BitVec.ofInt 32 ((2 ^ k-1:Nat):Int))).toNat:Int)=_
 rw [e1,e2,BitVec.toNat_and,BitVec.toNat_ofNat,BitVec.toNat_ofNat,Nat.mod_eq_of_lt (by omega),Nat.mod_eq_of_lt (by omega),Nat.and_two_pow_sub_one_eq_mod,wu32 (by omega) (by omega)]
end Go.Pb
namespace Go.Proofs.YtcallbfckjlagaaGreat
open Go.Eng (IC IOper DReg IFn IsFn)
open Go.Sym Go.Pb
section
def u22_5r:List IOper:=[oI 6 0]
def u22_5:IC:=.seq (.reg u22_5r) .ret
def u22_4:IC:=.cond (.t 10) u22_5 .skip
def u22_3r:List IOper:=[oM 7 1,oM 8 0,oH 9 8,oB 10 7 9 .geq]
def u22_3:IC:=.seq (.reg u22_3r) u22_4
def u22_6r:List IOper:=[oM 11 0,oM 12 1,oA 13 11 12 1,oL 14 13,oP 15 (.cvi .i64 (.t 14)),oM 16 2,oB 17 15 16 .rem,oM 6 17]
def u22_6:IC:=.seq (.reg u22_6r) .ret
def u22_2:IC:=.seq u22_3 u22_6
def u22_1r:List IOper:=[oI 6 0]
def u22_1:IC:=.seq (.reg u22_1r) u22_2
def u22:IFn:=⟨18,u22_1,[.tmp 6]⟩
end
theorem isU22:IsFn Tryz.prog 22 u22:=by unfold IsFn;kernel_rfl
instance i22_5:WR Tryz.prog 18 u22_5 (rS u22_5r .ret []):=⟨mkS⟩
instance i22_4:WR Tryz.prog 18 u22_4 (rCE (.t 10) u22_5 .skip [0,1,2,10]):=⟨mkCE⟩
instance i22_3:WR Tryz.prog 18 u22_3 (rS u22_3r u22_4 [0,1,2]):=⟨mkS⟩
instance i22_6:WR Tryz.prog 18 u22_6 (rS u22_6r .ret [0,1,2]):=⟨mkS⟩
instance i22_2:WR Tryz.prog 18 u22_2 (rQ u22_3 u22_6 [0,1,2]):=⟨mkQ⟩
instance i22_1:WR Tryz.prog 18 u22_1 (rS u22_1r u22_2 [0,1,2]):=⟨mkS⟩
attribute [go_sem] u22_5r u22_3r u22_6r u22_1r
section
def u9_8:IC:=.cond (.t 14) .skip (.exit 0)
def u9_7r:List IOper:=[oM 10 6,oF 11 2 4,oL 12 11,oH 13 12,oB 14 10 13 .lss]
def u9_7:IC:=.seq (.reg u9_7r) u9_8
def u9_10r:DReg:=⟨[oF 17 5 0,oL 18 17,⟨some 19,.new (.bsl 1 10 #[.int .i64 0] [(0,.k (.int .i64 0)),(1,.k (.int .i64 1)),(2,.k (.int .i64 2)),(3,.k (.int .i64 7)),(4,.k (.int .i64 (-1))),(5,.k (.int .i64 (-5))),(6,.k (.int .i64 100)),(7,.k (.int .i64 2147483647)),(8,.k (.int .i64 (-2147483647))),(9,.k (.int .i64 65536))]),none⟩,oM 20 1,oM 21 6,oC 22 22 [.t 20,.t 21,.k (.int .i64 10)],oA 23 19 22 1,oL 24 23,⟨some 25,.new (.bsl 1 1 #[.int .i64 0] [(0,.t 24)]),none⟩,⟨some 26,.eff (.app 1 8 (.t 18) (.t 25)),none⟩,oF 27 5 0,oS 27 26 1],[[],[0],[],[],[],[3,4],[2,5,3,4],[6,2,5,3,4],[7,6,2,5,3,4],[1,8,5,0,7,6,2,3,4],[0,1,2,3,4,5,6,7,8,9],[10,9,0,1,2,3,4,5,6,7,8]],[(0,none),(1,none),(2,none),(3,none),(4,none),(5,some [0,1,2]),(6,none),(7,none),(8,none),(9,some []),(10,none),(11,some [])]⟩
def u9_10:IC:=.drw 12 u9_10r
def u9_11r:List IOper:=[oM 15 6,oK 16 15 .add 1,oM 6 16]
def u9_11:IC:=.reg u9_11r
def u9_9:IC:=.seq (.blk 1 u9_10) u9_11
def u9_6:IC:=.seq u9_7 u9_9
def u9_5:IC:=.blk 0 (.loop u9_6)
def u9_4r:List IOper:=[oI 6 0]
def u9_4:IC:=.seq (.reg u9_4r) u9_5
def u9_18:IC:=.cond (.t 35) .skip (.exit 2)
def u9_17r:List IOper:=[oM 31 8,oF 32 2 5,oL 33 32,oP 34 (.mn (.t 33) (.k (.int .i64 200))),oB 35 31 34 .lss]
def u9_17:IC:=.seq (.reg u9_17r) u9_18
def u9_20r:DReg:=⟨[oF 38 5 1,oL 39 38,⟨some 40,.new (.bsl 1 5 #[.int .i64 0] [(0,.k (.int .i64 0)),(1,.k (.int .i64 0)),(2,.k (.int .i64 1)),(3,.k (.int .i64 50)),(4,.k (.int .i64 2147483647))]),none⟩,oM 41 1,oM 42 7,oM 43 8,oB 44 42 43 .add,oC 45 22 [.t 41,.t 44,.k (.int .i64 5)],oA 46 40 45 1,oL 47 46,⟨some 48,.new (.bsl 1 1 #[.int .i64 0] [(0,.t 47)]),none⟩,⟨some 49,.eff (.app 1 8 (.t 39) (.t 48)),none⟩,oF 50 5 1,oS 50 49 1],[[],[0],[],[],[],[],[4,5],[3,6,4,5],[2,7,3,6,4,5],[8,2,7,3,6,4,5],[9,8,2,7,3,6,4,5],[1,10,7,0,9,8,2,3,6,4,5],[0,1,2,3,4,5,6,7,8,9,10,11],[12,11,0,1,2,3,4,5,6,7,8,9,10]],[(0,none),(1,none),(2,none),(3,none),(4,none),(5,none),(6,none),(7,some [0,1,2]),(8,none),(9,none),(10,none),(11,some []),(12,none),(13,some [])]⟩
def u9_20:IC:=.drw 14 u9_20r
def u9_21r:List IOper:=[oM 36 8,oK 37 36 .add 1,oM 8 37]
def u9_21:IC:=.reg u9_21r
def u9_19:IC:=.seq (.blk 3 u9_20) u9_21
def u9_16:IC:=.seq u9_17 u9_19
def u9_15:IC:=.blk 2 (.loop u9_16)
def u9_14r:List IOper:=[oI 8 0]
def u9_14:IC:=.seq (.reg u9_14r) u9_15
def u9_28:IC:=.cond (.t 57) .skip (.exit 4)
def u9_27r:List IOper:=[oM 56 9,oK 57 56 .lss 8]
def u9_27:IC:=.seq (.reg u9_27r) u9_28
def u9_30r:DReg:=⟨[oF 60 5 2,oL 61 60,oP 62 (.bin .shl (.t 61) (.k (.int .u64 8))),oM 63 1,oM 64 7,oM 65 9,oB 66 64 65 .add,oC 67 22 [.t 63,.t 66,.k (.int .i64 256)],oP 68 (.cvi .u64 (.t 67)),oB 69 62 68 .or,oF 70 5 2,oS 70 69 1],[[],[0],[1,0],[],[],[],[4,5],[3,6,4,5],[7,3,6,4,5],[2,8,1,0,7,3,6,4,5],[0,1,2,3,4,5,6,7,8,9],[10,9,7,0,1,2,3,4,5,6,8]],[(0,none),(1,none),(2,none),(3,none),(4,none),(5,none),(6,none),(7,some [0,1,2]),(8,none),(9,none),(10,none),(11,some [])]⟩
def u9_30:IC:=.drw 12 u9_30r
def u9_31r:List IOper:=[oM 58 9,oK 59 58 .add 1,oM 9 59]
def u9_31:IC:=.reg u9_31r
def u9_29:IC:=.seq (.blk 5 u9_30) u9_31
def u9_26:IC:=.seq u9_27 u9_29
def u9_25:IC:=.blk 4 (.loop u9_26)
def u9_24r:List IOper:=[oI 9 0]
def u9_24:IC:=.seq (.reg u9_24r) u9_25
def u9_34r:List IOper:=[oD 95 5 6,oS 4 95 6]
def u9_34:IC:=.seq (.reg u9_34r) .ret
def u9_33r:List IOper:=[oM 85 1,oM 86 7,oK 87 86 .add 9,oC 88 22 [.t 85,.t 87,.k (.int .i64 5)],oM 89 1,oM 90 7,oK 91 90 .add 10,oC 92 22 [.t 89,.t 91,.k (.int .i64 4)],oF 93 5 4,oS 93 88 1,oF 94 5 5,oS 94 92 1]
def u9_33:IC:=.seq (.reg u9_33r) u9_34
def u9_32r:DReg:=⟨[oM 71 1,oM 72 7,oK 73 72 .add 8,oC 74 22 [.t 71,.t 73,.k (.int .i64 256)],oP 75 (.cvi .u32 (.t 74)),oF 76 2 3,oL 77 76,oH 78 77,oP 79 (.mn (.t 78) (.k (.int .i64 16))),oP 80 (.cvi .u64 (.t 79)),oP 81 (.bin .shl (.k (.int .u32 1)) (.t 80)),oP 82 (.bin .sub (.t 81) (.k (.int .u32 1))),oB 83 75 82 .and,oF 84 5 3,oS 84 83 1],[[],[],[1],[0,2,1],[3,0,2,1],[],[5],[6,5],[7,6,5],[8,7,6,5],[9,8,7,6,5],[10,9,8,7,6,5],[4,11,3,0,2,1,10,9,8,7,6,5],[0,1,2,3,4,5,6,7,8,9,10,11,12],[13,12,3,0,1,2,4,5,6,7,8,9,10,11]],[(0,none),(1,none),(2,none),(5,none),(6,none),(7,none),(8,none),(9,none),(10,none),(11,none),(3,some [5,6,7,8,9,10,11]),(4,none),(12,none),(13,none),(14,some [])]⟩
def u9_32:IC:=.seq (.drw 15 u9_32r) u9_33
def u9_23:IC:=.seq u9_24 u9_32
def u9_22r:List IOper:=[oM 51 7,oF 52 5 1,oL 53 52,oH 54 53,oB 55 51 54 .add,oM 7 55]
def u9_22:IC:=.seq (.reg u9_22r) u9_23
def u9_13:IC:=.seq u9_14 u9_22
def u9_12r:List IOper:=[oF 28 2 4,oL 29 28,oH 30 29,oM 7 30]
def u9_12:IC:=.seq (.reg u9_12r) u9_13
def u9_3:IC:=.seq u9_4 u9_12
def u9_2r:List IOper:=[⟨some 5,.new (.box (.k (.agg #[.slice none 0 0,.slice none 0 0,.int .u64 0,.int .u32 0,.int .i64 0,.int .i64 0]))),none⟩]
def u9_2:IC:=.seq (.reg u9_2r) u9_3
def u9_1r:List IOper:=[⟨some 2,.new (.box (.t 0)),none⟩,⟨some 4,.new (.box (.k (.agg #[.slice none 0 0,.slice none 0 0,.int .u64 0,.int .u32 0,.int .i64 0,.int .i64 0]))),none⟩]
def u9_1:IC:=.seq (.reg u9_1r) u9_2
def u9:IFn:=⟨96,u9_1,[.cell 4 6 true]⟩
end
theorem isU9:IsFn Tryz.prog 9 u9:=by unfold IsFn;kernel_rfl
instance i9_8:WR Tryz.prog 96 u9_8 (rCE (.t 14) .skip (.exit 0) [1,2,4,5,6,14]):=⟨mkCE⟩
instance i9_7:WR Tryz.prog 96 u9_7 (rS u9_7r u9_8 [1,2,4,5,6]):=⟨mkS⟩
instance i9_10:WR Tryz.prog 96 u9_10 (rDE 12 u9_10r [1,2,4,5,6]):=⟨mkDE⟩
instance i9_11:WR Tryz.prog 96 u9_11 (rE u9_11r [1,2,4,5,6]):=⟨mkE⟩
instance i9_9:WR Tryz.prog 96 u9_9 (rB 1 u9_10 u9_11 [1,2,4,5,6]):=⟨mkB⟩
instance i9_6:WR Tryz.prog 96 u9_6 (rQ u9_7 u9_9 [1,2,4,5,6]):=⟨mkQ⟩
instance i9_5:WR Tryz.prog 96 u9_5 (rBE 0 (.loop u9_6) [1,2,4,5,6]):=⟨mkBE⟩
instance i9_4:WR Tryz.prog 96 u9_4 (rS u9_4r u9_5 [1,2,4,5]):=⟨mkS⟩
instance i9_18:WR Tryz.prog 96 u9_18 (rCE (.t 35) .skip (.exit 2) [1,2,4,5,7,8,35]):=⟨mkCE⟩
instance i9_17:WR Tryz.prog 96 u9_17 (rS u9_17r u9_18 [1,2,4,5,7,8]):=⟨mkS⟩
instance i9_20:WR Tryz.prog 96 u9_20 (rDE 14 u9_20r [1,2,4,5,7,8]):=⟨mkDE⟩
instance i9_21:WR Tryz.prog 96 u9_21 (rE u9_21r [1,2,4,5,7,8]):=⟨mkE⟩
instance i9_19:WR Tryz.prog 96 u9_19 (rB 3 u9_20 u9_21 [1,2,4,5,7,8]):=⟨mkB⟩
instance i9_16:WR Tryz.prog 96 u9_16 (rQ u9_17 u9_19 [1,2,4,5,7,8]):=⟨mkQ⟩
instance i9_15:WR Tryz.prog 96 u9_15 (rBE 2 (.loop u9_16) [1,2,4,5,7,8]):=⟨mkBE⟩
instance i9_14:WR Tryz.prog 96 u9_14 (rS u9_14r u9_15 [1,2,4,5,7]):=⟨mkS⟩
instance i9_28:WR Tryz.prog 96 u9_28 (rCE (.t 57) .skip (.exit 4) [1,2,4,5,7,9,57]):=⟨mkCE⟩
instance i9_27:WR Tryz.prog 96 u9_27 (rS u9_27r u9_28 [1,2,4,5,7,9]):=⟨mkS⟩
instance i9_30:WR Tryz.prog 96 u9_30 (rDE 12 u9_30r [1,2,4,5,7,9]):=⟨mkDE⟩
instance i9_31:WR Tryz.prog 96 u9_31 (rE u9_31r [1,2,4,5,7,9]):=⟨mkE⟩
instance i9_29:WR Tryz.prog 96 u9_29 (rB 5 u9_30 u9_31 [1,2,4,5,7,9]):=⟨mkB⟩
instance i9_26:WR Tryz.prog 96 u9_26 (rQ u9_27 u9_29 [1,2,4,5,7,9]):=⟨mkQ⟩
instance i9_25:WR Tryz.prog 96 u9_25 (rBE 4 (.loop u9_26) [1,2,4,5,7,9]):=⟨mkBE⟩
instance i9_24:WR Tryz.prog 96 u9_24 (rS u9_24r u9_25 [1,2,4,5,7]):=⟨mkS⟩
instance i9_34:WR Tryz.prog 96 u9_34 (rS u9_34r .ret [4,5]):=⟨mkS⟩
instance i9_33:WR Tryz.prog 96 u9_33 (rS u9_33r u9_34 [1,4,5,7]):=⟨mkS⟩
instance i9_32:WR Tryz.prog 96 u9_32 (rD 15 u9_32r u9_33 [1,2,4,5,7]):=⟨mkD⟩
instance i9_23:WR Tryz.prog 96 u9_23 (rQ u9_24 u9_32 [1,2,4,5,7]):=⟨mkQ⟩
instance i9_22:WR Tryz.prog 96 u9_22 (rS u9_22r u9_23 [1,2,4,5,7]):=⟨mkS⟩
instance i9_13:WR Tryz.prog 96 u9_13 (rQ u9_14 u9_22 [1,2,4,5,7]):=⟨mkQ⟩
instance i9_12:WR Tryz.prog 96 u9_12 (rS u9_12r u9_13 [1,2,4,5]):=⟨mkS⟩
instance i9_3:WR Tryz.prog 96 u9_3 (rQ u9_4 u9_12 [1,2,4,5]):=⟨mkQ⟩
instance i9_2:WR Tryz.prog 96 u9_2 (rS u9_2r u9_3 [1,2,4]):=⟨mkS⟩
instance i9_1:WR Tryz.prog 96 u9_1 (rS u9_1r u9_2 [0,1]):=⟨mkS⟩
attribute [go_sem] u9_7r u9_10r u9_11r u9_4r u9_17r u9_20r u9_21r u9_14r u9_27r u9_30r u9_31r u9_24r u9_34r u9_33r u9_32r u9_22r u9_12r u9_2r u9_1r
theorem c_nxt (l:List UInt8) (hl:l.length≤9223372036854775807) (i n:Nat) (hn:0<n):PC Tryz.prog 22 [.lst (bytesC l),I64 (i:Int),I64 (n:Int)] (I64 (nxtM l i n:Int)):=by
 have nlb:DV.nlL (bytesC l)=true:=nlL_map (fun _=>rfl) l
 refine PC.of mixedU isU22 (Nat.le_of_ble_eq_true rfl) (by simp [DV.nlL,DV.nl,nlb]) rfl ?_
 show IW Tryz.prog 18 u22_1 ⟨argT _,_,_⟩ (rt [.tmp 6] _)
 have hlen:(bytesC l).length=l.length:=bytesC_len l
 by_cases h:i<l.length
 ·have hd:decide ((i:Int)≥(l.length:Int))=false:=by simp;omega
  obtain ⟨b,hb⟩:∃ b,b=l[i]:=⟨_,rfl⟩
  have hg:l[i]? = some b:=by rw [hb];exact List.getElem?_eq_getElem h
  have hg2:(bytesC l)[i]? = some (.int .u8 (b.toNat:Int)):=by simp [bytesC,hg]
  have hbl:=b.toNat_lt
  have hw:=w64 (n:=(b.toNat:Int)) (by omega) (by omega)
  have hr:binR .rem (.int .i64 (b.toNat:Int)) (.int .i64 (n:Int))=some (.int .i64 ((b.toNat % n:Nat):Int)):=by rw [r_rem (by omega)];exact congrArg (fun x=>some (DV.int .i64 x)) (Int.ofNat_tmod _ _).symm
  repeat' ((first|with_reducible refine wr ?_|((with_reducible refine wb2 ?_ ?_)<;>(intro hb;try simp only [hb]))|fail)<;>try simp only [go_sem,seval,hlen,hd,hg2,hw,hr])
  refine pc_ret ?_
  simp [nxtM,hg]
 ·have hd:decide ((i:Int)≥(l.length:Int))=true:=by simp;omega
  repeat' ((first|with_reducible refine wr ?_|((with_reducible refine wb2 ?_ ?_)<;>(intro hb;try simp only [hb]))|fail)<;>try simp only [go_sem,seval,hlen,hd])
  refine pc_ret ?_
  simp [nxtM,List.getElem?_eq_none (by omega:l.length≤i)]
def EB (c:Prg):Hp:=(Sym.nil.upd 0 ⟨0,true,c.cs⟩).upd 1 ⟨0,true,[.snil,.snil,.int .u64 0,.int .u32 0,I64 0,I64 0]⟩
def EH (c:Prg) (cs:List DV) (o:Option Nat) (b:Blk):Hp:=optH ((EB c).upd 2 ⟨0,true,cs⟩) o b
section
variable {c:Prg} {cs:List DV} {o:Option Nat} {b:Blk}
theorem EH_0 (h:∀ i,o=some i→3≤i):EH c cs o b 0=some ⟨0,true,c.cs⟩:=by
 cases o with
 | none=>rfl
 | some i=>have:=h i rfl;simp only [EH,optH];rw [h_ne (by omega)];rfl
theorem EH_1 (h:∀ i,o=some i→3≤i):EH c cs o b 1=some ⟨0,true,[.snil,.snil,.int .u64 0,.int .u32 0,I64 0,I64 0]⟩:=by
 cases o with
 | none=>rfl
 | some i=>have:=h i rfl;simp only [EH,optH];rw [h_ne (by omega)];rfl
theorem EH_2 (h:∀ i,o=some i→3≤i):EH c cs o b 2=some ⟨0,true,cs⟩:=by
 cases o with
 | none=>rfl
 | some i=>have:=h i rfl;simp only [EH,optH];rw [h_ne (by omega)];rfl
theorem EB_n {j:Nat} (h:2≤j):EB c j=none:=by unfold EB;rw [h_ne (by omega),h_ne (by omega)];rfl
theorem EH_n {j:Nat} (h:3≤j) (h2:∀ i,o=some i→i<j):EH c cs o b j=none:=by
 cases o with
 | none=>simp only [EH,optH];rw [h_ne (by omega),EB_n (by omega)]
 | some i=>have:=h2 i rfl;simp only [EH,optH];rw [h_ne (by omega),h_ne (by omega),EB_n (by omega)]
theorem EH_s {i:Nat}:EH c cs (some i) b i=some b:=h_same
theorem EH_fin {u n:Nat} {pre suf xs ds:List DV} {b':Blk} (h1:∀ d∈pre++suf,d.one=true) (hn:o=none→xs=[]) (hs:∀ i,o=some i→3≤i) (hl:xs.length=n) (hu:∀ x∈xs,x.cells.length=u) :
  GL (EH c (pre++[todoV o n]++suf) o ⟨u,true,cellsL xs⟩) ds (EH c (pre++[.lst xs]++suf) none b') ds :=
 g_fin h1 hn (fun i hi=>⟨by have:=hs i hi;omega,EB_n (by have:=hs i hi;omega)⟩) hl hu
theorem EH_finI (L:List Int) {pre suf ds:List DV} {b':Blk} (h1:∀ d∈pre++suf,d.one=true) (hn:o=none→L=[]) (hs:∀ i,o=some i→3≤i) :
  GL (EH c (pre++[todoV o L.length]++suf) o ⟨1,true,L.map I64⟩) ds (EH c (pre++[ints L]++suf) none b') ds:=by
 have g:=EH_fin (c:=c) (o:=o) (u:=1) (n:=L.length) (pre:=pre) (suf:=suf) (xs:=L.map I64) (ds:=ds) (b':=b') h1 (fun h=>by rw [hn h];rfl) hs (by simp) (ints_unit _)
 rw [cells_ints] at g
 exact g
theorem EH_sub {i:Nat} {X:Hp} (x0:X 0=some ⟨0,true,c.cs⟩) (x1:X 1=some ⟨0,true,[.snil,.snil,.int .u64 0,.int .u32 0,I64 0,I64 0]⟩) (x2:X 2=some ⟨0,true,cs⟩) (xi:X i=some b):Sub (EH c cs (some i) b) X:=by
 intro j bj hj
 by_cases e:j=i
 ·subst e;rw [EH_s] at hj;rw [← hj];exact xi
 ·simp only [EH,optH] at hj
  rw [h_ne e] at hj
  by_cases e2:j=2
  ·subst e2;rw [h_same] at hj;rw [← hj];exact x2
  ·rw [h_ne e2] at hj
   by_cases e1:j=1
   ·subst e1;unfold EB at hj;rw [h_same] at hj;rw [← hj];exact x1
   ·unfold EB at hj
    rw [h_ne e1] at hj
    by_cases e0:j=0
    ·subst e0;rw [h_same] at hj;rw [← hj];exact x0
    ·rw [h_ne e0] at hj;cases hj
end
theorem no3':∀ i,(none:Option Nat)=some i→3≤i:=fun i h=>by cases h
theorem c_Env (c:Prg) (l:List UInt8) (hl:l.length≤9223372036854775807) (n1:c.vars.length≤1000) (ht : -1000≤c.timers∧c.timers≤1000) :
  AC Tryz.prog 9 [c.v,.lst (bytesC l)] Sym.nil 0 (fun r _ _ => ∃ e,EnvM c e∧r=e.v):=by
 refine AC.body mixedU isU9 (Nat.le_of_ble_eq_true rfl) fun hfr=>?_
 show IW Tryz.prog 96 u9_1 ⟨argT _,_,_⟩ (rt [.cell 4 6 true] _)
 repeat' ((first|with_reducible refine wr ?_|((with_reducible refine wb2 ?_ ?_)<;>(intro hb;try simp only [hb]))|fail)<;>try simp only [go_sem,seval])
 refine i_loop (fun q:Nat × Option Nat × List Int=>[(1,.lst (bytesC l)),(2,.ptr 0 0),(4,.ptr 1 0),(5,.ptr 2 0),(6,I64 (q.1:Int))])
  (fun q=>EH c [todoV q.2.1 q.2.2.length,.snil,.int .u64 0,.int .u32 0,I64 0,I64 0] q.2.1 ⟨1,true,q.2.2.map I64⟩)
  (fun q cc=>3≤cc∧q.1≤c.vars.length∧q.2.2.length=q.1∧(q.2.1=none→q.2.2=[])∧(∀ i,q.2.1=some i→3≤i∧i<cc)∧∀ n∈q.2.2,Wi n) (fun q=>c.vars.length-q.1) (0,none,[])
  (by simp [tmLe,tm,Tm.upd]) (Sub.refl _) ⟨by omega,Nat.zero_le _,rfl,fun _=>rfl,(fun i hi=>by cases hi),fun n hn=>by cases hn⟩ ?_
 rintro ⟨k,o,L⟩ cc ⟨h3,hk,hL,hno,ho,hwi⟩
 simp only at hk hL hno ho hwi
 simp only
 have ho3:∀ i,o=some i→3≤i:=fun i hi=>(ho i hi).1
 have hE0:=EH_0 (c:=c) (cs:=[todoV o L.length,.snil,.int .u64 0,.int .u32 0,I64 0,I64 0]) (b:=⟨1,true,L.map I64⟩) ho3
 have hE2:=EH_2 (c:=c) (cs:=[todoV o L.length,.snil,.int .u64 0,.int .u32 0,I64 0,I64 0]) (b:=⟨1,true,L.map I64⟩) ho3
 by_cases hlt:k<c.vars.length
 ·have hd:decide ((k:Int)<(c.vars.length:Int))=true:=by simpa using hlt
  have hw:IntKind.i64.wrap ((k:Int)+1)=((k+1:Nat):Int):=by rw [w64 (by omega) (by omega)];omega
  have cN:PC Tryz.prog 22 [.lst (bytesC l),I64 (k:Int),I64 10] (I64 (nxtM l k 10:Int)):=c_nxt l hl k 10 (by omega)
  have hj:=nxtM_lt (l:=l) (i:=k) (n:=10) (by omega)
  obtain ⟨j,hje⟩:∃ j,j=nxtM l k 10:=⟨_,rfl⟩
  rw [← hje] at cN hj
  obtain ⟨t,htb,htw⟩:=tb10 hj
  have fn:∀ d,EH c [todoV o L.length,.snil,.int .u64 0,.int .u32 0,I64 0,I64 0] o ⟨1,true,L.map I64⟩ (cc+d)=none:=fun d=>EH_n (by omega) (fun i hi=>by have:=ho i hi;omega)
  have fn0:EH c [todoV o L.length,.snil,.int .u64 0,.int .u32 0,I64 0,I64 0] o ⟨1,true,L.map I64⟩ cc=none:=EH_n (by omega) (fun i hi=>by have:=ho i hi;omega)
  have ne0:¬0=cc∧¬0=cc+1∧¬0=cc+2∧¬0=cc+8∧¬1=cc∧¬1=cc+1∧¬1=cc+2∧¬1=cc+8∧¬2=cc∧¬2=cc+1∧¬2=cc+2∧¬2=cc+8∧¬cc=0∧¬cc=1∧¬cc=2∧¬cc=cc+1∧¬cc=cc+2∧¬cc=cc+8∧¬cc+1=0∧¬cc+1=1∧¬cc+1=2∧¬cc+1=cc∧¬cc+1=cc+2∧¬cc+1=cc+8∧¬cc+2=0∧¬cc+2=1∧¬cc+2=2∧¬cc+2=cc∧¬cc+2=cc+1∧¬cc+2=cc+8∧¬cc+8=0∧¬cc+8=1∧¬cc+8=2∧¬cc+8=cc∧¬cc+8=cc+1∧¬cc+8=cc+2:=by and_intros<;>omega
  repeat' ((first|with_reducible refine wr ?_|((with_reducible refine wb2 ?_ ?_)<;>(intro hb;try simp only [hb]))|((with_reducible refine AC.call ((cN).at _ _) ?_);rintro _ _ _ ⟨rfl,rfl,rfl⟩ -)|fail)<;>try simp only [go_sem,seval,hE0,hE2,hd,hj,htb,fn,fn0,ne0])
  refine x_eval (r_apptodo (cs:=L.map I64) (fun e=>⟨len_nil (hno e),by rw [hno e];rfl⟩) (fun i hi=>?_) (by simp) (by omega) (by omega) (by omega)) ?_
  ·have:=ho i hi
   rw [h_ne (by omega),h_ne (by omega)];subst hi;exact EH_s
  have dk:∀ X k,k<3→delO X o k=X k:=fun X k hk=>delO_ne (fun i hi e=>by have:=ho i hi;omega)
  have d2:∀ X,delO X o 2=X 2:=fun X=>dk X 2 (by omega)
  have ne0:¬0=cc+2∧¬0=cc+8∧¬0=cc+12∧¬1=cc+2∧¬1=cc+8∧¬1=cc+12∧¬2=cc+2∧¬2=cc+8∧¬2=cc+12∧¬cc+2=0∧¬cc+2=1∧¬cc+2=2∧¬cc+2=cc+8∧¬cc+2=cc+12∧¬cc+8=0∧¬cc+8=1∧¬cc+8=2∧¬cc+8=cc+2∧¬cc+8=cc+12∧¬cc+12=0∧¬cc+12=1∧¬cc+12=2∧¬cc+12=cc+2∧¬cc+12=cc+8:=by and_intros<;>omega
  simp only [go_sem,seval,hE2,d2,ne0]
  repeat' ((first|with_reducible refine wr ?_|((with_reducible refine wb2 ?_ ?_)<;>(intro hb;try simp only [hb]))|fail)<;>try simp only [go_sem,seval,hE2,d2,hw,ne0])
  refine ⟨(k+1,some (cc+12),L++[t]),rfl,EH_sub ?_ ?_ ?_ ?_,inv ⟨by omega,hlt,by simp [hL],(fun h=>by cases h),(fun i hi=>by cases hi;omega),fun n hn=>?_⟩,by simp only;omega⟩
  ·rw [h_ne (by omega),h_ne (by omega),dk _ 0 (by omega),h_ne (by omega),h_ne (by omega)];exact hE0
  ·rw [h_ne (by omega),h_ne (by omega),dk _ 1 (by omega),h_ne (by omega),h_ne (by omega)];exact EH_1 ho3
  ·rw [h_same];simp [todoV]
  ·rw [h_ne (by omega),h_same];simp
  ·rcases List.mem_append.1 hn with h|h
   ·exact hwi n h
   ·simp at h;rw [h];exact htw
 have hd:decide ((k:Int)<(c.vars.length:Int))=false:=by simp;omega
 repeat' ((first|((with_reducible refine hold (p:=IW _ _ u9_12 _ _) ?_))|with_reducible refine wr ?_|((with_reducible refine wb2 ?_ ?_)<;>(intro hb;try simp only [hb]))|fail)<;>try simp only [go_sem,seval,hE0,hd])
 refine IW.keep [1,2,4,5] [.lst (bytesC l),.ptr 0 0,.ptr 1 0,.ptr 2 0] (EH_finI (c:=c) L (ds:=[.lst (bytesC l),.ptr 0 0,.ptr 1 0,.ptr 2 0]) (pre:=[]) (suf:=[.snil,.int .u64 0,.int .u32 0,I64 0,I64 0]) (b':=⟨0,true,[]⟩) (by simp [DV.one]) hno ho3) ?_
 show IW Tryz.prog 96 u9_12 ⟨tm [(1,.lst (bytesC l)),(2,.ptr 0 0),(4,.ptr 1 0),(5,.ptr 2 0)],_,_⟩ _
 have hVl:L.length=c.vars.length:=by omega
 have hE0:=EH_0 (c:=c) (cs:=[ints L,.snil,.int .u64 0,.int .u32 0,I64 0,I64 0]) (b:=⟨0,true,[]⟩) no3'
 repeat' ((first|with_reducible refine wr ?_|((with_reducible refine wb2 ?_ ?_)<;>(intro hb;try simp only [hb]))|fail)<;>try simp only [go_sem,seval,hE0])
 obtain ⟨q,hq⟩:∃ q,q=min c.timers 200:=⟨_,rfl⟩
 have hmn:(if (200:Int)<c.timers then 200 else c.timers)=q:=by rw [hq];split<;>omega
 obtain ⟨N,hN⟩:∃ N,N=q.toNat:=⟨_,rfl⟩
 have hNb:N≤200:=by omega
 refine i_loop (fun q:Nat × Option Nat × List Int=>[(1,.lst (bytesC l)),(2,.ptr 0 0),(4,.ptr 1 0),(5,.ptr 2 0),(7,I64 (c.vars.length:Int)),(8,I64 (q.1:Int))])
  (fun q=>EH c [ints L,todoV q.2.1 q.2.2.length,.int .u64 0,.int .u32 0,I64 0,I64 0] q.2.1 ⟨1,true,q.2.2.map I64⟩)
  (fun q cc=>3≤cc∧q.1≤N∧q.2.2.length=q.1∧(q.2.1=none→q.2.2=[])∧(∀ i,q.2.1=some i→3≤i∧i<cc)∧∀ n∈q.2.2,0≤n∧n≤2147483647) (fun q=>N-q.1) (0,none,[])
  (by simp [tmLe,tm,Tm.upd]) (Sub.refl _) ⟨by omega,Nat.zero_le _,rfl,fun _=>rfl,(fun i hi=>by cases hi),fun n hn=>by cases hn⟩ ?_
 rintro ⟨k,o,F⟩ cc ⟨h3,hk,hL,hno,ho,hfi⟩
 simp only at hk hL hno ho hfi
 simp only
 have ho3:∀ i,o=some i→3≤i:=fun i hi=>(ho i hi).1
 have hE0:=EH_0 (c:=c) (cs:=[ints L,todoV o F.length,.int .u64 0,.int .u32 0,I64 0,I64 0]) (b:=⟨1,true,F.map I64⟩) ho3
 have hE2:=EH_2 (c:=c) (cs:=[ints L,todoV o F.length,.int .u64 0,.int .u32 0,I64 0,I64 0]) (b:=⟨1,true,F.map I64⟩) ho3
 by_cases hlt:k<N
 ·have hd:decide ((k:Int)<q)=true:=by simp;omega
  have hw:IntKind.i64.wrap ((k:Int)+1)=((k+1:Nat):Int):=by rw [w64 (by omega) (by omega)];omega
  have hw2:IntKind.i64.wrap ((c.vars.length:Int)+(k:Int))=((c.vars.length+k:Nat):Int):=by rw [w64 (by omega) (by omega)];omega
  have cN:PC Tryz.prog 22 [.lst (bytesC l),I64 ((c.vars.length+k:Nat):Int),I64 5] (I64 (nxtM l (c.vars.length+k) 5:Int)):=c_nxt l hl (c.vars.length+k) 5 (by omega)
  have hj:=nxtM_lt (l:=l) (i:=c.vars.length+k) (n:=5) (by omega)
  obtain ⟨j,hje⟩:∃ j,j=nxtM l (c.vars.length+k) 5:=⟨_,rfl⟩
  rw [← hje] at cN hj
  obtain ⟨t,htb,htw⟩:=tb5 hj
  have fn:∀ d,EH c [ints L,todoV o F.length,.int .u64 0,.int .u32 0,I64 0,I64 0] o ⟨1,true,F.map I64⟩ (cc+d)=none:=fun d=>EH_n (by omega) (fun i hi=>by have:=ho i hi;omega)
  have fn0:EH c [ints L,todoV o F.length,.int .u64 0,.int .u32 0,I64 0,I64 0] o ⟨1,true,F.map I64⟩ cc=none:=EH_n (by omega) (fun i hi=>by have:=ho i hi;omega)
  have ne0:¬0=cc∧¬0=cc+1∧¬0=cc+2∧¬0=cc+10∧¬1=cc∧¬1=cc+1∧¬1=cc+2∧¬1=cc+10∧¬2=cc∧¬2=cc+1∧¬2=cc+2∧¬2=cc+10∧¬cc=0∧¬cc=1∧¬cc=2∧¬cc=cc+1∧¬cc=cc+2∧¬cc=cc+10∧¬cc+1=0∧¬cc+1=1∧¬cc+1=2∧¬cc+1=cc∧¬cc+1=cc+2∧¬cc+1=cc+10∧¬cc+2=0∧¬cc+2=1∧¬cc+2=2∧¬cc+2=cc∧¬cc+2=cc+1∧¬cc+2=cc+10∧¬cc+10=0∧¬cc+10=1∧¬cc+10=2∧¬cc+10=cc∧¬cc+10=cc+1∧¬cc+10=cc+2:=by and_intros<;>omega
  repeat' ((first|with_reducible refine wr ?_|((with_reducible refine wb2 ?_ ?_)<;>(intro hb;try simp only [hb]))|((with_reducible refine AC.call ((cN).at _ _) ?_);rintro _ _ _ ⟨rfl,rfl,rfl⟩ -)|fail)<;>try simp only [go_sem,seval,hE0,hE2,hmn,hd,hw2,hj,htb,fn,fn0,ne0])
  refine x_eval (r_apptodo (cs:=F.map I64) (fun e=>⟨len_nil (hno e),by rw [hno e];rfl⟩) (fun i hi=>?_) (by simp) (by omega) (by omega) (by omega)) ?_
  ·have:=ho i hi
   rw [h_ne (by omega),h_ne (by omega)];subst hi;exact EH_s
  have dk:∀ X k,k<3→delO X o k=X k:=fun X k hk=>delO_ne (fun i hi e=>by have:=ho i hi;omega)
  have d2:∀ X,delO X o 2=X 2:=fun X=>dk X 2 (by omega)
  have ne0:¬0=cc+2∧¬0=cc+10∧¬0=cc+14∧¬1=cc+2∧¬1=cc+10∧¬1=cc+14∧¬2=cc+2∧¬2=cc+10∧¬2=cc+14∧¬cc+2=0∧¬cc+2=1∧¬cc+2=2∧¬cc+2=cc+10∧¬cc+2=cc+14∧¬cc+10=0∧¬cc+10=1∧¬cc+10=2∧¬cc+10=cc+2∧¬cc+10=cc+14∧¬cc+14=0∧¬cc+14=1∧¬cc+14=2∧¬cc+14=cc+2∧¬cc+14=cc+10:=by and_intros<;>omega
  simp only [go_sem,seval,hE2,d2,ne0]
  repeat' ((first|with_reducible refine wr ?_|((with_reducible refine wb2 ?_ ?_)<;>(intro hb;try simp only [hb]))|fail)<;>try simp only [go_sem,seval,hE2,d2,hw,ne0])
  refine ⟨(k+1,some (cc+14),F++[t]),rfl,EH_sub ?_ ?_ ?_ ?_,inv ⟨by omega,hlt,by simp [hL],(fun h=>by cases h),(fun i hi=>by cases hi;omega),fun n hn=>?_⟩,by simp only;omega⟩
  ·rw [h_ne (by omega),h_ne (by omega),dk _ 0 (by omega),h_ne (by omega),h_ne (by omega)];exact hE0
  ·rw [h_ne (by omega),h_ne (by omega),dk _ 1 (by omega),h_ne (by omega),h_ne (by omega)];exact EH_1 ho3
  ·rw [h_same];simp [todoV]
  ·rw [h_ne (by omega),h_same];simp
  ·rcases List.mem_append.1 hn with h|h
   ·exact hfi n h
   ·simp at h;rw [h];exact htw
 have hd:decide ((k:Int)<q)=false:=by simp;omega
 repeat' ((first|((with_reducible refine hold (p:=IW _ _ u9_22 _ _) ?_))|with_reducible refine wr ?_|((with_reducible refine wb2 ?_ ?_)<;>(intro hb;try simp only [hb]))|fail)<;>try simp only [go_sem,seval,hE0,hmn,hd])
 refine IW.keep [1,2,4,5,7] [.lst (bytesC l),.ptr 0 0,.ptr 1 0,.ptr 2 0,I64 (c.vars.length:Int)] (EH_finI (c:=c) F (ds:=[.lst (bytesC l),.ptr 0 0,.ptr 1 0,.ptr 2 0,I64 (c.vars.length:Int)]) (pre:=[ints L]) (suf:=[.int .u64 0,.int .u32 0,I64 0,I64 0]) (b':=⟨0,true,[]⟩) (by simp [DV.one]) hno ho3) ?_
 show IW Tryz.prog 96 u9_22 ⟨tm [(1,.lst (bytesC l)),(2,.ptr 0 0),(4,.ptr 1 0),(5,.ptr 2 0),(7,I64 (c.vars.length:Int))],_,_⟩ _
 have hFl:F.length=N:=by omega
 have hE2:=EH_2 (c:=c) (cs:=[ints L,ints F,.int .u64 0,.int .u32 0,I64 0,I64 0]) (b:=⟨0,true,[]⟩) no3'
 have hw0:IntKind.i64.wrap ((c.vars.length:Int)+(F.length:Int))=((c.vars.length+F.length:Nat):Int):=by rw [w64 (by omega) (by omega)];omega
 repeat' ((first|with_reducible refine wr ?_|((with_reducible refine wb2 ?_ ?_)<;>(intro hb;try simp only [hb]))|fail)<;>try simp only [go_sem,seval,hE2,hw0])
 obtain ⟨K,hK⟩:∃ K,K=c.vars.length+F.length:=⟨_,rfl⟩
 have hKb:K≤2000:=by omega
 rw [← hK]
 refine i_loop (fun q:Nat × Nat=>[(1,.lst (bytesC l)),(2,.ptr 0 0),(4,.ptr 1 0),(5,.ptr 2 0),(7,I64 (K:Int)),(9,I64 (q.1:Int))])
  (fun q=>EH c [ints L,ints F,.int .u64 (q.2:Int),.int .u32 0,I64 0,I64 0] none ⟨0,true,[]⟩)
  (fun q cc=>3≤cc∧q.1≤8∧q.2<18446744073709551616) (fun q=>8-q.1) (0,0)
  (by simp [tmLe,tm,Tm.upd]) (Sub.refl _) ⟨by omega,Nat.zero_le _,by omega⟩ ?_
 rintro ⟨k,z⟩ cc ⟨h3,hk,hz⟩
 simp only at hk hz
 simp only
 have hE0:=EH_0 (c:=c) (cs:=[ints L,ints F,.int .u64 (z:Int),.int .u32 0,I64 0,I64 0]) (b:=⟨0,true,[]⟩) no3'
 have hE1:=EH_1 (c:=c) (cs:=[ints L,ints F,.int .u64 (z:Int),.int .u32 0,I64 0,I64 0]) (b:=⟨0,true,[]⟩) no3'
 have hE2:=EH_2 (c:=c) (cs:=[ints L,ints F,.int .u64 (z:Int),.int .u32 0,I64 0,I64 0]) (b:=⟨0,true,[]⟩) no3'
 have hc2:∀ cs cs',(EH c cs none ⟨0,true,[]⟩).upd 2 ⟨0,true,cs'⟩=EH c cs' none ⟨0,true,[]⟩:=fun cs cs'=>h_upd2
 have fn:∀ d,EH c [ints L,ints F,.int .u64 (z:Int),.int .u32 0,I64 0,I64 0] none ⟨0,true,[]⟩ (cc+d)=none:=fun d=>EH_n (by omega) (fun i hi=>by cases hi)
 have fn0:EH c [ints L,ints F,.int .u64 (z:Int),.int .u32 0,I64 0,I64 0] none ⟨0,true,[]⟩ cc=none:=EH_n (by omega) (fun i hi=>by cases hi)
 by_cases hlt:k<8
 ·have hd:decide ((k:Int)<8)=true:=by simp;omega
  have hw:IntKind.i64.wrap ((k:Int)+1)=((k+1:Nat):Int):=by rw [w64 (by omega) (by omega)];omega
  have hw2:IntKind.i64.wrap ((K:Int)+(k:Int))=((K+k:Nat):Int):=by rw [w64 (by omega) (by omega)];omega
  have cN:PC Tryz.prog 22 [.lst (bytesC l),I64 ((K+k:Nat):Int),I64 256] (I64 (nxtM l (K+k) 256:Int)):=c_nxt l hl (K+k) 256 (by omega)
  have hj:=nxtM_lt (l:=l) (i:=K+k) (n:=256) (by omega)
  obtain ⟨j,hje⟩:∃ j,j=nxtM l (K+k) 256:=⟨_,rfl⟩
  rw [← hje] at cN hj
  have hwj:=wu64 (n:=(j:Int)) (by omega) (by omega)
  obtain ⟨s8,hs8⟩:=shl_nat z
  obtain ⟨t,ht2,hor⟩:=or_nat (s8:Int) (j:Int)
  repeat' ((first|with_reducible refine wr ?_|((with_reducible refine wb2 ?_ ?_)<;>(intro hb;try simp only [hb]))|((with_reducible refine AC.call ((cN).at _ _) ?_);rintro _ _ _ ⟨rfl,rfl,rfl⟩ -)|fail)<;>try simp only [go_sem,seval,hE0,hE2,hd,hw,hw2,hs8,hor,hwj,hc2,fn,fn0])
  exact ⟨(k+1,t),rfl,Sub.refl _,inv ⟨by omega,hlt,ht2⟩,by simp only;omega⟩
 have hd:decide ((k:Int)<8)=false:=by simp;omega
 have w8:IntKind.i64.wrap ((K:Int)+8)=((K+8:Nat):Int):=by rw [w64 (by omega) (by omega)];omega
 have w9:IntKind.i64.wrap ((K:Int)+9)=((K+9:Nat):Int):=by rw [w64 (by omega) (by omega)];omega
 have w10:IntKind.i64.wrap ((K:Int)+10)=((K+10:Nat):Int):=by rw [w64 (by omega) (by omega)];omega
 have c8:PC Tryz.prog 22 [.lst (bytesC l),I64 ((K+8:Nat):Int),I64 256] (I64 (nxtM l (K+8) 256:Int)):=c_nxt l hl (K+8) 256 (by omega)
 have c9:PC Tryz.prog 22 [.lst (bytesC l),I64 ((K+9:Nat):Int),I64 5] (I64 (nxtM l (K+9) 5:Int)):=c_nxt l hl (K+9) 5 (by omega)
 have c10:PC Tryz.prog 22 [.lst (bytesC l),I64 ((K+10:Nat):Int),I64 4] (I64 (nxtM l (K+10) 4:Int)):=c_nxt l hl (K+10) 4 (by omega)
 have j8:=nxtM_lt (l:=l) (i:=K+8) (n:=256) (by omega)
 have j9:=nxtM_lt (l:=l) (i:=K+9) (n:=5) (by omega)
 have j10:=nxtM_lt (l:=l) (i:=K+10) (n:=4) (by omega)
 generalize nxtM l (K+8) 256=a8 at *
 generalize nxtM l (K+9) 5=a9 at *
 generalize nxtM l (K+10) 4=a10 at *
 obtain ⟨P,hP⟩:∃ P,P=min c.prios.length 16:=⟨_,rfl⟩
 have hPm:(if (16:Int)<(c.prios.length:Int) then 16 else (c.prios.length:Int))=(P:Int):=by split<;>omega
 have hPw:=wu64 (n:=(P:Int)) (by omega) (by omega)
 have h2P:2 ^ P≤2 ^ 16:=Nat.pow_le_pow_right (by omega) (by omega)
 have h2p:0<2 ^ P:=Nat.two_pow_pos P
 have hs1:=shl_one (k:=P) (by omega)
 have hsb:IntKind.u32.wrap (((2 ^ P:Nat):Int)-1)=((2 ^ P-1:Nat):Int):=by rw [wu32 (by omega) (by omega)];omega
 have ha8:=wu32 (n:=(a8:Int)) (by omega) (by omega)
 have hand:=and_mask (x:=a8) (k:=P) (by omega) (by omega)
 have hG1:=fun cs=>EH_1 (c:=c) (cs:=cs) (b:=⟨0,true,[]⟩) no3'
 have hG2:=fun cs=>EH_2 (c:=c) (cs:=cs) (b:=⟨0,true,[]⟩) no3'
 repeat' ((first|with_reducible refine wr ?_|((with_reducible refine wb2 ?_ ?_)<;>(intro hb;try simp only [hb]))|((with_reducible refine AC.call ((c8).at _ _) ?_);rintro _ _ _ ⟨rfl,rfl,rfl⟩ -)|((with_reducible refine AC.call ((c9).at _ _) ?_);rintro _ _ _ ⟨rfl,rfl,rfl⟩ -)|((with_reducible refine AC.call ((c10).at _ _) ?_);rintro _ _ _ ⟨rfl,rfl,rfl⟩ -)|fail)<;>try simp only [go_sem,seval,hE0,hG1,hG2,hd,w8,w9,w10,hPm,hPw,hs1,hsb,ha8,hand,hc2,fn,fn0])
 obtain ⟨ev,hev⟩:∃ ev:Envr,ev=⟨L,F,z,a8 % 2 ^ P,a9,a10⟩:=⟨_,rfl⟩
 rw [k_rv (v:=ev.v) (by subst hev;rfl)]
 refine ⟨_,_,GL.refl _ _,ev,?_,rfl⟩
 subst hev
 refine ⟨hVl,hwi,?_,hfi,hz,?_,⟨Int.natCast_nonneg a9,by show (a9:Int)<5;omega⟩,⟨Int.natCast_nonneg a10,by show (a10:Int)<4;omega⟩⟩
 ·show F.length=_
  rw [hFl,hN,hq]
 ·show a8 % 2 ^ P<_
  rw [← hP];exact Nat.mod_lt _ h2p
end Go.Proofs.YtcallbfckjlagaaGreat
namespace Go.Pb
open Go.Sym
def mc0:Prg:=⟨[],mdS,[],[0,0],mdV,2,2⟩
def Ok1 (i:Ins):Prop:=numberM mc0 i=true∧(isJ i.op=true→0≤i.A)
def Ok2 (i:Ins) (p:Nat) (z:Int) (to:Nat × Int→Prop):Prop:=Ok1 i∧z≤48∧(effM i.op).1≤z∧¬(i.op=31∧z≠0)∧∀ s∈afterM i p z,to s
def Sg (b:Nat) (L:List Ins) (x y:Int):Prop :=
 ∃ hs:List Int,hs.length=L.length∧(hs++[y])[0]? = some x∧∀ (j:Nat) i z,L[j]? = some i→hs[j]? = some z→Ok2 i (b+j) z fun s=>b≤s.1∧(hs++[y])[s.1-b]? = some s.2
theorem Ok2.mono {i:Ins} {p:Nat} {z:Int} {to to':Nat × Int→Prop} (h:Ok2 i p z to) (k:∀ s,to s→to' s):Ok2 i p z to' :=
 ⟨h.1,h.2.1,h.2.2.1,h.2.2.2.1,fun s hs=>k s (h.2.2.2.2 s hs)⟩
theorem Sg.app {b:Nat} {L M:List Ins} {x y z:Int} (h:Sg b L x y) (k:Sg (b+L.length) M y z):Sg b (L++M) x z:=by
 obtain ⟨hs,l1,s1,o1⟩:=h
 obtain ⟨ks,l2,s2,o2⟩:=k
 have key:∀ (n:Nat) (w:Int),(hs++[y])[n]? = some w→(hs++ks++[z])[n]? = some w:=by
  intro n w hn
  by_cases h1:n<hs.length
  ·rw [List.getElem?_append_left h1] at hn
   rw [List.append_assoc,List.getElem?_append_left h1];exact hn
  ·rw [List.getElem?_append_right (by omega)] at hn
   obtain ⟨rfl⟩:n=hs.length:=by
    by_cases h2:n-hs.length=0
    ·omega
    ·rw [List.getElem?_eq_none (by simp;omega)] at hn;cases hn
   simp at hn
   subst hn
   rw [List.append_assoc,List.getElem?_append_right (Nat.le_refl _),Nat.sub_self];exact s2
 refine ⟨hs++ks,by simp [l1,l2],key 0 x s1,fun j i w hj hw=>?_⟩
 by_cases h1:j<L.length
 ·rw [List.getElem?_append_left h1] at hj
  rw [List.getElem?_append_left (by omega)] at hw
  exact (o1 j i w hj hw).mono fun s ⟨q1,q2⟩=>⟨q1,key _ _ q2⟩
 ·rw [List.getElem?_append_right (by omega)] at hj
  rw [List.getElem?_append_right (by omega),l1] at hw
  have h3:=o2 _ i w hj hw
  have e:b+L.length+(j-L.length)=b+j:=by omega
  rw [e] at h3
  refine h3.mono fun s ⟨q1,q2⟩=>⟨by omega,?_⟩
  rw [List.append_assoc,List.getElem?_append_right (by omega),l1]
  have e2:s.1-b-L.length=s.1-(b+L.length):=by omega
  rw [e2];exact q2
theorem Sg.nil {b:Nat} {x:Int}:Sg b [] x x:=⟨[],rfl,rfl,fun j i z h=>by simp at h⟩
theorem Sg.one {b:Nat} {i:Ins} {x:Int} (hi:Ok1 i) (h1:i.op≠31) (h2:i.op≠12) (h3:i.op≠13) (h4:i.op≠14) (h5:x≤48) (h6:(effM i.op).1≤x):Sg b [i] x (x-(effM i.op).1+(effM i.op).2.1):=by
 refine ⟨[x],rfl,rfl,fun j i' z hj hz=>?_⟩
 match j with
 | 0 =>
  simp at hj hz;subst hj hz
  refine ⟨hi,h5,h6,fun h=>h1 h.1,fun s hs=>?_⟩
  rw [afterM,if_neg h1,if_neg h2,if_neg h3,if_neg h4] at hs
  simp at hs;subst hs
  refine ⟨by simp,?_⟩
  have e:b+0+1-b=1:=by omega
  simp only [Nat.add_zero]
  have e:b+1-b=1:=by omega
  rw [e];rfl
 | j+1=>simp at hj
theorem after12 {A:Int} {p:Nat} {h:Int}:afterM ⟨12,A⟩ p h=[(A.toNat,h)]:=by simp [afterM]
theorem after13 {A:Int} {p:Nat} {h:Int}:afterM ⟨13,A⟩ p h=[(p+1,h-1),(A.toNat,h-1)]:=by simp [afterM]
theorem after14 {A:Int} {p:Nat} {h:Int}:afterM ⟨14,A⟩ p h=[(p+1,h),(A.toNat,h-1)]:=by simp [afterM]
theorem ok_jump {op A:Int} (h:op=12∨op=13∨op=14) (hA:0≤A):Ok1 ⟨op,A⟩:=by
 refine ⟨?_,fun _=>hA⟩
 rcases h with rfl|rfl|rfl<;>simp [numberM,effM,kindM]
theorem Sg.unless {b:Nat} {L:List Ins} {x:Int} (h:Sg (b+1) L x x) (h0:0≤x) (h1:x+1≤48):Sg b (⟨13,((b+1+L.length:Nat):Int)⟩ :: L) (x+1) x:=by
 obtain ⟨hs,l1,s1,o1⟩:=h
 refine ⟨(x+1) :: hs,by simp [l1],rfl,fun j i z hj hz=>?_⟩
 match j with
 | 0 =>
  simp only [List.getElem?_cons_zero,Option.some.injEq] at hj hz;subst hj hz
  have e13:effM 13=(1,0,7):=by decide
  refine ⟨ok_jump (by simp) (by omega),h1,by simp only [e13];omega,by simp,fun s hs'=>?_⟩
  have ea:afterM ⟨13,((b+1+L.length:Nat):Int)⟩ (b+0) (x+1)=[(b+0+1,x+1-1),(b+1+L.length,x+1-1)]:=by
   rw [after13];rfl
  rw [ea] at hs'
  simp only [List.mem_cons,List.not_mem_nil,or_false] at hs'
  rcases hs' with rfl|rfl
  ·refine ⟨by simp,?_⟩
   have e:b+0+1-b=1:=by omega
   simp only [e]
   have e2:x+1-1=x:=by omega
   rw [e2,List.cons_append,List.getElem?_cons_succ];exact s1
  ·refine ⟨by simp only;omega,?_⟩
   have e:b+1+L.length-b=L.length+1:=by omega
   have e2:x+1-1=x:=by omega
   simp only [e,e2]
   rw [List.cons_append,List.getElem?_cons_succ,List.getElem?_append_right (by omega),l1,Nat.sub_self];rfl
 | j+1 =>
  simp only [List.getElem?_cons_succ] at hj hz
  have h3:=o1 j i z hj hz
  have e:b+1+j=b+(j+1):=by omega
  rw [e] at h3
  refine h3.mono fun s ⟨q1,q2⟩=>⟨by omega,?_⟩
  have e2:s.1-b=s.1-(b+1)+1:=by omega
  rw [e2,List.cons_append,List.getElem?_cons_succ];exact q2
theorem Sg.loop {b:Nat} {L:List Ins} {x:Int} (h:Sg (b+1) L (x+1) (x+1)) (h0:0≤x) (h1:x+1≤48):Sg b (⟨14,((b+2+L.length:Nat):Int)⟩ :: (L++[⟨12,(b:Int)⟩])) (x+1) x:=by
 obtain ⟨hs,l1,s1,o1⟩:=h
 have hlen:((x+1) :: (hs++[x+1])).length=L.length+2:=by simp [l1]
 have key:∀ (n:Nat) (w:Int),(hs++[x+1])[n]? = some w→((x+1) :: (hs++[x+1])++[x])[n+1]? = some w:=by
  intro n w hn
  have hlt:=(List.getElem?_eq_some_iff.1 hn).1
  rw [List.cons_append,List.getElem?_cons_succ,List.getElem?_append_left hlt];exact hn
 refine ⟨(x+1) :: (hs++[x+1]),by simp [l1],rfl,fun j i z hj hz=>?_⟩
 match j with
 | 0 =>
  simp only [List.getElem?_cons_zero,Option.some.injEq] at hj hz;subst hj hz
  have e14:effM 14=(1,1,7):=by decide
  refine ⟨ok_jump (by simp) (by omega),h1,by simp only [e14];omega,by simp,fun s hs'=>?_⟩
  have ea:afterM ⟨14,((b+2+L.length:Nat):Int)⟩ (b+0) (x+1)=[(b+0+1,x+1),(b+2+L.length,x+1-1)]:=by
   rw [after14];rfl
  rw [ea] at hs'
  simp only [List.mem_cons,List.not_mem_nil,or_false] at hs'
  rcases hs' with rfl|rfl
  ·refine ⟨by simp,?_⟩
   have e:b+0+1-b=0+1:=by omega
   simp only [e]
   exact key 0 _ s1
  ·refine ⟨by simp only;omega,?_⟩
   have e:b+2+L.length-b=L.length+2:=by omega
   have e2:x+1-1=x:=by omega
   simp only [e,e2]
   rw [List.getElem?_append_right (by omega),hlen,Nat.sub_self];rfl
 | j+1 =>
  simp only [List.getElem?_cons_succ] at hj hz
  by_cases hjl:j<L.length
  ·rw [List.getElem?_append_left hjl] at hj
   rw [List.getElem?_append_left (by omega)] at hz
   have h3:=o1 j i z hj hz
   have e:b+1+j=b+(j+1):=by omega
   rw [e] at h3
   refine h3.mono fun s ⟨q1,q2⟩=>⟨by omega,?_⟩
   have e2:s.1-b=s.1-(b+1)+1:=by omega
   rw [e2];exact key _ _ q2
  ·rw [List.getElem?_append_right (by omega)] at hj hz
   have hj0:j-L.length=0:=by
    rcases Nat.eq_zero_or_pos (j-L.length) with h|h
    ·exact h
    ·rw [List.getElem?_eq_none (by simp;omega)] at hj;cases hj
   rw [l1,hj0] at hz
   rw [hj0] at hj
   simp only [List.getElem?_cons_zero,Option.some.injEq] at hj hz;subst hj hz
   have e12:effM 12=(0,0,7):=by decide
   refine ⟨ok_jump (by simp) (by omega),h1,by simp only [e12];omega,by simp,fun s hs'=>?_⟩
   have ea:afterM ⟨12,(b:Int)⟩ (b+(j+1)) (x+1)=[(b,x+1)]:=by
    rw [after12];rfl
   rw [ea] at hs'
   simp only [List.mem_singleton] at hs'
   subst hs'
   refine ⟨by simp,?_⟩
   simp only [Nat.sub_self];rfl
end Go.Pb
namespace Go.Pb
open Go.Sym
theorem Sg.put {b:Nat} {op A x y t u k:Int} (hi:Ok1 ⟨op,A⟩) (he:effM op=(t,u,k)) (h1:op≠31) (h2:op≠12) (h3:op≠13) (h4:op≠14) (h5:x≤48) (h6:t≤x) (hy:y=x-t+u):Sg b [⟨op,A⟩] x y:=by
 have h:=Sg.one (b:=b) (i:=⟨op,A⟩) (x:=x) hi h1 h2 h3 h4 h5 (by simp only [he];exact h6)
 simp only [he] at h
 rw [hy];exact h
theorem ok_of {op A k:Int} (he:(effM op).2.2=k) (hk:kindM mc0 k A=true) (hj:k≠7):Ok1 ⟨op,A⟩:=by
 refine ⟨by simp only [numberM];rw [he];exact hk,fun h=>?_⟩
 simp only at h
 rw [isJ_kind,he] at h
 exact absurd (by simpa using h) hj
theorem in_rng {a lo hi:Int} (h1:lo≤a) (h2:a≤hi):inM a lo hi=true:=by simp [inM,h1,h2]
theorem kd2 {a:Int}:kindM mc0 2 a=inM a 0 2:=by simp [kindM,mc0,mdV,mdS]
theorem kd3 {a:Int}:kindM mc0 3 a=inM a 0 63:=by simp [kindM,mc0,mdV,mdS]
theorem kd4 {a:Int}:kindM mc0 4 a=inM a 0 1:=by simp [kindM,mc0,mdV,mdS]
theorem kd5 {a:Int}:kindM mc0 5 a=inM a 0 1:=by simp [kindM,mc0,mdV,mdS]
theorem kd9 {a:Int}:kindM mc0 9 a=inM a 0 63:=by simp [kindM,mc0,mdV,mdS]
theorem kd8 {a:Int}:kindM mc0 8 a=inM a 0 31:=by simp [kindM,mc0,mdV,mdS]
theorem kd10 {a:Int}:kindM mc0 10 a=inM a 0 1:=by simp [kindM,mc0,mdV,mdS]
theorem kd11 {a:Int}:kindM mc0 11 a=inM a 0 1:=by simp [kindM,mc0,mdV,mdS]
theorem kd6 {a:Int}:kindM mc0 6 a=inM a 12 24:=by simp [kindM]
theorem nn {n m:Nat} (h:n<m):(0:Int)≤(n:Int)∧(n:Int)<(m:Int):=by omega
theorem value_sg (l:List UInt8):∀ (d p b:Nat) (x:Int),0≤x→x+d+1≤48→Sg b (valueM l d p).1 x (x+1)
 | d,p,b,x,h0,h1=>by
  unfold valueM
  simp only
  generalize (if d=0∧5<(nextM l p 9).1 then 0 else (nextM l p 9).1)=k
  generalize (nextM l p 9).2=p1
  split
  ·have:=nn (nextM_lt (l:=l) (p:=p1) (n:=3) (by omega))
   exact Sg.put (ok_of (k:=2) (by decide) (by rw [kd2];exact in_rng (by omega) (by omega)) (by decide)) (t:=0) (u:=1) (k:=2) (by decide) (by decide) (by decide) (by decide) (by decide) (by omega) (by omega) (by omega)
  ·have:=nn (nextM_lt (l:=l) (p:=p1) (n:=64) (by omega))
   exact Sg.put (ok_of (k:=3) (by decide) (by rw [kd3];exact in_rng (by omega) (by omega)) (by decide)) (t:=0) (u:=1) (k:=3) (by decide) (by decide) (by decide) (by decide) (by decide) (by omega) (by omega) (by omega)
  ·have:=nn (nextM_lt (l:=l) (p:=p1) (n:=2) (by omega))
   exact Sg.put (ok_of (k:=4) (by decide) (by rw [kd4];exact in_rng (by omega) (by omega)) (by decide)) (t:=0) (u:=1) (k:=4) (by decide) (by decide) (by decide) (by decide) (by decide) (by omega) (by omega) (by omega)
  ·have:=nn (nextM_lt (l:=l) (p:=p1) (n:=2) (by omega))
   exact Sg.put (ok_of (k:=5) (by decide) (by rw [kd5];exact in_rng (by omega) (by omega)) (by decide)) (t:=0) (u:=1) (k:=5) (by decide) (by decide) (by decide) (by decide) (by decide) (by omega) (by omega) (by omega)
  ·have hq:=nextM_lt (l:=l) (p:=p1) (n:=2) (by omega)
   generalize (nextM l p1 2).1=a at hq
   have ha:a=0∨a=1:=by omega
   rcases ha with rfl|rfl
   ·exact Sg.put (ok_of (k:=0) (by decide) (by decide) (by decide)) (t:=0) (u:=1) (k:=0) (by decide) (by decide) (by decide) (by decide) (by decide) (by omega) (by omega) (by omega)
   ·exact Sg.put (ok_of (k:=0) (by decide) (by decide) (by decide)) (t:=0) (u:=1) (k:=0) (by decide) (by decide) (by decide) (by decide) (by decide) (by omega) (by omega) (by omega)
  ·rename_i d
   have hv:=value_sg l d p1 b x h0 (by omega)
   refine hv.app ?_
   have hq:=nextM_lt (l:=l) (p:=(valueM l d p1).2) (n:=2) (by omega)
   generalize (nextM l (valueM l d p1).2 2).1=a at hq
   have ha:a=0∨a=1:=by omega
   rcases ha with rfl|rfl
   ·exact Sg.put (ok_of (k:=0) (by decide) (by decide) (by decide)) (t:=1) (u:=1) (k:=0) (by decide) (by decide) (by decide) (by decide) (by decide) (by omega) (by omega) (by omega)
   ·exact Sg.put (ok_of (k:=0) (by decide) (by decide) (by decide)) (t:=1) (u:=1) (k:=0) (by decide) (by decide) (by decide) (by decide) (by decide) (by omega) (by omega) (by omega)
  ·rename_i d
   have hv:=value_sg l d p1 b x h0 (by omega)
   have hw:=value_sg l d (valueM l d p1).2 (b+(valueM l d p1).1.length) (x+1) (by omega) (by omega)
   refine (hv.app hw).app ?_
   have:=nn (nextM_lt (l:=l) (p:=(valueM l d (valueM l d p1).2).2) (n:=13) (by omega))
   exact Sg.put (ok_of (k:=6) (by decide) (by rw [kd6];exact in_rng (by omega) (by omega)) (by decide)) (t:=2) (u:=1) (k:=6) (by decide) (by decide) (by decide) (by decide) (by decide) (by omega) (by omega) (by omega)
  ·rename_i d
   have hv:=value_sg l d p1 b x h0 (by omega)
   have hw:=value_sg l d (valueM l d p1).2 (b+(valueM l d p1).1.length) (x+1) (by omega) (by omega)
   refine (hv.app hw).app ?_
   have:=nn (nextM_lt (l:=l) (p:=(valueM l d (valueM l d p1).2).2) (n:=13) (by omega))
   exact Sg.put (ok_of (k:=6) (by decide) (by rw [kd6];exact in_rng (by omega) (by omega)) (by decide)) (t:=2) (u:=1) (k:=6) (by decide) (by decide) (by decide) (by decide) (by decide) (by omega) (by omega) (by omega)
  ·have hq:=nextM_lt (l:=l) (p:=p1) (n:=10) (by omega)
   generalize (nextM l p1 10).1=a at hq
   have hk:∀ a<10,kindM mc0 1 (pushT.getD a 0)=true:=by decide
   exact Sg.put (ok_of (k:=1) (by decide) (hk a hq) (by decide)) (t:=0) (u:=1) (k:=1) (by decide) (by decide) (by decide) (by decide) (by decide) (by omega) (by omega) (by omega)
theorem stK_sg {l:List UInt8} {rec:Nat→Nat→List Ins × Nat} {m:Int} (h0m:0≤m) (hr:∀ (b p:Nat) (x:Int),0≤x→x+m+4≤48→Sg b (rec b p).1 x x) (base k p:Nat) (x:Int) (h0:0≤x) (h1:x+(m+1)+4≤48):Sg base (stK l rec base k p).1 x x:=by
 have v0:=fun p b=>value_sg l 0 p b x h0 (by omega)
 have v1:=fun p b=>value_sg l 1 p b x h0 (by omega)
 have v2:=fun p b=>value_sg l 2 p b x h0 (by omega)
 unfold stK
 split
 ·exact (v1 p base).app (Sg.put (ok_of (k:=0) (by decide) (by decide) (by decide)) (t:=1) (u:=0) (k:=0) (by decide) (by decide) (by decide) (by decide) (by decide) (by omega) (by omega) (by omega))
 ·have hq:=nextM_lt (l:=l) (p:=p) (n:=3) (by omega)
  have hb:=nn (nextM_lt (l:=l) (p:=(nextM l p 3).2) (n:=32) (by omega))
  generalize ((nextM l (nextM l p 3).2 32).1:Int)=B at hb
  generalize (nextM l p 3).1=a at hq
  have ha:a=0∨a=1∨a=2:=by omega
  rcases ha with rfl|rfl|rfl<;>exact Sg.put (ok_of (k:=8) (by decide) (by rw [kd8];exact in_rng (by omega) (by omega)) (by decide)) (t:=0) (u:=0) (k:=8) (by decide) (by decide) (by decide) (by decide) (by decide) (by omega) (by omega) (by omega)
 ·have hb:=nn (nextM_lt (l:=l) (p:=(valueM l 0 p).2) (n:=64) (by omega))
  exact (v0 p base).app (Sg.put (ok_of (k:=9) (by decide) (by rw [kd9];exact in_rng (by omega) (by omega)) (by decide)) (t:=1) (u:=0) (k:=9) (by decide) (by decide) (by decide) (by decide) (by decide) (by omega) (by omega) (by omega))
 ·have hb:=nn (nextM_lt (l:=l) (p:=(valueM l 0 (valueM l 0 p).2).2) (n:=64) (by omega))
  have w0:=value_sg l 0 (valueM l 0 p).2 (base+(valueM l 0 p).1.length) (x+1) (by omega) (by omega)
  exact ((v0 p base).app w0).app (Sg.put (ok_of (k:=9) (by decide) (by rw [kd9];exact in_rng (by omega) (by omega)) (by decide)) (t:=2) (u:=0) (k:=9) (by decide) (by decide) (by decide) (by decide) (by decide) (by omega) (by omega) (by omega))
 ·have hb:=nn (nextM_lt (l:=l) (p:=(valueM l 1 p).2) (n:=2) (by omega))
  exact (v1 p base).app (Sg.put (ok_of (k:=5) (by decide) (by rw [kd5];exact in_rng (by omega) (by omega)) (by decide)) (t:=1) (u:=0) (k:=5) (by decide) (by decide) (by decide) (by decide) (by decide) (by omega) (by omega) (by omega))
 ·have hb:=nn (nextM_lt (l:=l) (p:=p) (n:=2) (by omega))
  exact Sg.put (ok_of (k:=5) (by decide) (by rw [kd5];exact in_rng (by omega) (by omega)) (by decide)) (t:=0) (u:=0) (k:=5) (by decide) (by decide) (by decide) (by decide) (by decide) (by omega) (by omega) (by omega)
 ·have hq:=nextM_lt (l:=l) (p:=p) (n:=2) (by omega)
  have hb:=nn (nextM_lt (l:=l) (p:=(nextM l p 2).2) (n:=2) (by omega))
  generalize ((nextM l (nextM l p 2).2 2).1:Int)=B at hb
  generalize (nextM l p 2).1=a at hq
  have ha:a=0∨a=1:=by omega
  rcases ha with rfl|rfl<;>exact Sg.put (ok_of (k:=4) (by decide) (by rw [kd4];exact in_rng (by omega) (by omega)) (by decide)) (t:=0) (u:=0) (k:=4) (by decide) (by decide) (by decide) (by decide) (by decide) (by omega) (by omega) (by omega)
 ·have hb:=nn (nextM_lt (l:=l) (p:=p) (n:=2) (by omega))
  exact Sg.put (ok_of (k:=10) (by decide) (by rw [kd10];exact in_rng (by omega) (by omega)) (by decide)) (t:=0) (u:=0) (k:=10) (by decide) (by decide) (by decide) (by decide) (by decide) (by omega) (by omega) (by omega)
 ·have hq:=nextM_lt (l:=l) (p:=p) (n:=3) (by omega)
  have hb:=nn (nextM_lt (l:=l) (p:=(nextM l p 3).2) (n:=64) (by omega))
  generalize ((nextM l (nextM l p 3).2 64).1:Int)=B at hb
  generalize (nextM l p 3).1=a at hq
  have ha:a=0∨a=1∨a=2:=by omega
  rcases ha with rfl|rfl|rfl<;>exact Sg.put (ok_of (k:=9) (by decide) (by rw [kd9];exact in_rng (by omega) (by omega)) (by decide)) (t:=0) (u:=0) (k:=9) (by decide) (by decide) (by decide) (by decide) (by decide) (by omega) (by omega) (by omega)
 ·have hb:=nn (nextM_lt (l:=l) (p:=(valueM l 1 p).2) (n:=2) (by omega))
  exact (v1 p base).app (Sg.put (ok_of (k:=11) (by decide) (by rw [kd11];exact in_rng (by omega) (by omega)) (by decide)) (t:=1) (u:=0) (k:=11) (by decide) (by decide) (by decide) (by decide) (by decide) (by omega) (by omega) (by omega))
 ·exact Sg.put (ok_of (k:=0) (by decide) (by decide) (by decide)) (t:=0) (u:=0) (k:=0) (by decide) (by decide) (by decide) (by decide) (by decide) (by omega) (by omega) (by omega)
 ·have hs:=hr (base+(valueM l 1 p).1.length+1) (valueM l 1 p).2 x h0 (by omega)
  have hu:=Sg.unless (b:=base+(valueM l 1 p).1.length) hs h0 (by omega)
  have:=(v1 p base).app hu
  simpa only [List.append_assoc,List.cons_append,List.nil_append] using this
 ·have hs:=hr (base+(valueM l 0 p).1.length+1) (valueM l 0 p).2 (x+1) (by omega) (by omega)
  have hu:=Sg.loop (b:=base+(valueM l 0 p).1.length) hs h0 (by omega)
  have:=(v0 p base).app hu
  simpa only [List.append_assoc,List.cons_append,List.nil_append] using this
 ·have hs:=hr (base+(valueM l 0 p).1.length+1) (valueM l 0 p).2 (x+1) (by omega) (by omega)
  have hu:=Sg.loop (b:=base+(valueM l 0 p).1.length) hs h0 (by omega)
  have:=(v0 p base).app hu
  simpa only [List.append_assoc,List.cons_append,List.nil_append] using this
 ·have hb:=nn (nextM_lt (l:=l) (p:=(valueM l 2 p).2) (n:=3) (by omega))
  exact (v2 p base).app (Sg.put (ok_of (k:=2) (by decide) (by rw [kd2];exact in_rng (by omega) (by omega)) (by decide)) (t:=1) (u:=0) (k:=2) (by decide) (by decide) (by decide) (by decide) (by decide) (by omega) (by omega) (by omega))
theorem stmtM_sg (l:List UInt8):∀ (d base p:Nat) (x:Int),0≤x→x+(d+1)+4≤48→Sg base (stmtM l d base p).1 x x
 | 0,base,p,x,h0,h1=>by
  simp only [stmtM]
  exact stK_sg (m:=0) (by omega) (fun b p x _ _=>Sg.nil) _ _ _ x h0 (by omega)
 | d+1,base,p,x,h0,h1=>by
  simp only [stmtM]
  exact stK_sg (m:=(d:Int)+1) (by omega) (fun b p x h0 h1=>stmtM_sg l d b p x h0 (by omega)) _ _ _ x h0 (by omega)
theorem mdB_sg {l:List UInt8} {x:List Ins × Nat}:∀ n, ∃ M,(mdB l n x).1=x.1++M∧Sg x.1.length M 0 0
 | 0=>⟨[],by simp [mdB],Sg.nil⟩
 | n+1=>by
  obtain ⟨M,e,h⟩:=mdB_sg (l:=l) (x:=x) n
  refine ⟨M++(stmtM l 2 (mdB l n x).1.length (mdB l n x).2).1,by simp only [mdB];rw [e,List.append_assoc],h.app ?_⟩
  have:=stmtM_sg l 2 (mdB l n x).1.length (mdB l n x).2 0 (by omega) (by omega)
  rw [e,List.length_append] at this ⊢
  exact this
end Go.Pb
namespace Go.Pb
open Go.Sym
def Tg (L:List Ins) (E:List Ent):Prop :=
 ∃ hs:List Int,hs.length=L.length∧(∀ e∈E,0≤e.pos∧hs[e.pos.toNat]? = some 0)∧∀ (j:Nat) i z,L[j]? = some i→hs[j]? = some z→Ok2 i j z fun s=>hs[s.1]? = some s.2
theorem Tg.nil:Tg [] []:=⟨[],rfl,by simp,by simp⟩
theorem Tg.hnd {L M:List Ins} {E:List Ent} {e:Ent} (h:Tg L E) (k:Sg L.length M 0 0) (he:e.pos=(L.length:Int)):Tg (L++M++[⟨31,0⟩]) (E++[e]):=by
 obtain ⟨hs,l1,n1,o1⟩:=h
 obtain ⟨ks,l2,s2,o2⟩:=k
 have key:∀ (n:Nat) (w:Int),hs[n]? = some w→(hs++(ks++[0]))[n]? = some w:=fun n w hn=>by
  rw [List.getElem?_append_left (List.getElem?_eq_some_iff.1 hn).1];exact hn
 have key2:∀ (n:Nat) (w:Int),L.length≤n→(ks++[0])[n-L.length]? = some w→(hs++(ks++[0]))[n]? = some w:=fun n w hl hn=>by
  rw [List.getElem?_append_right (by omega),l1];exact hn
 refine ⟨hs++(ks++[0]),by simp [l1,l2],fun x hx=>?_,fun j i z hj hz=>?_⟩
 ·rw [List.mem_append] at hx
  rcases hx with hx|hx
  ·exact ⟨(n1 x hx).1,key _ _ (n1 x hx).2⟩
  ·simp only [List.mem_singleton] at hx;subst hx
   refine ⟨by omega,key2 _ _ (by omega) ?_⟩
   have e0:x.pos.toNat-L.length=0:=by omega
   rw [e0];exact s2
 ·rw [List.append_assoc] at hj
  by_cases h1:j<L.length
  ·rw [List.getElem?_append_left h1] at hj
   rw [List.getElem?_append_left (by omega)] at hz
   exact (o1 j i z hj hz).mono fun s q=>key _ _ q
  ·rw [List.getElem?_append_right (by omega)] at hj
   rw [List.getElem?_append_right (by omega),l1] at hz
   by_cases h2:j-L.length<M.length
   ·rw [List.getElem?_append_left h2] at hj
    rw [List.getElem?_append_left (by omega)] at hz
    have h3:=o2 _ i z hj hz
    have e:L.length+(j-L.length)=j:=by omega
    rw [e] at h3
    exact h3.mono fun s ⟨q1,q2⟩=>key2 _ _ q1 q2
   ·rw [List.getElem?_append_right (by omega)] at hj hz
    have h4:j-L.length-M.length=0:=by
     rcases Nat.eq_zero_or_pos (j-L.length-M.length) with h|h
     ·exact h
     ·rw [List.getElem?_eq_none (by simp;omega)] at hj;cases hj
    rw [l2,h4] at hz
    rw [h4] at hj
    simp only [List.getElem?_cons_zero,Option.some.injEq] at hj hz
    subst hj hz
    exact ⟨⟨by decide,by decide⟩,by decide,by decide,by simp,fun s hs=>by simp [afterM] at hs⟩
def kp0 (e:Ent):Ent:=⟨e.mode,e.trigger,e.index,0⟩
theorem mdH_tg {l:List UInt8} {key:Ent} {x:MS} {p:Nat} (h:Tg x.I x.E):Tg (mdH l key x p).I (mdH l key x p).E:=by
 obtain ⟨M,e,hM⟩:=mdB_sg (l:=l) (x:=(x.I,(nextM l p 4).2)) (nextM l p 4).1
 simp only [mdH]
 rw [e]
 exact h.hnd hM rfl
theorem mdK_tg {l:List UInt8}:∀ i,Tg (mdK l i).I (mdK l i).E
 | 0=>Tg.nil
 | i+1=>by
  have h:=mdK_tg (l:=l) i
  simp only [mdK,mdI]
  split
  ·exact mdH_tg h
  ·split
   ·exact h
   ·exact mdH_tg h
theorem mdH_kp {l:List UInt8} {key:Ent} {x:MS} {p:Nat}:(mdH l key x p).E.map kp0=x.E.map kp0++[kp0 key]:=by simp [mdH,kp0]
theorem mdK_sub {l:List UInt8}:∀ i,i≤9→((mdK l i).E.map kp0).Sublist (keysM.take i)
 | 0,_=>by simp [mdK]
 | i+1,hi=>by
  have h:=mdK_sub (l:=l) i (by omega)
  have hk:i<keysM.length:=by have:keysM.length=9:=rfl;omega
  have hg:=List.getElem?_eq_getElem hk
  have hk0:∀ e∈keysM,kp0 e=e:=by decide
  have e1:keysM.take (i+1)=keysM.take i++[keysM.getD i ⟨0,0,0,0⟩]:=by
   rw [List.take_add_one,hg]
   have:keysM.getD i ⟨0,0,0,0⟩=keysM[i]:=by simp [List.getD,hk]
   rw [this];rfl
  have e2:kp0 (keysM.getD i ⟨0,0,0,0⟩)=keysM.getD i ⟨0,0,0,0⟩:=by
   have:keysM.getD i ⟨0,0,0,0⟩=keysM[i]:=by simp [List.getD,hk]
   rw [this];exact hk0 _ (List.getElem_mem hk)
  simp only [mdK,mdI]
  rw [e1]
  split
  ·rw [mdH_kp,e2];exact List.Sublist.append h (List.Sublist.refl _)
  ·split
   ·exact h.trans (List.sublist_append_left _ _)
   ·rw [mdH_kp,e2];exact List.Sublist.append h (List.Sublist.refl _)
theorem chain_of_pw:∀ (l:List Ent),l.Pairwise (fun a b=>lessM a b=true)→chainM l=true
 | [],_=>rfl
 | [a],_=>rfl
 | a :: b :: r,h=>by
  simp only [chainM,Bool.and_eq_true]
  rw [List.pairwise_cons] at h
  exact ⟨h.1 b List.mem_cons_self,chain_of_pw (b :: r) h.2⟩
theorem keys_pw:keysM.Pairwise (fun a b=>lessM a b=true):=by decide
theorem tg_notBad {c:Prg} (h:Tg c.instrs c.entries):¬Bad c:=by
 obtain ⟨hs,l1,n1,o1⟩:=h
 have hin:∀ p,p<c.instrs.length→c.instrs[p]? = some (c.ins p):=fun p hp=>by
  simp [Prg.ins,List.getD,hp]
 have key:∀ p x,Rch c p x→hs[p]? = some x:=by
  intro p x hr
  induction hr with
  | ent he=>exact (n1 _ he).2
  | step h1 h2 h3 ih =>
   have hp:=(List.getElem?_eq_some_iff.1 ih).1
   exact (o1 _ _ _ (hin _ (by omega)) ih).2.2.2.2 _ h3
 rintro ⟨p,x,h1,h2|⟨y,h2,h3⟩⟩
 ·apply h2
  have ih:=key p x h1
  have hp:=(List.getElem?_eq_some_iff.1 ih).1
  obtain ⟨a,b,d,e, -⟩:=o1 p _ x (hin p (by omega)) ih
  exact ⟨by omega,b,d,e⟩
 ·have e1:=key p x h1
  rw [key p y h2] at e1
  cases e1;exact h3 rfl
theorem made_valid (l:List UInt8):validM (madeM l)=0:=by
 rw [madeM]
 generalize l.take 200=t
 obtain ⟨c,hc⟩:∃ c,c=madeT t:=⟨_,rfl⟩
 have ei:c.instrs=(mdK t 9).I:=by rw [hc];rfl
 have ee:c.entries=(mdK t 9).E:=by rw [hc];rfl
 have es:c.strings=mdS:=by rw [hc];rfl
 have ep:c.prios=mdP t:=by rw [hc];rfl
 have ev:c.vars=mdV:=by rw [hc];rfl
 have et:c.timers=2:=by rw [hc];rfl
 have en:c.events=2:=by rw [hc];rfl
 obtain ⟨b1,b2,b3⟩:=mdK_bd (l:=t) 9
 have hT:=mdK_tg (l:=t) 9
 rw [← ei, ← ee] at hT
 rw [← ei] at b2
 rw [← ee] at b3
 have hpl:(mdP t).length=2:=rfl
 have hL:limitsM c=true:=by
  have e1:c.strings.length=2:=by rw [es];rfl
  have e2:c.prios.length=2:=by rw [ep];rfl
  have e3:c.vars.length=3:=by rw [ev];rfl
  simp only [limitsM,inM,Bool.and_eq_true,decide_eq_true_eq]
  rw [e1,e2,e3,et,en]
  omega
 have hnum:∀ i,numberM c i=numberM mc0 i:=by
  intro i
  have e1:c.strings.length=mc0.strings.length:=by rw [es];rfl
  have e2:c.prios.length=mc0.prios.length:=by rw [ep];rfl
  have e3:c.vars.length=mc0.vars.length:=by rw [ev];rfl
  have e4:c.timers=mc0.timers:=et
  have e5:c.events=mc0.events:=en
  unfold numberM kindM
  rw [e1,e2,e3,e4,e5]
 have hent:∀ e,entryM c e=entryM mc0 e:=by
  intro e
  have e2:c.prios.length=mc0.prios.length:=by rw [ep];rfl
  have e4:c.timers=mc0.timers:=et
  have e5:c.events=mc0.events:=en
  unfold entryM
  rw [e2,e4,e5]
 have hsub:=mdK_sub (l:=t) 9 (by omega)
 rw [← ee] at hsub
 have hk9:keysM.take 9=keysM:=rfl
 rw [hk9] at hsub
 obtain ⟨hs,l1,n1,o1⟩:=id hT
 have hz:∀ (j:Nat) i,c.instrs[j]? = some i→∃ z,hs[j]? = some z:=fun j i hj=>by
  have:=(List.getElem?_eq_some_iff.1 hj).1
  exact ⟨hs[j],List.getElem?_eq_getElem (by omega)⟩
 have hP:partsM c=true:=by
  simp only [partsM,Bool.and_eq_true,List.all_eq_true]
  refine ⟨⟨⟨⟨?_,?_⟩,?_⟩,?_⟩,?_⟩
  ·rw [es];decide
  ·rw [ep]
   intro n hn
   have q1:=nextM_lt (l:=t) (p:=0) (n:=4) (by omega)
   have q2:=nextM_lt (l:=t) (p:=(nextM t 0 4).2) (n:=4) (by omega)
   simp only [mdP,List.mem_cons,List.not_mem_nil,or_false] at hn
   rcases hn with rfl|rfl<;>exact in_rng (by omega) (by omega)
  ·rw [ev];decide
  ·intro e he
   have hm:kp0 e∈keysM:=hsub.subset (List.mem_map_of_mem he)
   have hall:∀ e∈keysM,entryM mc0 e=true:=by decide
   rw [hent]
   have h2:entryM mc0 (kp0 e)=true:=hall _ hm
   exact h2
  ·intro i hi
   obtain ⟨j,hj⟩:=List.getElem?_of_mem hi
   obtain ⟨z,hz⟩:=hz j i hj
   rw [hnum]
   exact (o1 j i z hj hz).1.1
 have hJ:jumpsM c=true:=by
  simp only [jumpsM,Bool.and_eq_true,List.all_eq_true]
  refine ⟨fun i hi=>?_,fun e he=>?_⟩
  ·obtain ⟨j,hj⟩:=List.getElem?_of_mem hi
   obtain ⟨z,hz⟩:=hz j i hj
   obtain ⟨a, -, -, -,d⟩:=o1 j i z hj hz
   by_cases h7:(effM i.op).2.2=7
   ·have hJ:isJ i.op=true:=by rw [isJ_kind,h7];rfl
    have hA:=a.2 hJ
    have hlt:i.A.toNat<hs.length:=by
     have hop:i.op=12∨i.op=13∨i.op=14:=by simpa [isJ] using hJ
     have hmem:∃ w,(i.A.toNat,w)∈afterM i j z:=by
      obtain ⟨op,A⟩:=i
      simp only at hop
      rcases hop with rfl|rfl|rfl
      ·exact ⟨z,by rw [after12];simp⟩
      ·exact ⟨z-1,by rw [after13];simp⟩
      ·exact ⟨z-1,by rw [after14];simp⟩
     obtain ⟨w,hw⟩:=hmem
     exact (List.getElem?_eq_some_iff.1 (d _ hw)).1
    simp only [jumpI,h7,inM]
    simp;omega
   ·simp [jumpI,h7]
  ·obtain ⟨a,d⟩:=n1 e he
   have:=(List.getElem?_eq_some_iff.1 d).1
   exact in_rng (by omega) (by omega)
 have hC:chainM c.entries=true:=by
  refine chain_of_pw _ ?_
  have:=keys_pw.sublist hsub
  rw [List.pairwise_map] at this
  exact this
 have hH:(hR c).isNone=false:=by
  have hs:=hR_says (c:=c) (by omega) hJ
  cases h:hR c with
  | none=>rw [h] at hs;exact absurd hs (tg_notBad hT)
  | some x=>rfl
 rw [← hc]
 simp [validM,hL,hP,hJ,hC,hH]
end Go.Pb
namespace Go.Pb
open Go.Sym
theorem beg_ok {c:Prg} {e:Envr} {x:Ent} {b:Int} (h0:validM c=0) (hE:EnvM c e) (hx:x∈c.entries) (h1:0≤b) (h2:b≤1000):begM c e x.pos b=0:=by
 unfold begM
 rw [hE.is h0,if_neg (by simp),if_neg,if_neg (by omega)]
 have:c.entries.any (fun z=>decide (z.pos=x.pos))=true:=List.any_eq_true.2 ⟨x,hx,by simp⟩
 rw [this];simp
end Go.Pb
namespace Go.Eng
inductive Tr (α : Type) where
 | nil
 | node (v:Option α) (l r:Tr α)
namespace Tr
variable {α : Type}
def get:Tr α → Nat→Option α
 | nil,_=>none
 | node v l r,n =>
  match Nat.beq n 0 with
  | true=>v
  | false=>match Nat.beq (n % 2) 1 with
   | true=>l.get (n / 2)
   | false=>r.get (n / 2-1)
def setF:Nat→Tr α → Nat→Option α → Tr α
 | 0,t,_,_=>t
 | k+1,t,n,x =>
  match t with
  | nil=>match Nat.beq n 0 with
   | true=>node x nil nil
   | false=>match Nat.beq (n % 2) 1 with
    | true=>node none (setF k nil (n / 2) x) nil
    | false=>node none nil (setF k nil (n / 2-1) x)
  | node v l r=>match Nat.beq n 0 with
   | true=>node x l r
   | false=>match Nat.beq (n % 2) 1 with
    | true=>node v (setF k l (n / 2) x) r
    | false=>node v l (setF k r (n / 2-1) x)
def set (t:Tr α) (n:Nat) (x:Option α):Tr α := setF (n+1) t n x
theorem beqF {a b:Nat} (h:a≠b):Nat.beq a b=false:=by
 cases hb:Nat.beq a b
 ·rfl
 ·exact absurd (Nat.eq_of_beq_eq_true hb) h
theorem get_setF:∀ (k:Nat) (t:Tr α) (n:Nat) (x:Option α),n<k→∀ m,(setF k t n x).get m=if m=n then x else t.get m:=by
 intro k
 induction k with
 | zero=>intro t n x h;omega
 | succ k ih =>
  intro t n x hn m
  have e0:∀ (a b:Nat),Nat.beq a b=true↔a=b:=fun a b=>⟨Nat.eq_of_beq_eq_true,fun h=>by subst h;exact Nat.beq_refl a⟩
  have key:∀ (v:Option α) (l r:Tr α),(match Nat.beq n 0 with
    | true=>node x l r
    | false=>match Nat.beq (n % 2) 1 with
     | true=>node v (setF k l (n / 2) x) r
     | false=>node v l (setF k r (n / 2-1) x)).get m=if m=n then x else (node v l r).get m:=by
   intro v l r
   by_cases h0:n=0
   ·subst h0
    simp only [Nat.beq_refl]
    by_cases hm:m=0
    ·subst hm;simp [get]
    ·have:Nat.beq m 0=false:=beqF hm
     simp only [get,this,hm,if_false]
   ·have hb0:Nat.beq n 0=false:=beqF h0
    rw [hb0]
    simp only []
    by_cases h1:n % 2=1
    ·rw [(e0 _ _).2 h1]
     simp only [get]
     by_cases hm0:m=0
     ·subst hm0;simp only [Nat.beq_refl];rw [if_neg (by omega)]
     ·have hbm:Nat.beq m 0=false:=beqF hm0
      rw [hbm]
      simp only []
      by_cases hm1:m % 2=1
      ·rw [(e0 _ _).2 hm1]
       simp only []
       rw [ih l (n / 2) x (by omega)]
       by_cases hmn:m=n
       ·subst hmn;simp
       ·rw [if_neg (by omega),if_neg hmn]
      ·have:Nat.beq (m % 2) 1=false:=beqF hm1
       rw [this]
       simp only []
       rw [if_neg (fun e=>hm1 (by rw [e];exact h1))]
    ·have hb1:Nat.beq (n % 2) 1=false:=beqF h1
     rw [hb1]
     simp only [get]
     by_cases hm0:m=0
     ·subst hm0;simp only [Nat.beq_refl];rw [if_neg (by omega)]
     ·have hbm:Nat.beq m 0=false:=beqF hm0
      rw [hbm]
      simp only []
      by_cases hm1:m % 2=1
      ·rw [(e0 _ _).2 hm1]
       simp only []
       rw [if_neg (fun e=>h1 (by rw [← e];exact hm1))]
      ·have:Nat.beq (m % 2) 1=false:=beqF hm1
       rw [this]
       simp only []
       rw [ih r (n / 2-1) x (by omega)]
       by_cases hmn:m=n
       ·subst hmn;simp
       ·rw [if_neg (by omega),if_neg hmn]
  cases t with
  | nil =>
   have h:=key none nil nil
   simp only [setF]
   refine Eq.trans (Eq.trans ?_ h) ?_
   ·by_cases h0:n=0
    ·subst h0;rfl
    ·have hb0:Nat.beq n 0=false:=beqF h0
     rw [hb0]
   ·have:(node none nil nil:Tr α).get m=(nil:Tr α).get m:=by
     simp only [get]
     split
     ·rfl
     ·split<;>rfl
    rw [this]
  | node v l r=>simp only [setF];exact key v l r
theorem get_set (t:Tr α) (n:Nat) (x:Option α) (m:Nat):(t.set n x).get m=if m=n then x else t.get m:=get_setF (n+1) t n x (Nat.lt_succ_self n) m
end Tr
def hpOf (t:Tr Blk):Hp:=fun i=>t.get i
theorem hpOf_set (t:Tr Blk) (id:Nat) (b:Blk):hpOf (t.set id (some b))=(hpOf t).upd id b:=by
 funext j;simp only [hpOf,Tr.get_set,Hp.upd]
theorem hpOf_del (t:Tr Blk) (id:Nat):hpOf (t.set id none)=(hpOf t).del id:=by
 funext j;simp only [hpOf,Tr.get_set,Hp.del]
abbrev Res:=Option (Value × Tr Blk × Nat)
def gApp (H:Tr Blk) (c sz bytes:Nat) (s:Value) (m:Nat) (src:List Value):Res :=
 match s with
 | .slice none 0 0 =>
  match m with
  | 0=>some (.slice none 0 0,H,c)
  | _=>match Nat.ble (m * bytes) 140737488355328,Nat.ble m maxLen with
   | true,true=>some (.slice (some ⟨c,0,none⟩) m 0,H.set c (some ⟨sz,true,src⟩),c+1)
   | _,_=>none
 | .slice (some ⟨id,0,none⟩) n 0 =>
  match H.get id with
  | some b =>
   if b.own=true∧b.unit=sz∧n * sz≤b.cells.length∧(n+m) * bytes≤140737488355328∧n+m≤maxLen then
    some (.slice (some ⟨c,0,none⟩) (n+m) 0,(H.set id none).set c (some ⟨sz,true,b.cells.take (n * sz)++src⟩),c+1)
   else none
  | none=>none
 | _=>none
def gEff (H:Tr Blk) (c:Nat) (e:Opd→Value):EOp→Res
 | .st n x v=>match e x with
  | .pointer (some ⟨id,off,none⟩)=>match H.get id with
   | some b =>
    if b.own=true∧(e v).cells.size=n∧off+n≤b.cells.length∧(e v).cells.all Value.oneCell'=true then
     some (undef,H.set id (some ⟨b.unit,true,b.cells.take off++(e v).cells.toList++b.cells.drop (off+n)⟩),c)
    else none
   | none=>none
  | _=>none
 | .app sz bytes s x=>match srcOf (hpOf H) sz (e x) with
  | some (m,src)=>gApp H c sz bytes (e s) m src
  | none=>none
 | .apps s x=>match e x with
  | .string t=>gApp H c 1 1 (e s) t.data.toList.length (bytesV t)
  | _=>none
theorem gApp_sound {H:Tr Blk} {c sz bytes:Nat} {s:Value} {m:Nat} {src:List Value} {v:Value} {H':Tr Blk} {c':Nat} (h:gApp H c sz bytes s m src=some (v,H',c')) :
  appR (hpOf H) c sz bytes s m src=some (v,hpOf H',c'):=by
 unfold gApp at h
 unfold appR
 split at h
 ·split at h
  ·cases h;rfl
  ·split at h
   ·rename_i h1 h2;cases h;simp only [h1,h2,hpOf_set]
   ·cases h
 ·rename_i id n
  split at h
  ·rename_i b hb
   split at h
   ·rename_i hg
    cases h
    simp only [hpOf,hb]
    rw [if_pos hg]
    have e1:=hpOf_set (H.set id none) c ⟨sz,true,b.cells.take (n * sz)++src⟩
    rw [hpOf_del] at e1
    exact congrArg (fun X=>some (Value.slice (some ⟨c,0,none⟩) (n+m) 0,X,c+1)) e1.symm
   ·cases h
  ·cases h
 ·cases h
theorem gEff_sound {H:Tr Blk} {c:Nat} {e:Opd→Value} {f:EOp} {v:Value} {H':Tr Blk} {c':Nat} (h:gEff H c e f=some (v,H',c')):eev (hpOf H) c e f=some (v,hpOf H',c'):=by
 cases f with
 | st n x u =>
  simp only [gEff] at h
  simp only [eev]
  split at h
  ·rename_i id off he
   simp only [he]
   split at h
   ·rename_i b hb
    split at h
    ·rename_i hg
     cases h
     have hb':hpOf H id=some b:=hb
     simp only [hb']
     rw [if_pos hg]
     rw [hpOf_set]
    ·cases h
   ·cases h
  ·cases h
 | app sz bytes s x =>
  simp only [gEff] at h
  simp only [eev]
  split at h
  ·rename_i m src hs;simp only [hs];exact gApp_sound h
  ·cases h
 | apps s x =>
  simp only [gEff] at h
  simp only [eev]
  split at h
  ·rename_i t he;simp only [he];exact gApp_sound h
  ·cases h
def vEqL (veq:Value→Value→Bool):List Value→List Value→Bool
 | [],[]=>true
 | a :: r,b :: s=>veq a b && vEqL veq r s
 | _,_=>false
def adEq (a b:Option Addr):Bool :=
 match a,b with
 | none,none=>true
 | some ⟨x,y,none⟩,some ⟨u,v,none⟩=>Nat.beq x u && Nat.beq y v
 | _,_=>false
def vEq1:Value→Value→Bool
 | .bool a,.bool b=>a == b
 | .int j a,.int k b=>decide (j=k) && decide (a=b)
 | .string a,.string b=>strL a == strL b
 | .pointer a,.pointer b=>adEq a b
 | .slice a n c,.slice b m d=>adEq a b && Nat.beq n m && Nat.beq c d
 | .nilFunc,.nilFunc=>true
 | .func (.func f) a c,.func (.func g) b d=>Nat.beq f g && a.isEmpty && b.isEmpty && vEqL (fun x y=>match x,y with | .pointer p,.pointer q=>adEq p q|_,_=>false) c.toList d.toList
 | _,_=>false
def vEq2:Value→Value→Bool
 | .agg a,.agg b=>vEqL vEq1 a.toList b.toList
 | .tuple a,.tuple b=>vEqL vEq1 a.toList b.toList
 | a,b=>vEq1 a b
theorem adEq_sound {a b:Option Addr} (h:adEq a b=true):a=b:=by
 unfold adEq at h
 split at h
 ·rfl
 ·rw [Bool.and_eq_true] at h
  rw [Nat.eq_of_beq_eq_true h.1,Nat.eq_of_beq_eq_true h.2]
 ·cases h
theorem vEqL_sound {veq:Value→Value→Bool} (hv:∀ a b,veq a b=true→a=b):∀ {l m:List Value},vEqL veq l m=true→l=m
 | [],[],_=>rfl
 | [],_ :: _,h=>by cases h
 | _ :: _,[],h=>by cases h
 | a :: r,b :: s,h=>by
  simp only [vEqL,Bool.and_eq_true] at h
  rw [hv a b h.1,vEqL_sound hv h.2]
theorem vEq1_sound (a b:Value) (h:vEq1 a b=true):a=b:=by
 unfold vEq1 at h
 split at h
 ·simp only [beq_iff_eq] at h;rw [h]
 ·simp only [Bool.and_eq_true,decide_eq_true_eq] at h;rw [h.1,h.2]
 ·rename_i s t
  simp only [beq_iff_eq] at h
  congr 1
  apply ByteArray.ext
  apply Array.ext'
  exact h
 ·rw [adEq_sound h]
 ·simp only [Bool.and_eq_true] at h
  rw [adEq_sound h.1.1,Nat.eq_of_beq_eq_true h.1.2,Nat.eq_of_beq_eq_true h.2]
 ·rfl
 ·rename_i f a c g b d
  simp only [Bool.and_eq_true] at h
  obtain ⟨⟨⟨h1,h2⟩,h3⟩,h4⟩:=h
  have e1:=Nat.eq_of_beq_eq_true h1
  have e2:a = #[]:=by simpa using h2
  have e3:b = #[]:=by simpa using h3
  have e4:c.toList=d.toList:=vEqL_sound (fun x y hxy=>by
   split at hxy
   ·rw [adEq_sound hxy]
   ·cases hxy) h4
  rw [e1,e2,e3,Array.ext' e4]
 ·cases h
theorem vEq2_sound (a b:Value) (h:vEq2 a b=true):a=b:=by
 unfold vEq2 at h
 split at h
 ·congr 1;exact Array.ext' (vEqL_sound vEq1_sound h)
 ·congr 1;exact Array.ext' (vEqL_sound vEq1_sound h)
 ·exact vEq1_sound a b h
def bEq (a b:Option Blk):Bool :=
 match a,b with
 | none,none=>true
 | some x,some y=>Nat.beq x.unit y.unit && (x.own == y.own) && vEqL vEq1 x.cells y.cells
 | _,_=>false
theorem bEq_sound {a b:Option Blk} (h:bEq a b=true):a=b:=by
 unfold bEq at h
 split at h
 ·rfl
 ·rename_i x y
  simp only [Bool.and_eq_true,beq_iff_eq] at h
  obtain ⟨⟨h1,h2⟩,h3⟩:=h
  obtain ⟨u,o,c⟩:=x
  obtain ⟨u',o',c'⟩:=y
  have e1:=Nat.eq_of_beq_eq_true h1
  have e3:=vEqL_sound vEq1_sound h3
  simp only at e1 h2 e3
  subst e1 h2 e3
  rfl
 ·cases h
def gHide (H:Tr Blk):List Nat→Tr Blk
 | []=>H
 | k :: r=>gHide (H.set k none) r
def gMerge (H:Tr Blk):List Nat→Tr Blk→Tr Blk
 | [],H'=>H'
 | k :: r,H'=>gMerge H r (H'.set k (H.get k))
theorem gHide_eq:∀ (ks:List Nat) (H:Tr Blk),hpOf (gHide H ks)=hide (hpOf H) ks
 | [],H=>by funext j;simp [gHide,hide]
 | k :: r,H=>by
  rw [gHide,gHide_eq r]
  funext j
  simp only [hide,hpOf,Tr.get_set,List.mem_cons]
  by_cases h1:j∈r
  ·simp [h1]
  ·by_cases h2:j=k<;>simp [h1,h2]
theorem gMerge_eq (H:Tr Blk):∀ (ks:List Nat) (H':Tr Blk),hpOf (gMerge H ks H')=merge ks (hpOf H) (hpOf H')
 | [],H'=>by funext j;simp [gMerge,merge]
 | k :: r,H'=>by
  rw [gMerge,gMerge_eq H r]
  funext j
  simp only [merge,hpOf,Tr.get_set,List.mem_cons]
  by_cases h1:j∈r
  ·simp [h1]
  ·by_cases h2:j=k<;>simp [h1,h2]
section
variable {P:Program}
end
end Go.Eng
namespace Go.Eng
def Tr.ofL {α : Type}:List (Nat × α)→Tr α
 | []=>.nil
 | (n,x) :: r=>(Tr.ofL r).set n (some x)
theorem Tr.ofL_mem {α : Type}:∀ (l:List (Nat × α)) (n:Nat) (x : α),(Tr.ofL l).get n=some x→(n,x)∈l
 | [],n,x,h=>by cases h
 | (m,y) :: r,n,x,h=>by
  rw [Tr.ofL,Tr.get_set] at h
  split at h
  ·rename_i e;subst e;cases h;exact List.mem_cons_self
  ·exact List.mem_cons_of_mem _ (Tr.ofL_mem r n x h)
end Go.Eng
end
