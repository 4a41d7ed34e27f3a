/-
  HELPERS of the claim: part 7 of its texts.
-/
import Derived.Test.YtnmkkggfgdfmeaaGreatDoorProg
import Derived.KernelRfl
import Derived.Test.YtnmkkggfgdfmeaaGreatDoorChaf
noncomputable section
set_option maxHeartbeats 4000000
set_option maxRecDepth 100000
set_option linter.unusedVariables false
namespace Go.Proofs.YtnmkkggfgdfmeaaGreatDoor
open Go.Eng (IC IOper DReg IFn A3)
open Go.Sym
section
abbrev u41_16:=qE [oM 39 4,oF 40 7 0,oL 41 40,⟨some 42,.eff (.lkp (.i .i64) (.int .i64 0) false (.t 39) (.t 41)),none⟩,oF 43 8 1,oS 43 42 1] [1,3,4,5,7,8,15,16,17]
abbrev u41_15:=qK u41_16 .skip (.t 38) [1,3,4,5,7,8,15,16,17,38]
abbrev u41_14:=qS [oF 26 7 0,oL 27 26,oK 28 27 .eql 6,oM 29 28,hF 30 7 0 29,hL 31 30 29,hK 32 31 29 .eql 7,oO 33 29 32,oM 34 33,hF 35 7 0 34,hL 36 35 34,hK 37 36 34 .eql 8,oO 38 34 37] u41_15 [1,3,4,5,7,8,15,16,17]
abbrev u41_18:=qE [oM 49 5,oF 50 7 1,oL 51 50,oD 52 8 2,⟨some 53,.callv (.t 49) [.t 51,.t 52],none⟩] [1,3,4,5,7,8,15,16,17]
abbrev u41_17:=qS [oM 44 4,oF 45 7 0,oL 46 45,⟨some 47,.eff (.lkp (.i .i64) (.int .i64 0) false (.t 44) (.t 46)),none⟩,oK 48 47 .add 1,⟨none,.eff (.mup (.i .i64) (.t 44) (.t 46) (.t 48)),none⟩] u41_18 [1,3,4,5,7,8,15,16,17]
abbrev u41_13:=qQ u41_14 u41_17 [1,3,4,5,7,8,15,16,17]
abbrev u41_12:=qS [oF 21 7 0,oL 22 21,oF 23 7 2,oL 24 23,oP 25 (.bld #[.int .i64 0,.int .i64 0] [(0,1),(1,1)] [(0,.t 22),(1,.t 24)]),oW 8 (.agg #[.int .i64 0,.int .i64 0]),oS 8 25 2] u41_13 [1,3,4,5,7,15,16,17]
abbrev u41_11:=qS [oA 19 15 17 4,oD 20 19 4,oW 7 (.agg #[.int .i64 0,.string ⟨#[]⟩,.int .i64 0,.int .i64 0]),oS 7 20 4] u41_12 [1,3,4,5,15,16,17]
abbrev u41_19:=qE [oK 54 17 .add 1,oM 17 54] [1,3,4,5,15,16,17]
abbrev u41_10:=qB u41_11 u41_19 1 [1,3,4,5,15,16,17]
abbrev u41_9:=qC .skip u41_10 (.exit 0) (.t 18) [1,3,4,5,15,16,17,18]
abbrev u41_8:=qS [oB 18 17 16 .lss] u41_9 [1,3,4,5,15,16,17]
abbrev u41_7:=qJ (.loop u41_8) 0 [1,3,4,5,15,16,17]
abbrev u41_6:=qS [oF 14 1 0,oL 15 14,oH 16 15,oI 17 0] u41_7 [1,3,4,5]
abbrev u41_27:=qE [oM 63 5,oF 64 10 0,oL 65 64,oM 66 9,oP 67 (.bld #[.int .i64 0,.int .i64 0] [(0,1),(1,1)] [(0,.k (.int .i64 9)),(1,.t 66)]),⟨some 68,.callv (.t 63) [.t 65,.t 67],none⟩] [3,5,9,10,56,57,58]
abbrev u41_26:=qS [oM 60 58,oA 61 56 58 4,oD 62 61 4,oW 10 (.agg #[.string ⟨#[]⟩,.int .i64 0,.slice none 0 0,.int .i64 0]),oM 9 60,oS 10 62 4] u41_27 [3,5,56,57,58]
abbrev u41_28:=qE [oK 69 58 .add 1,oM 58 69] [3,5,56,57,58]
abbrev u41_25:=qB u41_26 u41_28 3 [3,5,56,57,58]
abbrev u41_24:=qC .skip u41_25 (.exit 2) (.t 59) [3,5,56,57,58,59]
abbrev u41_23:=qS [oB 59 58 57 .lss] u41_24 [3,5,56,57,58]
abbrev u41_22:=qJ (.loop u41_23) 2 [3,5,56,57,58]
abbrev u41_21:=qS [oF 55 1 1,oL 56 55,oH 57 56,oI 58 0] u41_22 [1,3,5]
abbrev u41_29:=qS [oL 70 3,oM 2 70] .ret [3]
abbrev u41_20:=qQ u41_21 u41_29 [1,3,5]
abbrev u41_5:=qQ u41_6 u41_20 [1,3,4,5]
abbrev u41_4:=qS [oP 13 (.mkf 85 [] [.t 3]),oM 5 13] u41_5 [1,3,4]
abbrev u41_3:=qS [⟨some 12,.eff (.mkm (.i .i64)),none⟩,oM 4 12] u41_4 [1,3]
abbrev u41_2:=qS [⟨some 11,.eff (.mkm .s),none⟩,oW 3 (.map none),oS 3 11 1] u41_3 [1]
abbrev u41_1:=qS [oX 1 0,oV 2 (.map none)] u41_2 [0]
def u41:IFn:=⟨71,u41_1,[.tmp 2]⟩
end
theorem isU41:A3 Tryz.prog 41 u41:=by unfold A3;kernel_rfl
section
abbrev u85_5:=qE [oL 15 2,oM 16 0,oD 17 4 2,⟨none,.eff (.mup .s (.t 15) (.t 16) (.t 17)),none⟩] [0,2,4]
abbrev u85_4:=qK u85_5 .skip (.t 14) [0,2,4,14]
abbrev u85_3:=qS [oM 13 6,oY 14 13] u85_4 [0,2,4,6]
abbrev u85_2:=qS [oL 8 2,oM 9 0,⟨some 10,.eff (.lkp .s (.agg #[.int .i64 0,.int .i64 0]) true (.t 8) (.t 9)),none⟩,oM 7 10,oE 11 7 0,oE 12 7 1,oW 5 (.agg #[.int .i64 0,.int .i64 0]),oS 5 11 2,oM 6 12] u85_3 [0,2,4]
abbrev u85_1:=qS [oX 4 1] u85_2 [0,1,2]
def u85:IFn:=⟨18,u85_1,[]⟩
end
theorem isU85:A3 Tryz.prog 85 u85:=by unfold A3;kernel_rfl
section
abbrev u42_11:=qG [oM 19 5,oF 20 7 1,oL 21 20,oF 22 7 3,oL 23 22,oF 24 7 2,oL 25 24,oF 26 7 0,oL 27 26,oC 28 87 [.t 27],⟨some 29,.callv (.t 19) [.t 21,.t 23,.t 25,.t 28],none⟩] [(0,none),(1,none),(2,none),(3,none),(4,none),(5,none),(6,none),(7,none),(8,none),(9,some [0,1,2,3,4,5,6]),(10,some [])] 11 [3,5,7,13,14,15]
abbrev u42_10:=qS [oA 17 13 15 4,oD 18 17 4,oW 7 (.agg #[.int .i64 0,.string ⟨#[]⟩,.int .i64 0,.int .i64 0]),oS 7 18 4] u42_11 [3,5,13,14,15]
abbrev u42_12:=qE [oK 30 15 .add 1,oM 15 30] [3,5,13,14,15]
abbrev u42_9:=qB u42_10 u42_12 1 [3,5,13,14,15]
abbrev u42_8:=qC .skip u42_9 (.exit 0) (.t 16) [3,5,13,14,15,16]
abbrev u42_7:=qS [oB 16 15 14 .lss] u42_8 [3,5,13,14,15]
abbrev u42_6:=qJ (.loop u42_7) 0 [3,5,13,14,15]
abbrev u42_5:=qS [oF 12 3 0,oL 13 12,oH 14 13,oI 15 0] u42_6 [3,5]
abbrev u42_19:=qE [oM 38 5,oF 39 9 0,oL 40 39,oF 41 9 3,oL 42 41,oF 43 9 1,oL 44 43,⟨some 45,.callv (.t 38) [.t 40,.t 42,.t 44,.k (.int .i64 99)],none⟩] [5,9,32,33,34]
abbrev u42_18:=qS [oA 36 32 34 4,oD 37 36 4,oW 9 (.agg #[.string ⟨#[]⟩,.int .i64 0,.slice none 0 0,.int .i64 0]),oS 9 37 4] u42_19 [5,32,33,34]
abbrev u42_20:=qE [oK 46 34 .add 1,oM 34 46] [5,32,33,34]
abbrev u42_17:=qB u42_18 u42_20 3 [5,32,33,34]
abbrev u42_16:=qC .skip u42_17 (.exit 2) (.t 35) [5,32,33,34,35]
abbrev u42_15:=qS [oB 35 34 33 .lss] u42_16 [5,32,33,34]
abbrev u42_14:=qJ (.loop u42_15) 2 [5,32,33,34]
abbrev u42_13:=qS [oF 31 3 1,oL 32 31,oH 33 32,oI 34 0] u42_14 [3,5]
abbrev u42_4:=qQ u42_5 u42_13 [3,5]
abbrev u42_3:=qS [oP 11 (.mkf 86 [] [.t 2,.t 4]),oM 5 11] u42_4 [2,3,4]
abbrev u42_2:=qS [⟨some 10,.eff (.mkm .s),none⟩,oW 4 (.map none),oS 4 10 1] u42_3 [2,3]
abbrev u42_1:=qS [oX 2 0,oX 3 1] u42_2 [0,1]
def u42:IFn:=⟨47,u42_1,[]⟩
end
theorem isU42:A3 Tryz.prog 42 u42:=by unfold A3;kernel_rfl
section
abbrev u86_4:=qE [oL 13 4,oM 14 1,oC 15 47 [.t 13,.t 14,.k (.int .i64 5)]] [0,1,4,5]
abbrev u86_3:=qK u86_4 .skip (.t 12) [0,1,4,5,12]
abbrev u86_2:=qS [oM 10 2,oM 11 3,oB 12 10 11 .gtr] u86_3 [0,1,2,3,4,5]
abbrev u86_8:=qE [oL 19 4,oM 20 1,oC 21 47 [.t 19,.t 20,.k (.int .i64 7)]] [0,1,4,5]
abbrev u86_7:=qK u86_8 .skip (.t 18) [0,1,4,5,18]
abbrev u86_6:=qS [oL 16 5,oM 17 0,⟨some 18,.eff (.lkp .s (.bool false) false (.t 16) (.t 17)),none⟩] u86_7 [0,1,4,5]
abbrev u86_9:=qE [oL 22 5,oM 23 0,⟨none,.eff (.mup .s (.t 22) (.t 23) (.k (.bool true))),none⟩] [0,5]
abbrev u86_5:=qQ u86_6 u86_9 [0,1,4,5]
abbrev u86_1:=qQ u86_2 u86_5 [0,1,2,3,4,5]
def u86:IFn:=⟨24,u86_1,[]⟩
end
theorem isU86:A3 Tryz.prog 86 u86:=by unfold A3;kernel_rfl
section
abbrev u47_3:=qE [oM 11 0,oM 12 0,oM 13 1,oM 14 2,oN 15 11,oF 16 15 1,oS 16 13 1,oN 17 12,oF 18 17 2,oS 18 14 1] [0,1,2]
abbrev u47_2:=qK u47_3 .skip (.t 10) [0,1,2,10]
abbrev u47_1:=qS [oM 6 0,oN 7 6,oF 8 7 2,oL 9 8,oK 10 9 .eql 0] u47_2 [0,1,2]
def u47:IFn:=⟨19,u47_1,[]⟩
end
theorem isU47:A3 Tryz.prog 47 u47:=by unfold A3;kernel_rfl
section
abbrev u43_7:=qE [oM 25 0,oM 26 3,oC 27 47 [.t 25,.t 26,.k (.int .i64 8)]] [0,3]
abbrev u43_10:=qE [oM 33 0,oM 34 3,oC 35 47 [.t 33,.t 34,.k (.int .i64 44)]] [0,3]
abbrev u43_9:=qK u43_10 .skip (.t 28) [0,3,28]
abbrev u43_8:=qS [oF 29 8 0,oL 30 29,oM 31 2,oB 32 30 31 .neq,oM 28 32] u43_9 [0,2,3,8]
abbrev u43_6:=qK u43_7 u43_8 (.t 22) [0,2,3,8,22]
abbrev u43_5:=qS [oM 23 9,oY 24 23,oM 22 24] u43_6 [0,2,3,8,9]
abbrev u43_4:=qK .skip u43_5 (.t 19) [0,2,3,8,9,19]
abbrev u43_3:=qS [oM 20 2,oK 21 20 .eql 0,oM 19 21] u43_4 [0,2,3,8,9]
abbrev u43_2:=qJ u43_3 0 [0,2,3,8,9]
abbrev u43_1:=qS [oM 11 0,oN 12 11,oF 13 12 0,oL 14 13,oM 15 1,⟨some 16,.eff (.lkp .s (.agg #[.int .i64 0,.int .i64 0]) true (.t 14) (.t 15)),none⟩,oM 10 16,oE 17 10 0,oE 18 10 1,oW 8 (.agg #[.int .i64 0,.int .i64 0]),oS 8 17 2,oM 9 18] u43_2 [0,1,2,3]
def u43:IFn:=⟨36,u43_1,[]⟩
end
theorem isU43:A3 Tryz.prog 43 u43:=by unfold A3;kernel_rfl
section
abbrev u57_9:=qE [oM 16 0,oD 17 5 5,oC 18 57 [.t 16,.t 17]] [0,3,5,10,11,12]
abbrev u57_8:=qS [oA 14 10 12 5,oD 15 14 5,oW 5 (.agg #[.int .i64 0,.int .i64 0,.string ⟨#[]⟩,.slice none 0 0,.int .i64 0]),oS 5 15 5] u57_9 [0,3,10,11,12]
abbrev u57_10:=qE [oK 19 12 .add 1,oM 12 19] [0,3,10,11,12]
abbrev u57_7:=qB u57_8 u57_10 1 [0,3,10,11,12]
abbrev u57_6:=qC .skip u57_7 (.exit 0) (.t 13) [0,3,10,11,12,13]
abbrev u57_5:=qS [oB 13 12 11 .lss] u57_6 [0,3,10,11,12]
abbrev u57_4:=qJ (.loop u57_5) 0 [0,3,10,11,12]
abbrev u57_3:=qS [oF 9 3 3,oL 10 9,oH 11 10,oI 12 0] u57_4 [0,3]
abbrev u57_21:=qE [oK 34 30 .eql 24,oM 31 34] [0,3,6,30]
abbrev u57_20:=qK .skip u57_21 (.t 31) [0,3,6,30,31]
abbrev u57_19:=qS [oK 33 30 .eql 23,oM 31 33] u57_20 [0,3,6,30]
abbrev u57_18:=qK .skip u57_19 (.t 31) [0,3,6,30,31]
abbrev u57_17:=qS [oK 32 30 .eql 11,oM 31 32] u57_18 [0,3,6,30]
abbrev u57_23:=qE [oI 6 2] [0,3]
abbrev u57_27:=qE [oK 37 30 .eql 22,oM 35 37] [0,3,6,30]
abbrev u57_26:=qK .skip u57_27 (.t 35) [0,3,6,30,35]
abbrev u57_25:=qS [oK 36 30 .eql 21,oM 35 36] u57_26 [0,3,6,30]
abbrev u57_29:=qE [oF 38 3 3,oL 39 38,oP 40 (.iad 5 (.t 39) (.k (.int .i64 0))),oF 41 40 0,oL 42 41,oC 43 58 [.t 42],oM 6 43] [0,3]
abbrev u57_28:=qK u57_29 .skip (.t 35) [0,3,6,35]
abbrev u57_24:=qQ u57_25 u57_28 [0,3,6,30]
abbrev u57_22:=qK u57_23 u57_24 (.t 31) [0,3,6,30,31]
abbrev u57_16:=qQ u57_17 u57_22 [0,3,6,30]
abbrev u57_15:=qJ u57_16 2 [0,3,6,30]
abbrev u57_14:=qS [oF 29 3 0,oL 30 29] u57_15 [0,3,6]
abbrev u57_38:=qE [oM 56 0,oF 57 3 4,oL 58 57,oC 59 47 [.t 56,.t 58,.k (.int .i64 49)]] [0,3,6,45,46,47]
abbrev u57_37:=qK u57_38 .skip (.t 55) [0,3,6,45,46,47,55]
abbrev u57_36:=qS [oF 51 8 0,oL 52 51,oC 53 58 [.t 52],oM 54 6,oB 55 53 54 .neq] u57_37 [0,3,6,8,45,46,47]
abbrev u57_35:=qS [oA 49 45 47 5,oD 50 49 5,oW 8 (.agg #[.int .i64 0,.int .i64 0,.string ⟨#[]⟩,.slice none 0 0,.int .i64 0]),oS 8 50 5] u57_36 [0,3,6,45,46,47]
abbrev u57_39:=qE [oK 60 47 .add 1,oM 47 60] [0,3,6,45,46,47]
abbrev u57_34:=qB u57_35 u57_39 4 [0,3,6,45,46,47]
abbrev u57_33:=qC .skip u57_34 (.exit 3) (.t 48) [0,3,6,45,46,47,48]
abbrev u57_32:=qS [oB 48 47 46 .lss] u57_33 [0,3,6,45,46,47]
abbrev u57_31:=qJ (.loop u57_32) 3 [0,3,6,45,46,47]
abbrev u57_30:=qS [oF 44 3 3,oL 45 44,oH 46 45,oI 47 0] u57_31 [0,3,6]
abbrev u57_13:=qQ u57_14 u57_30 [0,3,6]
abbrev u57_12:=qS [oI 6 1] u57_13 [0,3]
abbrev u57_11:=qD [oM 20 0,oF 21 3 2,oL 22 21,oF 23 3 0,oL 24 23,oC 25 96 [.t 24],oF 26 3 4,oL 27 26,oC 28 43 [.t 20,.t 22,.t 25,.t 27]] u57_12 [(0,none),(1,none),(2,none),(3,none),(4,none),(6,none),(7,none),(5,some [0,1,2,6,7]),(8,some [])] 9 [0,3]
abbrev u57_2:=qQ u57_3 u57_11 [0,3]
abbrev u57_1:=qS [oX 3 1] u57_2 [0,1]
def u57:IFn:=⟨61,u57_1,[]⟩
end
theorem isU57:A3 Tryz.prog 57 u57:=by unfold A3;kernel_rfl
section
abbrev u48_12:=qE [oI 6 2] [0,5,9,10,11]
abbrev u48_11:=qK u48_12 .skip (.t 26) [0,5,6,9,10,11,26]
abbrev u48_10:=qS [oF 24 5 0,oL 25 24,oK 26 25 .eql 2] u48_11 [0,5,6,9,10,11]
abbrev u48_23:=qE [oM 42 0,oF 43 8 4,oL 44 43,oC 45 47 [.t 42,.t 44,.k (.int .i64 49)]] [0,5,6,8,9,10,11,28,29,30]
abbrev u48_22:=qK u48_23 .skip (.t 41) [0,5,6,8,9,10,11,28,29,30,41]
abbrev u48_21:=qS [oF 37 8 0,oL 38 37,oC 39 58 [.t 38],oM 40 6,oB 41 39 40 .neq] u48_22 [0,5,6,8,9,10,11,28,29,30]
abbrev u48_20:=qS [oM 34 0,oD 35 8 5,oC 36 57 [.t 34,.t 35]] u48_21 [0,5,6,8,9,10,11,28,29,30]
abbrev u48_19:=qS [oA 32 28 30 5,oD 33 32 5,oW 8 (.agg #[.int .i64 0,.int .i64 0,.string ⟨#[]⟩,.slice none 0 0,.int .i64 0]),oS 8 33 5] u48_20 [0,5,6,9,10,11,28,29,30]
abbrev u48_24:=qE [oK 46 30 .add 1,oM 30 46] [0,5,6,9,10,11,28,29,30]
abbrev u48_18:=qB u48_19 u48_24 3 [0,5,6,9,10,11,28,29,30]
abbrev u48_17:=qC .skip u48_18 (.exit 2) (.t 31) [0,5,6,9,10,11,28,29,30,31]
abbrev u48_16:=qS [oB 31 30 29 .lss] u48_17 [0,5,6,9,10,11,28,29,30]
abbrev u48_15:=qJ (.loop u48_16) 2 [0,5,6,9,10,11,28,29,30]
abbrev u48_14:=qS [oF 27 5 3,oL 28 27,oH 29 28,oI 30 0] u48_15 [0,5,6,9,10,11]
abbrev u48_26:=qE [oM 51 0,oF 52 5 5,oL 53 52,oC 54 48 [.t 51,.t 53]] [0,5,9,10,11]
abbrev u48_25:=qS [oM 47 0,oF 48 5 4,oL 49 48,oC 50 48 [.t 47,.t 49]] u48_26 [0,5,9,10,11]
abbrev u48_13:=qQ u48_14 u48_25 [0,5,6,9,10,11]
abbrev u48_9:=qQ u48_10 u48_13 [0,5,6,9,10,11]
abbrev u48_8:=qS [oI 6 1] u48_9 [0,5,9,10,11]
abbrev u48_7:=qD [oM 15 0,oF 16 5 1,oL 17 16,oF 18 5 0,oL 19 18,oC 20 89 [.t 19],oF 21 5 6,oL 22 21,oC 23 43 [.t 15,.t 17,.t 20,.t 22]] u48_8 [(0,none),(1,none),(2,none),(3,none),(4,none),(6,none),(7,none),(5,some [0,1,2,6,7]),(8,some [])] 9 [0,5,9,10,11]
abbrev u48_6:=qS [oA 13 9 11 7,oD 14 13 7,oW 5 (.agg #[.int .i64 0,.string ⟨#[]⟩,.string ⟨#[]⟩,.slice none 0 0,.slice none 0 0,.slice none 0 0,.int .i64 0]),oS 5 14 7] u48_7 [0,9,10,11]
abbrev u48_27:=qE [oK 55 11 .add 1,oM 11 55] [0,9,10,11]
abbrev u48_5:=qB u48_6 u48_27 1 [0,9,10,11]
abbrev u48_4:=qC .skip u48_5 (.exit 0) (.t 12) [0,9,10,11,12]
abbrev u48_3:=qS [oB 12 11 10 .lss] u48_4 [0,9,10,11]
abbrev u48_2:=qJ (.loop u48_3) 0 [0,9,10,11]
abbrev u48_1:=qS [oM 9 1,oH 10 9,oI 11 0] u48_2 [0,1]
def u48:IFn:=⟨56,u48_1,[]⟩
end
theorem isU48:A3 Tryz.prog 48 u48:=by unfold A3;kernel_rfl
section
abbrev u96_7:=qS [oI 2 6] .ret []
abbrev u96_10:=qS [oI 2 1] .ret []
abbrev u96_13:=qS [oI 2 9] .ret []
abbrev u96_16:=qS [oI 2 7] .ret []
abbrev u96_15:=qK u96_16 .skip (.t 10) [10]
abbrev u96_14:=qS [oK 11 3 .eql 7,oM 10 11] u96_15 [3]
abbrev u96_12:=qK u96_13 u96_14 (.t 8) [3,8]
abbrev u96_11:=qS [oK 9 3 .eql 6,oM 8 9] u96_12 [3]
abbrev u96_9:=qK u96_10 u96_11 (.t 6) [3,6]
abbrev u96_8:=qS [oK 7 3 .eql 5,oM 6 7] u96_9 [3]
abbrev u96_6:=qK u96_7 u96_8 (.t 4) [3,4]
abbrev u96_5:=qS [oK 5 3 .eql 2,oM 4 5] u96_6 [3]
abbrev u96_4:=qJ u96_5 0 [3]
abbrev u96_3:=qS [oM 3 0] u96_4 [0]
abbrev u96_17:=qS [oI 2 0] .ret []
abbrev u96_2:=qQ u96_3 u96_17 [0]
abbrev u96_1:=qS [oI 2 0] u96_2 [0]
def u96:IFn:=⟨12,u96_1,[.tmp 2]⟩
end
theorem isU96:A3 Tryz.prog 96 u96:=by unfold A3;kernel_rfl
section
abbrev u89_7:=qS [oI 2 6] .ret []
abbrev u89_13:=qE [oK 9 3 .eql 7,oM 6 9] [3]
abbrev u89_12:=qK .skip u89_13 (.t 6) [3,6]
abbrev u89_11:=qS [oK 8 3 .eql 6,oM 6 8] u89_12 [3]
abbrev u89_10:=qK .skip u89_11 (.t 6) [3,6]
abbrev u89_9:=qS [oK 7 3 .eql 5,oM 6 7] u89_10 [3]
abbrev u89_15:=qS [oI 2 2] .ret []
abbrev u89_19:=qE [oK 12 3 .eql 9,oM 10 12] [3]
abbrev u89_18:=qK .skip u89_19 (.t 10) [3,10]
abbrev u89_17:=qS [oK 11 3 .eql 8,oM 10 11] u89_18 [3]
abbrev u89_21:=qS [oI 2 3] .ret []
abbrev u89_25:=qE [oK 15 3 .eql 11,oM 13 15] [3]
abbrev u89_24:=qK .skip u89_25 (.t 13) [3,13]
abbrev u89_23:=qS [oK 14 3 .eql 10,oM 13 14] u89_24 [3]
abbrev u89_27:=qS [oI 2 7] .ret []
abbrev u89_31:=qE [oK 18 3 .eql 13,oM 16 18] [3]
abbrev u89_30:=qK .skip u89_31 (.t 16) [3,16]
abbrev u89_29:=qS [oK 17 3 .eql 12,oM 16 17] u89_30 [3]
abbrev u89_33:=qS [oI 2 9] .ret []
abbrev u89_36:=qS [oI 2 8] .ret []
abbrev u89_39:=qS [oI 2 4] .ret []
abbrev u89_43:=qE [oK 25 3 .eql 17,oM 23 25] [3]
abbrev u89_42:=qK .skip u89_43 (.t 23) [3,23]
abbrev u89_41:=qS [oK 24 3 .eql 16,oM 23 24] u89_42 [3]
abbrev u89_45:=qS [oI 2 5] .ret []
abbrev u89_44:=qK u89_45 .skip (.t 23) [23]
abbrev u89_40:=qQ u89_41 u89_44 [3]
abbrev u89_38:=qK u89_39 u89_40 (.t 21) [3,21]
abbrev u89_37:=qS [oK 22 3 .eql 15,oM 21 22] u89_38 [3]
abbrev u89_35:=qK u89_36 u89_37 (.t 19) [3,19]
abbrev u89_34:=qS [oK 20 3 .eql 14,oM 19 20] u89_35 [3]
abbrev u89_32:=qK u89_33 u89_34 (.t 16) [3,16]
abbrev u89_28:=qQ u89_29 u89_32 [3]
abbrev u89_26:=qK u89_27 u89_28 (.t 13) [3,13]
abbrev u89_22:=qQ u89_23 u89_26 [3]
abbrev u89_20:=qK u89_21 u89_22 (.t 10) [3,10]
abbrev u89_16:=qQ u89_17 u89_20 [3]
abbrev u89_14:=qK u89_15 u89_16 (.t 6) [3,6]
abbrev u89_8:=qQ u89_9 u89_14 [3]
abbrev u89_6:=qK u89_7 u89_8 (.t 4) [3,4]
abbrev u89_5:=qS [oK 5 3 .eql 1,oM 4 5] u89_6 [3]
abbrev u89_4:=qJ u89_5 0 [3]
abbrev u89_3:=qS [oM 3 0] u89_4 [0]
abbrev u89_46:=qS [oI 2 0] .ret []
abbrev u89_2:=qQ u89_3 u89_46 [0]
abbrev u89_1:=qS [oI 2 0] u89_2 [0]
def u89:IFn:=⟨26,u89_1,[.tmp 2]⟩
end
theorem isU89:A3 Tryz.prog 89 u89:=by unfold A3;kernel_rfl
section
abbrev u44_8:=qE [oK 6 3 .eql 4,oM 4 6] [3]
abbrev u44_7:=qK .skip u44_8 (.t 4) [3,4]
abbrev u44_6:=qS [oK 5 3 .eql 3,oM 4 5] u44_7 [3]
abbrev u44_10:=qS [oI 2 1] .ret []
abbrev u44_13:=qS [oI 2 7] .ret []
abbrev u44_16:=qS [oI 2 8] .ret []
abbrev u44_15:=qK u44_16 .skip (.t 9) [9]
abbrev u44_14:=qS [oK 10 3 .eql 6,oM 9 10] u44_15 [3]
abbrev u44_12:=qK u44_13 u44_14 (.t 7) [3,7]
abbrev u44_11:=qS [oK 8 3 .eql 5,oM 7 8] u44_12 [3]
abbrev u44_9:=qK u44_10 u44_11 (.t 4) [3,4]
abbrev u44_5:=qQ u44_6 u44_9 [3]
abbrev u44_4:=qJ u44_5 0 [3]
abbrev u44_3:=qS [oM 3 0] u44_4 [0]
abbrev u44_17:=qS [oI 2 0] .ret []
abbrev u44_2:=qQ u44_3 u44_17 [0]
abbrev u44_1:=qS [oI 2 0] u44_2 [0]
def u44:IFn:=⟨11,u44_1,[.tmp 2]⟩
end
theorem isU44:A3 Tryz.prog 44 u44:=by unfold A3;kernel_rfl
section
abbrev u97_18:=qE [oK 11 3 .eql 24,oM 4 11] [0,3]
abbrev u97_17:=qK .skip u97_18 (.t 4) [0,3,4]
abbrev u97_16:=qS [oK 10 3 .eql 23,oM 4 10] u97_17 [0,3]
abbrev u97_15:=qK .skip u97_16 (.t 4) [0,3,4]
abbrev u97_14:=qS [oK 9 3 .eql 11,oM 4 9] u97_15 [0,3]
abbrev u97_13:=qK .skip u97_14 (.t 4) [0,3,4]
abbrev u97_12:=qS [oK 8 3 .eql 6,oM 4 8] u97_13 [0,3]
abbrev u97_11:=qK .skip u97_12 (.t 4) [0,3,4]
abbrev u97_10:=qS [oK 7 3 .eql 5,oM 4 7] u97_11 [0,3]
abbrev u97_9:=qK .skip u97_10 (.t 4) [0,3,4]
abbrev u97_8:=qS [oK 6 3 .eql 4,oM 4 6] u97_9 [0,3]
abbrev u97_7:=qK .skip u97_8 (.t 4) [0,3,4]
abbrev u97_6:=qS [oK 5 3 .eql 3,oM 4 5] u97_7 [0,3]
abbrev u97_20:=qS [oV 2 (.bool true)] .ret []
abbrev u97_19:=qK u97_20 .skip (.t 4) [0,4]
abbrev u97_5:=qQ u97_6 u97_19 [0,3]
abbrev u97_4:=qJ u97_5 0 [0,3]
abbrev u97_3:=qS [oM 3 0] u97_4 [0]
abbrev u97_21:=qS [oM 12 0,oK 13 12 .geq 17,oM 14 13,gM 15 0 14,gK 16 15 14 .leq 22,oJ 17 14 16,oM 2 17] .ret [0]
abbrev u97_2:=qQ u97_3 u97_21 [0]
abbrev u97_1:=qS [oV 2 (.bool false)] u97_2 [0]
def u97:IFn:=⟨18,u97_1,[.tmp 2]⟩
end
theorem isU97:A3 Tryz.prog 97 u97:=by unfold A3;kernel_rfl
section
abbrev u58_5:=qS [oI 2 2] .ret []
abbrev u58_4:=qK u58_5 .skip (.t 4) [4]
abbrev u58_3:=qS [oM 3 0,oC 4 97 [.t 3]] u58_4 [0]
abbrev u58_6:=qS [oI 2 1] .ret []
abbrev u58_2:=qQ u58_3 u58_6 [0]
abbrev u58_1:=qS [oI 2 0] u58_2 [0]
def u58:IFn:=⟨5,u58_1,[.tmp 2]⟩
end
theorem isU58:A3 Tryz.prog 58 u58:=by unfold A3;kernel_rfl
section
abbrev u87_7:=qS [oI 2 63] .ret []
abbrev u87_10:=qS [oI 2 31] .ret []
abbrev u87_16:=qE [oK 11 3 .eql 5,oM 8 11] [3]
abbrev u87_15:=qK .skip u87_16 (.t 8) [3,8]
abbrev u87_14:=qS [oK 10 3 .eql 4,oM 8 10] u87_15 [3]
abbrev u87_13:=qK .skip u87_14 (.t 8) [3,8]
abbrev u87_12:=qS [oK 9 3 .eql 3,oM 8 9] u87_13 [3]
abbrev u87_18:=qS [oI 2 63] .ret []
abbrev u87_17:=qK u87_18 .skip (.t 8) [8]
abbrev u87_11:=qQ u87_12 u87_17 [3]
abbrev u87_9:=qK u87_10 u87_11 (.t 6) [3,6]
abbrev u87_8:=qS [oK 7 3 .eql 2,oM 6 7] u87_9 [3]
abbrev u87_6:=qK u87_7 u87_8 (.t 4) [3,4]
abbrev u87_5:=qS [oK 5 3 .eql 1,oM 4 5] u87_6 [3]
abbrev u87_4:=qJ u87_5 0 [3]
abbrev u87_3:=qS [oM 3 0] u87_4 [0]
abbrev u87_19:=qS [oI 2 2147483647] .ret []
abbrev u87_2:=qQ u87_3 u87_19 [0]
abbrev u87_1:=qS [oI 2 0] u87_2 [0]
def u87:IFn:=⟨12,u87_1,[.tmp 2]⟩
end
theorem isU87:A3 Tryz.prog 87 u87:=by unfold A3;kernel_rfl
section
abbrev u17_5:=qS [oI 2 0,oI 3 1] .ret []
abbrev u17_4:=qK u17_5 .skip (.t 11) [1,11]
abbrev u17_3:=qS [oD 9 1 2,oC 10 40 [.t 9],oY 11 10] u17_4 [1]
abbrev u17_25:=qE [oM 49 4,oF 50 8 3,oL 51 50,oC 52 47 [.t 49,.t 51,.k (.int .i64 7)]] [4,6,8,20,21,22,27,28,29]
abbrev u17_24:=qK u17_25 .skip (.t 48) [4,6,8,20,21,22,27,28,29,48]
abbrev u17_23:=qS [oF 43 6 2,oL 44 43,oM 45 7,oP 46 (.slc 4 (.t 44) none (some (.t 45))),oP 47 (.mkf 46 [] [.t 8]),oC 48 45 [.t 46,.t 47]] u17_24 [4,6,7,8,20,21,22,27,28,29]
abbrev u17_26:=qE [oM 53 4,oF 54 8 2,oL 55 54,oC 56 48 [.t 53,.t 55]] [4,6,8,20,21,22,27,28,29]
abbrev u17_22:=qQ u17_23 u17_26 [4,6,7,8,20,21,22,27,28,29]
abbrev u17_21:=qD [oM 34 4,oF 35 8 1,oL 36 35,oF 37 8 0,oL 38 37,oC 39 44 [.t 38],oF 40 8 3,oL 41 40,oC 42 43 [.t 34,.t 36,.t 39,.t 41]] u17_22 [(0,none),(1,none),(2,none),(3,none),(4,none),(6,none),(7,none),(5,some [0,1,2,6,7]),(8,some [])] 9 [4,6,7,8,20,21,22,27,28,29]
abbrev u17_20:=qS [oM 31 29,oA 32 27 29 4,oD 33 32 4,oW 8 (.agg #[.int .i64 0,.string ⟨#[]⟩,.slice none 0 0,.int .i64 0]),oM 7 31,oS 8 33 4] u17_21 [4,6,20,21,22,27,28,29]
abbrev u17_27:=qE [oK 57 29 .add 1,oM 29 57] [4,6,20,21,22,27,28,29]
abbrev u17_19:=qB u17_20 u17_27 3 [4,6,20,21,22,27,28,29]
abbrev u17_18:=qC .skip u17_19 (.exit 2) (.t 30) [4,6,20,21,22,27,28,29,30]
abbrev u17_17:=qS [oB 30 29 28 .lss] u17_18 [4,6,20,21,22,27,28,29]
abbrev u17_16:=qJ (.loop u17_17) 2 [4,6,20,21,22,27,28,29]
abbrev u17_15:=qS [oF 26 6 2,oL 27 26,oH 28 27,oI 29 0] u17_16 [4,6,20,21,22]
abbrev u17_14:=qS [oA 24 20 22 4,oD 25 24 4,oW 6 (.agg #[.string ⟨#[]⟩,.int .i64 0,.slice none 0 0,.int .i64 0]),oS 6 25 4] u17_15 [4,20,21,22]
abbrev u17_28:=qE [oK 58 22 .add 1,oM 22 58] [4,20,21,22]
abbrev u17_13:=qB u17_14 u17_28 1 [4,20,21,22]
abbrev u17_12:=qC .skip u17_13 (.exit 0) (.t 23) [4,20,21,22,23]
abbrev u17_11:=qS [oB 23 22 21 .lss] u17_12 [4,20,21,22]
abbrev u17_10:=qJ (.loop u17_11) 0 [4,20,21,22]
abbrev u17_9:=qS [oF 19 1 1,oL 20 19,oH 21 20,oI 22 0] u17_10 [1,4]
abbrev u17_29:=qD [oM 59 4,oN 60 59,oF 61 60 1,oL 62 61,oM 63 4,oN 64 63,oF 65 64 2,oL 66 65,oM 2 62,oM 3 66] .ret [(0,none),(1,none),(2,none),(3,none),(4,none),(5,none),(6,none),(7,none),(8,some [4,5,6,7]),(9,some [])] 10 [4]
abbrev u17_8:=qQ u17_9 u17_29 [1,4]
abbrev u17_7:=qS [oM 16 4,oD 17 1 2,oC 18 42 [.t 16,.t 17]] u17_8 [1,4]
abbrev u17_6:=qS [oD 12 1 2,oC 13 41 [.t 12],oP 14 (.bld #[.map none,.int .i64 0,.int .i64 0] [(0,1),(1,1),(2,1)] [(0,.t 13)]),oX 15 14,oM 4 15] u17_7 [1]
abbrev u17_2:=qQ u17_3 u17_6 [1]
abbrev u17_1:=qS [oX 1 0,oI 2 0,oI 3 0] u17_2 [0]
def u17:IFn:=⟨67,u17_1,[.tmp 2,.tmp 3]⟩
end
theorem isU17:A3 Tryz.prog 17 u17:=by unfold A3;kernel_rfl
section
abbrev u46_2:=qS [oF 4 2 0,oL 5 4,oF 6 1 0,oL 7 6,oB 8 5 7 .eql,oM 9 8,gF 10 2 1 9,gL 11 10 9,gF 12 1 1 9,gL 13 12 9,oG 14 (.bin .eql (.t 11) (.t 13)) 9,oJ 15 9 14,oM 3 15] .ret [1,2]
abbrev u46_1:=qS [oX 2 0,oV 3 (.bool false)] u46_2 [0,1]
def u46:IFn:=⟨16,u46_1,[.tmp 3]⟩
end
theorem isU46:A3 Tryz.prog 46 u46:=by unfold A3;kernel_rfl
section
abbrev u28_5:=qS [oI 4 0,oI 5 0] .ret []
abbrev u28_4:=qK u28_5 .skip (.t 9) [1,2,9]
abbrev u28_3:=qS [oD 7 2 2,oC 8 40 [.t 7],oY 9 8] u28_4 [1,2]
abbrev u28_7:=qD [oF 14 6 0,oL 15 14,oF 16 6 1,oL 17 16,oM 4 15,oM 5 17] .ret [(0,none),(1,none),(2,none),(3,none),(4,some [2,3]),(5,some [])] 6 [6]
abbrev u28_6:=qS [oD 10 2 2,oC 11 41 [.t 10],oM 12 1,⟨some 13,.eff (.lkp .s (.agg #[.int .i64 0,.int .i64 0]) false (.t 11) (.t 12)),none⟩,oW 6 (.agg #[.int .i64 0,.int .i64 0]),oS 6 13 2] u28_7 [1,2]
abbrev u28_2:=qQ u28_3 u28_6 [1,2]
abbrev u28_1:=qS [oX 2 0,oI 4 0,oI 5 0] u28_2 [0,1]
def u28:IFn:=⟨18,u28_1,[.tmp 4,.tmp 5]⟩
end
theorem isU28:A3 Tryz.prog 28 u28:=by unfold A3;kernel_rfl
section
abbrev u91_8:=qE [oF 15 5 3,oL 16 15,oM 17 1,oC 18 91 [.t 16,.t 17]] [1,5,6,7,8]
abbrev u91_7:=qS [oM 12 1,oF 13 5 2,oL 14 13,⟨none,.eff (.mup .s (.t 12) (.t 14) (.k (.bool true))),none⟩] u91_8 [1,5,6,7,8]
abbrev u91_6:=qS [oA 10 6 8 5,oD 11 10 5,oW 5 (.agg #[.int .i64 0,.int .i64 0,.string ⟨#[]⟩,.slice none 0 0,.int .i64 0]),oS 5 11 5] u91_7 [1,6,7,8]
abbrev u91_9:=qE [oK 19 8 .add 1,oM 8 19] [1,6,7,8]
abbrev u91_5:=qB u91_6 u91_9 1 [1,6,7,8]
abbrev u91_4:=qC .skip u91_5 (.exit 0) (.t 9) [1,6,7,8,9]
abbrev u91_3:=qS [oB 9 8 7 .lss] u91_4 [1,6,7,8]
abbrev u91_2:=qJ (.loop u91_3) 0 [1,6,7,8]
abbrev u91_1:=qS [oM 6 0,oH 7 6,oI 8 0] u91_2 [0,1]
def u91:IFn:=⟨20,u91_1,[]⟩
end
theorem isU91:A3 Tryz.prog 91 u91:=by unfold A3;kernel_rfl
section
abbrev u50_10:=qE [oF 23 5 5,oL 24 23,oM 25 1,oC 26 50 [.t 24,.t 25]] [1,5,6,7,8]
abbrev u50_9:=qS [oF 19 5 4,oL 20 19,oM 21 1,oC 22 50 [.t 20,.t 21]] u50_10 [1,5,6,7,8]
abbrev u50_8:=qS [oF 15 5 3,oL 16 15,oM 17 1,oC 18 91 [.t 16,.t 17]] u50_9 [1,5,6,7,8]
abbrev u50_7:=qS [oM 12 1,oF 13 5 1,oL 14 13,⟨none,.eff (.mup .s (.t 12) (.t 14) (.k (.bool true))),none⟩] u50_8 [1,5,6,7,8]
abbrev u50_6:=qS [oA 10 6 8 7,oD 11 10 7,oW 5 (.agg #[.int .i64 0,.string ⟨#[]⟩,.string ⟨#[]⟩,.slice none 0 0,.slice none 0 0,.slice none 0 0,.int .i64 0]),oS 5 11 7] u50_7 [1,6,7,8]
abbrev u50_11:=qE [oK 27 8 .add 1,oM 8 27] [1,6,7,8]
abbrev u50_5:=qB u50_6 u50_11 1 [1,6,7,8]
abbrev u50_4:=qC .skip u50_5 (.exit 0) (.t 9) [1,6,7,8,9]
abbrev u50_3:=qS [oB 9 8 7 .lss] u50_4 [1,6,7,8]
abbrev u50_2:=qJ (.loop u50_3) 0 [1,6,7,8]
abbrev u50_1:=qS [oM 6 0,oH 7 6,oI 8 0] u50_2 [0,1]
def u50:IFn:=⟨28,u50_1,[]⟩
end
theorem isU50:A3 Tryz.prog 50 u50:=by unfold A3;kernel_rfl
section
abbrev u21_5:=qS [oV 2 (.slice none 0 0)] .ret []
abbrev u21_4:=qK u21_5 .skip (.t 13) [1,13]
abbrev u21_3:=qS [oD 11 1 2,oC 12 40 [.t 11],oY 13 12] u21_4 [1]
abbrev u21_21:=qE [oF 32 7 2,oL 33 32,oM 34 3,oC 35 50 [.t 33,.t 34]] [1,3,7,16,17,18,23,24,25]
abbrev u21_20:=qS [oM 29 3,oF 30 7 1,oL 31 30,⟨none,.eff (.mup .s (.t 29) (.t 31) (.k (.bool true))),none⟩] u21_21 [1,3,7,16,17,18,23,24,25]
abbrev u21_19:=qS [oA 27 23 25 4,oD 28 27 4,oW 7 (.agg #[.int .i64 0,.string ⟨#[]⟩,.slice none 0 0,.int .i64 0]),oS 7 28 4] u21_20 [1,3,16,17,18,23,24,25]
abbrev u21_22:=qE [oK 36 25 .add 1,oM 25 36] [1,3,16,17,18,23,24,25]
abbrev u21_18:=qB u21_19 u21_22 3 [1,3,16,17,18,23,24,25]
abbrev u21_17:=qC .skip u21_18 (.exit 2) (.t 26) [1,3,16,17,18,23,24,25,26]
abbrev u21_16:=qS [oB 26 25 24 .lss] u21_17 [1,3,16,17,18,23,24,25]
abbrev u21_15:=qJ (.loop u21_16) 2 [1,3,16,17,18,23,24,25]
abbrev u21_14:=qS [oF 22 5 2,oL 23 22,oH 24 23,oI 25 0] u21_15 [1,3,5,16,17,18]
abbrev u21_13:=qS [oA 20 16 18 4,oD 21 20 4,oW 5 (.agg #[.string ⟨#[]⟩,.int .i64 0,.slice none 0 0,.int .i64 0]),oS 5 21 4] u21_14 [1,3,16,17,18]
abbrev u21_23:=qE [oK 37 18 .add 1,oM 18 37] [1,3,16,17,18]
abbrev u21_12:=qB u21_13 u21_23 1 [1,3,16,17,18]
abbrev u21_11:=qC .skip u21_12 (.exit 0) (.t 19) [1,3,16,17,18,19]
abbrev u21_10:=qS [oB 19 18 17 .lss] u21_11 [1,3,16,17,18]
abbrev u21_9:=qJ (.loop u21_10) 0 [1,3,16,17,18]
abbrev u21_8:=qS [oF 15 1 1,oL 16 15,oH 17 16,oI 18 0] u21_9 [1,3]
abbrev u21_34:=qE [oM 50 8,oF 51 10 1,oL 52 51,⟨some 53,.new (.bsl 1 1 #[.string ⟨#[]⟩] [(0,.t 52)]),none⟩,oT 54 50 53 1 16,oM 8 54] [3,8,10,39,40,41]
abbrev u21_33:=qK u21_34 .skip (.t 49) [3,8,10,39,40,41,49]
abbrev u21_32:=qS [oM 45 3,oF 46 10 1,oL 47 46,⟨some 48,.eff (.lkp .s (.bool false) false (.t 45) (.t 47)),none⟩,oY 49 48] u21_33 [3,8,10,39,40,41]
abbrev u21_31:=qS [oA 43 39 41 4,oD 44 43 4,oW 10 (.agg #[.int .i64 0,.string ⟨#[]⟩,.int .i64 0,.int .i64 0]),oS 10 44 4] u21_32 [3,8,39,40,41]
abbrev u21_35:=qE [oK 55 41 .add 1,oM 41 55] [3,8,39,40,41]
abbrev u21_30:=qB u21_31 u21_35 5 [3,8,39,40,41]
abbrev u21_29:=qC .skip u21_30 (.exit 4) (.t 42) [3,8,39,40,41,42]
abbrev u21_28:=qS [oB 42 41 40 .lss] u21_29 [3,8,39,40,41]
abbrev u21_27:=qJ (.loop u21_28) 4 [3,8,39,40,41]
abbrev u21_26:=qS [oF 38 1 0,oL 39 38,oH 40 39,oI 41 0] u21_27 [1,3,8]
abbrev u21_36:=qS [oM 56 8,oM 2 56] .ret [8]
abbrev u21_25:=qQ u21_26 u21_36 [1,3,8]
abbrev u21_24:=qS [oV 8 (.slice none 0 0)] u21_25 [1,3]
abbrev u21_7:=qQ u21_8 u21_24 [1,3]
abbrev u21_6:=qS [⟨some 14,.eff (.mkm .s),none⟩,oM 3 14] u21_7 [1]
abbrev u21_2:=qQ u21_3 u21_6 [1]
abbrev u21_1:=qS [oX 1 0,oV 2 (.slice none 0 0)] u21_2 [0]
def u21:IFn:=⟨57,u21_1,[.tmp 2]⟩
end
theorem isU21:A3 Tryz.prog 21 u21:=by unfold A3;kernel_rfl
end Go.Proofs.YtnmkkggfgdfmeaaGreatDoor
set_option linter.unusedSectionVars false
set_option linter.unusedSimpArgs false
namespace Go.Pb
variable [Go.Sym.Tab]
open Go.Sym
abbrev Er:=Option (Int × Int)
def cnD (l:List Dc) (k:Int):Nat:=l.countP (fun d=>d.kind == k)
def cnR (r:Ru) (k:Int):Nat:=if k=9 then r.modes.length else cnD r.decls k
def lkD (pre:List Dc):List Dc->List UInt8->Option (Int × Int)
 | [],_=>none
 | d :: l,n=>if d.name=n then some (d.kind,if d.kind<6 then d.value else (cnR ⟨pre,[]⟩ d.kind:Int)) else lkD (pre++[d]) l n
def lkM (i:Nat):List Md->List UInt8->Option (Int × Int)
 | [],_=>none
 | m :: l,n=>if m.name=n then some (9,(i:Int)) else lkM (i+1) l n
def N6 (r:Ru) (n:List UInt8):Int × Int:=match lkD [] r.decls n with
 | some q=>q
 | none=>match lkM 0 r.modes n with
  | some q=>q
  | none=>(0,0)
def dnM (r:Ru) (n:List UInt8) (k:Int):Int:=if k=0\/(N6 r n).1=k then 0 else if (N6 r n).1=0 then 8 else 44
def dnE (r:Ru) (n:List UInt8) (k p:Int):Er:=if dnM r n k=0 then none else some (p,dnM r n k)
def kdE (k:Int):Int:=if k=2 then 6 else if k=5 then 1 else if k=6 then 9 else if k=7 then 7 else 0
def kdS (k:Int):Int:=if k=1 then 6 else if k=5\/k=6\/k=7 then 2 else if k=8\/k=9 then 3 else if k=10\/k=11 then 7 else if k=12\/k=13 then 9 else if k=14 then 8 else if k=15 then 4 else if k=16\/k=17 then 5 else 0
def kdH (k:Int):Int:=if k=3\/k=4 then 1 else if k=5 then 7 else if k=6 then 8 else 0
def A7b (k:Int):Int:=if k=1 then 63 else if k=2 then 31 else if k=3\/k=4\/k=5 then 63 else 2147483647
def bolM (k:Int):Bool:=k == 3 || k == 4 || k == 5 || k == 6 || k == 11 || decide (17<=k)
def M6 (k:Int):Int:=if bolM k=true then 2 else 1
def T1 (k:Int) (a:List Ex):Int:=if k=11\/k=23\/k=24 then 2 else if k=21\/k=22 then (match a with
 | []=>1
 | x :: _=>M6 x.kind) else 1
mutual
def erE (r:Ru):Ex->Er
 | .mk k v n a p=>((N2 r a).or (dnE r n (kdE k) p)).or (if a.all (fun x=>M6 x.kind == T1 k a)=true then none else some (p,49))
def N2 (r:Ru):List Ex->Er
 | []=>none
 | x :: l=>(erE r x).or (N2 r l)
end
def erA (r:Ru) (b:Bool):List Ex->Er
 | []=>none
 | x :: l=>((erE r x).or (if (M6 x.kind == 2)=b then none else some (x.pos,49))).or (erA r b l)
mutual
def erS (r:Ru):St->Er
 | .mk k n t a x y p=>(((dnE r n (kdS k) p).or (erA r (k == 2) a)).or (erB r x)).or (erB r y)
def erB (r:Ru):List St->Er
 | []=>none
 | s :: l=>(erS r s).or (erB r l)
end
def erD (pre:List Dc):List Dc->Er
 | []=>none
 | d :: l=>((if d.value>A7b d.kind then some (d.pos,5) else none:Er).or (if (N6 ⟨pre,[]⟩ d.name).1=0 then none else some (d.pos,7))).or (erD (pre++[d]) l)
def erP (D:List Dc) (pre:List Md):List Md->Er
 | []=>none
 | m :: l=>((if m.prio>99 then some (m.pos,5) else none:Er).or (if (N6 ⟨D,pre⟩ m.name).1=0 then none else some (m.pos,7))).or (erP D (pre++[m]) l)
def heaE (r:Ru):Er:=(erD [] r.decls).or (erP r.decls [] r.modes)
def erH (r:Ru) (pre:List Hd):List Hd->Er
 | []=>none
 | h :: l=>(((dnE r h.name (kdH h.trig) h.pos).or (if pre.any (fun x=>x.trig == h.trig && x.name == h.name)=true then some (h.pos,7) else none)).or (erB r h.body)).or (erH r (pre++[h]) l)
def erM (r:Ru):List Md->Er
 | []=>none
 | m :: l=>(erH r [] m.hds).or (erM r l)
def A7p (r:Ru):Er:=(heaE r).or (erM r r.modes)
def erV:Er->DV
 | some (p,c)=>.tup [I64 p,I64 c]
 | none=>.tup [I64 0,I64 0]
def chkV (r:Ru):DV:=if T4 r=true then erV (A7p r) else .tup [I64 0,I64 1]
mutual
def inE (n:List UInt8):Ex->Bool
 | .mk k v m a p=>(kdE k != 0 && m == n) || inEs n a
def inEs (n:List UInt8):List Ex->Bool
 | []=>false
 | x :: l=>inE n x || inEs n l
end
mutual
def inS (n:List UInt8):St->Bool
 | .mk k m t a x y p=>((m == n || inEs n a) || inB n x) || inB n y
def inB (n:List UInt8):List St->Bool
 | []=>false
 | s :: l=>inS n s || inB n l
end
def usdM (r:Ru) (n:List UInt8):Bool:=r.modes.any fun m=>m.hds.any fun h=>h.name == n || inB n h.body
def unuM (r:Ru):List (List UInt8):=(r.decls.filter fun d => !usdM r d.name).map Dc.name
theorem erV_nl (e:Er):(erV e).nl=true:=by cases e<;>rfl
theorem Y6 {α : Type} {l:List α} {i:Nat} {x : α} (h:l[i]? = some x):l.take i++[x]=l.take (i+1):=by
 rw [List.take_add_one,h];rfl
def NzE (e:Er):Prop:=∀ p c,e=some (p,c)->c≠0
theorem NzE.or {a b:Er} (ha:NzE a) (hb:NzE b):NzE (a.or b):=by
 intro p c h;cases a with
 | none=>exact hb p c (by simpa using h)
 | some q=>exact ha p c (by simpa using h)
theorem V6:NzE none:=fun p c h=>by cases h
theorem nz_if {b:Prop} [Decidable b] {p c:Int} (h:c≠0):NzE (if b then none else some (p,c)):=by
 intro p' c' e;split at e
 ·cases e
 ·cases e;exact h
theorem A6y {b:Prop} [Decidable b] {p c:Int} (h:c≠0):NzE (if b then some (p,c) else none):=by
 intro p' c' e;split at e
 ·cases e;exact h
 ·cases e
theorem A5r (r:Ru) (n:List UInt8) (k p:Int):NzE (dnE r n k p):=by
 intro p' c h;unfold dnE at h;split at h
 ·cases h
 ·cases h;assumption
mutual
theorem nz_E (r:Ru):∀ e:Ex,NzE (erE r e)
 | .mk k v n a p=>by rw [erE];exact ((nz_Es r a).or (A5r _ _ _ _)).or (nz_if (by decide))
theorem nz_Es (r:Ru):∀ l:List Ex,NzE (N2 r l)
 | []=>by rw [N2];exact V6
 | x :: l=>by rw [N2];exact (nz_E r x).or (nz_Es r l)
end
theorem nz_A (r:Ru) (b:Bool):∀ l:List Ex,NzE (erA r b l)
 | []=>by rw [erA];exact V6
 | x :: l=>by rw [erA];exact ((nz_E r x).or (nz_if (by decide))).or (nz_A r b l)
mutual
theorem nz_S (r:Ru):∀ e:St,NzE (erS r e)
 | .mk k n t a x y p=>by rw [erS];exact (((A5r _ _ _ _).or (nz_A _ _ _)).or (nz_B r x)).or (nz_B r y)
theorem nz_B (r:Ru):∀ l:List St,NzE (erB r l)
 | []=>by rw [erB];exact V6
 | x :: l=>by rw [erB];exact (nz_S r x).or (nz_B r l)
end
theorem nz_D:∀ (l pre:List Dc),NzE (erD pre l)
 | [],pre=>by rw [erD];exact V6
 | d :: l,pre=>by rw [erD];exact ((A6y (by decide)).or (nz_if (by decide))).or (nz_D l _)
theorem nz_P (D:List Dc):∀ (l pre:List Md),NzE (erP D pre l)
 | [],pre=>by rw [erP];exact V6
 | d :: l,pre=>by rw [erP];exact ((A6y (by decide)).or (nz_if (by decide))).or (nz_P D l _)
theorem nz_hea (r:Ru):NzE (heaE r):=(nz_D _ _).or (nz_P _ _ _)
theorem nz_H (r:Ru):∀ (l pre:List Hd),NzE (erH r pre l)
 | [],pre=>by rw [erH];exact V6
 | d :: l,pre=>by rw [erH];exact (((A5r _ _ _ _).or (A6y (by decide))).or (nz_B r _)).or (nz_H r l _)
theorem nz_M (r:Ru):∀ (l:List Md),NzE (erM r l)
 | []=>by rw [erM];exact V6
 | d :: l=>by rw [erM];exact (nz_H r _ _).or (nz_M r l)
theorem msL_mem {k:Int}:∀ {i:Nat} {l:List Ex} {q:Nat × Nat},msL k i l=some q->∀ x∈l, ∃ q,msM x=some q
 | i,[],q,h,x,hx=>by cases hx
 | i,e :: l,q,h,x,hx=>by
  rw [msL] at h;cases he:msM e with
  | none=>rw [he] at h;cases h
  | some q1 =>
   rw [he] at h;dsimp only at h;cases hl:msL k (i+1) l with
   | none=>rw [hl] at h;cases h
   | some q2 =>
    rcases List.mem_cons.1 hx with rfl|hx
    ·exact ⟨_,he⟩
    ·exact msL_mem hl x hx
theorem ms_args {e:Ex} {q:Nat × Nat} (h:msM e=some q):∀ x∈e.args, ∃ q,msM x=some q:=by
 cases e with|mk k v n a p =>
 obtain ⟨o,d⟩:=q;obtain ⟨m1,m2,m3,m4,m5,m6⟩:=A4a h;intro x hx;by_cases hc:H8 k=0
 ·have:a=[]:=List.eq_nil_of_length_eq_zero (by omega);subst this;cases hx
 ·obtain ⟨d',h1, -⟩:=m6 hc;exact msL_mem h1 x hx
theorem ms_two {e:Ex} {q:Nat × Nat} (h:msM e=some q) (hk:e.kind=21\/e.kind=22):e.args.length=2:=by
 cases e with|mk k v n a p =>
 obtain ⟨o,d⟩:=q;obtain ⟨m1,m2,m3,m4,m5,m6⟩:=A4a h;show a.length=2;rw [m2];rcases hk with hk|hk
 all_goals (have hk:k=_:=hk;subst hk;decide)
theorem erS_e (r:Ru) (s:St):erS r s=(((dnE r s.name (kdS s.kind) s.pos).or (erA r (s.kind == 2) s.args)).or (erB r s.thn)).or (erB r s.els):=by
 cases s with|mk k n t a x y p=>rw [erS];rfl
theorem A5i {d:Nat}:∀ {l:List St},G4 d l=true->∀ s∈l,U6 d s=true
 | s0 :: l,h,s,hs=>by
  rw [G4,Bool.and_eq_true] at h;rcases List.mem_cons.1 hs with rfl|hs
  ·exact h.1
  ·exact A5i h.2 s hs
theorem A3k {d:Nat} {s:St} (h:U6 d s=true):(∀ x∈s.args, ∃ q,msM x=some q)/\G4 (d+1) s.thn=true/\G4 (d+1) s.els=true:=by
 cases s with|mk k n t a x y p =>
 rw [U6] at h;simp only [Bool.and_eq_true] at h;refine ⟨fun e he=>?_,h.2.1.2,h.2.2.2⟩;have h1:=List.all_eq_true.1 h.1.1.1.2.2 e he;unfold A2i at h1;cases hm:msM e with
 | none=>rw [hm] at h1;cases h1
 | some q=>exact ⟨q,rfl⟩
theorem vld_body {r:Ru} (h:T4 r=true):∀ m∈r.modes, ∀ x∈m.hds,G4 1 x.body=true:=by
 intro m hm x hx;unfold T4 at h;simp only [Bool.and_eq_true] at h;have h1:=List.all_eq_true.1 h.2 m hm;unfold Z5 at h1;simp only [Bool.and_eq_true] at h1;have h2:=List.all_eq_true.1 h1.2 x hx;unfold A3l at h2;simp only [Bool.and_eq_true] at h2;have h3:=h2.2;unfold Q2 at h3;simp only [Bool.and_eq_true] at h3;exact h3.2
theorem sz_md {r:Ru} {m:Md} (h:m∈r.modes):m.sz<=r.sz:=by
 have:m.sz<=(r.modes.map Md.sz).sum:=P2 h;show _<=(r.decls.map Dc.sz).sum+(r.modes.map Md.sz).sum;omega
theorem sz_hd {m:Md} {x:Hd} (h:x∈m.hds):x.sz<=m.sz:=by
 have:x.sz<=(m.hds.map Hd.sz).sum:=P2 h;show _<=1+m.name.length+(m.hds.map Hd.sz).sum;omega
theorem sz_dl (r:Ru):r.decls.length<=r.sz:=by
 have:r.decls.length<=(r.decls.map Dc.sz).sum:=P3 fun x _=>by show 1<=1+_;omega
 show _<=(r.decls.map Dc.sz).sum+(r.modes.map Md.sz).sum;omega
theorem sz_ml (r:Ru):r.modes.length<=r.sz:=by
 have:r.modes.length<=(r.modes.map Md.sz).sum:=P3 fun x _=>by show 1<=1+_+_;omega
 show _<=(r.decls.map Dc.sz).sum+(r.modes.map Md.sz).sum;omega
theorem sz_hl (m:Md):m.hds.length<=m.sz:=by
 have:m.hds.length<=(m.hds.map Hd.sz).sum:=P3 fun x _=>by show 1<=1+_+_;omega
 show _<=1+m.name.length+(m.hds.map Hd.sz).sum;omega
theorem A6i {α : Type} (p : α -> Bool) (l:List α) (k:Nat) (x : α) (hx:l[k]? = some x):(l.take (k+1)).any p=((l.take k).any p || p x):=by
 rw [List.take_add_one,hx,List.any_append];simp
end Go.Pb
set_option maxHeartbeats 8000000
namespace Go.Proofs.YtnmkkggfgdfmeaaGreatDoor
open Go.Eng (IC IOper DReg IFn A3)
open Go.Sym Go.Pb
theorem dc_w (d:Dc):d.v=.agg [I64 d.kind,.str d.name,I64 d.value,I64 d.pos]:=rfl
theorem md_w (d:Md):d.v=.agg [.str d.name,I64 d.prio,W8 d.hds,I64 d.pos]:=rfl
theorem r_slcl {xs:List DV} {h sz:Nat} (hh:h<=xs.length) (hu:∀ x∈xs,x.cells.length=sz) (H:Hp):A1k H sz (.lst xs) none (some (I64 (h:Int)))=some (.lst (xs.take h)):=by
 have e:unit sz xs=true:=List.all_eq_true.2 fun x hx=>by simpa using hu x hx
 simp only [A1k,boundOf,Int.natCast_nonneg,if_true,Int.toNat_natCast,hh,Nat.zero_le,and_self,e,Nat.sub_zero,List.drop_zero]
theorem hdl_w (h:Hd):h.v=.agg [I64 h.trig,.str h.name,F0 h.body,I64 h.pos]:=rfl
theorem chkV_nl (r:Ru):(chkV r).nl=true:=by unfold chkV;split;exact erV_nl _;rfl
def lokV (r:Ru) (n:List UInt8):DV:=if T4 r=true then .tup [I64 (N6 r n).1,I64 (N6 r n).2] else .tup [I64 0,I64 0]
theorem lkV_nl (r:Ru) (n:List UInt8):(lokV r n).nl=true:=by unfold lokV;split<;>rfl
theorem sub_frs {H:Hp} {c:Nat} {b:Blk} (h:H c=none):Sym.Sub H (H.upd c b):=by
 intro j q hj;by_cases e:j=c
 ·subst e;rw [h] at hj;cases hj
 ·rw [A2 e];exact hj
def unuV (r:Ru):DV:=if T4 r=true then .lst ((unuM r).map DV.str) else .lst []
theorem unuV_nl (r:Ru):(unuV r).nl=true:=by unfold unuV;split<;>simp [DV.nl,DV.nlL,L7]
theorem K0 (l:List (List UInt8)):∀ x∈l.map DV.str,x.cells.length=1:=fun x hx=>by obtain ⟨y, -,rfl⟩:=List.mem_map.1 hx;rfl
end Go.Proofs.YtnmkkggfgdfmeaaGreatDoor
namespace Go.Pb
variable [Go.Sym.Tab]
open Go.Sym
open Go.Eng (KKey)
def mkK (l:List (List UInt8 × DV)):List DV:=l.map fun p=>.str p.1
def mvV (l:List (List UInt8 × DV)):List DV:=l.map fun p=>p.2
theorem T9 {n:List UInt8}:∀ (l:List (List UInt8 × DV)) (i:Nat),match C5 (.str n) (mkK l) i with
  | some j=>i<=j/\∃ x,(mvV l)[j-i]? = some x/\l.lookup n=some x
  | none=>l.lookup n=none
 | [],i=>rfl
 | p :: l,i=>by
  obtain ⟨a,x⟩:=p;show match C5 (.str n) (.str a :: mkK l) i with
   | some j=>_
   | none=>_
  rw [C5,A1u];cases h:n == a with
  | true =>
   refine ⟨Nat.le_refl _,x,by simp [mvV],?_⟩;rw [List.lookup_cons,h]
  | false =>
   have ih:=T9 (n:=n) l (i+1);dsimp only;cases hf:C5 (.str n) (mkK l) (i+1) with
   | none=>rw [hf] at ih;dsimp only at ih ⊢;rw [List.lookup_cons,h];exact ih
   | some j =>
    rw [hf] at ih;obtain ⟨h1,y,h2,h3⟩:=ih;refine ⟨by omega,y,?_,by rw [List.lookup_cons,h];exact h3⟩;have e:j-i=(j-(i+1))+1:=by omega
    rw [e];exact h2
theorem A3c {l:List (List UInt8 × DV)} {n:List UInt8} {x z:DV} {ok:Bool} (h:l.lookup n=some x):lkV z ok (mvV l) (C5 (.str n) (mkK l) 0)=some (match ok with
  | true=>.tup [x,.bool true]
  | false=>x):=by
 have:=T9 (n:=n) l 0;cases hf:C5 (.str n) (mkK l) 0 with
 | none=>rw [hf] at this;rw [this] at h;cases h
 | some j =>
  rw [hf] at this;obtain ⟨-,y,h2,h3⟩:=this;rw [h3] at h;cases h;simp only [lkV];rw [Nat.sub_zero] at h2;rw [h2];cases ok<;>rfl
theorem A3d {l:List (List UInt8 × DV)} {n:List UInt8} {z:DV} {ok:Bool} (h:l.lookup n=none):lkV z ok (mvV l) (C5 (.str n) (mkK l) 0)=some (match ok with
  | true=>.tup [z,.bool false]
  | false=>z):=by
 have:=T9 (n:=n) l 0;cases hf:C5 (.str n) (mkK l) 0 with
 | none=>simp only [lkV];cases ok<;>rfl
 | some j =>
  rw [hf] at this;obtain ⟨-,y,h2,h3⟩:=this;rw [h3] at h;cases h
theorem mf_none {l:List (List UInt8 × DV)} {n:List UInt8} (h:l.lookup n=none):C5 (.str n) (mkK l) 0=none:=by
 have:=T9 (n:=n) l 0;cases hf:C5 (.str n) (mkK l) 0 with
 | none=>rfl
 | some j =>
  rw [hf] at this;obtain ⟨-,y,h2,h3⟩:=this;rw [h3] at h;cases h
theorem A2e {α : Type} (n:List UInt8) (a:List UInt8) (x : α):∀ l:List (List UInt8 × α),(l++[(a,x)]).lookup n=(l.lookup n).or (if n == a then some x else none)
 | []=>by simp [List.lookup_cons];split<;>simp_all
 | (b,y) :: l=>by
  rw [List.cons_append,List.lookup_cons,List.lookup_cons,A2e n a x l];cases n == b<;>rfl
def A1t (q:Int × Int):DV:=.agg [I64 q.1,I64 q.2]
def Z6 (l:List (List UInt8 × (Int × Int))) (n:List UInt8) (q:Int × Int):List (List UInt8 × (Int × Int)):=if (l.lookup n).isSome=true then l else l++[(n,q)]
def P8 (l:List (List UInt8 × (Int × Int))):List (List UInt8 × DV):=l.map fun p=>(p.1,A1t p.2)
theorem K6 (n:List UInt8):∀ l:List (List UInt8 × (Int × Int)),(P8 l).lookup n=(l.lookup n).map A1t
 | []=>rfl
 | (a,x) :: l=>by
  show ((a,A1t x) :: P8 l).lookup n=_;rw [List.lookup_cons,List.lookup_cons,K6 n l];cases n == a<;>rfl
def numM (pre:List Dc) (d:Dc):Int:=if d.kind=6\/d.kind=7\/d.kind=8 then (cnD pre d.kind:Int) else d.value
def nmD (pre:List Dc) (l:List (List UInt8 × (Int × Int))):List Dc->List (List UInt8 × (Int × Int))
 | []=>l
 | d :: r=>nmD (pre++[d]) (Z6 l d.name (d.kind,numM pre d)) r
def nmX (i:Nat) (l:List (List UInt8 × (Int × Int))):List Md->List (List UInt8 × (Int × Int))
 | []=>l
 | m :: r=>nmX (i+1) (Z6 l m.name (9,(i:Int))) r
def nmL (r:Ru):List (List UInt8 × (Int × Int)):=nmX 0 (nmD [] [] r.decls) r.modes
def nmV (r:Ru):DV:=.mp .s (mkK (P8 (nmL r))) (mvV (P8 (nmL r)))
def ahS:List (Int × Nat)->Int->List (Int × Nat)
 | [],k=>[(k,1)]
 | (a,n) :: l,k=>if a=k then (a,n+1) :: l else (a,n) :: ahS l k
def ahM (l:List Dc):List (Int × Nat):=l.foldl (fun a d=>ahS a d.kind) []
def ahK (l:List (Int × Nat)):List DV:=l.map fun p=>I64 p.1
def ahV (l:List (Int × Nat)):List DV:=l.map fun p=>I64 (p.2:Int)
def ahN (l:List (Int × Nat)) (k:Int):Nat:=match l with
 | []=>0
 | (a,n) :: r=>if a=k then n else ahN r k
theorem A7u (k:Int):∀ (l:List (Int × Nat)) (i:Nat),match C5 (I64 k) (ahK l) i with
  | some j=>i<=j/\∃ n:Nat,(ahV l)[j-i]? = some (I64 (n:Int))/\ahN l k=n/\(ahK l).set (j-i) (I64 k)=ahK (ahS l k)/\(ahV l).set (j-i) (I64 ((n:Int)+1))=ahV (ahS l k)
  | none=>ahN l k=0/\ahK l++[I64 k]=ahK (ahS l k)/\ahV l++[I64 1]=ahV (ahS l k)
 | [],i=>⟨rfl,rfl,rfl⟩
 | (a,n) :: l,i=>by
  have e:C5 (I64 k) (ahK ((a,n) :: l)) i=if k=a then some i else C5 (I64 k) (ahK l) (i+1):=by
   show C5 (I64 k) (I64 a :: ahK l) i=_;rw [C5];show (match k == a with
    | true=>some i
    | false=>C5 (I64 k) (ahK l) (i+1))=_
   by_cases h:k=a
   ·rw [if_pos h,beq_iff_eq.2 h]
   ·rw [if_neg h,beq_eq_false_iff_ne.2 h]
  rw [e];by_cases h:k=a
  ·rw [if_pos h];subst h;refine ⟨Nat.le_refl _,n,?_,?_,?_,?_⟩
   ·simp [ahV]
   ·simp [ahN]
   ·simp [ahK,ahS]
   ·simp [ahV,ahS]
  ·rw [if_neg h];have ih:=A7u k l (i+1);have h':¬ a=k:=fun e=>h e.symm;have es:ahS ((a,n) :: l) k=(a,n) :: ahS l k:=by rw [ahS,if_neg h']
   have en:ahN ((a,n) :: l) k=ahN l k:=by rw [ahN,if_neg h']
   rw [es,en];cases hf:C5 (I64 k) (ahK l) (i+1) with
   | none =>
    rw [hf] at ih;obtain ⟨i1,i2,i3⟩:=ih;exact ⟨i1,congrArg (I64 a :: ·) i2,congrArg (I64 (n:Int) :: ·) i3⟩
   | some j =>
    rw [hf] at ih;obtain ⟨i0,m,i1,i2,i3,i4⟩:=ih;have ej:j-i=(j-(i+1))+1:=by omega
    dsimp only;rw [ej];exact ⟨by omega,m,i1,i2,congrArg (I64 a :: ·) i3,congrArg (I64 (n:Int) :: ·) i4⟩
theorem ahN_S (k a:Int):∀ l:List (Int × Nat),ahN (ahS l a) k=ahN l k+(if a=k then 1 else 0)
 | []=>by simp [ahS,ahN]
 | (b,n) :: l=>by
  rw [ahS];by_cases h:b=a
  ·subst h;rw [if_pos rfl,ahN,ahN];by_cases h2:b=k
   ·simp [h2]
   ·simp [h2]
  ·rw [if_neg h,ahN,ahN,ahN_S k a l];by_cases h2:b=k
   ·have:¬ a=k:=fun e=>h (by rw [h2,e]);simp [h2,this]
   ·simp [h2]
theorem ahM_snoc (l:List Dc) (d:Dc):ahM (l++[d])=ahS (ahM l) d.kind:=by
 unfold ahM;rw [List.foldl_append];rfl
theorem cnD_snoc (l:List Dc) (d:Dc) (k:Int):cnD (l++[d]) k=cnD l k+(if d.kind=k then 1 else 0):=by
 unfold cnD;rw [List.countP_append];simp [List.countP_cons,List.countP_nil]
theorem ahN_fold:∀ (m:Nat) (l:List Dc),l.length<=m->∀ k,ahN (ahM l) k=cnD l k:=by
 intro m
 induction m with
 | zero =>
  intro l hl k;have:l=[]:=List.eq_nil_of_length_eq_zero (by omega);subst this;rfl
 | succ m ih =>
  intro l hl k;by_cases h:l=[]
  ·subst h;rfl
  ·obtain ⟨l',d,rfl⟩:∃ l' d,l=l'++[d]:=⟨l.dropLast,l.getLast h,(List.dropLast_concat_getLast h).symm⟩;rw [ahM_snoc,ahN_S,cnD_snoc,ih l' (by simp at hl;omega)]
theorem ahN_cn (l:List Dc) (k:Int):ahN (ahM l) k=cnD l k:=ahN_fold _ l (Nat.le_refl _) k
theorem nmD_drop {D:List Dc} {i:Nat} {d:Dc} {l:List (List UInt8 × (Int × Int))} (h:D[i]? = some d):nmD (D.take i) l (D.drop i)=nmD (D.take (i+1)) (Z6 l d.name (d.kind,numM (D.take i) d)) (D.drop (i+1)):=by
 have hlt:=(List.getElem?_eq_some_iff.1 h).1;rw [List.drop_eq_getElem_cons hlt,(List.getElem?_eq_some_iff.1 h).2,nmD,Y6 h]
theorem nmX_drop {M:List Md} {i:Nat} {m:Md} {l:List (List UInt8 × (Int × Int))} (h:M[i]? = some m):nmX i l (M.drop i)=nmX (i+1) (Z6 l m.name (9,(i:Int))) (M.drop (i+1)):=by
 have hlt:=(List.getElem?_eq_some_iff.1 h).1;rw [List.drop_eq_getElem_cons hlt,(List.getElem?_eq_some_iff.1 h).2,nmX]
theorem cnD_le (l:List Dc) (k:Int):cnD l k<=l.length:=List.countP_le_length
theorem ah_lk (k:Int) (a:List (Int × Nat)):Sym.lkV (I64 0) false (ahV a) (C5 (I64 k) (ahK a) 0)=some (I64 (ahN a k:Int)):=by
 have:=A7u k a 0;cases hf:C5 (I64 k) (ahK a) 0 with
 | none =>
  rw [hf] at this;obtain ⟨h, -, -⟩:=this;rw [h];rfl
 | some j =>
  rw [hf] at this;obtain ⟨-,n,h1,h2, -, -⟩:=this;rw [h2];simp only [Sym.lkV];rw [Nat.sub_zero] at h1;rw [h1]
theorem ah_mu (k:Int) (a:List (Int × Nat)) (H:Hp) (c id u:Nat):muV H c id u (.i .i64) (ahK a) (ahV a) (I64 k) (I64 ((ahN a k:Int)+1)) (C5 (I64 k) (ahK a) 0)=some (.tup [],H.upd id ⟨u,true,[.mpc (.i .i64) (ahK (ahS a k)) (ahV (ahS a k))]⟩,c):=by
 have:=A7u k a 0;cases hf:C5 (I64 k) (ahK a) 0 with
 | none =>
  rw [hf] at this;obtain ⟨h,h1,h2⟩:=this;rw [h];simp only [muV];rw [h1];rw [show ((0:Nat):Int)+1=1 from rfl,h2]
 | some j =>
  rw [hf] at this;obtain ⟨-,n,h1,h2,h3,h4⟩:=this;rw [h2];simp only [muV];rw [Nat.sub_zero] at h3 h4;rw [h3,h4]
end Go.Pb
namespace Go.Proofs.YtnmkkggfgdfmeaaGreatDoor
open Go.Eng (IC IOper DReg IFn A3)
open Go.Sym Go.Pb
abbrev mapB (l:List (List UInt8 × (Int × Int))):Blk:=⟨0,true,[.mpc .s (mkK (P8 l)) (mvV (P8 l))]⟩
theorem c_set (n:List UInt8) (q:Int × Int) (l:List (List UInt8 × (Int × Int))) (H:Hp) (cc b t:Nat) (hb:H b=some ⟨0,true,[.mid t]⟩) (ht:H t=some (mapB l)) (hbc:b<cc) (htc:t<cc) :
  AC Tryz.prog 85 [.str n,A1t q,.ptr b 0] H cc (fun v H' c'=>v=.tup []/\H'=H.upd t (mapB (Z6 l n q))):=by
 refine AC.body A6 isU85 (Nat.le_of_ble_eq_true rfl) fun hfr=>?_;show IW Tryz.prog 18 u85_1 ⟨B4 _,_,_⟩ (rt [] _);have hbt:b≠t:=fun e=>by rw [e,ht] at hb;cases hb
 cases hl:l.lookup n with
 | some y =>
  have hs:Z6 l n q=l:=by rw [Z6,if_pos (by rw [hl];rfl)]
  have h1:Sym.lkV (.agg [I64 0,I64 0]) true (mvV (P8 l)) (C5 (.str n) (mkK (P8 l)) 0)=some (.tup [A1t y,.bool true]):=A3c (ok:=true) (by rw [K6,hl];rfl);unfold A1t at h1 ⊢;rw [hs,upd_same ht];have ne0:=X3 b t cc (cc+1) (by omega);repeat' ((with_reducible apply wr)<;>try simp only [go_sem,seval,hb,ht,h1,ne0,A0,A1])
  refine ⟨_,_,GL.less' fun j b hj=>?_,rfl,rfl⟩;have:=A7a hfr hj;have h2:j≠cc+1:=by rintro rfl;rw [hfr _ (by omega)] at hj;cases hj
  rw [A2 h2,A2 this];exact hj
 | none =>
  have hs:Z6 l n q=l++[(n,q)]:=by rw [Z6,if_neg (by rw [hl];simp)]
  have hl':(P8 l).lookup n=none:=by rw [K6,hl];rfl
  have h1:Sym.lkV (.agg [I64 0,I64 0]) true (mvV (P8 l)) (C5 (.str n) (mkK (P8 l)) 0)=some (.tup [.agg [I64 0,I64 0],.bool false]):=A3d (ok:=true) hl';have h2:=mf_none hl';have e1:mkK (P8 (l++[(n,q)]))=mkK (P8 l)++[.str n]:=by simp [mkK,P8]
  have e2:mvV (P8 (l++[(n,q)]))=mvV (P8 l)++[A1t q]:=by simp [mvV,P8]
  unfold A1t at e2 ⊢;rw [hs];unfold mapB;rw [e1,e2];have ne0:=X3 b t cc (cc+1) (by omega);repeat' ((with_reducible apply wr)<;>try simp only [go_sem,seval,hb,ht,h1,h2,ne0,A0,A1])
  refine ⟨_,_,GL.less' fun j b hj=>?_,rfl,rfl⟩;by_cases e:j=t
  ·subst e;rw [A0] at hj ⊢;exact hj
  ·rw [A2 e] at hj ⊢;have:=A7a hfr hj;have h2:j≠cc+1:=by rintro rfl;rw [hfr _ (by omega)] at hj;cases hj
   rw [A2 h2,A2 this];exact hj
def nmH (D:List Dc) (M:List Md) (l:List (List UInt8 × (Int × Int))) (a:List (Int × Nat)):Hp:=(((Sym.nil.upd 0 ⟨0,true,[H4 D,I5 M]⟩).upd 1 (mapB l)).upd 2 ⟨0,true,[.mid 1]⟩).upd 3 ⟨0,true,[.mpc (.i .i64) (ahK a) (ahV a)]⟩
section
variable {D:List Dc} {M:List Md} {l:List (List UInt8 × (Int × Int))} {a:List (Int × Nat)}
theorem nmH0:nmH D M l a 0=some ⟨0,true,[H4 D,I5 M]⟩:=rfl
theorem nmH1:nmH D M l a 1=some (mapB l):=rfl
theorem nmH2:nmH D M l a 2=some ⟨0,true,[.mid 1]⟩:=rfl
theorem nmH3:nmH D M l a 3=some ⟨0,true,[.mpc (.i .i64) (ahK a) (ahV a)]⟩:=rfl
theorem nmHn (j:Nat) (h:4<=j):nmH D M l a j=none:=by
 unfold nmH;rw [A2 (by omega),A2 (by omega),A2 (by omega),A2 (by omega)];rfl
theorem A1r {H:Hp} (h0:H 0=some ⟨0,true,[H4 D,I5 M]⟩) (h1:H 1=some (mapB l)) (h2:H 2=some ⟨0,true,[.mid 1]⟩) (h3:H 3=some ⟨0,true,[.mpc (.i .i64) (ahK a) (ahV a)]⟩):Sym.Sub (nmH D M l a) H:=by
 intro j b hj;have hlt:j<4:=Nat.lt_of_not_le fun h=>by rw [nmHn j h] at hj;cases hj
 match j,hlt with
 | 0,_=>rw [h0];exact hj
 | 1,_=>rw [h1];exact hj
 | 2,_=>rw [h2];exact hj
 | 3,_=>rw [h3];exact hj
end
theorem nmV_nl (r:Ru):(nmV r).nl=true:=by
 unfold nmV mkK mvV P8;simp only [DV.nl];rw [List.map_map,List.map_map];rw [show ((fun p:List UInt8 × DV=>DV.str p.1)∘fun p:List UInt8 × (Int × Int)=>(p.1,A1t p.2))=fun p=>DV.str p.1 from rfl,show ((fun p:List UInt8 × DV=>p.2)∘fun p:List UInt8 × (Int × Int)=>(p.1,A1t p.2))=fun p=>A1t p.2 from rfl];rw [J5 (fun _=>rfl),J5 (fun _=>rfl)];rfl
theorem box_mnil:boxR (inj (Value.map none))=some (none,⟨0,true,[.mnil]⟩):=rfl
theorem c_names (r:Ru) (h1:r.decls.length<=1000000000) (h2:r.modes.length<=1000000000):PC Tryz.prog 41 [r.v] (nmV r):=by
 refine PC.of A6 isU41 (Nat.le_of_ble_eq_true rfl) (by simp [Ru.v,DV.nlL,DV.nl,P6,P5]) (nmV_nl _) ?_;obtain ⟨R,hR⟩:∃ R,R=nmL r:=⟨_,rfl⟩;unfold nmV;rw [<- hR];unfold nmL at hR;obtain ⟨D,M⟩:=r;dsimp only at h1 h2 hR;dsimp only [Ru.v];show IW Tryz.prog 71 u41_1 ⟨B4 _,_,_⟩ (rt [.tmp 2] _);repeat' ((with_reducible apply wr)<;>try simp only [go_sem,seval,box_mnil])
 refine C3 (fun q:Nat × List (List UInt8 × (Int × Int))=>[(1,.ptr 0 0),(3,.ptr 2 0),(4,.mid 3),(5,.func 85 [] [.ptr 2 0]),(15,H4 D),(16,I64 D.length),(17,I64 q.1)]) (fun q=>nmH D M q.2 (ahM (D.take q.1)))
  (fun q c=>4<=c/\q.1<=D.length/\nmD [] [] D=nmD (D.take q.1) q.2 (D.drop q.1)) (fun q=>D.length-q.1) (0,[])
  (by simp [C1,tm,Tm.upd]) (A1r rfl rfl rfl rfl) ⟨by omega,Nat.zero_le _,rfl⟩ ?_
 rintro ⟨i,l⟩ c ⟨h1c,hk,he⟩;dsimp only at hk he ⊢;by_cases hlt:i<D.length
 ·have hd:decide ((i:Int)<D.length)=true:=by simpa using hlt
  have hg:=List.getElem?_eq_getElem hlt;have hw:=w64 (n:=(i:Int)+1) (by omega) (by omega);rw [nmD_drop hg] at he;have hah:ahM (D.take (i+1))=ahS (ahM (D.take i)) D[i].kind:=by rw [List.take_add_one,hg];exact ahM_snoc _ _
  have hlk:=ah_lk D[i].kind (ahM (D.take i));have hmu:=ah_mu D[i].kind (ahM (D.take i));have hcn:=ahN_cn (D.take i) D[i].kind;have hcl:=cnD_le (D.take i) D[i].kind;rw [List.length_take] at hcl;generalize D[i]=d at hg he hah hlk hmu hcn hcl;rw [hcn] at hlk hmu;have hw2:=w64 (n:=(cnD (D.take i) d.kind:Int)+1) (by omega) (by omega);have hb0:nmH D M l (ahM (D.take i)) 0=_:=nmH0;have hb1:nmH D M l (ahM (D.take i)) 1=_:=nmH1;have hb2:nmH D M l (ahM (D.take i)) 2=_:=nmH2;have hb3:nmH D M l (ahM (D.take i)) 3=_:=nmH3;have hbn:∀ j,4<=j->nmH D M l (ahM (D.take i)) j=none:=fun j=>nmHn j;generalize nmH D M l (ahM (D.take i))=HH at hb0 hb1 hb2 hb3 hbn ⊢;have ne0:=nes6 0 1 2 3 c (c+1) (by omega);by_cases hkk:d.kind=6\/d.kind=7\/d.kind=8
  ·have hnum:numM (D.take i) d=(cnD (D.take i) d.kind:Int):=by rw [numM,if_pos hkk]
   rw [hnum] at he;by_cases k6:d.kind=6
   ·have k6:(d.kind == 6)=true:=by simpa using k6
    repeat' ((with_reducible apply wr)<;>try simp only [go_sem,seval,hb0,hb1,hb2,hb3,hd,hg,hw,hw2,hlk,hmu,k6,dc_w,List.length_map,ne0,A0,A1])
    refine AC.call (c_set d.name (d.kind,(cnD (D.take i) d.kind:Int)) l _ _ 2 1 (by rw [A2 (by omega),A2 (by omega),A2 (by omega)];exact hb2) (by rw [A2 (by omega),A2 (by omega),A2 (by omega)];exact hb1) (by omega) (by omega)) ?_;rintro v H' c' ⟨rfl,rfl⟩ hcc;simp only [go_sem,seval,hw];repeat' ((with_reducible apply wr)<;>try simp only [go_sem,seval,hw])
    refine ⟨(i+1,Z6 l d.name (d.kind,(cnD (D.take i) d.kind:Int))),by simp [C1,tm,Tm.upd],?_,inv ⟨by omega,by omega,he⟩,by simp only;omega⟩;dsimp only;rw [hah];refine A1r ?_ A0 ?_ ?_
    ·rw [A2 (by omega),A2 (by omega),A2 (by omega),A2 (by omega)];exact hb0
    ·rw [A2 (by omega),A2 (by omega),A2 (by omega),A2 (by omega)];exact hb2
    ·rw [A2 (by omega),A0]
   have k6:(d.kind == 6)=false:=by simpa using k6
   by_cases k7:d.kind=7
   ·have k7:(d.kind == 7)=true:=by simpa using k7
    repeat' ((with_reducible apply wr)<;>try simp only [go_sem,seval,hb0,hb1,hb2,hb3,hd,hg,hw,hw2,hlk,hmu,k6,k7,dc_w,List.length_map,ne0,A0,A1])
    refine AC.call (c_set d.name (d.kind,(cnD (D.take i) d.kind:Int)) l _ _ 2 1 (by rw [A2 (by omega),A2 (by omega),A2 (by omega)];exact hb2) (by rw [A2 (by omega),A2 (by omega),A2 (by omega)];exact hb1) (by omega) (by omega)) ?_;rintro v H' c' ⟨rfl,rfl⟩ hcc;simp only [go_sem,seval,hw];repeat' ((with_reducible apply wr)<;>try simp only [go_sem,seval,hw])
    refine ⟨(i+1,Z6 l d.name (d.kind,(cnD (D.take i) d.kind:Int))),by simp [C1,tm,Tm.upd],?_,inv ⟨by omega,by omega,he⟩,by simp only;omega⟩;dsimp only;rw [hah];refine A1r ?_ A0 ?_ ?_
    ·rw [A2 (by omega),A2 (by omega),A2 (by omega),A2 (by omega)];exact hb0
    ·rw [A2 (by omega),A2 (by omega),A2 (by omega),A2 (by omega)];exact hb2
    ·rw [A2 (by omega),A0]
   have k7:(d.kind == 7)=false:=by simpa using k7
   have k8:(d.kind == 8)=true:=by simp at k6 k7 ⊢;omega
   repeat' ((with_reducible apply wr)<;>try simp only [go_sem,seval,hb0,hb1,hb2,hb3,hd,hg,hw,hw2,hlk,hmu,k6,k7,k8,dc_w,List.length_map,ne0,A0,A1])
   refine AC.call (c_set d.name (d.kind,(cnD (D.take i) d.kind:Int)) l _ _ 2 1 (by rw [A2 (by omega),A2 (by omega),A2 (by omega)];exact hb2) (by rw [A2 (by omega),A2 (by omega),A2 (by omega)];exact hb1) (by omega) (by omega)) ?_;rintro v H' c' ⟨rfl,rfl⟩ hcc;simp only [go_sem,seval,hw];repeat' ((with_reducible apply wr)<;>try simp only [go_sem,seval,hw])
   refine ⟨(i+1,Z6 l d.name (d.kind,(cnD (D.take i) d.kind:Int))),by simp [C1,tm,Tm.upd],?_,inv ⟨by omega,by omega,he⟩,by simp only;omega⟩;dsimp only;rw [hah];refine A1r ?_ A0 ?_ ?_
   ·rw [A2 (by omega),A2 (by omega),A2 (by omega),A2 (by omega)];exact hb0
   ·rw [A2 (by omega),A2 (by omega),A2 (by omega),A2 (by omega)];exact hb2
   ·rw [A2 (by omega),A0]
  ·have hnum:numM (D.take i) d=d.value:=by rw [numM,if_neg hkk]
   rw [hnum] at he;have k6:(d.kind == 6)=false:=by simp;omega
   have k7:(d.kind == 7)=false:=by simp;omega
   have k8:(d.kind == 8)=false:=by simp;omega
   repeat' ((with_reducible apply wr)<;>try simp only [go_sem,seval,hb0,hb1,hb2,hb3,hd,hg,hw,hw2,hlk,hmu,k6,k7,k8,dc_w,List.length_map,ne0,A0,A1])
   refine AC.call (c_set d.name (d.kind,d.value) l _ _ 2 1 (by rw [A2 (by omega),A2 (by omega),A2 (by omega)];exact hb2) (by rw [A2 (by omega),A2 (by omega),A2 (by omega)];exact hb1) (by omega) (by omega)) ?_;rintro v H' c' ⟨rfl,rfl⟩ hcc;simp only [go_sem,seval,hw];repeat' ((with_reducible apply wr)<;>try simp only [go_sem,seval,hw])
   refine ⟨(i+1,Z6 l d.name (d.kind,d.value)),by simp [C1,tm,Tm.upd],?_,inv ⟨by omega,by omega,he⟩,by simp only;omega⟩;dsimp only;rw [hah];refine A1r ?_ A0 ?_ ?_
   ·rw [A2 (by omega),A2 (by omega),A2 (by omega),A2 (by omega)];exact hb0
   ·rw [A2 (by omega),A2 (by omega),A2 (by omega),A2 (by omega)];exact hb2
   ·rw [A2 (by omega),A0]
 have hd:decide ((i:Int)<D.length)=false:=by simpa using hlt
 rw [List.drop_of_length_le (by omega),nmD] at he;rw [he] at hR;repeat' ((with_reducible apply wr)<;>try simp only [go_sem,seval,hd,List.length_map,nmH0,nmH1,nmH2,nmH3])
 clear he hd hlt hk;generalize ahM (D.take i)=A;clear i;refine C3 (fun q:Nat × List (List UInt8 × (Int × Int))=>[(3,.ptr 2 0),(5,.func 85 [] [.ptr 2 0]),(56,I5 M),(57,I64 M.length),(58,I64 q.1)]) (fun q=>nmH D M q.2 A)
  (fun q c=>4<=c/\q.1<=M.length/\R=nmX q.1 q.2 (M.drop q.1)) (fun q=>M.length-q.1) (0,l)
  (by simp [C1,tm,Tm.upd]) (Sub.refl _) ⟨h1c,Nat.zero_le _,hR⟩ ?_
 clear hR h1c c l;rintro ⟨i,l⟩ c ⟨h1c,hk,he⟩;dsimp only at hk he ⊢;by_cases hlt:i<M.length
 ·have hd:decide ((i:Int)<M.length)=true:=by simpa using hlt
  have hg:=List.getElem?_eq_getElem hlt;have hw:=w64 (n:=(i:Int)+1) (by omega) (by omega);rw [nmX_drop hg] at he;generalize M[i]=d at hg he;have hb0:nmH D M l A 0=_:=nmH0;have hb1:nmH D M l A 1=_:=nmH1;have hb2:nmH D M l A 2=_:=nmH2;have hb3:nmH D M l A 3=_:=nmH3;have hbn:∀ j,4<=j->nmH D M l A j=none:=fun j=>nmHn j;generalize nmH D M l A=HH at hb0 hb1 hb2 hb3 hbn ⊢;have ne0:=nes6 0 1 2 3 c (c+1) (by omega);repeat' ((with_reducible apply wr)<;>try simp only [go_sem,seval,hb0,hb1,hb2,hb3,hd,hg,hw,md_w,List.length_map,ne0,A0,A1])
  refine AC.call (c_set d.name (9,(i:Int)) l _ _ 2 1 (by rw [A2 (by omega)];exact hb2) (by rw [A2 (by omega)];exact hb1) (by omega) (by omega)) ?_;rintro v H' c' ⟨rfl,rfl⟩ hcc;simp only [go_sem,seval,hw];repeat' ((with_reducible apply wr)<;>try simp only [go_sem,seval,hw])
  refine ⟨(i+1,Z6 l d.name (9,(i:Int))),by simp [C1,tm,Tm.upd],?_,inv ⟨by omega,by omega,he⟩,by simp only;omega⟩;refine A1r ?_ A0 ?_ ?_
  ·rw [A2 (by omega),A2 (by omega)];exact hb0
  ·rw [A2 (by omega),A2 (by omega)];exact hb2
  ·rw [A2 (by omega),A2 (by omega)];exact hb3
 have hd:decide ((i:Int)<M.length)=false:=by simpa using hlt
 rw [List.drop_of_length_le (by omega),nmX] at he;subst he;have hb2:nmH D M R A 2=_:=nmH2;repeat' ((with_reducible apply wr)<;>try simp only [go_sem,seval,hd,List.length_map,hb2])
 exact pc_map nmH1
end Go.Proofs.YtnmkkggfgdfmeaaGreatDoor
namespace Go.Pb
variable [Go.Sym.Tab]
open Go.Sym
def R2 (l:List Dc):Prop:=∀ d∈l,1<=d.kind/\d.kind<=8
theorem vld_kd {r:Ru} (h:T4 r=true):R2 r.decls:=by
 intro d hd;unfold T4 at h;simp only [Bool.and_eq_true] at h;have h1:=List.all_eq_true.1 h.1.2 d hd;unfold A1h at h1;simp only [Bool.and_eq_true,decide_eq_true_eq] at h1;exact ⟨h1.1.1.1.1,h1.1.1.1.2⟩
theorem A3r (l:List (List UInt8 × (Int × Int))) (a n:List UInt8) (q:Int × Int):(Z6 l a q).lookup n=(l.lookup n).or (if n == a then some q else none):=by
 unfold Z6;split
 ·rename_i h;cases hn:n == a with
  | false=>simp
  | true =>
   have e:n=a:=by simpa using hn
   subst e;cases hl:l.lookup n with
   | none=>rw [hl] at h;cases h
   | some x=>rfl
 ·exact A2e n a q l
theorem A3x (n:List UInt8):∀ (M:List Md) (i:Nat) (l:List (List UInt8 × (Int × Int))),(nmX i l M).lookup n=(l.lookup n).or (lkM i M n)
 | [],i,l=>by rw [nmX,lkM,Option.or_none]
 | m :: M,i,l=>by
  rw [nmX,A3x n M,A3r,lkM,Option.or_assoc];by_cases h:m.name=n
  ·rw [if_pos h,if_pos (by simp [h])];rfl
  ·rw [if_neg h,if_neg (by simp;exact fun e=>h e.symm)];rfl
theorem A3y (n:List UInt8):∀ (D pre:List Dc) (l:List (List UInt8 × (Int × Int))),R2 D->(nmD pre l D).lookup n=(l.lookup n).or (lkD pre D n)
 | [],pre,l,_=>by rw [nmD,lkD,Option.or_none]
 | d :: D,pre,l,hk=>by
  obtain ⟨k1,k2⟩:=hk d List.mem_cons_self;rw [nmD,A3y n D _ _ (fun x hx=>hk x (List.mem_cons_of_mem _ hx)),A3r,lkD,Option.or_assoc];by_cases h:d.name=n
  ·rw [if_pos h,if_pos (by simp [h])];have e:numM pre d=(if d.kind<6 then d.value else (cnR ⟨pre,[]⟩ d.kind:Int)):=by
    unfold numM cnR;by_cases h6:d.kind<6
    ·rw [if_pos h6,if_neg (by omega)]
    ·rw [if_neg h6,if_pos (by omega),if_neg (by omega)]
   rw [e];rfl
  ·rw [if_neg h,if_neg (by simp;exact fun e=>h e.symm)];rfl
theorem A5s {r:Ru} (hk:R2 r.decls) (n:List UInt8):(nmL r).lookup n=(lkD [] r.decls n).or (lkM 0 r.modes n):=by
 unfold nmL;rw [A3x,A3y n _ _ _ hk];simp
theorem A7e (r:Ru) (n:List UInt8):N6 r n=((lkD [] r.decls n).or (lkM 0 r.modes n)).getD (0,0):=by
 unfold N6;cases lkD [] r.decls n with
 | some q=>rfl
 | none =>
  cases lkM 0 r.modes n with
  | some q=>rfl
  | none=>rfl
theorem lkD_nz {n:List UInt8}:∀ {D pre:List Dc} {q:Int × Int},R2 D->lkD pre D n=some q->q.1≠0
 | d :: D,pre,q,hk,h=>by
  rw [lkD] at h;split at h
  ·cases h;have:=hk d List.mem_cons_self;show d.kind≠0;omega
  ·exact lkD_nz (fun x hx=>hk x (List.mem_cons_of_mem _ hx)) h
theorem lkM_nz {n:List UInt8}:∀ {M:List Md} {i:Nat} {q:Int × Int},lkM i M n=some q->q.1≠0
 | m :: M,i,q,h=>by
  rw [lkM] at h;split at h
  ·cases h;show (9:Int)≠0;decide
  ·exact lkM_nz h
theorem nm_some {r:Ru} (hk:R2 r.decls) {n:List UInt8} {q:Int × Int} (h:(nmL r).lookup n=some q):N6 r n=q/\q.1≠0:=by
 rw [A5s hk] at h;rw [A7e,h];refine ⟨rfl,?_⟩;cases hd:lkD [] r.decls n with
 | some p=>rw [hd] at h;cases h;exact lkD_nz hk hd
 | none=>rw [hd] at h;exact lkM_nz h
theorem nm_none {r:Ru} (hk:R2 r.decls) {n:List UInt8} (h:(nmL r).lookup n=none):N6 r n=(0,0):=by
 rw [A5s hk] at h;rw [A7e,h];rfl
def upS (s:Int × Int) (o:Er):Int × Int:=if s.2=0 then o.getD s else s
theorem G7 {s:Int × Int} {a b:Er} (ha:NzE a):upS (upS s a) b=upS s (a.or b):=by
 unfold upS;by_cases h:s.2=0
 ·cases a with
  | none=>simp [h]
  | some q =>
   have:=ha q.1 q.2 rfl;simp [h,this]
 ·simp [h]
theorem G8 (s:Int × Int):upS s none=s:=by unfold upS;split<;>rfl
theorem upS_idem (s:Int × Int) (p e:Int) (h:e≠0):upS (upS s (some (p,e))) (some (p,e))=upS s (some (p,e)):=by
 rw [G7 (fun a b hq=>by cases hq;exact h)];rfl
def truM (k:Int):Bool:=(k == 3 || k == 4 || k == 5 || k == 6 || k == 11 || k == 23 || k == 24) || (decide (17<=k) && decide (k<=22))
theorem tru_bol {k:Int} (h:k<=24):truM k=bolM k:=by
 unfold truM bolM;rw [Bool.eq_iff_iff];simp only [Bool.or_eq_true,Bool.and_eq_true,beq_iff_eq,decide_eq_true_eq];omega
theorem ms_kind {e:Ex} {q:Nat × Nat} (h:msM e=some q):e.kind<=24:=by
 cases e with|mk k v n a p =>
 obtain ⟨o,d⟩:=q;obtain ⟨m1, -⟩:=A4a h;show k<=24;unfold kOk at m1;simp only [Bool.or_eq_true,Bool.and_eq_true,decide_eq_true_eq] at m1;rcases m1 with m1|m1
 ·have:=lev_lt m1;omega
 ·exact m1.2
theorem A3b (D:List Dc) (M:List Md) (n:List UInt8) (hk:R2 D):(N6 ⟨D,M⟩ n).1=0↔D.any (fun d=>d.name == n)=false/\M.any (fun d=>d.name == n)=false:=by
 have hD:∀ (D pre:List Dc),lkD pre D n=none↔D.any (fun d=>d.name == n)=false:=by
  intro D
  induction D with
  | nil=>intro pre;simp [lkD]
  | cons d D ih =>
   intro pre;rw [lkD];by_cases h:d.name=n
   ·rw [if_pos h];simp [h]
   ·rw [if_neg h,ih];simp [h]
 have hM:∀ (M:List Md) (i:Nat),lkM i M n=none↔M.any (fun d=>d.name == n)=false:=by
  intro M
  induction M with
  | nil=>intro pre;simp [lkM]
  | cons d D ih =>
   intro pre;rw [lkM];by_cases h:d.name=n
   ·rw [if_pos h];simp [h]
   ·rw [if_neg h,ih];simp [h]
 rw [A7e, <- hD D [], <- hM M 0];dsimp only;cases h1:lkD [] D n with
 | some q =>
  have:=lkD_nz hk h1;simp [this]
 | none =>
  cases h2:lkM 0 M n with
  | some q =>
   have:=lkM_nz h2;simp [this]
  | none=>simp
theorem A6c {r:Ru} {x:Ex}:∀ {l:List Ex} {i:Nat},l[i]? = some x->N2 r (l.take (i+1))=(N2 r (l.take i)).or (erE r x)
 | y :: l,0,h=>by cases h;simp [N2]
 | y :: l,i+1,h=>by
  rw [List.take_succ_cons,List.take_succ_cons,N2,N2,A6c (by simpa using h),Option.or_assoc]
theorem erA_take {r:Ru} {b:Bool} {x:Ex}:∀ {l:List Ex} {i:Nat},l[i]? = some x->erA r b (l.take (i+1))=(erA r b (l.take i)).or ((erE r x).or (if (M6 x.kind == 2)=b then none else some (x.pos,49)))
 | y :: l,0,h=>by cases h;simp [erA]
 | y :: l,i+1,h=>by
  rw [List.take_succ_cons,List.take_succ_cons,erA,erA,erA_take (by simpa using h)];simp only [Option.or_assoc]
theorem erB_take {r:Ru} {x:St}:∀ {l:List St} {i:Nat},l[i]? = some x->erB r (l.take (i+1))=(erB r (l.take i)).or (erS r x)
 | y :: l,0,h=>by cases h;simp [erB]
 | y :: l,i+1,h=>by
  rw [List.take_succ_cons,List.take_succ_cons,erB,erB,erB_take (by simpa using h),Option.or_assoc]
theorem erE_e (r:Ru) (e:Ex):erE r e=((N2 r e.args).or (dnE r e.name (kdE e.kind) e.pos)).or (if e.args.all (fun x=>M6 x.kind == T1 e.kind e.args)=true then none else some (e.pos,49)):=by
 cases e with|mk k v n a p=>rw [erE];rfl
def stD (pre:List Dc) (d:Dc):Er:=(if d.value>A7b d.kind then some (d.pos,5) else none:Er).or (if (N6 ⟨pre,[]⟩ d.name).1=0 then none else some (d.pos,7))
def stP (D:List Dc) (pre:List Md) (m:Md):Er:=(if m.prio>99 then some (m.pos,5) else none:Er).or (if (N6 ⟨D,pre⟩ m.name).1=0 then none else some (m.pos,7))
theorem erD_snoc (d:Dc):∀ (l pre:List Dc),erD pre (l++[d])=(erD pre l).or (stD (pre++l) d)
 | [],pre=>by rw [List.nil_append,erD,erD,erD,List.append_nil,Option.or_none,Option.none_or];rfl
 | x :: l,pre=>by rw [List.cons_append,erD,erD,erD_snoc d l,List.append_assoc];simp only [Option.or_assoc];rfl
theorem erP_snoc (D:List Dc) (m:Md):∀ (l pre:List Md),erP D pre (l++[m])=(erP D pre l).or (stP D (pre++l) m)
 | [],pre=>by rw [List.nil_append,erP,erP,erP,List.append_nil,Option.or_none,Option.none_or];rfl
 | x :: l,pre=>by rw [List.cons_append,erP,erP,erP_snoc D m l,List.append_assoc];simp only [Option.or_assoc];rfl
theorem erD_take {D:List Dc} {i:Nat} {d:Dc} (h:D[i]? = some d):erD [] (D.take (i+1))=(erD [] (D.take i)).or (stD (D.take i) d):=by
 rw [<- Y6 h,erD_snoc];rfl
theorem erP_take {D:List Dc} {M:List Md} {i:Nat} {m:Md} (h:M[i]? = some m):erP D [] (M.take (i+1))=(erP D [] (M.take i)).or (stP D (M.take i) m):=by
 rw [<- Y6 h,erP_snoc];rfl
def O7 (l:List (List UInt8)):List (List UInt8 × DV):=l.map fun n=>(n,DV.bool true)
theorem V4 (n:List UInt8):∀ l:List (List UInt8),(O7 l).lookup n=if l.contains n=true then some (DV.bool true) else none
 | []=>rfl
 | a :: l=>by
  show ((a,DV.bool true) :: O7 l).lookup n=_;rw [List.lookup_cons,V4 n l,List.contains_cons];cases n == a<;>simp
def R4 (l:List (List UInt8)) (n:List UInt8):List (List UInt8):=if l.contains n=true then l else l++[n]
theorem X1 (l:List (List UInt8)) (n m:List UInt8):(R4 l n).contains m=(l.contains m || m == n):=by
 unfold R4;split
 ·rename_i h;cases hm:m == n with
  | false=>rw [Bool.or_false]
  | true =>
   have e:m=n:=by simpa using hm
   rw [e,h];rfl
 ·rw [Bool.eq_iff_iff];simp
theorem A5v {n:List UInt8}:∀ (l:List (List UInt8)) (i j:Nat),C5 (.str n) (mkK (O7 l)) i=some j->(mkK (O7 l)).set (j-i) (.str n)=mkK (O7 l)/\(mvV (O7 l)).set (j-i) (.bool true)=mvV (O7 l)
 | [],i,j,h=>by cases h
 | a :: l,i,j,h=>by
  have h:C5 (.str n) (.str a :: mkK (O7 l)) i=some j:=h;rw [C5,A1u] at h;cases ha:n == a with
  | true =>
   rw [ha] at h;cases h;have e:n=a:=by simpa using ha
   subst e;rw [Nat.sub_self];exact ⟨rfl,rfl⟩
  | false =>
   rw [ha] at h;dsimp only at h;have hlt:=A4c h;obtain ⟨h1,h2⟩:=A5v l (i+1) j h;have ej:j-i=(j-(i+1))+1:=by omega
   rw [ej];exact ⟨congrArg (DV.str a :: ·) h1,congrArg (DV.bool true :: ·) h2⟩
theorem A6t (n:List UInt8) (l:List (List UInt8)) (H:Hp) (c id u:Nat):muV H c id u .s (mkK (O7 l)) (mvV (O7 l)) (.str n) (.bool true) (C5 (.str n) (mkK (O7 l)) 0)=some (.tup [],H.upd id ⟨u,true,[.mpc .s (mkK (O7 (R4 l n))) (mvV (O7 (R4 l n)))]⟩,c):=by
 have hl:=V4 n l;have hf:=T9 (n:=n) (O7 l) 0;cases hm:C5 (.str n) (mkK (O7 l)) 0 with
 | none =>
  rw [hm] at hf;rw [hf] at hl;have hc:l.contains n=false:=by
   cases h:l.contains n with
   | false=>rfl
   | true=>rw [h] at hl;cases hl
  have e:R4 l n=l++[n]:=by unfold R4;rw [if_neg (by rw [hc];decide)]
  rw [e];simp only [muV];have e1:mkK (O7 (l++[n]))=mkK (O7 l)++[.str n]:=by simp [mkK,O7]
  have e2:mvV (O7 (l++[n]))=mvV (O7 l)++[.bool true]:=by simp [mvV,O7]
  rw [e1,e2]
 | some j =>
  rw [hm] at hf;obtain ⟨-,x, -,h3⟩:=hf;rw [h3] at hl;have hc:l.contains n=true:=by
   cases h:l.contains n with
   | true=>rfl
   | false=>rw [h] at hl;simp at hl
  have e:R4 l n=l:=by unfold R4;rw [if_pos hc]
  rw [e];simp only [muV];obtain ⟨h1,h2⟩:=A5v l 0 j hm;rw [Nat.sub_zero] at h1 h2;rw [h1,h2]
theorem see_lk (n:List UInt8) (l:List (List UInt8)):Sym.lkV (.bool false) false (mvV (O7 l)) (C5 (.str n) (mkK (O7 l)) 0)=some (.bool (l.contains n)):=by
 cases h:l.contains n with
 | true=>exact A3c (ok:=false) (by rw [V4,if_pos h])
 | false=>exact A3d (ok:=false) (by rw [V4,if_neg (by rw [h];decide)])
def stH (r:Ru) (pre:List Hd) (h:Hd):Er:=((dnE r h.name (kdH h.trig) h.pos).or (if pre.any (fun x=>x.trig == h.trig && x.name == h.name)=true then some (h.pos,7) else none)).or (erB r h.body)
theorem erH_snoc (r:Ru) (h:Hd):∀ (l pre:List Hd),erH r pre (l++[h])=(erH r pre l).or (stH r (pre++l) h)
 | [],pre=>by rw [List.nil_append,erH,erH,erH,List.append_nil,Option.or_none,Option.none_or];rfl
 | x :: l,pre=>by rw [List.cons_append,erH,erH,erH_snoc r h l,List.append_assoc];simp only [Option.or_assoc];rfl
theorem erH_take {r:Ru} {l:List Hd} {i:Nat} {h:Hd} (hg:l[i]? = some h):erH r [] (l.take (i+1))=(erH r [] (l.take i)).or (stH r (l.take i) h):=by
 rw [<- Y6 hg,erH_snoc];rfl
theorem erM_take {r:Ru} {x:Md}:∀ {l:List Md} {i:Nat},l[i]? = some x->erM r (l.take (i+1))=(erM r (l.take i)).or (erH r [] x.hds)
 | y :: l,0,h=>by cases h;simp [erM]
 | y :: l,i+1,h=>by
  rw [List.take_succ_cons,List.take_succ_cons,erM,erM,erM_take (by simpa using h),Option.or_assoc]
theorem erV_up (e:Er):erV e=.tup [I64 (upS (0,0) e).1,I64 (upS (0,0) e).2]:=by
 cases e<;>rfl
end Go.Pb
namespace Go.Proofs.YtnmkkggfgdfmeaaGreatDoor
open Go.Eng (IC IOper DReg IFn A3)
open Go.Sym Go.Pb
def ckB (r:Ru) (s:Int × Int):Blk:=⟨0,true,[nmV r,I64 s.1,I64 s.2]⟩
theorem U1 {r:Ru} {n:List UInt8} {k p:Int} (h:k=0\/(N6 r n).1=k):dnE r n k p=none:=by unfold dnE dnM;rw [if_pos h];rfl
theorem dn_ms {r:Ru} {n:List UInt8} {k p:Int} (h:¬ (k=0\/(N6 r n).1=k)) (h2:(N6 r n).1=0):dnE r n k p=some (p,8):=by unfold dnE dnM;rw [if_neg h,if_pos h2];rfl
theorem dn_kd {r:Ru} {n:List UInt8} {k p:Int} (h:¬ (k=0\/(N6 r n).1=k)) (h2:¬ (N6 r n).1=0):dnE r n k p=some (p,44):=by unfold dnE dnM;rw [if_neg h,if_neg h2];rfl
theorem A7i {H:Hp} {cc t:Nat} {b b':Blk} {ds:List DV} (hfr:∀ i,cc<=i->H i=none) (htc:t<cc):GL ((H.upd cc b).upd t b') ds (H.upd t b') ds:=GL.less' fun j q hj=>by
 by_cases e:j=t
 ·subst e;rw [A0] at hj ⊢;exact hj
 ·rw [A2 e] at hj ⊢;rw [A2 (A7a hfr hj)];exact hj
theorem c_inE32 (k:Int):PC Tryz.prog 96 [I64 k] (I64 (kdE k)):=by
 refine PC.of A6 isU96 (Nat.le_of_ble_eq_true rfl) (by simp [DV.nlL,DV.nl]) (by simp [DV.nlL,DV.nl]) ?_;show IW Tryz.prog 12 u96_1 ⟨B4 _,_,_⟩ (rt [.tmp 2] _);repeat' ((with_reducible first|refine wr ?_|refine wb2 ?_ ?_<;>(intro hb;try simp only [hb])|fail)<;>try simp only [go_sem,seval])
 all_goals (refine A4 (congrArg I64 ?_);simp_all [kdE])
theorem c_inS32 (k:Int):PC Tryz.prog 89 [I64 k] (I64 (kdS k)):=by
 refine PC.of A6 isU89 (Nat.le_of_ble_eq_true rfl) (by simp [DV.nlL,DV.nl]) (by simp [DV.nlL,DV.nl]) ?_;show IW Tryz.prog 26 u89_1 ⟨B4 _,_,_⟩ (rt [.tmp 2] _);repeat' ((with_reducible first|refine wr ?_|refine wb2 ?_ ?_<;>(intro hb;try simp only [hb])|fail)<;>try simp only [go_sem,seval])
 all_goals (refine A4 (congrArg I64 ?_);simp_all [kdS])
theorem c_inH32 (k:Int):PC Tryz.prog 44 [I64 k] (I64 (kdH k)):=by
 refine PC.of A6 isU44 (Nat.le_of_ble_eq_true rfl) (by simp [DV.nlL,DV.nl]) (by simp [DV.nlL,DV.nl]) ?_;show IW Tryz.prog 11 u44_1 ⟨B4 _,_,_⟩ (rt [.tmp 2] _);repeat' ((with_reducible first|refine wr ?_|refine wb2 ?_ ?_<;>(intro hb;try simp only [hb])|fail)<;>try simp only [go_sem,seval])
 all_goals (refine A4 (congrArg I64 ?_);simp_all [kdH])
theorem c_most32 (k:Int):PC Tryz.prog 87 [I64 k] (I64 (A7b k)):=by
 refine PC.of A6 isU87 (Nat.le_of_ble_eq_true rfl) (by simp [DV.nlL,DV.nl]) (by simp [DV.nlL,DV.nl]) ?_;show IW Tryz.prog 12 u87_1 ⟨B4 _,_,_⟩ (rt [.tmp 2] _);repeat' ((with_reducible first|refine wr ?_|refine wb2 ?_ ?_<;>(intro hb;try simp only [hb])|fail)<;>try simp only [go_sem,seval])
 all_goals (refine A4 (congrArg I64 ?_);simp_all [A7b])
theorem c_truth32 (k:Int):PC Tryz.prog 97 [I64 k] (.bool (truM k)):=by
 refine PC.of A6 isU97 (Nat.le_of_ble_eq_true rfl) (by simp [DV.nlL,DV.nl]) (by simp [DV.nlL,DV.nl]) ?_;show IW Tryz.prog 18 u97_1 ⟨B4 _,_,_⟩ (rt [.tmp 2] _);repeat' ((with_reducible first|refine wr ?_|refine wb2 ?_ ?_<;>(intro hb;try simp only [hb])|fail)<;>try simp only [go_sem,seval])
 all_goals (refine A4 (congrArg DV.bool ?_);simp_all [truM]<;>omega)
theorem c_typ32 (k:Int) (h:k<=24):PC Tryz.prog 58 [I64 k] (I64 (M6 k)):=by
 refine PC.of A6 isU58 (Nat.le_of_ble_eq_true rfl) (by simp [DV.nlL,DV.nl]) (by simp [DV.nlL,DV.nl]) ?_;show IW Tryz.prog 5 u58_1 ⟨B4 _,_,_⟩ (rt [.tmp 2] _);have ht:=c_truth32 k;rw [tru_bol h] at ht;repeat' ((with_reducible first|refine wr ?_|refine cpc ht ?_|refine wb2 ?_ ?_<;>(intro hb;try simp only [hb])|fail)<;>try simp only [go_sem,seval])
 all_goals (refine A4 (congrArg I64 ?_);simp_all [M6])
theorem c_fail32 (r:Ru) (s:Int × Int) (H:Hp) (cc t:Nat) (ht:H t=some (ckB r s)) (htc:t<cc) (p e:Int):AC Tryz.prog 47 [.ptr t 0,I64 p,I64 e] H cc (fun v H' c'=>v=.tup []/\H'=H.upd t (ckB r (upS s (some (p,e))))):=by
 refine AC.body A6 isU47 (Nat.le_of_ble_eq_true rfl) fun hfr=>?_;show IW Tryz.prog 19 u47_1 ⟨B4 _,_,_⟩ (rt [] _);unfold ckB at ht ⊢;cases h:(s.2 == 0) with
 | true =>
  have e0:upS s (some (p,e))=(p,e):=by unfold upS;rw [if_pos (by simpa using h)];rfl
  rw [e0];repeat' ((with_reducible apply wr)<;>try simp only [go_sem,seval,ht,h,A0,A1])
  exact ⟨_,_,GL.refl _ _,rfl,rfl⟩
 | false =>
  have e0:upS s (some (p,e))=s:=by unfold upS;rw [if_neg (by simpa using h)]
  rw [e0,upd_same ht];repeat' ((with_reducible apply wr)<;>try simp only [go_sem,seval,ht,h,A0,A1])
  exact ⟨_,_,GL.refl _ _,rfl,rfl⟩
theorem c_den32 (r:Ru) (hk:R2 r.decls) (s:Int × Int) (H:Hp) (cc t:Nat) (ht:H t=some (ckB r s)) (htc:t<cc) (n:List UInt8) (k p:Int):AC Tryz.prog 43 [.ptr t 0,.str n,I64 k,I64 p] H cc (fun v H' c'=>v=.tup []/\H'=H.upd t (ckB r (upS s (dnE r n k p)))):=by
 refine AC.body A6 isU43 (Nat.le_of_ble_eq_true rfl) fun hfr=>?_;show IW Tryz.prog 36 u43_1 ⟨B4 _,_,_⟩ (rt [] _);have ht':=ht;unfold ckB nmV at ht';have ne0:=M8 t cc (by omega);cases hl:(nmL r).lookup n with
 | some q =>
  obtain ⟨h1,h2⟩:=nm_some hk hl;have hlk:Sym.lkV (.agg [I64 0,I64 0]) true (mvV (P8 (nmL r))) (C5 (.str n) (mkK (P8 (nmL r))) 0)=some (.tup [A1t q,.bool true]):=A3c (ok:=true) (by rw [K6,hl];rfl);unfold A1t at hlk;by_cases hk0:k=0
  ·subst hk0;have e0:dnE r n 0 p=none:=U1 (.inl rfl);rw [e0,G8,upd_same ht];repeat' ((with_reducible apply wr)<;>try simp only [go_sem,seval,ht',hlk,ne0,A0,A1])
   exact ⟨_,_,A1v hfr,rfl,rfl⟩
  have q0:(k == 0)=false:=by simpa using hk0
  by_cases hq:q.1=k
  ·have e0:dnE r n k p=none:=U1 (.inr (by rw [h1];exact hq));rw [e0,G8,upd_same ht];have q1:(q.1 != k)=false:=by simp [hq]
   repeat' ((with_reducible apply wr)<;>try simp only [go_sem,seval,ht',hlk,q0,q1,ne0,A0,A1])
   exact ⟨_,_,A1v hfr,rfl,rfl⟩
  ·have e0:dnE r n k p=some (p,44):=dn_kd (by rw [h1];simp [hk0,hq]) (by rw [h1];exact h2);rw [e0];have q1:(q.1 != k)=true:=by simp [hq]
   repeat' ((with_reducible apply wr)<;>try simp only [go_sem,seval,ht',hlk,q0,q1,ne0,A0,A1])
   refine AC.call (c_fail32 r s _ _ t (by rw [A2 (by omega)];exact ht) (by omega) p 44) ?_;rintro v H' c' ⟨rfl,rfl⟩ hcc;simp only [go_sem,seval];repeat' ((with_reducible apply wr)<;>try simp only [go_sem,seval])
   exact ⟨_,_,A7i hfr htc,rfl,rfl⟩
 | none =>
  have h1:=nm_none hk hl;have hlk:Sym.lkV (.agg [I64 0,I64 0]) true (mvV (P8 (nmL r))) (C5 (.str n) (mkK (P8 (nmL r))) 0)=some (.tup [.agg [I64 0,I64 0],.bool false]):=A3d (ok:=true) (by rw [K6,hl];rfl);by_cases hk0:k=0
  ·subst hk0;have e0:dnE r n 0 p=none:=U1 (.inl rfl);rw [e0,G8,upd_same ht];repeat' ((with_reducible apply wr)<;>try simp only [go_sem,seval,ht',hlk,ne0,A0,A1])
   exact ⟨_,_,A1v hfr,rfl,rfl⟩
  have q0:(k == 0)=false:=by simpa using hk0
  have e0:dnE r n k p=some (p,8):=dn_ms (by rw [h1];simp;omega) (by rw [h1]);rw [e0];repeat' ((with_reducible apply wr)<;>try simp only [go_sem,seval,ht',hlk,q0,ne0,A0,A1])
  refine AC.call (c_fail32 r s _ _ t (by rw [A2 (by omega)];exact ht) (by omega) p 8) ?_;rintro v H' c' ⟨rfl,rfl⟩ hcc;simp only [go_sem,seval];repeat' ((with_reducible apply wr)<;>try simp only [go_sem,seval])
  exact ⟨_,_,A7i hfr htc,rfl,rfl⟩
theorem V0 {G:Hp} {t c:Nat} {b0 b1 b:Blk} (hG:∀ j,c<=j->G j=none) (htc:t<c):Sym.Sub (G.upd t b) (((G.upd t b0).upd c b1).upd t b):=by
 intro j q hj;by_cases e:j=t
 ·subst e;rw [A0] at hj ⊢;exact hj
 ·rw [A2 e] at hj;have:j<c:=Nat.lt_of_not_le fun h=>by rw [hG j h] at hj;cases hj
  rw [A2 e,A2 (by omega),A2 e];exact hj
theorem sub_ck1 {G:Hp} {t c:Nat} {b0 b1:Blk} (hG:∀ j,c<=j->G j=none) (htc:t<c):Sym.Sub (G.upd t b0) ((G.upd t b0).upd c b1):=by
 intro j q hj;have:j<c:=Nat.lt_of_not_le fun h=>by rw [A2 (by omega),hG j h] at hj;cases hj
 rw [A2 (by omega)];exact hj
theorem c_exp32 (r:Ru) (hk:R2 r.decls):∀ (m:Nat) (e:Ex),e.sz<m->e.sz<=100000000->(∃ q,msM e=some q)->∀ (s:Int × Int) (H:Hp) (cc t:Nat) (ht:H t=some (ckB r s)) (htc:t<cc),
  AC Tryz.prog 57 [.ptr t 0,e.v] H cc (fun v H' c'=>v=.tup []/\H'=H.upd t (ckB r (upS s (erE r e)))):=by
 intro m
 induction m with
 | zero=>intro e h;omega
 | succ m ih =>
 intro e hm hB ⟨q0,hq0⟩ s H cc t ht htc;have hal:Ex.szs e.args<e.sz:=by cases e with|mk k v n a p=>rw [Ex.sz];show Ex.szs a<_;omega
 have hargs:∀ x∈e.args,x.sz<=Ex.szs e.args:=fun x hx=>Ex.szs_mem hx;have hll:=Ex.szs_len e.args;have hms:=ms_args hq0;have h22:=ms_two hq0;have hknd:∀ x∈e.args,x.kind<=24:=fun x hx=>by obtain ⟨q,hq⟩:=hms x hx;exact ms_kind hq
 rw [erE_e,Ex.v_w];dsimp only [Ex.w];have ih:∀ x∈e.args, ∀ (s:Int × Int) (H:Hp) (cc t:Nat) (ht:H t=some (ckB r s)) (htc:t<cc),AC Tryz.prog 57 [.ptr t 0,x.v] H cc (fun v H' c'=>v=.tup []/\H'=H.upd t (ckB r (upS s (erE r x)))):=fun x hx=>ih x (by have:=hargs x hx;omega) (by have:=hargs x hx;omega) (hms x hx);have hk1:=c_inE32 e.kind;have hden:=fun (s:Int × Int) (H:Hp) (cc t:Nat) (ht:H t=some (ckB r s)) (htc:t<cc)=>c_den32 r hk s H cc t ht htc e.name (kdE e.kind) e.pos;generalize ek:e.kind=k at *;generalize e.value=v at *;generalize e.name=n at *;generalize e.args=a at *;generalize e.pos=p at *;refine AC.body A6 isU57 (Nat.le_of_ble_eq_true rfl) fun hfr=>?_;show IW Tryz.prog 61 u57_1 ⟨B4 _,_,_⟩ (rt [] _);repeat' ((with_reducible apply wr)<;>try simp only [go_sem,seval])
 obtain ⟨G,hG⟩:∃ G,G=H.upd cc ⟨0,true,[I64 k,I64 v,.str n,J7 a,I64 p]⟩:=⟨_,rfl⟩;have hGc:∀ b,(G.upd t b) cc=some ⟨0,true,[I64 k,I64 v,.str n,J7 a,I64 p]⟩:=fun b=>by rw [A2 (by omega),hG,A0]
 have hGn:∀ j,cc+1<=j->G j=none:=fun j hj=>by rw [hG,A2 (by omega)];exact hfr j (by omega)
 have hGt:G=G.upd t (ckB r s):=by rw [upd_same];rw [hG,A2 (by omega)];exact ht
 rw [<- hG,hGt];refine C3 (fun i:Nat=>[(0,.ptr t 0),(3,.ptr cc 0),(10,J7 a),(11,I64 a.length),(12,I64 i)]) (fun i=>G.upd t (ckB r (upS s (N2 r (a.take i))))) (fun i c=>cc+1<=c/\i<=a.length) (fun i=>a.length-i) 0 (by simp [C1,tm,Tm.upd]) (by rw [List.take_zero,N2,G8];exact Sub.refl _) ⟨by omega,Nat.zero_le _⟩ ?_;rintro i c ⟨h1c,hki⟩;by_cases hlt:i<a.length
 ·have hd:decide ((i:Int)<a.length)=true:=by simpa using hlt
  have hg:=List.getElem?_eq_getElem hlt;have hw:=w64 (n:=(i:Int)+1) (by omega) (by omega);have hc:=ih _ (List.getElem_mem hlt);have het:=A6c (r:=r) hg;generalize a[i]=x at hg hc het;rw [Ex.v_w] at hc;have ne0:=M8 t c (by omega);repeat' ((with_reducible apply wr)<;>try simp only [go_sem,seval,hd,hg,hw,Ex.v_w,ne0,A0,A1,hGc])
  refine AC.call (hc (upS s (N2 r (a.take i))) _ _ t (by rw [A2 (by omega),A0]) (by omega)) ?_;rintro v' H' c' ⟨rfl,rfl⟩ hcc;simp only [go_sem,seval,hw];repeat' ((with_reducible apply wr)<;>try simp only [go_sem,seval,hw])
  refine ⟨i+1,by simp,?_,inv ⟨by omega,by omega⟩,by omega⟩;rw [G7 (nz_Es _ _), <- het];exact V0 (fun j hj=>hGn j (by omega)) (by omega)
 have hd:decide ((i:Int)<a.length)=false:=by simpa using hlt
 rw [List.take_of_length_le (by omega)];repeat' ((with_reducible first|apply wr|refine cpc hk1 ?_|fail)<;>try simp only [go_sem,seval,hd,hGc])
 refine ⟨by and_intros<;>(rw [A2 (by omega)];exact hGn _ (by omega)),?_⟩;refine AC.call (hden (upS s (N2 r a)) _ _ t A0 (by omega)) ?_;rintro v' H' c' ⟨rfl,rfl⟩ hcc;rw [A1,G7 (nz_Es _ _)];obtain ⟨s1,hs1⟩:∃ s1,s1=upS s ((N2 r a).or (dnE r n (kdE k) p)):=⟨_,rfl⟩;have nz1:NzE ((N2 r a).or (dnE r n (kdE k) p)):=(nz_Es _ _).or (A5r _ _ _ _);rw [<- hs1, <- G7 nz1, <- hs1];clear hs1;have kL:∀ c2:Nat,c+9<=c2->IW Tryz.prog 61 (.loop u57_32) ⟨tm [(0,.ptr t 0),(3,.ptr cc 0),(6,I64 (T1 k a)),(45,J7 a),(46,I64 a.length),(47,I64 0)],G.upd t (ckB r s1),c2⟩ (bk 3 (rt [] fun v H' c' => ∃ v2 H2,GL H' [v] H2 [v2]/\v2=.tup []/\H2=H.upd t (ckB r (upS s1 (if (a.all fun x=>M6 x.kind == T1 k a)=true then none else some (p,49)))))):=by
  intro c2 hc2;generalize T1 k a=wnt;refine C3 (fun i:Nat=>[(0,.ptr t 0),(3,.ptr cc 0),(6,I64 wnt),(45,J7 a),(46,I64 a.length),(47,I64 i)]) (fun i=>G.upd t (ckB r (upS s1 (if ((a.take i).all fun x=>M6 x.kind == wnt)=true then none else some (p,49))))) (fun i c=>cc+1<=c/\i<=a.length) (fun i=>a.length-i) 0 (by simp [C1,tm,Tm.upd]) (by rw [List.take_zero,List.all_nil,if_pos rfl,G8];exact Sub.refl _) ⟨by omega,Nat.zero_le _⟩ ?_;rintro i c3 ⟨h3c,hki3⟩;by_cases hlt3:i<a.length
  ·have hd3:decide ((i:Int)<a.length)=true:=by simpa using hlt3
   have hg3:=List.getElem?_eq_getElem hlt3;have hw3:=w64 (n:=(i:Int)+1) (by omega) (by omega);have hat:=A1y (fun x:Ex=>M6 x.kind == wnt) a i _ hg3;have hty:=c_typ32 _ (hknd _ (List.getElem_mem hlt3));generalize a[i]=x at hg3 hat hty;obtain ⟨o,ho⟩:∃ o:Er,o=if ((a.take i).all fun x=>M6 x.kind == wnt)=true then none else some (p,49):=⟨_,rfl⟩
   rw [<- ho];have ne0:=T8 t c3 cc (by omega);by_cases hx:M6 x.kind=wnt
   ·have hxn:(M6 x.kind != wnt)=false:=by simp [hx]
    repeat' ((with_reducible first|apply wr|refine cpc hty ?_|fail)<;>try simp only [go_sem,seval,hd3,hg3,hw3,Ex.v_w,ne0,A0,A1,hGc,hxn])
    refine ⟨i+1,by simp,?_,inv ⟨by omega,by omega⟩,by omega⟩;rw [hat,show (M6 x.kind == wnt)=true by simpa using hx,Bool.and_true, <- ho];exact sub_ck1 (fun j hj=>hGn j (by omega)) (by omega)
   ·have hxn:(M6 x.kind != wnt)=true:=by simp [hx]
    repeat' ((with_reducible first|apply wr|refine cpc hty ?_|fail)<;>try simp only [go_sem,seval,hd3,hg3,hw3,Ex.v_w,ne0,A0,A1,hGc,hxn])
    refine AC.call (c_fail32 r (upS s1 o) _ _ t (by rw [A2 (by omega),A0]) (by omega) p 49) ?_;rintro v' H' c4 ⟨rfl,rfl⟩ hcc4;simp only [go_sem,seval,hw3];repeat' ((with_reducible apply wr)<;>try simp only [go_sem,seval,hw3])
    refine ⟨i+1,by simp,?_,inv ⟨by omega,by omega⟩,by omega⟩;have eo:upS (upS s1 o) (some (p,49))=upS s1 (some (p,49)):=by
     rw [ho];split
     ·rw [G8]
     ·exact upS_idem s1 p 49 (by decide)
    rw [hat,show (M6 x.kind == wnt)=false by simpa using hx,Bool.and_false,if_neg (by decide),eo];exact V0 (fun j hj=>hGn j (by omega)) (by omega)
  have hd3:decide ((i:Int)<a.length)=false:=by simpa using hlt3
  rw [List.take_of_length_le (by omega)];repeat' ((with_reducible apply wr)<;>try simp only [go_sem,seval,hd3])
  refine ⟨_,_,?_,rfl,rfl⟩;rw [hG];exact A7i hfr htc
 simp only [go_sem,seval];by_cases ka:k=11\/k=23\/k=24
 ·have ew:T1 k a=2:=by unfold T1;rw [if_pos ka]
  rw [ew] at kL ⊢;rcases ka with rfl|rfl|rfl
  all_goals (repeat' ((with_reducible apply wr)<;>try simp only [go_sem,seval,hGc]))
  all_goals exact kL _ hcc
 have ka1:(k == 11)=false:=by simp;omega
 have ka2:(k == 23)=false:=by simp;omega
 have ka3:(k == 24)=false:=by simp;omega
 by_cases kb:k=21\/k=22
 ·have hl2:=h22 kb;obtain ⟨x0,l0,ha⟩:∃ x l,a=x :: l:=by
   cases a with
   | nil=>simp at hl2
   | cons x l=>exact ⟨x,l,rfl⟩
  have ew:T1 k a=M6 x0.kind:=by rw [ha];unfold T1;rw [if_neg ka,if_pos kb]
  have hg0:a[0]? = some x0:=by rw [ha];rfl
  have hty:=c_typ32 _ (hknd x0 (by rw [ha];exact List.mem_cons_self));rw [ew] at kL ⊢;rcases kb with rfl|rfl
  all_goals (repeat' ((with_reducible first|apply wr|refine cpc hty ?_|fail)<;>try simp only [go_sem,seval,hGc,ka1,ka2,ka3,hg0,Ex.v_w]))
  all_goals exact kL _ hcc
 have ew:T1 k a=1:=by unfold T1;rw [if_neg ka,if_neg kb]
 rw [ew] at kL ⊢;have kb1:(k == 21)=false:=by simp;omega
 have kb2:(k == 22)=false:=by simp;omega
 repeat' ((with_reducible apply wr)<;>try simp only [go_sem,seval,hGc,ka1,ka2,ka3,kb1,kb2])
 exact kL _ hcc
theorem A3m {H:Hp} {i j:Nat} {a b:Blk} (h:i≠j):(H.upd i a).upd j b=(H.upd j b).upd i a:=by
 funext k
 by_cases e:k=j
 ·subst e;rw [A0,A2 (Ne.symm h),A0]
 ·rw [A2 e];by_cases e2:k=i
  ·subst e2;rw [A0,A0]
  ·rw [A2 e2,A2 e2,A2 e]
theorem A2v {H:Hp} {t c:Nat} {b1 b:Blk} (hG:∀ j,c<=j->H j=none) (htc:t<c):Sym.Sub (H.upd t b) ((H.upd c b1).upd t b):=by
 rw [<- A3m (Nat.ne_of_lt htc)];exact sub_ck1 hG htc
theorem typ_want (k:Int) (b:Bool):M6 k=(if b=true then 2 else 1)↔(M6 k == 2)=b:=by
 unfold M6;cases b<;>cases bolM k<;>simp
theorem c_blk32 (r:Ru) (hk:R2 r.decls):∀ (m:Nat) (l:List Pb.St) (d:Nat),Pb.St.szs l<m->Pb.St.szs l<=100000000->G4 d l=true->∀ (s:Int × Int) (H:Hp) (cc t:Nat) (ht:H t=some (ckB r s)) (htc:t<cc),
  AC Tryz.prog 48 [.ptr t 0,F0 l] H cc (fun v H' c'=>v=.tup []/\H'=H.upd t (ckB r (upS s (erB r l)))):=by
 intro m
 induction m with
 | zero=>intro l d h;omega
 | succ m ih =>
 intro l d hm hB hv s H cc t ht htc;have hl:=Pb.St.szs_len l;refine AC.body A6 isU48 (Nat.le_of_ble_eq_true rfl) fun hfr=>?_;show IW Tryz.prog 56 u48_1 ⟨B4 _,_,_⟩ (rt [] _);repeat' ((with_reducible apply wr)<;>try simp only [go_sem,seval])
 have hHt:H=H.upd t (ckB r s):=(upd_same ht).symm;refine C3 (fun i:Nat=>[(0,.ptr t 0),(9,F0 l),(10,I64 l.length),(11,I64 i)]) (fun i=>H.upd t (ckB r (upS s (erB r (l.take i))))) (fun i c=>cc<=c/\i<=l.length) (fun i=>l.length-i) 0 (by simp [C1,tm,Tm.upd]) (by rw [List.take_zero,erB,G8, <- hHt];exact Sub.refl _) ⟨by omega,Nat.zero_le _⟩ ?_;rintro i c ⟨h1c,hki⟩;by_cases hlt:i<l.length
 ·have hd:decide ((i:Int)<l.length)=true:=by simpa using hlt
  have hg:=List.getElem?_eq_getElem hlt;have hw:=w64 (n:=(i:Int)+1) (by omega) (by omega);have hsx:=Pb.St.szs_mem (List.getElem_mem hlt);obtain ⟨v1,v2,v3⟩:=A3k (A5i hv _ (List.getElem_mem hlt));have het:=erB_take (r:=r) hg;rw [erS_e] at het;generalize l[i]=x at hg hsx v1 v2 v3 het;have hsa:Ex.szs x.args<x.sz:=by cases x with|mk k n t a x y p=>rw [Pb.St.sz];show Ex.szs a<_;omega
  have hal:=Ex.szs_len x.args;have hX:=ih x.thn (d+1) (by have:=x.sz_thn;omega) (by have:=x.sz_thn;omega) v2;have hY:=ih x.els (d+1) (by have:=x.sz_els;omega) (by have:=x.sz_els;omega) v3;have hk1:=c_inS32 x.kind;obtain ⟨s0,hs0⟩:∃ s0,s0=upS s (erB r (l.take i)):=⟨_,rfl⟩;have hfin:upS s (erB r (l.take (i+1)))=upS s0 ((((dnE r x.name (kdS x.kind) x.pos).or (erA r (x.kind == 2) x.args)).or (erB r x.thn)).or (erB r x.els)):=by rw [het, <- G7 (nz_B _ _), <- hs0]
  rw [<- hs0];have ne0:=M8 t c (by omega);repeat' ((with_reducible first|apply wr|refine cpc hk1 ?_|fail)<;>try simp only [go_sem,seval,hd,hg,hw,Pb.St.v_w,ne0,A0,A1])
  obtain ⟨G,hG⟩:∃ G,G=H.upd c ⟨0,true,[I64 x.kind,.str x.name,.str x.text,J7 x.args,F0 x.thn,F0 x.els,I64 x.pos]⟩:=⟨_,rfl⟩;have hGc:∀ b,(G.upd t b) c=some ⟨0,true,[I64 x.kind,.str x.name,.str x.text,J7 x.args,F0 x.thn,F0 x.els,I64 x.pos]⟩:=fun b=>by rw [A2 (by omega),hG,A0]
  have hGn:∀ j,c+1<=j->G j=none:=fun j hj=>by rw [hG,A2 (by omega)];exact hfr j (by omega)
  rw [A3m (by omega), <- hG];refine ⟨by and_intros<;>(rw [A2 (by omega)];exact hGn _ (by omega)),?_⟩;refine AC.call (c_den32 r hk s0 _ _ t A0 (by omega) x.name (kdS x.kind) x.pos) ?_;rintro v' H' c2 ⟨rfl,rfl⟩ hc2;rw [A1];obtain ⟨s1,hs1⟩:∃ s1,s1=upS s0 (dnE r x.name (kdS x.kind) x.pos):=⟨_,rfl⟩;rw [Option.or_assoc,Option.or_assoc, <- G7 (A5r _ _ _ _), <- hs1] at hfin;rw [<- hs1];have kL:∀ c3:Nat,c+1<=c3->IW Tryz.prog 56 (.loop u48_16) ⟨tm [(0,.ptr t 0),(5,.ptr c 0),(6,I64 (if (x.kind == 2)=true then 2 else 1)),(9,F0 l),(10,I64 l.length),(11,I64 i),(28,J7 x.args),(29,I64 x.args.length),(30,I64 0)],G.upd t (ckB r s1),c3⟩ (bk 2 (sq Tryz.prog 56 u48_25 (bk 1 (sq Tryz.prog 56 u48_27
    (lp (fun i:Nat=>[(0,DV.ptr t 0),(9,F0 l),(10,I64 l.length),(11,I64 i)]) (fun i:Nat=>H.upd t (ckB r (upS s (erB r (l.take i))))) (fun (i c:Nat)=>cc<=c/\i<=l.length) (fun i:Nat=>l.length-i) (l.length-i) (bk 0 (rt [] fun v H' c' => ∃ v2 H2,GL H' [v] H2 [v2]/\v2=DV.tup []/\H2=H.upd t (ckB r (upS s (erB r l)))))))))):=by
   intro c3 hc3;obtain ⟨wnt,hwnt⟩:∃ wnt:Int,wnt=if (x.kind == 2)=true then 2 else 1:=⟨_,rfl⟩
   rw [<- hwnt];refine C3 (fun j:Nat=>[(0,.ptr t 0),(5,.ptr c 0),(6,I64 wnt),(9,F0 l),(10,I64 l.length),(11,I64 i),(28,J7 x.args),(29,I64 x.args.length),(30,I64 j)]) (fun j=>G.upd t (ckB r (upS s1 (erA r (x.kind == 2) (x.args.take j))))) (fun j c4=>c+1<=c4/\j<=x.args.length) (fun j=>x.args.length-j) 0 (by simp [C1,tm,Tm.upd]) (by rw [List.take_zero,erA,G8];exact Sub.refl _) ⟨by omega,Nat.zero_le _⟩ ?_;rintro j c4 ⟨h4c,hkj⟩;by_cases hlt2:j<x.args.length
   ·have hd2:decide ((j:Int)<x.args.length)=true:=by simpa using hlt2
    have hg2:=List.getElem?_eq_getElem hlt2;have hw2:=w64 (n:=(j:Int)+1) (by omega) (by omega);have hxs:=Ex.szs_mem (List.getElem_mem hlt2);have hmy:=v1 _ (List.getElem_mem hlt2);have heA:=erA_take (r:=r) (b:=x.kind == 2) hg2;generalize x.args[j]=y at hg2 hxs hmy heA;have hex:=c_exp32 r hk _ y (Nat.lt_succ_self _) (by omega) hmy;obtain ⟨qy,hqy⟩:=hmy;have hty:=c_typ32 _ (ms_kind hqy);rw [Ex.v_w] at hex;obtain ⟨o,ho⟩:∃ o,o=erA r (x.kind == 2) (x.args.take j):=⟨_,rfl⟩;have hno:NzE o:=by rw [ho];exact nz_A _ _ _
    have htw:=typ_want y.kind (x.kind == 2);rw [<- hwnt] at htw;rw [<- ho];rw [<- ho, <- Option.or_assoc] at heA;have ne0:=T8 t c c4 (by omega);repeat' ((with_reducible apply wr)<;>try simp only [go_sem,seval,hd2,hg2,hw2,Ex.v_w,ne0,A0,A1,hGc])
    refine AC.call (hex (upS s1 o) _ _ t (by rw [A2 (by omega),A0]) (by omega)) ?_;rintro v' H' c5 ⟨rfl,rfl⟩ hc5;rw [G7 hno];simp only [go_sem,seval,hw2,A1];by_cases hx:M6 y.kind=wnt
    ·have hxn:(M6 y.kind != wnt)=false:=by simp [hx]
     repeat' ((with_reducible first|apply wr|refine cpc hty ?_|fail)<;>try simp only [go_sem,seval,hw2,ne0,A0,A1,hxn])
     refine ⟨j+1,by simp,?_,inv ⟨by omega,by omega⟩,by omega⟩;rw [heA,if_pos (htw.1 hx),Option.or_none];exact V0 (fun j hj=>hGn j (by omega)) (by omega)
    ·have hxn:(M6 y.kind != wnt)=true:=by simp [hx]
     repeat' ((with_reducible first|apply wr|refine cpc hty ?_|fail)<;>try simp only [go_sem,seval,hw2,ne0,A0,A1,hxn])
     refine AC.call (c_fail32 r (upS s1 (o.or (erE r y))) _ _ t A0 (by omega) y.pos 49) ?_;rintro v' H' c6 ⟨rfl,rfl⟩ hc6;simp only [go_sem,seval,hw2,A1];repeat' ((with_reducible apply wr)<;>try simp only [go_sem,seval,hw2])
     refine ⟨j+1,by simp,?_,inv ⟨by omega,by omega⟩,by omega⟩;rw [G7 (hno.or (nz_E _ _)),heA,if_neg (fun h=>hx (htw.2 h))];exact V0 (fun j hj=>hGn j (by omega)) (by omega)
   have hd2:decide ((j:Int)<x.args.length)=false:=by simpa using hlt2
   rw [List.take_of_length_le (by omega)];repeat' ((with_reducible apply wr)<;>try simp only [go_sem,seval,hd2,hGc])
   refine AC.call (hX (upS s1 (erA r (x.kind == 2) x.args)) _ _ t A0 (by omega)) ?_;rintro v' H' c5 ⟨rfl,rfl⟩ hc5;rw [A1,G7 (nz_A _ _ _)];simp only [go_sem,seval,hGc];repeat' ((with_reducible apply wr)<;>try simp only [go_sem,seval,hGc])
   refine AC.call (hY (upS s1 ((erA r (x.kind == 2) x.args).or (erB r x.thn))) _ _ t A0 (by omega)) ?_;rintro v' H' c6 ⟨rfl,rfl⟩ hc6;rw [A1,G7 ((nz_A _ _ _).or (nz_B _ _))];simp only [go_sem,seval,hw];repeat' ((with_reducible apply wr)<;>try simp only [go_sem,seval,hw])
   refine ⟨i+1,by simp,?_,inv ⟨by omega,by omega⟩,by omega⟩;rw [hfin,Option.or_assoc,hG];exact A2v (fun j hj=>hfr j (by omega)) (by omega)
  simp only [go_sem,seval];cases hb2:(x.kind == 2) with
  | true =>
   rw [hb2] at kL;repeat' ((with_reducible apply wr)<;>try simp only [go_sem,seval,hGc,hw,hb2])
   exact kL _ (by omega)
  | false =>
   rw [hb2] at kL;repeat' ((with_reducible apply wr)<;>try simp only [go_sem,seval,hGc,hw,hb2])
   exact kL _ (by omega)
 have hd:decide ((i:Int)<l.length)=false:=by simpa using hlt
 rw [List.take_of_length_le (by omega)];repeat' ((with_reducible apply wr)<;>try simp only [go_sem,seval,hd])
 exact ⟨_,_,GL.refl _ _,rfl,rfl⟩
abbrev P4 (l:List (List UInt8)):Blk:=⟨0,true,[.mpc .s (mkK (O7 l)) (mvV (O7 l))]⟩
theorem c_head1 (r:Ru) (s:Int × Int) (l:List (List UInt8)) (nm:List UInt8) (p val most:Int) (H:Hp) (cc t a b mm:Nat) (ht:H t=some (ckB r s)) (ha:H a=some ⟨0,true,[.ptr t 0]⟩) (hb:H b=some ⟨0,true,[.mid mm]⟩) (hm:H mm=some (P4 l))
  (htc:t<cc) (hac:a<cc) (hbc:b<cc) (hmc:mm<cc) (hta:t≠a) (htb:t≠b) (htm:t≠mm) (hbm:b≠mm) (ham:a≠mm) (hab:a≠b) :
  AC Tryz.prog 86 [.str nm,I64 p,I64 val,I64 most,.ptr a 0,.ptr b 0] H cc (fun v H' c'=>v=.tup []/\H'=(H.upd t (ckB r (upS s ((if val>most then some (p,5) else none:Er).or (if l.contains nm=true then some (p,7) else none))))).upd mm (P4 (R4 l nm))):=by
 refine AC.body A6 isU86 (Nat.le_of_ble_eq_true rfl) fun hfr=>?_;show IW Tryz.prog 24 u86_1 ⟨B4 _,_,_⟩ (rt [] _);have hlk:=see_lk nm l;have hmu:=fun H c id u=>A6t nm l H c id u;obtain ⟨o1,ho1⟩:∃ o1:Er,o1=if val>most then some (p,5) else none:=⟨_,rfl⟩
 have n1:NzE o1:=by rw [ho1];exact A6y (by decide)
 rw [<- ho1];have hkB:∀ c0,cc<=c0->IW Tryz.prog 24 u86_5 ⟨tm [(0,.str nm),(1,I64 p),(4,.ptr a 0),(5,.ptr b 0)],H.upd t (ckB r (upS s o1)),c0⟩ (rt [] fun v H' c' => ∃ v2 H2,GL H' [v] H2 [v2]/\v2=.tup []/\H2=(H.upd t (ckB r (upS s (o1.or (if l.contains nm=true then some (p,7) else none))))).upd mm (P4 (R4 l nm))):=by
  intro c0 hc0;have ne0:=X3 t a b mm (by omega);cases hc:l.contains nm with
  | false =>
   rw [hc] at hlk;rw [if_neg (by decide),Option.or_none];repeat' ((with_reducible apply wr)<;>try simp only [go_sem,seval,ha,hb,hm,hlk,hmu,ne0,A0,A1])
   exact ⟨_,_,GL.refl _ _,rfl,rfl⟩
  | true =>
   rw [hc] at hlk;rw [if_pos rfl];repeat' ((with_reducible apply wr)<;>try simp only [go_sem,seval,ha,hb,hm,hlk,hmu,ne0,A0,A1])
   refine AC.call (c_fail32 r (upS s o1) _ _ t A0 (by omega) p 7) ?_;rintro v' H' c2 ⟨rfl,rfl⟩ hc2;rw [A1,G7 n1];simp only [go_sem,seval];repeat' ((with_reducible apply wr)<;>try simp only [go_sem,seval,ha,hb,hm,hlk,hmu,ne0,A0,A1])
   exact ⟨_,_,GL.refl _ _,rfl,rfl⟩
 have ne0:=X3 t a b mm (by omega);by_cases hv:val>most
 ·have qv:decide (val>most)=true:=by simpa using hv
  rw [if_pos hv] at ho1;rw [ho1] at hkB ⊢;repeat' ((with_reducible apply wr)<;>try simp only [go_sem,seval,ha,hb,hm,qv,ne0,A0,A1])
  refine AC.call (c_fail32 r s _ _ t ht (by omega) p 5) ?_;rintro v' H' c2 ⟨rfl,rfl⟩ hc2;simp only [go_sem,seval];repeat' ((with_reducible first|refine G1 (p:=IW _ _ u86_5 _ _) ?_|refine wr ?_|fail)<;>try simp only [go_sem,seval])
  exact IW.stage (by simp [C1,tm,Tm.upd]) (hkB _ hc2)
 ·have qv:decide (val>most)=false:=by simpa using hv
  rw [if_neg hv] at ho1;rw [ho1,G8,upd_same ht] at hkB;rw [ho1];repeat' ((with_reducible first|refine G1 (p:=IW _ _ u86_5 _ _) ?_|refine wr ?_|fail)<;>try simp only [go_sem,seval,ha,hb,hm,qv,ne0,A0,A1])
  exact IW.stage (by simp [C1,tm,Tm.upd]) (hkB _ (Nat.le_refl _))
def hdH (H:Hp) (r:Ru) (t cc:Nat) (s:Int × Int) (l:List (List UInt8)):Hp:=((((H.upd t (ckB r s)).upd cc ⟨0,true,[.ptr t 0]⟩).upd (cc+1) ⟨0,true,[H4 r.decls,I5 r.modes]⟩).upd (cc+2) (P4 l)).upd (cc+3) ⟨0,true,[.mid (cc+2)]⟩
theorem hdH_t {H:Hp} {r:Ru} {t cc:Nat} {s:Int × Int} {l:List (List UInt8)} (htc:t<cc):hdH H r t cc s l t=some (ckB r s):=by
 unfold hdH;rw [A2 (by omega),A2 (by omega),A2 (by omega),A2 (by omega),A0]
theorem hdH_0 {H:Hp} {r:Ru} {t cc:Nat} {s:Int × Int} {l:List (List UInt8)}:hdH H r t cc s l cc=some ⟨0,true,[.ptr t 0]⟩:=by
 unfold hdH;rw [A2 (by omega),A2 (by omega),A2 (by omega),A0]
theorem hdH_1 {H:Hp} {r:Ru} {t cc:Nat} {s:Int × Int} {l:List (List UInt8)}:hdH H r t cc s l (cc+1)=some ⟨0,true,[H4 r.decls,I5 r.modes]⟩:=by
 unfold hdH;rw [A2 (by omega),A2 (by omega),A0]
theorem hdH_2 {H:Hp} {r:Ru} {t cc:Nat} {s:Int × Int} {l:List (List UInt8)}:hdH H r t cc s l (cc+2)=some (P4 l):=by
 unfold hdH;rw [A2 (by omega),A0]
theorem hdH_3 {H:Hp} {r:Ru} {t cc:Nat} {s:Int × Int} {l:List (List UInt8)}:hdH H r t cc s l (cc+3)=some ⟨0,true,[.mid (cc+2)]⟩:=by
 unfold hdH;rw [A0]
theorem hdH_n {H:Hp} {r:Ru} {t cc:Nat} {s:Int × Int} {l:List (List UInt8)} (htc:t<cc) (hfr:∀ i,cc<=i->H i=none) (j:Nat) (hj:cc+4<=j):hdH H r t cc s l j=none:=by
 unfold hdH;rw [A2 (by omega),A2 (by omega),A2 (by omega),A2 (by omega),A2 (by omega)];exact hfr j (by omega)
theorem hdH_o {H:Hp} {r:Ru} {t cc:Nat} {s:Int × Int} {l:List (List UInt8)} (j:Nat) (hj:j<cc) (hjt:j≠t):hdH H r t cc s l j=H j:=by
 unfold hdH;rw [A2 (by omega),A2 (by omega),A2 (by omega),A2 (by omega),A2 hjt]
theorem hd_sub {H X:Hp} {r:Ru} {t cc:Nat} {s:Int × Int} {l:List (List UInt8)} (htc:t<cc) (hfr:∀ i,cc<=i->H i=none) (ht:X t=some (ckB r s)) (h0:X cc=some ⟨0,true,[.ptr t 0]⟩) (h1:X (cc+1)=some ⟨0,true,[H4 r.decls,I5 r.modes]⟩) (h2:X (cc+2)=some (P4 l)) (h3:X (cc+3)=some ⟨0,true,[.mid (cc+2)]⟩)
  (ho:∀ j,j<cc->j≠t->X j=H j):Sym.Sub (hdH H r t cc s l) X:=by
 intro j b hj;by_cases hlt:j<cc
 ·by_cases hjt:j=t
  ·subst hjt;rw [hdH_t htc] at hj;rw [ht];exact hj
  ·rw [hdH_o j hlt hjt] at hj;rw [ho j hlt hjt];exact hj
 ·have h4:j<cc+4:=Nat.lt_of_not_le fun h=>by rw [hdH_n htc hfr j h] at hj;cases hj
  have:j=cc\/j=cc+1\/j=cc+2\/j=cc+3:=by omega
  rcases this with rfl|rfl|rfl|rfl
  ·rw [hdH_0] at hj;rw [h0];exact hj
  ·rw [hdH_1] at hj;rw [h1];exact hj
  ·rw [hdH_2] at hj;rw [h2];exact hj
  ·rw [hdH_3] at hj;rw [h3];exact hj
theorem c_heads32 (r:Ru) (hk:R2 r.decls) (s:Int × Int) (H:Hp) (cc t:Nat) (ht:H t=some (ckB r s)) (htc:t<cc) (h1:r.decls.length<=1000000000) (h2:r.modes.length<=1000000000) :
  AC Tryz.prog 42 [.ptr t 0,r.v] H cc (fun v H' c'=>v=.tup []/\H'=H.upd t (ckB r (upS s (heaE r)))):=by
 have hrv:r.v=.agg [H4 r.decls,I5 r.modes]:=rfl;rw [hrv];have hkt:∀ i,R2 (r.decls.take i):=fun i d hd=>hk d (List.mem_of_mem_take hd);refine AC.body A6 isU42 (Nat.le_of_ble_eq_true rfl) fun hfr=>?_;show IW Tryz.prog 47 u42_1 ⟨B4 _,_,_⟩ (rt [] _);have ne0:=A3z t cc (cc+1) (cc+1+1) (cc+1+1+1) (by omega);repeat' ((with_reducible apply wr)<;>try simp only [go_sem,seval,box_mnil,ne0,A0,A1])
 refine C3 (fun q:Nat × List (List UInt8)=>[(3,.ptr (cc+1) 0),(5,.func 86 [] [.ptr cc 0,.ptr (cc+1+1+1) 0]),(13,H4 r.decls),(14,I64 r.decls.length),(15,I64 q.1)]) (fun q=>hdH H r t cc (upS s (erD [] (r.decls.take q.1))) q.2)
  (fun q c=>cc+4<=c/\q.1<=r.decls.length/\∀ n,q.2.contains n=(r.decls.take q.1).any (fun d=>d.name == n)) (fun q=>r.decls.length-q.1) (0,[]) (by simp [C1,tm,Tm.upd])
  (by
   dsimp only;rw [List.take_zero,erD,G8];refine hd_sub htc hfr ?_ ?_ ?_ ?_ A0 ?_
   ·repeat rw [A2 (by omega)]
    exact ht
   ·repeat rw [A2 (by omega)]
    exact A0
   ·repeat rw [A2 (by omega)]
    exact A0
   ·rw [A2 (by omega)];exact A0
   ·intro j hj hjt
    repeat rw [A2 (by omega)]) ⟨by omega,Nat.zero_le _,fun n=>rfl⟩ ?_
 rintro ⟨i,l⟩ c ⟨h1c,hki,hsn⟩;dsimp only at hki hsn ⊢;by_cases hlt:i<r.decls.length
 ·have hd:decide ((i:Int)<r.decls.length)=true:=by simpa using hlt
  have hg:=List.getElem?_eq_getElem hlt;have hw:=w64 (n:=(i:Int)+1) (by omega) (by omega);have het:=erD_take hg;have hnx:=fun n=>A6i (fun d:Dc=>d.name == n) r.decls i _ hg;have hlo:=fun n=>A3b (r.decls.take i) [] n (hkt i);generalize r.decls[i]=d at hg het hnx;have hmo:=c_most32 d.kind;obtain ⟨o,ho⟩:∃ o,o=erD [] (r.decls.take i):=⟨_,rfl⟩;have hno:NzE o:=by rw [ho];exact nz_D _ _
  rw [<- ho] at het ⊢;have hb0:hdH H r t cc (upS s o) l cc=_:=hdH_0;have hb1:hdH H r t cc (upS s o) l (cc+1)=_:=hdH_1;have hb2:hdH H r t cc (upS s o) l (cc+2)=_:=hdH_2;have hb3:hdH H r t cc (upS s o) l (cc+1+1+1)=_:=hdH_3;have hbt:hdH H r t cc (upS s o) l t=_:=hdH_t htc;have hbn:=hdH_n (s:=upS s o) (l:=l) (r:=r) htc hfr;have hbo:=hdH_o (H:=H) (cc:=cc) (t:=t) (s:=upS s o) (l:=l) (r:=r);generalize hdH H r t cc (upS s o) l=HH at hb0 hb1 hb2 hb3 hbt hbn hbo ⊢;have ne0:=X3 c t cc (cc+1) (by omega);repeat' ((with_reducible first|apply wr|refine cpc hmo ?_|fail)<;>try simp only [go_sem,seval,hd,hg,dc_w,hb0,hb1,hb2,hb3,hbt,ne0,A0,A1])
  refine ⟨by and_intros<;>(rw [A2 (by omega)];exact hbn _ (by omega)),?_⟩;refine AC.call (c_head1 r (upS s o) l d.name d.pos d.value (A7b d.kind) _ _ t cc (cc+1+1+1) (cc+2) (by rw [A2 (by omega)];exact hbt) (by rw [A2 (by omega)];exact hb0) (by rw [A2 (by omega)];exact hb3) (by rw [A2 (by omega)];exact hb2) (by omega) (by omega) (by omega) (by omega) (by omega) (by omega) (by omega) (by omega) (by omega) (by omega)) ?_;rintro v' H' c2 ⟨rfl,rfl⟩ hc2;have est:((if d.value>A7b d.kind then some (d.pos,5) else none:Er).or (if l.contains d.name=true then some (d.pos,7) else none))=stD (r.decls.take i) d:=by
   unfold stD
   congr 1
   rw [hsn];have:=hlo d.name;cases ha:(r.decls.take i).any (fun x=>x.name == d.name) with
   | true=>rw [ha] at this;rw [if_pos rfl,if_neg (fun h=>by simpa using (this.1 h).1)]
   | false=>rw [ha] at this;rw [if_neg (by decide),if_pos (this.2 ⟨rfl,rfl⟩)]
  rw [est,G7 hno, <- het];simp only [go_sem,seval,hw];repeat' ((with_reducible apply wr)<;>try simp only [go_sem,seval,hw])
  refine ⟨(i+1,R4 l d.name),by simp [C1,tm,Tm.upd],?_,inv ⟨by omega,by omega,fun n=>?_⟩,by simp only;omega⟩
  ·refine hd_sub htc hfr ?_ ?_ ?_ A0 ?_ ?_
   ·rw [A2 (by omega),A0]
   ·repeat rw [A2 (by omega)]
    exact hb0
   ·repeat rw [A2 (by omega)]
    exact hb1
   ·repeat rw [A2 (by omega)]
    exact hb3
   ·intro j hj hjt;rw [A2 (by omega),A2 hjt,A2 (by omega)];exact hbo j hj hjt
  ·simp only;rw [X1,hsn,hnx]
   congr 1
   rw [Bool.eq_iff_iff];simp;exact eq_comm
 have hd:decide ((i:Int)<r.decls.length)=false:=by simpa using hlt
 rw [List.take_of_length_le (by omega)] at hsn ⊢;have hb1:hdH H r t cc (upS s (erD [] r.decls)) l (cc+1)=_:=hdH_1;repeat' ((with_reducible apply wr)<;>try simp only [go_sem,seval,hd,hb1])
 clear hd hlt hki i hb1;have hrp:heaE r=(erD [] r.decls).or (erP r.decls [] r.modes):=rfl;rw [hrp, <- G7 (nz_D _ _)];obtain ⟨s1,hs1⟩:∃ s1,s1=upS s (erD [] r.decls):=⟨_,rfl⟩;rw [<- hs1];refine C3 (fun q:Nat × List (List UInt8)=>[(5,.func 86 [] [.ptr cc 0,.ptr (cc+1+1+1) 0]),(32,I5 r.modes),(33,I64 r.modes.length),(34,I64 q.1)]) (fun q=>hdH H r t cc (upS s1 (erP r.decls [] (r.modes.take q.1))) q.2)
  (fun q c=>cc+4<=c/\q.1<=r.modes.length/\∀ n,q.2.contains n=(r.decls.any (fun d=>d.name == n) || (r.modes.take q.1).any (fun d=>d.name == n))) (fun q=>r.modes.length-q.1) (0,l) (by simp [C1,tm,Tm.upd])
  (by
   dsimp only;rw [List.take_zero,erP,G8];exact Sub.refl _) ⟨h1c,Nat.zero_le _,fun n=>by rw [hsn];simp⟩ ?_
 clear hsn h1c c l hs1;rintro ⟨i,l⟩ c ⟨h1c,hki,hsn⟩;dsimp only at hki hsn ⊢;by_cases hlt:i<r.modes.length
 ·have hd:decide ((i:Int)<r.modes.length)=true:=by simpa using hlt
  have hg:=List.getElem?_eq_getElem hlt;have hw:=w64 (n:=(i:Int)+1) (by omega) (by omega);have het:=erP_take (D:=r.decls) hg;have hnx:=fun n=>A6i (fun d:Md=>d.name == n) r.modes i _ hg;have hlo:=fun n=>A3b r.decls (r.modes.take i) n hk;generalize r.modes[i]=d at hg het hnx;obtain ⟨o,ho⟩:∃ o,o=erP r.decls [] (r.modes.take i):=⟨_,rfl⟩;have hno:NzE o:=by rw [ho];exact nz_P _ _ _
  rw [<- ho] at het ⊢;have hb0:hdH H r t cc (upS s1 o) l cc=_:=hdH_0;have hb1:hdH H r t cc (upS s1 o) l (cc+1)=_:=hdH_1;have hb2:hdH H r t cc (upS s1 o) l (cc+2)=_:=hdH_2;have hb3:hdH H r t cc (upS s1 o) l (cc+1+1+1)=_:=hdH_3;have hbt:hdH H r t cc (upS s1 o) l t=_:=hdH_t htc;have hbn:=hdH_n (s:=upS s1 o) (l:=l) (r:=r) htc hfr;have hbo:=hdH_o (H:=H) (cc:=cc) (t:=t) (s:=upS s1 o) (l:=l) (r:=r);generalize hdH H r t cc (upS s1 o) l=HH at hb0 hb1 hb2 hb3 hbt hbn hbo ⊢;have ne0:=X3 c t cc (cc+1) (by omega);repeat' ((with_reducible apply wr)<;>try simp only [go_sem,seval,hd,hg,md_w,hb0,hb1,hb2,hb3,hbt,ne0,A0,A1])
  refine AC.call (c_head1 r (upS s1 o) l d.name d.pos d.prio 99 _ _ t cc (cc+1+1+1) (cc+2) (by rw [A2 (by omega)];exact hbt) (by rw [A2 (by omega)];exact hb0) (by rw [A2 (by omega)];exact hb3) (by rw [A2 (by omega)];exact hb2) (by omega) (by omega) (by omega) (by omega) (by omega) (by omega) (by omega) (by omega) (by omega) (by omega)) ?_;rintro v' H' c2 ⟨rfl,rfl⟩ hc2;have est:((if d.prio>99 then some (d.pos,5) else none:Er).or (if l.contains d.name=true then some (d.pos,7) else none))=stP r.decls (r.modes.take i) d:=by
   unfold stP
   congr 1
   rw [hsn];have:=hlo d.name;cases ha:r.decls.any (fun x=>x.name == d.name) with
   | true=>rw [ha] at this;rw [Bool.true_or,if_pos rfl,if_neg (fun h=>by simpa using (this.1 h).1)]
   | false =>
    rw [ha] at this;cases ha2:(r.modes.take i).any (fun x=>x.name == d.name) with
    | true=>rw [ha2] at this;rw [Bool.false_or,if_pos rfl,if_neg (fun h=>by simpa using (this.1 h).2)]
    | false=>rw [ha2] at this;rw [Bool.false_or,if_neg (by decide),if_pos (this.2 ⟨rfl,rfl⟩)]
  rw [est,G7 hno, <- het];simp only [go_sem,seval,hw];repeat' ((with_reducible apply wr)<;>try simp only [go_sem,seval,hw])
  refine ⟨(i+1,R4 l d.name),by simp [C1,tm,Tm.upd],?_,inv ⟨by omega,by omega,fun n=>?_⟩,by simp only;omega⟩
  ·refine hd_sub htc hfr ?_ ?_ ?_ A0 ?_ ?_
   ·rw [A2 (by omega),A0]
   ·repeat rw [A2 (by omega)]
    exact hb0
   ·repeat rw [A2 (by omega)]
    exact hb1
   ·repeat rw [A2 (by omega)]
    exact hb3
   ·intro j hj hjt;rw [A2 (by omega),A2 hjt,A2 (by omega)];exact hbo j hj hjt
  ·simp only;rw [X1,hsn,hnx,Bool.or_assoc]
   congr 2
   rw [Bool.eq_iff_iff];simp;exact eq_comm
 have hd:decide ((i:Int)<r.modes.length)=false:=by simpa using hlt
 rw [List.take_of_length_le (by omega)];repeat' ((with_reducible apply wr)<;>try simp only [go_sem,seval,hd])
 refine ⟨_,_,GL.less' (fun j b hj=>?_),rfl,rfl⟩;by_cases e:j=t
 ·subst e;rw [A0] at hj;rw [hdH_t htc];exact hj
 ·rw [A2 e] at hj;have:j<cc:=Nat.lt_of_not_le fun h=>by rw [hfr _ h] at hj;cases hj
  rw [hdH_o j this e];exact hj
theorem c_chk1 (x h:Hd):PC Tryz.prog 46 [x.v,.fptr [I64 h.trig,.str h.name,F0 h.body,I64 h.pos]] (.bool (x.trig == h.trig && x.name == h.name)):=by
 rw [hdl_w];refine PC.of A6 isU46 (Nat.le_of_ble_eq_true rfl) (by simp [DV.nlL,DV.nl]) (by simp [DV.nlL,DV.nl]) ?_;show IW Tryz.prog 16 u46_1 ⟨B4 _,_,_⟩ (rt [.tmp 3] _);cases h1:(x.trig == h.trig) with
 | false =>
  repeat' ((with_reducible apply wr)<;>try simp only [go_sem,seval,h1])
  exact A4 rfl
 | true =>
  cases h2:(x.name == h.name) with
  | false =>
   repeat' ((with_reducible apply wr)<;>try simp only [go_sem,seval,h1,h2])
   exact A4 rfl
  | true =>
   repeat' ((with_reducible apply wr)<;>try simp only [go_sem,seval,h1,h2])
   exact A4 rfl
theorem c_Check32 (r:Ru) (hB:r.sz<4000000):PC Tryz.prog 17 [r.v] (chkV r):=by
 have hv:=c_Valid r (by omega);have hdl:=sz_dl r;have hml:=sz_ml r;have hnm:=c_names r (by omega) (by omega);have hch:chkV r=if T4 r=true then erV (A7p r) else .tup [I64 0,I64 1]:=rfl
 refine PC.of A6 isU17 (Nat.le_of_ble_eq_true rfl) (by simp [Ru.v,DV.nlL,DV.nl,P6,P5]) (chkV_nl _) ?_;have hrv:r.v=.agg [H4 r.decls,I5 r.modes]:=rfl;cases hvd:T4 r with
 | false =>
  rw [hvd] at hv hch;rw [hch];rw [hrv] at hv ⊢;show IW Tryz.prog 67 u17_1 ⟨B4 _,_,_⟩ (rt [.tmp 2,.tmp 3] _);repeat' ((with_reducible first|apply wr|refine cpc hv ?_|fail)<;>try simp only [go_sem,seval])
  exact A4 rfl
 | true =>
 have hk:=vld_kd hvd;have hbv:=@vld_body _ r hvd;have hms:∀ m∈r.modes,m.sz<=r.sz:=fun m h=>sz_md h;rw [hvd] at hv hch;rw [if_pos rfl] at hch;rw [hch,erV_up];unfold A7p;rw [<- G7 (nz_hea r)];have hhd:=fun H cc t ht htc=>c_heads32 r hk (0,0) H cc t ht htc (by omega) (by omega);obtain ⟨K,V,hKV⟩:∃ K V,nmV r=.mp .s K V:=⟨_,_,rfl⟩;have hck:∀ s:Int × Int,(⟨0,true,[.mp .s K V,I64 s.1,I64 s.2]⟩:Blk)=ckB r s:=fun s=>by unfold ckB;rw [hKV]
 rw [hKV] at hnm;rw [hrv] at hv hnm hhd ⊢;show IW Tryz.prog 67 u17_1 ⟨B4 _,_,_⟩ (rt [.tmp 2,.tmp 3] _);repeat' ((with_reducible first|apply wr|refine cpc hv ?_|refine cpc hnm ?_|fail)<;>try simp only [go_sem,seval])
 refine AC.call (hhd _ _ 1 (by rw [A0];exact congrArg some (hck (0,0))) (by omega)) ?_;rintro v' H' c' ⟨rfl,rfl⟩ hcc;rw [A1];obtain ⟨s0,hs0⟩:∃ s0,s0=upS (0,0) (heaE r):=⟨_,rfl⟩;rw [<- hs0];have hb0:∀ b,((Sym.nil.upd 0 ⟨0,true,[H4 r.decls,I5 r.modes]⟩).upd 1 b) 0=some ⟨0,true,[H4 r.decls,I5 r.modes]⟩:=fun b=>rfl;simp only [go_sem,seval];repeat' ((with_reducible apply wr)<;>try simp only [go_sem,seval,hb0])
 have hG0:∀ j,1<=j->(Sym.nil.upd 0 ⟨0,true,[H4 r.decls,I5 r.modes]⟩) j=none:=fun j hj=>by rw [A2 (by omega)];rfl
 generalize Sym.nil.upd 0 ⟨0,true,[H4 r.decls,I5 r.modes]⟩=G0 at hG0 ⊢;clear hb0 hs0 hhd;refine C3 (fun i:Nat=>[(4,.ptr 1 0),(20,I5 r.modes),(21,I64 r.modes.length),(22,I64 i)]) (fun i=>G0.upd 1 (ckB r (upS s0 (erM r (r.modes.take i))))) (fun i c=>2<=c/\i<=r.modes.length) (fun i=>r.modes.length-i) 0 (by simp [C1,tm,Tm.upd]) (by rw [List.take_zero,erM,G8];exact Sub.refl _) ⟨by omega,Nat.zero_le _⟩ ?_;rintro i c ⟨h1c,hki⟩;by_cases hlt:i<r.modes.length
 ·have hd:decide ((i:Int)<r.modes.length)=true:=by simpa using hlt
  have hg:=List.getElem?_eq_getElem hlt;have hw:=w64 (n:=(i:Int)+1) (by omega) (by omega);have hms:=hms _ (List.getElem_mem hlt);have hbv:=hbv _ (List.getElem_mem hlt);have het:=erM_take (r:=r) hg;generalize r.modes[i]=d at hg hms hbv het;have hhl:=sz_hl d;obtain ⟨s1,hs1⟩:∃ s1,s1=upS s0 (erM r (r.modes.take i)):=⟨_,rfl⟩;rw [<- hs1];have hfin:upS s0 (erM r (r.modes.take (i+1)))=upS s1 (erH r [] d.hds):=by rw [het, <- G7 (nz_M _ _), <- hs1]
  have ne0:=M8 1 c (by omega);repeat' ((with_reducible apply wr)<;>try simp only [go_sem,seval,hd,hg,md_w,ne0,A0,A1])
  obtain ⟨G,hG⟩:∃ G,G=G0.upd c ⟨0,true,[.str d.name,I64 d.prio,W8 d.hds,I64 d.pos]⟩:=⟨_,rfl⟩;have hGc:∀ b,(G.upd 1 b) c=some ⟨0,true,[.str d.name,I64 d.prio,W8 d.hds,I64 d.pos]⟩:=fun b=>by rw [A2 (by omega),hG,A0]
  have hGn:∀ j,c+1<=j->G j=none:=fun j hj=>by rw [hG,A2 (by omega)];exact hG0 j (by omega)
  rw [A3m (by omega), <- hG];refine C3 (fun j:Nat=>[(4,.ptr 1 0),(6,.ptr c 0),(20,I5 r.modes),(21,I64 r.modes.length),(22,I64 i),(27,W8 d.hds),(28,I64 d.hds.length),(29,I64 j)]) (fun j=>G.upd 1 (ckB r (upS s1 (erH r [] (d.hds.take j))))) (fun j c2=>c+1<=c2/\j<=d.hds.length) (fun j=>d.hds.length-j) 0 (by simp [C1,tm,Tm.upd]) (by rw [List.take_zero,erH,G8];exact Sub.refl _) ⟨by omega,Nat.zero_le _⟩ ?_;rintro j c2 ⟨h2c,hkj⟩;by_cases hlt2:j<d.hds.length
  ·have hd2:decide ((j:Int)<d.hds.length)=true:=by simpa using hlt2
   have hg2:=List.getElem?_eq_getElem hlt2;have hw2:=w64 (n:=(j:Int)+1) (by omega) (by omega);have hxs:=sz_hd (List.getElem_mem hlt2);have hbv:=hbv _ (List.getElem_mem hlt2);have heH:=erH_take (r:=r) hg2;generalize d.hds[j]=x at hg2 hxs hbv heH;have hxe:x.sz=1+x.name.length+Pb.St.szs x.body:=rfl;have hbl:=c_blk32 r hk _ x.body 1 (Nat.lt_succ_self _) (by omega) hbv;have hik:=c_inH32 x.trig;have hcf:=c_CF_hd (f:=46) (a:=[]) (cs:=[.fptr [I64 x.trig,.str x.name,F0 x.body,I64 x.pos]]) (g:=fun y=>y.trig == x.trig && y.name == x.name) (d.hds.take j) (by rw [List.length_take];omega) rfl (by simp [DV.nlL,DV.nl,Y9]) (fun y _=>c_chk1 y x);obtain ⟨o,ho⟩:∃ o,o=erH r [] (d.hds.take j):=⟨_,rfl⟩;have hno:NzE o:=by rw [ho];exact nz_H _ _ _
   rw [<- ho] at heH ⊢;have hsl:=fun H=>r_slcl (xs:=d.hds.map Hd.v) (h:=j) (sz:=4) (by rw [List.length_map];omega) (A3e _) H;rw [<- List.map_take] at hsl;have ne0:=T8 1 c c2 (by omega);repeat' ((with_reducible first|apply wr|refine cpc hik ?_|fail)<;>try simp only [go_sem,seval,hd2,hg2,hdl_w,ne0,A0,A1,hGc])
   obtain ⟨G2,hG2⟩:∃ G2,G2=G.upd c2 ⟨0,true,[I64 x.trig,.str x.name,F0 x.body,I64 x.pos]⟩:=⟨_,rfl⟩;have h2c2:∀ b,(G2.upd 1 b) c2=some ⟨0,true,[I64 x.trig,.str x.name,F0 x.body,I64 x.pos]⟩:=fun b=>by rw [A2 (by omega),hG2,A0]
   have h2c:∀ b,(G2.upd 1 b) c=some ⟨0,true,[.str d.name,I64 d.prio,W8 d.hds,I64 d.pos]⟩:=fun b=>by rw [A2 (by omega),hG2,A2 (by omega),hG,A0]
   have h2n:∀ j,c2+1<=j->G2 j=none:=fun j hj=>by rw [hG2,A2 (by omega)];exact hGn j (by omega)
   rw [A3m (by omega), <- hG2];refine ⟨by and_intros<;>(rw [A2 (by omega)];exact h2n _ (by omega)),?_⟩;refine AC.call (c_den32 r hk (upS s1 o) _ _ 1 A0 (by omega) x.name (kdH x.trig) x.pos) ?_;rintro v' H' c3 ⟨rfl,rfl⟩ hc3;rw [A1,G7 hno];obtain ⟨o2,ho2⟩:∃ o2,o2=o.or (dnE r x.name (kdH x.trig) x.pos):=⟨_,rfl⟩;have hno2:NzE o2:=by rw [ho2];exact hno.or (A5r _ _ _ _)
   have heH2:erH r [] (d.hds.take (j+1))=(o2.or (if (d.hds.take j).any (fun y=>y.trig == x.trig && y.name == x.name)=true then some (x.pos,7) else none)).or (erB r x.body):=by
    rw [heH,ho2];unfold stH;simp only [Option.or_assoc]
   rw [<- ho2];simp only [go_sem,seval];generalize (d.hds.take j).any (fun y=>y.trig == x.trig && y.name == x.name)=bq at hcf heH2;have kE:∀ (s2:Int × Int) (c4:Nat),c2+1<=c4->upS s1 (erH r [] (d.hds.take (j+1)))=upS s2 (erB r x.body)->IW Tryz.prog 67 u17_26 ⟨tm [(4,.ptr 1 0),(6,.ptr c 0),(8,.ptr c2 0),(20,I5 r.modes),(21,I64 r.modes.length),(22,I64 i),(27,W8 d.hds),(28,I64 d.hds.length),(29,I64 j)],G2.upd 1 (ckB r s2),c4⟩ (bk 3
      (sq Tryz.prog 67 u17_27
       (lp (fun j:Nat=>[(4,DV.ptr 1 0),(6,DV.ptr c 0),(20,I5 r.modes),(21,I64 r.modes.length),(22,I64 i),(27,W8 d.hds),(28,I64 d.hds.length),(29,I64 j)])
        (fun j:Nat=>G.upd 1 (ckB r (upS s1 (erH r [] (d.hds.take j)))))
        (fun j c2=>c+1<=c2/\j<=d.hds.length) (fun j=>d.hds.length-j) (d.hds.length-j)
        (bk 2
         (bk 1
          (sq Tryz.prog 67 u17_28
           (lp (fun i:Nat=>[(4,DV.ptr 1 0),(20,I5 r.modes),(21,I64 r.modes.length),(22,I64 i)])
            (fun i:Nat=>G0.upd 1 (ckB r (upS s0 (erM r (r.modes.take i)))))
            (fun i c=>2<=c/\i<=r.modes.length) (fun i=>r.modes.length-i) (r.modes.length-i)
            (bk 0
             (sq Tryz.prog 67 u17_29
              (rt [Eng.RV.tmp 2,Eng.RV.tmp 3] fun v H' x =>
               ∃ H2,GL H' [v] H2 [DV.tup [I64 (upS s0 (erM r r.modes)).1,I64 (upS s0 (erM r r.modes)).2]])))))))))):=by
    intro s2 c4 hc4 hs2;repeat' ((with_reducible apply wr)<;>try simp only [go_sem,seval,h2c2,h2c])
    refine AC.call (hbl s2 _ _ 1 A0 (by omega)) ?_;rintro v' H' c5 ⟨rfl,rfl⟩ hc5;rw [A1, <- hs2];simp only [go_sem,seval,hw2];repeat' ((with_reducible apply wr)<;>try simp only [go_sem,seval,hw2])
    refine ⟨j+1,by simp,?_,inv ⟨by omega,by omega⟩,by omega⟩;rw [hG2];exact A2v (fun j hj=>hGn j (by omega)) (by omega)
   cases bq with
   | true =>
    rw [if_pos rfl] at heH2;repeat' ((first|(with_reducible first|refine wr ?_)|(refine AC.call (hcf.lend rfl (GL.one (id:=c2) (b:=⟨0,true,[I64 x.trig,.str x.name,F0 x.body,I64 x.pos]⟩) (h2c2 _) rfl (.cons _ _ _ _ (.same _) (.cons _ _ _ _ (.func _ _ _ _ _ .nil (.cons _ _ _ _ (.ptr 0 _ (Nat.zero_le _) rfl) .nil)) .nil)))) ?_<;>rintro v' H' c' ⟨rfl,rfl,rfl⟩ hcc)|fail)<;>try simp only [go_sem,seval,h2c2,h2c,hsl])
    refine AC.call (c_fail32 r (upS s1 o2) _ _ 1 A0 (by omega) x.pos 7) ?_;rintro v' H' c5 ⟨rfl,rfl⟩ hc5;rw [A1,G7 hno2];simp only [go_sem,seval];repeat' ((with_reducible first|refine G1 (p:=IW _ _ u17_26 _ _) ?_|refine wr ?_|fail)<;>try simp only [go_sem,seval])
    refine IW.stage (by simp [C1,tm,Tm.upd]) (kE _ _ (by omega) ?_);rw [heH2,G7 (hno2.or (fun a b h=>by cases h;decide))]
   | false =>
    rw [if_neg (by decide),Option.or_none] at heH2;repeat' ((first|(with_reducible first|refine G1 (p:=IW _ _ u17_26 _ _) ?_|refine wr ?_)|(refine AC.call (hcf.lend rfl (GL.one (id:=c2) (b:=⟨0,true,[I64 x.trig,.str x.name,F0 x.body,I64 x.pos]⟩) (h2c2 _) rfl (.cons _ _ _ _ (.same _) (.cons _ _ _ _ (.func _ _ _ _ _ .nil (.cons _ _ _ _ (.ptr 0 _ (Nat.zero_le _) rfl) .nil)) .nil)))) ?_<;>rintro v' H' c' ⟨rfl,rfl,rfl⟩ hcc)|fail)<;>try simp only [go_sem,seval,h2c2,h2c,hsl])
    refine IW.stage (by simp [C1,tm,Tm.upd]) (kE _ _ (by omega) ?_);rw [heH2,G7 hno2]
  have hd2:decide ((j:Int)<d.hds.length)=false:=by simpa using hlt2
  rw [List.take_of_length_le (by omega)];repeat' ((with_reducible apply wr)<;>try simp only [go_sem,seval,hd2,hw])
  refine ⟨i+1,by simp,?_,inv ⟨by omega,by omega⟩,by omega⟩;rw [hfin,hG];exact A2v (fun j hj=>hG0 j (by omega)) (by omega)
 have hd:decide ((i:Int)<r.modes.length)=false:=by simpa using hlt
 rw [List.take_of_length_le (by omega)];have hb1:(G0.upd 1 (ckB r (upS s0 (erM r r.modes)))) 1=some (ckB r (upS s0 (erM r r.modes))):=A0;have hcs:=(hck (upS s0 (erM r r.modes))).symm;have hbn:∀ j,c<=j->(G0.upd 1 (ckB r (upS s0 (erM r r.modes)))) j=none:=fun j hj=>by rw [A2 (by omega)];exact hG0 j (by omega)
 rw [hcs] at hb1 hbn ⊢;repeat' ((with_reducible apply wr)<;>try simp only [go_sem,seval,hd,hb1])
 refine ⟨by and_intros<;>exact hG0 _ (by omega),?_⟩;repeat' ((with_reducible apply wr)<;>try simp only [go_sem,seval,hb1])
 exact A4 rfl
theorem c_Lookup32 (r:Ru) (n:List UInt8) (hB:r.sz<4000000):PC Tryz.prog 28 [r.v,.str n] (lokV r n):=by
 have hv:=c_Valid r (by omega);have hdl:=sz_dl r;have hml:=sz_ml r;have hnm:=c_names r (by omega) (by omega);refine PC.of A6 isU28 (Nat.le_of_ble_eq_true rfl) (by simp [Ru.v,DV.nlL,DV.nl,P6,P5]) (lkV_nl _ _) ?_;have hrv:r.v=.agg [H4 r.decls,I5 r.modes]:=rfl;unfold lokV;cases hvd:T4 r with
 | false =>
  rw [hvd] at hv;rw [hrv] at hv ⊢;show IW Tryz.prog 18 u28_1 ⟨B4 _,_,_⟩ (rt [.tmp 4,.tmp 5] _);repeat' ((with_reducible first|apply wr|refine cpc hv ?_|fail)<;>try simp only [go_sem,seval])
  exact A4 rfl
 | true =>
 have hk:=vld_kd hvd;rw [hvd] at hv;rw [if_pos rfl];unfold nmV at hnm;have hlk:Sym.lkV (.agg [I64 0,I64 0]) false (mvV (P8 (nmL r))) (C5 (.str n) (mkK (P8 (nmL r))) 0)=some (.agg [I64 (N6 r n).1,I64 (N6 r n).2]):=by
  cases hl:(nmL r).lookup n with
  | some q =>
   obtain ⟨h1,h2⟩:=nm_some hk hl;rw [h1];exact A3c (ok:=false) (by rw [K6,hl];rfl)
  | none =>
   rw [nm_none hk hl];exact A3d (ok:=false) (by rw [K6,hl];rfl)
 rw [hrv] at hv hnm ⊢;show IW Tryz.prog 18 u28_1 ⟨B4 _,_,_⟩ (rt [.tmp 4,.tmp 5] _);repeat' ((with_reducible first|apply wr|refine cpc hv ?_|refine cpc hnm ?_|fail)<;>try simp only [go_sem,seval,hlk])
 exact A4 rfl
end Go.Proofs.YtnmkkggfgdfmeaaGreatDoor
namespace Go.Pb
variable [Go.Sym.Tab]
open Go.Sym
mutual
def exN (sn:List (List UInt8)):Ex->List (List UInt8)
 | .mk k v n a p=>W9 (R4 sn n) a
def W9 (sn:List (List UInt8)):List Ex->List (List UInt8)
 | []=>sn
 | x :: l=>W9 (exN sn x) l
end
mutual
def stN (sn:List (List UInt8)):St->List (List UInt8)
 | .mk k n t a x y p=>V1 (V1 (W9 (R4 sn n) a) x) y
def V1 (sn:List (List UInt8)):List St->List (List UInt8)
 | []=>sn
 | s :: l=>V1 (stN sn s) l
end
theorem exN_e (sn:List (List UInt8)) (e:Ex):exN sn e=W9 (R4 sn e.name) e.args:=by
 cases e with|mk k v n a p=>rw [exN];rfl
theorem stN_e (sn:List (List UInt8)) (s:St):stN sn s=V1 (V1 (W9 (R4 sn s.name) s.args) s.thn) s.els:=by
 cases s with|mk k n t a x y p=>rw [stN];rfl
theorem A6b {x:Ex}:∀ {l:List Ex} {i:Nat} {sn:List (List UInt8)},l[i]? = some x->W9 sn (l.take (i+1))=exN (W9 sn (l.take i)) x
 | y :: l,0,sn,h=>by cases h;simp [W9]
 | y :: l,i+1,sn,h=>by rw [List.take_succ_cons,List.take_succ_cons,W9,W9,A6b (by simpa using h)]
theorem A5l {x:St}:∀ {l:List St} {i:Nat} {sn:List (List UInt8)},l[i]? = some x->V1 sn (l.take (i+1))=stN (V1 sn (l.take i)) x
 | y :: l,0,sn,h=>by cases h;simp [V1]
 | y :: l,i+1,sn,h=>by rw [List.take_succ_cons,List.take_succ_cons,V1,V1,A5l (by simpa using h)]
def hdN (sn:List (List UInt8)) (h:Hd):List (List UInt8):=V1 (R4 sn h.name) h.body
def mdN (sn:List (List UInt8)) (m:Md):List (List UInt8):=m.hds.foldl hdN sn
def ruN (r:Ru):List (List UInt8):=r.modes.foldl mdN []
theorem A5z {α β : Type} {f : β -> α -> β} {b : β} {l:List α} {i:Nat} {x : α} (h:l[i]? = some x):(l.take (i+1)).foldl f b=f ((l.take i).foldl f b) x:=by
 rw [List.take_add_one,h,List.foldl_append];rfl
mutual
theorem exN_has (m:List UInt8) (h0:m≠[]):∀ (e:Ex) (sn:List (List UInt8)),(∃ q,msM e=some q)->(exN sn e).contains m=(sn.contains m || inE m e)
 | .mk k v n a p,sn,⟨q,hq⟩=>by
  rw [exN,A4o m h0 a _ (ms_args hq),X1,inE,Bool.or_assoc]
  congr 2
  obtain ⟨o,d⟩:=q;obtain ⟨-, -,m3, -⟩:=A4a hq;by_cases hk:k=2\/k=5\/k=6\/k=7
  ·have:(kdE k != 0)=true:=by unfold kdE;rcases hk with rfl|rfl|rfl|rfl<;>decide
   rw [this,Bool.true_and,Bool.eq_iff_iff];simp;exact eq_comm
  ·have e0:(kdE k != 0)=false:=by
    unfold kdE;rw [if_neg (by omega),if_neg (by omega),if_neg (by omega),if_neg (by omega)];rfl
   rw [e0,Bool.false_and];unfold Z7 at m3;rw [if_neg (by unfold namB;simp;omega)] at m3;have hn:n=[]:=by simpa using m3
   rw [hn];simpa using h0
theorem A4o (m:List UInt8) (h0:m≠[]):∀ (l:List Ex) (sn:List (List UInt8)),(∀ e∈l, ∃ q,msM e=some q)->(W9 sn l).contains m=(sn.contains m || inEs m l)
 | [],sn,_=>by rw [W9,inEs,Bool.or_false]
 | x :: l,sn,h=>by
  rw [W9,A4o m h0 l _ (fun e he=>h e (List.mem_cons_of_mem _ he)),exN_has m h0 x _ (h x List.mem_cons_self),inEs,Bool.or_assoc]
end
mutual
theorem stN_has (m:List UInt8) (h0:m≠[]):∀ (s:St) (sn:List (List UInt8)) (d:Nat),U6 d s=true->(stN sn s).contains m=(sn.contains m || inS m s)
 | .mk k n t a x y p,sn,d,hv=>by
  obtain ⟨v1,v2,v3⟩:=A3k hv;rw [stN,A0t m h0 y _ _ v3,A0t m h0 x _ _ v2,A4o m h0 a _ v1,X1,inS];have:(m == n)=(n == m):=by rw [Bool.eq_iff_iff];simp;exact eq_comm
  rw [this];simp only [Bool.or_assoc]
theorem A0t (m:List UInt8) (h0:m≠[]):∀ (l:List St) (sn:List (List UInt8)) (d:Nat),G4 d l=true->(V1 sn l).contains m=(sn.contains m || inB m l)
 | [],sn,d,_=>by rw [V1,inB,Bool.or_false]
 | s :: l,sn,d,h=>by
  rw [G4,Bool.and_eq_true] at h;rw [V1,A0t m h0 l _ _ h.2,stN_has m h0 s _ _ h.1,inB,Bool.or_assoc]
end
theorem mdN_has (m:List UInt8) (h0:m≠[]):∀ (l:List Hd) (sn:List (List UInt8)),(∀ h∈l,G4 1 h.body=true)->(l.foldl hdN sn).contains m=(sn.contains m || l.any fun h=>h.name == m || inB m h.body)
 | [],sn,_=>by simp
 | h :: l,sn,hv=>by
  rw [List.foldl_cons,mdN_has m h0 l _ (fun x hx=>hv x (List.mem_cons_of_mem _ hx)),hdN,A0t m h0 _ _ _ (hv h List.mem_cons_self),X1,List.any_cons];have:(m == h.name)=(h.name == m):=by rw [Bool.eq_iff_iff];simp;exact eq_comm
  rw [this];simp only [Bool.or_assoc]
theorem ruN_has {r:Ru} (hv:T4 r=true) (m:List UInt8) (h0:m≠[]):(ruN r).contains m=usdM r m:=by
 have hb:=vld_body hv;unfold ruN usdM;have go:∀ (l:List Md) (sn:List (List UInt8)),(∀ x∈l, ∀ h∈x.hds,G4 1 h.body=true)->(l.foldl mdN sn).contains m=(sn.contains m || l.any fun x=>x.hds.any fun h=>h.name == m || inB m h.body):=by
  intro l
  induction l with
  | nil=>intro sn _;simp
  | cons x l ih =>
   intro sn h;rw [List.foldl_cons,ih _ (fun y hy=>h y (List.mem_cons_of_mem _ hy)),mdN,mdN_has m h0 _ _ (h x List.mem_cons_self),List.any_cons,Bool.or_assoc]
 rw [go _ _ hb];rfl
theorem vld_dn {r:Ru} (h:T4 r=true):∀ d∈r.decls,d.name≠[]:=by
 intro d hd e;unfold T4 at h;simp only [Bool.and_eq_true] at h;have h1:=List.all_eq_true.1 h.1.2 d hd;unfold A1h at h1;simp only [Bool.and_eq_true] at h1;have h2:=h1.1.1.2;rw [e] at h2;exact absurd h2 (by decide)
end Go.Pb
namespace Go.Proofs.YtnmkkggfgdfmeaaGreatDoor
open Go.Eng (IC IOper DReg IFn A3)
open Go.Sym Go.Pb
theorem sub_todoM {H0 HH HH':Hp} {o:Option Nat} {n id:Nat} {b1 b b':Blk} (hHH:D2 H0 o b1=HH) (hn:∀ j,n<=j->H0 j=none) (ho:∀ i,o=some i->n<=i) (hx:∀ j,j<n->HH' j=HH j) (h:b=b') :
  Sym.Sub (D2 H0 (some id) b) ((A0o HH' o).upd id b'):=by
 subst h;intro j q hj;simp only [D2] at hj;by_cases e:j=id
 ·subst e;rw [A0] at hj ⊢;exact hj
 ·rw [A2 e] at hj ⊢;have hj2:j<n:=Nat.lt_of_not_le fun h2=>by rw [hn j h2] at hj;cases hj
  have hHj:HH' j=some q:=by rw [hx j hj2, <- hHH,D9 (fun i hi=>by have:=ho i hi;omega)];exact hj
  cases o with
  | none=>simp only [A0o];exact hHj
  | some i =>
   have:=ho i rfl;simp only [A0o,Hp.del];rw [if_neg (by omega)];exact hHj
theorem c_exN:∀ (m:Nat) (l:List Ex),Ex.szs l<m->Ex.szs l<=100000000->∀ (sn:List (List UInt8)) (H:Hp) (cc mm:Nat) (hm:H mm=some (P4 sn)) (hmc:mm<cc),
  AC Tryz.prog 91 [J7 l,.mid mm] H cc (fun v H' c'=>v=.tup []/\H'=H.upd mm (P4 (W9 sn l))):=by
 intro m
 induction m with
 | zero=>intro l h;omega
 | succ m ih =>
 intro l hm hB sn H cc mm hmm hmc;have hl:=Ex.szs_len l;refine AC.body A6 isU91 (Nat.le_of_ble_eq_true rfl) fun hfr=>?_;show IW Tryz.prog 20 u91_1 ⟨B4 _,_,_⟩ (rt [] _);repeat' ((with_reducible apply wr)<;>try simp only [go_sem,seval])
 have hHt:H=H.upd mm (P4 sn):=(upd_same hmm).symm;refine C3 (fun i:Nat=>[(1,.mid mm),(6,J7 l),(7,I64 l.length),(8,I64 i)]) (fun i=>H.upd mm (P4 (W9 sn (l.take i)))) (fun i c=>cc<=c/\i<=l.length) (fun i=>l.length-i) 0 (by simp [C1,tm,Tm.upd]) (by rw [List.take_zero,W9, <- hHt];exact Sub.refl _) ⟨by omega,Nat.zero_le _⟩ ?_;rintro i c ⟨h1c,hki⟩;by_cases hlt:i<l.length
 ·have hd:decide ((i:Int)<l.length)=true:=by simpa using hlt
  have hg:=List.getElem?_eq_getElem hlt;have hw:=w64 (n:=(i:Int)+1) (by omega) (by omega);have hsx:=Ex.szs_mem (List.getElem_mem hlt);have het:=A6b (sn:=sn) hg;generalize l[i]=x at hg hsx het;have hax:Ex.szs x.args<x.sz:=by cases x with|mk k v n a p=>rw [Ex.sz];show Ex.szs a<_;omega
  have hc:=ih x.args (by omega) (by omega);rw [exN_e] at het;generalize W9 sn (l.take i)=s0 at het ⊢;have hmu:=fun H c id u=>A6t x.name s0 H c id u;have hmB:(H.upd mm (P4 s0)) mm=some (P4 s0):=A0;have ne0:=M8 mm c (by omega);repeat' ((with_reducible apply wr)<;>try simp only [go_sem,seval,hd,hg,Ex.v_w,ne0,A0,A1,hmu])
  refine AC.call (hc (R4 s0 x.name) _ _ mm A0 (by omega)) ?_;rintro v' H' c2 ⟨rfl,rfl⟩ hc2;rw [<- het];simp only [go_sem,seval,hw];repeat' ((with_reducible apply wr)<;>try simp only [go_sem,seval,hw])
  refine ⟨i+1,by simp,?_,inv ⟨by omega,by omega⟩,by omega⟩;rw [A1];exact V0 (fun j hj=>hfr j (by omega)) (by omega)
 have hd:decide ((i:Int)<l.length)=false:=by simpa using hlt
 rw [List.take_of_length_le (by omega)];repeat' ((with_reducible apply wr)<;>try simp only [go_sem,seval,hd])
 exact ⟨_,_,GL.refl _ _,rfl,rfl⟩
theorem c_stN:∀ (m:Nat) (l:List Pb.St),Pb.St.szs l<m->Pb.St.szs l<=100000000->∀ (sn:List (List UInt8)) (H:Hp) (cc mm:Nat) (hm:H mm=some (P4 sn)) (hmc:mm<cc),
  AC Tryz.prog 50 [F0 l,.mid mm] H cc (fun v H' c'=>v=.tup []/\H'=H.upd mm (P4 (V1 sn l))):=by
 intro m
 induction m with
 | zero=>intro l h;omega
 | succ m ih =>
 intro l hm hB sn H cc mm hmm hmc;have hl:=Pb.St.szs_len l;refine AC.body A6 isU50 (Nat.le_of_ble_eq_true rfl) fun hfr=>?_;show IW Tryz.prog 28 u50_1 ⟨B4 _,_,_⟩ (rt [] _);repeat' ((with_reducible apply wr)<;>try simp only [go_sem,seval])
 have hHt:H=H.upd mm (P4 sn):=(upd_same hmm).symm;refine C3 (fun i:Nat=>[(1,.mid mm),(6,F0 l),(7,I64 l.length),(8,I64 i)]) (fun i=>H.upd mm (P4 (V1 sn (l.take i)))) (fun i c=>cc<=c/\i<=l.length) (fun i=>l.length-i) 0 (by simp [C1,tm,Tm.upd]) (by rw [List.take_zero,V1, <- hHt];exact Sub.refl _) ⟨by omega,Nat.zero_le _⟩ ?_;rintro i c ⟨h1c,hki⟩;by_cases hlt:i<l.length
 ·have hd:decide ((i:Int)<l.length)=true:=by simpa using hlt
  have hg:=List.getElem?_eq_getElem hlt;have hw:=w64 (n:=(i:Int)+1) (by omega) (by omega);have hsx:=Pb.St.szs_mem (List.getElem_mem hlt);have het:=A5l (sn:=sn) hg;generalize l[i]=x at hg hsx het;have hax:Ex.szs x.args<x.sz:=by cases x with|mk k n t a x y p=>rw [Pb.St.sz];show Ex.szs a<_;omega
  have hc:=c_exN _ x.args (Nat.lt_succ_self _) (by omega);have hX:=ih x.thn (by have:=x.sz_thn;omega) (by have:=x.sz_thn;omega);have hY:=ih x.els (by have:=x.sz_els;omega) (by have:=x.sz_els;omega);rw [stN_e] at het;generalize V1 sn (l.take i)=s0 at het ⊢;have hmu:=fun H c id u=>A6t x.name s0 H c id u;have ne0:=M8 mm c (by omega);repeat' ((with_reducible apply wr)<;>try simp only [go_sem,seval,hd,hg,Pb.St.v_w,ne0,A0,A1,hmu])
  refine AC.call (hc (R4 s0 x.name) _ _ mm A0 (by omega)) ?_;rintro v' H' c2 ⟨rfl,rfl⟩ hc2;rw [A1];simp only [go_sem,seval,ne0,A0,A1];repeat' ((with_reducible apply wr)<;>try simp only [go_sem,seval,hd,hg,Pb.St.v_w,ne0,A0,A1])
  refine AC.call (hX (W9 (R4 s0 x.name) x.args) _ _ mm A0 (by omega)) ?_;rintro v' H' c3 ⟨rfl,rfl⟩ hc3;rw [A1];simp only [go_sem,seval,ne0,A0,A1];repeat' ((with_reducible apply wr)<;>try simp only [go_sem,seval,hd,hg,Pb.St.v_w,ne0,A0,A1])
  refine AC.call (hY _ _ _ mm A0 (by omega)) ?_;rintro v' H' c4 ⟨rfl,rfl⟩ hc4;rw [A1, <- het];simp only [go_sem,seval,hw];repeat' ((with_reducible apply wr)<;>try simp only [go_sem,seval,hw])
  refine ⟨i+1,by simp,?_,inv ⟨by omega,by omega⟩,by omega⟩;exact V0 (fun j hj=>hfr j (by omega)) (by omega)
 have hd:decide ((i:Int)<l.length)=false:=by simpa using hlt
 rw [List.take_of_length_le (by omega)];repeat' ((with_reducible apply wr)<;>try simp only [go_sem,seval,hd])
 exact ⟨_,_,GL.refl _ _,rfl,rfl⟩
theorem c_Unused32 (r:Ru) (hB:r.sz<4000000):PC Tryz.prog 21 [r.v] (unuV r):=by
 refine PC.of A6 isU21 (Nat.le_of_ble_eq_true rfl) (by simp [Ru.v,DV.nlL,DV.nl,P6,P5]) (unuV_nl _) ?_;have hv:=c_Valid r (by omega);have hdl:=sz_dl r;have hml:=sz_ml r;have hms:∀ m∈r.modes,m.sz<=r.sz:=fun m h=>sz_md h;have hrv:r.v=.agg [H4 r.decls,I5 r.modes]:=rfl;unfold unuV;cases hvd:T4 r with
 | false =>
  rw [hvd] at hv;rw [hrv] at hv ⊢;show IW Tryz.prog 57 u21_1 ⟨B4 _,_,_⟩ (rt [.tmp 2] _);repeat' ((with_reducible first|apply wr|refine cpc hv ?_|fail)<;>try simp only [go_sem,seval])
  exact pc_snil
 | true =>
 rw [if_pos rfl];rw [hvd] at hv;obtain ⟨F,hF⟩:∃ F:Nat->List (List UInt8), ∀ k,F k=((r.decls.take k).filter fun d => !usdM r d.name).map Dc.name:=⟨_,fun _=>rfl⟩;have hF0:F 0=[]:=by rw [hF];rfl
 have hFe:unuM r=F r.decls.length:=by rw [hF,List.take_length];rfl
 have hFl:∀ k,(F k).length<=r.decls.length:=fun k=>by
  rw [hF,List.length_map];refine Nat.le_trans (List.length_filter_le _ _) ?_;rw [List.length_take];omega
 have hFs:∀ k d,r.decls[k]? = some d->F (k+1)=if (ruN r).contains d.name=true then F k else F k++[d.name]:=fun k d h=>by
  have hd0:=vld_dn hvd d (List.mem_of_getElem? h);rw [ruN_has hvd _ hd0,hF,hF,List.take_add_one,h,List.filter_append,List.map_append];show _++List.map Dc.name (List.filter _ [d])=_;rw [List.filter_cons];cases usdM r d.name<;>simp
 rw [hFe];rw [hrv] at hv ⊢;show IW Tryz.prog 57 u21_1 ⟨B4 _,_,_⟩ (rt [.tmp 2] _);repeat' ((with_reducible first|apply wr|refine cpc hv ?_|fail)<;>try simp only [go_sem,seval])
 obtain ⟨G0,hG0⟩:∃ G0,G0=Sym.nil.upd 0 ⟨0,true,[H4 r.decls,I5 r.modes]⟩:=⟨_,rfl⟩;have hz0:∀ b,(G0.upd 1 b) 0=some ⟨0,true,[H4 r.decls,I5 r.modes]⟩:=fun b=>by rw [A2 (by omega),hG0];exact A0
 have hzn:∀ j,1<=j->G0 j=none:=fun j hj=>by rw [hG0,A2 (by omega)];rfl
 rw [<- hG0];refine C3 (fun i:Nat=>[(1,.ptr 0 0),(3,.mid 1),(16,I5 r.modes),(17,I64 r.modes.length),(18,I64 i)]) (fun i=>G0.upd 1 (P4 ((r.modes.take i).foldl mdN []))) (fun i c=>2<=c/\i<=r.modes.length) (fun i=>r.modes.length-i) 0 (by simp [C1,tm,Tm.upd]) (Sub.refl _) ⟨by omega,Nat.zero_le _⟩ ?_;rintro i c ⟨h1c,hki⟩;by_cases hlt:i<r.modes.length
 ·have hd:decide ((i:Int)<r.modes.length)=true:=by simpa using hlt
  have hg:=List.getElem?_eq_getElem hlt;have hw:=w64 (n:=(i:Int)+1) (by omega) (by omega);have hms:=hms _ (List.getElem_mem hlt);have het:=A5z (f:=mdN) (b:=[]) hg;generalize r.modes[i]=d at hg hms het;have hhl:=sz_hl d;generalize (r.modes.take i).foldl mdN []=s0 at het ⊢;have ne0:=M8 1 c (by omega);repeat' ((with_reducible apply wr)<;>try simp only [go_sem,seval,hd,hg,md_w,ne0,A0,A1])
  obtain ⟨G,hG⟩:∃ G,G=G0.upd c ⟨0,true,[.str d.name,I64 d.prio,W8 d.hds,I64 d.pos]⟩:=⟨_,rfl⟩;have hGn:∀ j,c+1<=j->G j=none:=fun j hj=>by rw [hG,A2 (by omega)];exact hzn j (by omega)
  rw [A3m (by omega), <- hG];refine C3 (fun j:Nat=>[(1,.ptr 0 0),(3,.mid 1),(16,I5 r.modes),(17,I64 r.modes.length),(18,I64 i),(23,W8 d.hds),(24,I64 d.hds.length),(25,I64 j)]) (fun j=>G.upd 1 (P4 ((d.hds.take j).foldl hdN s0))) (fun j c2=>c+1<=c2/\j<=d.hds.length) (fun j=>d.hds.length-j) 0 (by simp [C1,tm,Tm.upd]) (Sub.refl _) ⟨by omega,Nat.zero_le _⟩ ?_;rintro j c2 ⟨h2c,hkj⟩;by_cases hlt2:j<d.hds.length
  ·have hd2:decide ((j:Int)<d.hds.length)=true:=by simpa using hlt2
   have hg2:=List.getElem?_eq_getElem hlt2;have hw2:=w64 (n:=(j:Int)+1) (by omega) (by omega);have hxs:=sz_hd (List.getElem_mem hlt2);have heH:=A5z (f:=hdN) (b:=s0) hg2;generalize d.hds[j]=x at hg2 hxs heH;have hxe:x.sz=1+x.name.length+Pb.St.szs x.body:=rfl;have hst:=c_stN _ x.body (Nat.lt_succ_self _) (by omega);generalize (d.hds.take j).foldl hdN s0=s1 at heH ⊢;have hmu:=fun H c id u=>A6t x.name s1 H c id u;have ne0:=M8 1 c2 (by omega);repeat' ((with_reducible apply wr)<;>try simp only [go_sem,seval,hd2,hg2,hdl_w,ne0,A0,A1,hmu])
   refine AC.call (hst (R4 s1 x.name) _ _ 1 A0 (by omega)) ?_;rintro v' H' c3 ⟨rfl,rfl⟩ hc3;rw [A1];have:V1 (R4 s1 x.name) x.body=hdN s1 x:=rfl;rw [this, <- heH];simp only [go_sem,seval,hw2];repeat' ((with_reducible apply wr)<;>try simp only [go_sem,seval,hw2])
   refine ⟨j+1,by simp,?_,inv ⟨by omega,by omega⟩,by omega⟩;exact V0 (fun j hj=>hGn j (by omega)) (by omega)
  have hd2:decide ((j:Int)<d.hds.length)=false:=by simpa using hlt2
  rw [List.take_of_length_le (by omega)];repeat' ((with_reducible apply wr)<;>try simp only [go_sem,seval,hd2,hw])
  refine ⟨i+1,by simp,?_,inv ⟨by omega,by omega⟩,by omega⟩;rw [het,hG];exact A2v (fun j hj=>hzn j (by omega)) (by omega)
 have hd:decide ((i:Int)<r.modes.length)=false:=by simpa using hlt
 rw [List.take_of_length_le (by omega)];have hru:r.modes.foldl mdN []=ruN r:=rfl;rw [hru];generalize ruN r=N at hFs ⊢;repeat' ((with_reducible apply wr)<;>try simp only [go_sem,seval,hd,hz0])
 clear hd hlt hki i;refine C3 (fun q:Nat × Option Nat=>[(3,.mid 1),(8,C0 q.2 (F q.1).length),(39,H4 r.decls),(40,I64 r.decls.length),(41,I64 q.1)]) (fun q=>D2 (G0.upd 1 (P4 N)) q.2 ⟨1,true,A7 ((F q.1).map DV.str)⟩)
  (fun q c=>2<=c/\q.1<=r.decls.length/\(q.2=none->F q.1=[])/\(∀ i,q.2=some i->2<=i/\i<c)) (fun q=>r.decls.length-q.1) (0,none)
  (by simp [C1,tm,Tm.upd,C0]) (Sub.refl _) ⟨h1c,Nat.zero_le _,fun _=>hF0,(fun i hi=>by cases hi)⟩ ?_
 clear h1c c;rintro ⟨i,o⟩ c ⟨h1c,hk,hno,ho⟩;dsimp only at hk hno ho ⊢;have hb1:D2 (G0.upd 1 (P4 N)) o ⟨1,true,A7 ((F i).map DV.str)⟩ 1=some (P4 N):=by rw [D9 (fun i hi=>by have:=ho i hi;omega)];exact A0
 have hbn:∀ j:Nat,c<=j->D2 (G0.upd 1 (P4 N)) o ⟨1,true,A7 ((F i).map DV.str)⟩ j=none:=fun j hj=>by rw [D9 (fun i hi=>by have:=ho i hi;omega),A2 (by omega)];exact hzn j (by omega)
 have hbo2:∀ j:Nat,o=some j->D2 (G0.upd 1 (P4 N)) o ⟨1,true,A7 ((F i).map DV.str)⟩ j=some ⟨1,true,A7 ((F i).map DV.str)⟩:=fun j hj=>by subst hj;exact A0
 generalize hHH:D2 (G0.upd 1 (P4 N)) o ⟨1,true,A7 ((F i).map DV.str)⟩=HH at hb1 hbn hbo2 ⊢;by_cases hlt:i<r.decls.length
 ·have hd:decide ((i:Int)<r.decls.length)=true:=by simpa using hlt
  have hg:=List.getElem?_eq_getElem hlt;have hw:=w64 (n:=(i:Int)+1) (by omega) (by omega);have hFs:=hFs i _ hg;generalize r.decls[i]=d at hg hFs;have hlk:=see_lk d.name N;generalize N.contains d.name=ub at hFs hlk;have ne0:=M8 1 c (by omega);cases ub with
  | true =>
   rw [if_pos rfl] at hFs;repeat' ((with_reducible apply wr)<;>try simp only [go_sem,seval,hb1,hd,hg,hw,dc_w,hlk,ne0,A0,A1])
   refine ⟨(i+1,o),by simp [C1,tm,Tm.upd,hFs],?_,inv ⟨by omega,by omega,by rw [hFs];exact hno,(fun j hj=>by have:=ho j hj;omega)⟩,by simp only;omega⟩;simp only [hFs];rw [hHH];exact sub_frs (hbn c (Nat.le_refl _))
  | false =>
   rw [if_neg (by decide)] at hFs;repeat' ((with_reducible apply wr)<;>try simp only [go_sem,seval,hb1,hd,hg,hw,dc_w,hlk,ne0,A0,A1])
   have hln:(A7 ((F i).map DV.str)).length=(F i).length * 1:=(C8 (u:=1) (K0 _)).trans (by simp);have hFk:=hFl i;refine P0 (L1 (cs:=A7 ((F i).map DV.str)) (fun e=>by rw [hno e];exact ⟨rfl,rfl⟩) (fun j hj=>by have:=ho j hj;rw [A2 (by omega),A2 (by omega)];exact hbo2 j hj) hln (by omega) (by omega) (by omega)) ?_;simp only [go_sem,seval,hw];repeat' ((with_reducible apply wr)<;>try simp only [go_sem,seval,hw])
   refine ⟨(i+1,some (c+1+1)),by simp [C1,tm,Tm.upd,C0,hFs],?_,inv ⟨by omega,by omega,(fun h=>by cases h),(fun j hj=>by cases hj;omega)⟩,by simp only;omega⟩;refine sub_todoM (n:=2) hHH (fun j hj=>by rw [A2 (by omega)];exact hzn j (by omega)) (fun i hi=>(ho i hi).1) (fun j hj=>by rw [A2 (by omega),A2 (by omega)]) ?_;simp only [hFs,List.map_append,G3];rfl
 have hd:decide ((i:Int)<r.decls.length)=false:=by simpa using hlt
 have hi:i=r.decls.length:=by omega
 subst hi;repeat' ((with_reducible apply wr)<;>try simp only [go_sem,seval,hd])
 rw [<- hHH];exact pc_todoX (fun h=>by rw [hno h];rfl) (by simp) (K0 _)
end Go.Proofs.YtnmkkggfgdfmeaaGreatDoor
set_option maxHeartbeats 4000000
namespace Go.Proofs.YtnmkkggfgdfmeaaGreatDoor
open Go.Eng (IC IOper DReg IFn A3)
open Go.Sym
section
abbrev u22_2:=qS [oM 3 0,oM 4 0,oH 5 4,oP 6 (.mn (.t 5) (.k (.int .i64 300))),oP 7 (.slc 1 (.t 3) none (some (.t 6))),oP 8 (.bld #[.slice none 0 0,.int .i64 0,.int .i64 0] [(0,1),(1,1),(2,1)] [(0,.t 7)]),oX 9 8,oM 2 9] .ret [0]
abbrev u22_1:=qS [oV 2 (.pointer none)] u22_2 [0]
def u22:IFn:=⟨10,u22_1,[.tmp 2]⟩
end
theorem isU22:A3 Tryz.prog 22 u22:=by unfold A3;kernel_rfl
section
abbrev u53_5:=qS [oI 4 0] .ret []
abbrev u53_4:=qK u53_5 .skip (.t 14) [0,1,14]
abbrev u53_3:=qP [oM 5 0,oN 6 5,oF 7 6 1,oL 8 7,oM 9 0,oN 10 9,oF 11 10 0,oL 12 11,oH 13 12,oB 14 8 13 .geq] u53_4 0 10 [0,1]
abbrev u53_7:=qP [oM 22 0,oN 23 22,oF 24 23 0,oL 25 24,oM 26 0,oN 27 26,oF 28 27 1,oL 29 28,oK 30 29 .sub 1,oA 31 25 30 1,oL 32 31,oP 33 (.cvi .i64 (.t 32)),oM 34 1,oB 35 33 34 .rem,oM 4 35] .ret 16384 15 [0,1]
abbrev u53_6:=qS [oM 15 0,oN 16 15,oF 17 16 1,oL 18 17,oK 19 18 .add 1,oN 20 15,oF 21 20 1,oS 21 19 1] u53_7 [0,1]
abbrev u53_2:=qQ u53_3 u53_6 [0,1]
abbrev u53_1:=qS [oI 4 0] u53_2 [0,1]
def u53:IFn:=⟨36,u53_1,[.tmp 4]⟩
end
theorem isU53:A3 Tryz.prog 53 u53:=by unfold A3;kernel_rfl
section
abbrev u54_5:=qS [⟨some 26,.new (.bsl 1 10 #[.string ⟨#[]⟩] [(0,.k (.string ⟨#[115,119,48]⟩)),(1,.k (.string ⟨#[99,111,105,108,48]⟩)),(2,.k (.string ⟨#[108,97,109,112,48]⟩)),(3,.k (.string ⟨#[118,48]⟩)),(4,.k (.string ⟨#[116,109,48]⟩)),(5,.k (.string ⟨#[101,118,48]⟩)),(6,.k (.string ⟨#[109,111,100,101,48]⟩)),(7,.k (.string ⟨#[110,111,110,101]⟩)),(8,.k (.string ⟨#[115,110,100,48]⟩)),(9,.k (.string ⟨#[115,104,111,119,48]⟩))]),none⟩,oM 27 0,oC 28 53 [.t 27,.k (.int .i64 10)],oA 29 26 28 1,oL 30 29,oM 6 30] .ret [0]
abbrev u54_4:=qK u54_5 .skip (.t 25) [0,1,2,25]
abbrev u54_3:=qD [oM 7 0,oN 8 7,oF 9 8 2,oL 10 9,oK 11 10 .gtr 0,oM 12 11,gM 13 0 12,gM 14 0 12,gN 15 14 12,gF 16 15 2 12,gL 17 16 12,⟨some 18,.call 53 [.t 13,.t 17],some (12,true)⟩,gM 19 0 12,gN 20 19 12,gF 21 20 2 12,gL 22 21 12,gK 23 22 12 .sub 1,oG 24 (.bin .eql (.t 18) (.t 23)) 12,oJ 25 12 24] u54_4 [(0,none),(1,none),(2,none),(3,none),(4,none),(5,none),(6,none),(7,none),(8,none),(9,none),(10,none),(12,none),(13,none),(14,none),(15,none),(16,none),(11,some [12,13,14,15,16]),(17,none),(18,none)] 19 [0,1,2]
abbrev u54_6:=qS [oM 31 1,oM 32 0,oM 33 2,oC 34 53 [.t 32,.t 33],oC 35 55 [.t 34],oB 36 31 35 .add,oM 6 36] .ret [0,1,2]
abbrev u54_2:=qQ u54_3 u54_6 [0,1,2]
abbrev u54_1:=qS [oV 6 (.string ⟨#[]⟩)] u54_2 [0,1,2]
def u54:IFn:=⟨37,u54_1,[.tmp 6]⟩
end
theorem isU54:A3 Tryz.prog 54 u54:=by unfold A3;kernel_rfl
section
abbrev u24_5:=qS [oM 22 0,oM 23 1,oK 24 23 .sub 1,oC 25 25 [.t 22,.t 24],oM 4 25] .ret [0,1]
abbrev u24_4:=qK u24_5 .skip (.t 21) [0,1,21]
abbrev u24_3:=qS [oM 7 0,oN 8 7,oF 9 8 2,oL 10 9,oK 11 10 .gtr 0,oM 12 11,gM 13 0 12,gM 14 0 12,gN 15 14 12,gF 16 15 2 12,gL 17 16 12,oG 18 (.bin .mul (.k (.int .i64 4)) (.t 17)) 12,⟨some 19,.call 53 [.t 13,.t 18],some (12,true)⟩,gK 20 19 12 .eql 1,oJ 21 12 20] u24_4 [0,1]
abbrev u24_15:=qE [oK 32 29 .eql 1,oM 30 32] [0,29]
abbrev u24_14:=qK .skip u24_15 (.t 30) [0,29,30]
abbrev u24_13:=qS [oK 31 29 .eql 0,oM 30 31] u24_14 [0,29]
abbrev u24_17:=qS [oM 33 0,oC 34 54 [.t 33,.k (.string ⟨#[118]⟩),.k (.int .i64 3)],oM 4 34] .ret [0]
abbrev u24_20:=qS [oV 4 (.string ⟨#[112,108,97,121,101,114]⟩)] .ret []
abbrev u24_23:=qS [oV 4 (.string ⟨#[98,97,108,108]⟩)] .ret []
abbrev u24_26:=qS [oM 41 0,oC 42 54 [.t 41,.k (.string ⟨#[116,109]⟩),.k (.int .i64 2)],oP 43 (.bin .add (.k (.string ⟨#[108,101,102,116,32]⟩)) (.t 42)),oM 4 43] .ret [0]
abbrev u24_29:=qS [⟨some 46,.new (.bsl 1 4 #[.string ⟨#[]⟩] [(0,.k (.string ⟨#[50,49,52,55,52,56,51,54,52,55]⟩)),(1,.k (.string ⟨#[49,48,48,48,48,48,48]⟩)),(2,.k (.string ⟨#[54,53,53,51,54]⟩)),(3,.k (.string ⟨#[49,48,48,48,48,48]⟩))]),none⟩,oM 47 0,oC 48 53 [.t 47,.k (.int .i64 4)],oA 49 46 48 1,oL 50 49,oM 4 50] .ret [0]
abbrev u24_28:=qK u24_29 .skip (.t 44) [0,44]
abbrev u24_27:=qS [oK 45 29 .eql 5,oM 44 45] u24_28 [0,29]
abbrev u24_25:=qK u24_26 u24_27 (.t 39) [0,29,39]
abbrev u24_24:=qS [oK 40 29 .eql 4,oM 39 40] u24_25 [0,29]
abbrev u24_22:=qK u24_23 u24_24 (.t 37) [0,29,37]
abbrev u24_21:=qS [oK 38 29 .eql 3,oM 37 38] u24_22 [0,29]
abbrev u24_19:=qK u24_20 u24_21 (.t 35) [0,29,35]
abbrev u24_18:=qS [oK 36 29 .eql 2,oM 35 36] u24_19 [0,29]
abbrev u24_16:=qK u24_17 u24_18 (.t 30) [0,29,30]
abbrev u24_12:=qQ u24_13 u24_16 [0,29]
abbrev u24_11:=qJ u24_12 0 [0,29]
abbrev u24_10:=qS [oM 28 0,oC 29 53 [.t 28,.k (.int .i64 7)]] u24_11 [0]
abbrev u24_30:=qS [oM 51 0,oC 52 53 [.t 51,.k (.int .i64 12)],oC 53 55 [.t 52],oM 4 53] .ret [0]
abbrev u24_9:=qQ u24_10 u24_30 [0]
abbrev u24_8:=qK u24_9 .skip (.t 27) [0,1,27]
abbrev u24_7:=qS [oM 26 1,oK 27 26 .leq 0] u24_8 [0,1]
abbrev u24_36:=qS [oM 58 0,oC 59 24 [.t 58,.k (.int .i64 0)],oM 4 59] .ret [0]
abbrev u24_39:=qS [oM 62 0,oC 63 24 [.t 62,.k (.int .i64 0)],oP 64 (.bin .add (.k (.string ⟨#[45]⟩)) (.t 63)),oM 4 64] .ret [0]
abbrev u24_38:=qK u24_39 .skip (.t 60) [0,1,60]
abbrev u24_37:=qS [oK 61 55 .eql 1,oM 60 61] u24_38 [0,1,55]
abbrev u24_35:=qK u24_36 u24_37 (.t 56) [0,1,55,56]
abbrev u24_34:=qS [oK 57 55 .eql 0,oM 56 57] u24_35 [0,1,55]
abbrev u24_33:=qJ u24_34 1 [0,1,55]
abbrev u24_32:=qS [oM 54 0,oC 55 53 [.t 54,.k (.int .i64 5)]] u24_33 [0,1]
abbrev u24_42:=qS [oM 73 5,oP 74 (.bin .add (.k (.string ⟨#[40]⟩)) (.t 73)),oP 75 (.bin .add (.t 74) (.k (.string ⟨#[32]⟩))),⟨some 76,.new (.bsl 1 5 #[.string ⟨#[]⟩] [(0,.k (.string ⟨#[43]⟩)),(1,.k (.string ⟨#[45]⟩)),(2,.k (.string ⟨#[42]⟩)),(3,.k (.string ⟨#[47]⟩)),(4,.k (.string ⟨#[37]⟩))]),none⟩,oM 77 0,oC 78 53 [.t 77,.k (.int .i64 5)],oA 79 76 78 1,oL 80 79,oB 81 75 80 .add,oP 82 (.bin .add (.t 81) (.k (.string ⟨#[32]⟩))),oM 83 6,oB 84 82 83 .add,oP 85 (.bin .add (.t 84) (.k (.string ⟨#[41]⟩))),oM 4 85] .ret [0,5,6]
abbrev u24_41:=qS [oM 69 0,oM 70 1,oK 71 70 .sub 1,oC 72 24 [.t 69,.t 71],oM 6 72] u24_42 [0,1,5]
abbrev u24_40:=qS [oM 65 0,oM 66 1,oK 67 66 .sub 1,oC 68 24 [.t 65,.t 67],oM 5 68] u24_41 [0,1]
abbrev u24_31:=qQ u24_32 u24_40 [0,1]
abbrev u24_6:=qQ u24_7 u24_31 [0,1]
abbrev u24_2:=qQ u24_3 u24_6 [0,1]
abbrev u24_1:=qS [oV 4 (.string ⟨#[]⟩)] u24_2 [0,1]
def u24:IFn:=⟨86,u24_1,[.tmp 4]⟩
end
theorem isU24:A3 Tryz.prog 24 u24:=by unfold A3;kernel_rfl
section
abbrev u25_10:=qS [oV 4 (.string ⟨#[116,114,117,101]⟩)] .ret []
abbrev u25_13:=qS [oV 4 (.string ⟨#[102,97,108,115,101]⟩)] .ret []
abbrev u25_16:=qS [oM 18 0,oC 19 54 [.t 18,.k (.string ⟨#[109,111,100,101]⟩),.k (.int .i64 3)],oP 20 (.bin .add (.k (.string ⟨#[97,99,116,105,118,101,32]⟩)) (.t 19)),oM 4 20] .ret [0]
abbrev u25_15:=qK u25_16 .skip (.t 16) [0,16]
abbrev u25_14:=qS [oK 17 11 .eql 2,oM 16 17] u25_15 [0,11]
abbrev u25_12:=qK u25_13 u25_14 (.t 14) [0,11,14]
abbrev u25_11:=qS [oK 15 11 .eql 1,oM 14 15] u25_12 [0,11]
abbrev u25_9:=qK u25_10 u25_11 (.t 12) [0,11,12]
abbrev u25_8:=qS [oK 13 11 .eql 0,oM 12 13] u25_9 [0,11]
abbrev u25_7:=qJ u25_8 0 [0,11]
abbrev u25_6:=qS [oM 10 0,oC 11 53 [.t 10,.k (.int .i64 5)]] u25_7 [0]
abbrev u25_17:=qS [oM 21 0,oC 22 54 [.t 21,.k (.string ⟨#[115,119]⟩),.k (.int .i64 4)],oP 23 (.bin .add (.k (.string ⟨#[99,108,111,115,101,100,32]⟩)) (.t 22)),oM 4 23] .ret [0]
abbrev u25_5:=qQ u25_6 u25_17 [0]
abbrev u25_4:=qK u25_5 .skip (.t 9) [0,1,9]
abbrev u25_3:=qS [oM 8 1,oK 9 8 .leq 0] u25_4 [0,1]
abbrev u25_23:=qS [oM 28 0,oC 29 25 [.t 28,.k (.int .i64 0)],oP 30 (.bin .add (.k (.string ⟨#[33]⟩)) (.t 29)),oM 4 30] .ret [0]
abbrev u25_27:=qS [oM 37 5,oP 38 (.bin .add (.k (.string ⟨#[40]⟩)) (.t 37)),oP 39 (.bin .add (.t 38) (.k (.string ⟨#[32,38,38,32]⟩))),oM 40 0,oM 41 1,oK 42 41 .sub 1,oC 43 25 [.t 40,.t 42],oB 44 39 43 .add,oP 45 (.bin .add (.t 44) (.k (.string ⟨#[41]⟩))),oM 4 45] .ret [0,1,5]
abbrev u25_26:=qS [oM 33 0,oM 34 1,oK 35 34 .sub 1,oC 36 25 [.t 33,.t 35],oM 5 36] u25_27 [0,1]
abbrev u25_31:=qS [oM 52 6,oP 53 (.bin .add (.k (.string ⟨#[40]⟩)) (.t 52)),oP 54 (.bin .add (.t 53) (.k (.string ⟨#[32,124,124,32]⟩))),oM 55 0,oM 56 1,oK 57 56 .sub 1,oC 58 25 [.t 55,.t 57],oB 59 54 58 .add,oP 60 (.bin .add (.t 59) (.k (.string ⟨#[41]⟩))),oM 4 60] .ret [0,1,6]
abbrev u25_30:=qS [oM 48 0,oM 49 1,oK 50 49 .sub 1,oC 51 25 [.t 48,.t 50],oM 6 51] u25_31 [0,1]
abbrev u25_29:=qK u25_30 .skip (.t 46) [0,1,46]
abbrev u25_28:=qS [oK 47 25 .eql 2,oM 46 47] u25_29 [0,1,25]
abbrev u25_25:=qK u25_26 u25_28 (.t 31) [0,1,25,31]
abbrev u25_24:=qS [oK 32 25 .eql 1,oM 31 32] u25_25 [0,1,25]
abbrev u25_22:=qK u25_23 u25_24 (.t 26) [0,1,25,26]
abbrev u25_21:=qS [oK 27 25 .eql 0,oM 26 27] u25_22 [0,1,25]
abbrev u25_20:=qJ u25_21 1 [0,1,25]
abbrev u25_19:=qS [oM 24 0,oC 25 53 [.t 24,.k (.int .i64 6)]] u25_20 [0,1]
abbrev u25_33:=qD [oM 65 7,oP 66 (.bin .add (.t 65) (.k (.string ⟨#[32]⟩))),⟨some 67,.new (.bsl 1 6 #[.string ⟨#[]⟩] [(0,.k (.string ⟨#[60]⟩)),(1,.k (.string ⟨#[60,61]⟩)),(2,.k (.string ⟨#[62]⟩)),(3,.k (.string ⟨#[62,61]⟩)),(4,.k (.string ⟨#[61,61]⟩)),(5,.k (.string ⟨#[33,61]⟩))]),none⟩,oM 68 0,oC 69 53 [.t 68,.k (.int .i64 6)],oA 70 67 69 1,oL 71 70,oB 72 66 71 .add,oP 73 (.bin .add (.t 72) (.k (.string ⟨#[32]⟩))),oM 74 0,oM 75 1,oK 76 75 .sub 1,oC 77 24 [.t 74,.t 76],oB 78 73 77 .add,oM 4 78] .ret [(0,none),(1,none),(2,none),(3,none),(9,none),(10,none),(11,none),(4,some [0,1,2,9,10,11]),(5,none),(6,none),(7,none),(8,none),(12,some [0,1,2,5,6,7,8]),(13,none),(14,some [])] 15 [0,1,7]
abbrev u25_32:=qS [oM 61 0,oM 62 1,oK 63 62 .sub 1,oC 64 24 [.t 61,.t 63],oM 7 64] u25_33 [0,1]
abbrev u25_18:=qQ u25_19 u25_32 [0,1]
abbrev u25_2:=qQ u25_3 u25_18 [0,1]
abbrev u25_1:=qS [oV 4 (.string ⟨#[]⟩)] u25_2 [0,1]
def u25:IFn:=⟨79,u25_1,[.tmp 4]⟩
end
theorem isU25:A3 Tryz.prog 25 u25:=by unfold A3;kernel_rfl
section
abbrev u139_6:=qE [oI 5 0] [0,1]
abbrev u139_5:=qK u139_6 .skip (.t 23) [0,1,5,23]
abbrev u139_4:=qS [oM 10 1,oK 11 10 .leq 0,oM 12 11,gM 13 5 12,gK 14 13 12 .eql 1,gM 15 14 12,hM 16 5 15,hK 17 16 15 .eql 2,oG 18 (.pick (.t 15) (.k (.bool true)) (.t 17)) 12,gM 19 18 12,hM 20 5 19,hK 21 20 19 .eql 3,oG 22 (.pick (.t 19) (.k (.bool true)) (.t 21)) 12,oJ 23 12 22] u139_5 [0,1,5]
abbrev u139_13:=qE [oK 27 24 .eql 2,oM 25 27] [0,1,24]
abbrev u139_12:=qK .skip u139_13 (.t 25) [0,1,24,25]
abbrev u139_11:=qS [oK 26 24 .eql 1,oM 25 26] u139_12 [0,1,24]
abbrev u139_21:=qE [oM 41 6,oP 42 (.bin .add (.t 41) (.k (.string ⟨#[32,101,108,115,101,32]⟩))),oM 43 0,oM 44 1,oK 45 44 .sub 1,oC 46 107 [.t 43,.t 45],oB 47 42 46 .add,oM 6 47] [0,1,6]
abbrev u139_24:=qE [oM 50 6,oP 51 (.bin .add (.t 50) (.k (.string ⟨#[32,101,108,115,101,32,105,102,32]⟩))),oM 52 0,oC 53 25 [.t 52,.k (.int .i64 0)],oB 54 51 53 .add,oP 55 (.bin .add (.t 54) (.k (.string ⟨#[32]⟩))),oM 56 0,oM 57 1,oK 58 57 .sub 1,oC 59 107 [.t 56,.t 58],oB 60 55 59 .add,oM 6 60] [0,1,6]
abbrev u139_23:=qK u139_24 .skip (.t 48) [0,1,6,48]
abbrev u139_22:=qS [oK 49 38 .eql 2,oM 48 49] u139_23 [0,1,6,38]
abbrev u139_20:=qK u139_21 u139_22 (.t 39) [0,1,6,38,39]
abbrev u139_19:=qS [oK 40 38 .eql 1,oM 39 40] u139_20 [0,1,6,38]
abbrev u139_18:=qJ u139_19 1 [0,1,6,38]
abbrev u139_17:=qS [oM 37 0,oC 38 53 [.t 37,.k (.int .i64 3)]] u139_18 [0,1,6]
abbrev u139_25:=qS [oM 61 6,oM 4 61] .ret [6]
abbrev u139_16:=qQ u139_17 u139_25 [0,1,6]
abbrev u139_15:=qS [oM 28 0,oC 29 25 [.t 28,.k (.int .i64 1)],oP 30 (.bin .add (.k (.string ⟨#[105,102,32]⟩)) (.t 29)),oP 31 (.bin .add (.t 30) (.k (.string ⟨#[32]⟩))),oM 32 0,oM 33 1,oK 34 33 .sub 1,oC 35 107 [.t 32,.t 34],oB 36 31 35 .add,oM 6 36] u139_16 [0,1]
abbrev u139_28:=qS [oM 64 0,oC 65 24 [.t 64,.k (.int .i64 0)],oP 66 (.bin .add (.k (.string ⟨#[114,101,112,101,97,116,32]⟩)) (.t 65)),oP 67 (.bin .add (.t 66) (.k (.string ⟨#[32]⟩))),oM 68 0,oM 69 1,oK 70 69 .sub 1,oC 71 107 [.t 68,.t 70],oB 72 67 71 .add,oM 4 72] .ret [0,1]
abbrev u139_32:=qE [oK 75 24 .eql 5,oM 73 75] [0,24]
abbrev u139_31:=qK .skip u139_32 (.t 73) [0,24,73]
abbrev u139_30:=qS [oK 74 24 .eql 4,oM 73 74] u139_31 [0,24]
abbrev u139_34:=qS [oM 76 0,oC 77 24 [.t 76,.k (.int .i64 1)],oP 78 (.bin .add (.k (.string ⟨#[115,99,111,114,101,32]⟩)) (.t 77)),oP 79 (.bin .add (.t 78) (.k (.string ⟨#[59]⟩))),oM 4 79] .ret [0]
abbrev u139_37:=qD [⟨some 82,.new (.bsl 1 3 #[.string ⟨#[]⟩] [(0,.k (.string ⟨#[102,105,114,101,32]⟩)),(1,.k (.string ⟨#[104,111,108,100,32]⟩)),(2,.k (.string ⟨#[114,101,108,101,97,115,101,32]⟩))]),none⟩,oM 83 0,oC 84 53 [.t 83,.k (.int .i64 3)],oA 85 82 84 1,oL 86 85,oM 87 0,oC 88 54 [.t 87,.k (.string ⟨#[99,111,105,108]⟩),.k (.int .i64 3)],oB 89 86 88 .add,oP 90 (.bin .add (.t 89) (.k (.string ⟨#[59]⟩))),oM 4 90] .ret [(0,none),(1,none),(5,none),(2,some [0,5]),(3,none),(4,none),(6,some [0,3,4]),(7,none),(8,none),(9,some [])] 10 [0]
abbrev u139_40:=qS [oM 93 0,oC 94 54 [.t 93,.k (.string ⟨#[108,97,109,112]⟩),.k (.int .i64 4)],oP 95 (.bin .add (.k (.string ⟨#[108,105,103,104,116,32]⟩)) (.t 94)),oP 96 (.bin .add (.t 95) (.k (.string ⟨#[32]⟩))),oM 97 0,oC 98 24 [.t 97,.k (.int .i64 0)],oB 99 96 98 .add,oP 100 (.bin .add (.t 99) (.k (.string ⟨#[59]⟩))),oM 4 100] .ret [0]
abbrev u139_44:=qS [oM 110 7,oP 111 (.bin .add (.t 110) (.k (.string ⟨#[44,32]⟩))),oM 112 0,oC 113 24 [.t 112,.k (.int .i64 0)],oB 114 111 113 .add,oP 115 (.bin .add (.t 114) (.k (.string ⟨#[59]⟩))),oM 4 115] .ret [0,7]
abbrev u139_43:=qS [oM 103 0,oC 104 54 [.t 103,.k (.string ⟨#[108,97,109,112]⟩),.k (.int .i64 4)],oP 105 (.bin .add (.k (.string ⟨#[98,108,105,110,107,32]⟩)) (.t 104)),oP 106 (.bin .add (.t 105) (.k (.string ⟨#[32]⟩))),oM 107 0,oC 108 24 [.t 107,.k (.int .i64 0)],oB 109 106 108 .add,oM 7 109] u139_44 [0]
abbrev u139_47:=qS [oM 118 0,oC 119 54 [.t 118,.k (.string ⟨#[116,109]⟩),.k (.int .i64 2)],oP 120 (.bin .add (.k (.string ⟨#[115,116,97,114,116,32]⟩)) (.t 119)),oP 121 (.bin .add (.t 120) (.k (.string ⟨#[32]⟩))),oM 122 0,oC 123 24 [.t 122,.k (.int .i64 1)],oB 124 121 123 .add,oP 125 (.bin .add (.t 124) (.k (.string ⟨#[59]⟩))),oM 4 125] .ret [0]
abbrev u139_50:=qS [oM 128 0,oC 129 54 [.t 128,.k (.string ⟨#[116,109]⟩),.k (.int .i64 2)],oP 130 (.bin .add (.k (.string ⟨#[115,116,111,112,32]⟩)) (.t 129)),oP 131 (.bin .add (.t 130) (.k (.string ⟨#[59]⟩))),oM 4 131] .ret [0]
abbrev u139_53:=qS [oM 134 0,oC 135 54 [.t 134,.k (.string ⟨#[109,111,100,101]⟩),.k (.int .i64 3)],oP 136 (.bin .add (.k (.string ⟨#[98,101,103,105,110,32]⟩)) (.t 135)),oP 137 (.bin .add (.t 136) (.k (.string ⟨#[59]⟩))),oM 4 137] .ret [0]
abbrev u139_56:=qS [oM 140 0,oC 141 54 [.t 140,.k (.string ⟨#[109,111,100,101]⟩),.k (.int .i64 3)],oP 142 (.bin .add (.k (.string ⟨#[101,110,100,32]⟩)) (.t 141)),oP 143 (.bin .add (.t 142) (.k (.string ⟨#[59]⟩))),oM 4 143] .ret [0]
abbrev u139_59:=qS [oM 146 0,oC 147 54 [.t 146,.k (.string ⟨#[101,118]⟩),.k (.int .i64 2)],oP 148 (.bin .add (.k (.string ⟨#[112,111,115,116,32]⟩)) (.t 147)),oP 149 (.bin .add (.t 148) (.k (.string ⟨#[59]⟩))),oM 4 149] .ret [0]
abbrev u139_62:=qS [oM 152 0,oC 153 54 [.t 152,.k (.string ⟨#[115,110,100]⟩),.k (.int .i64 2)],oP 154 (.bin .add (.k (.string ⟨#[112,108,97,121,32]⟩)) (.t 153)),oP 155 (.bin .add (.t 154) (.k (.string ⟨#[59]⟩))),oM 4 155] .ret [0]
abbrev u139_65:=qD [⟨some 158,.new (.bsl 1 2 #[.string ⟨#[]⟩] [(0,.k (.string ⟨#[114,117,110,32]⟩)),(1,.k (.string ⟨#[104,97,108,116,32]⟩))]),none⟩,oM 159 0,oC 160 53 [.t 159,.k (.int .i64 2)],oA 161 158 160 1,oL 162 161,oM 163 0,oC 164 54 [.t 163,.k (.string ⟨#[115,104,111,119]⟩),.k (.int .i64 2)],oB 165 162 164 .add,oP 166 (.bin .add (.t 165) (.k (.string ⟨#[59]⟩))),oM 4 166] .ret [(0,none),(1,none),(5,none),(2,some [0,5]),(3,none),(4,none),(6,some [0,3,4]),(7,none),(8,none),(9,some [])] 10 [0]
abbrev u139_68:=qD [⟨some 169,.new (.bsl 1 4 #[.string ⟨#[]⟩] [(0,.k (.string ⟨#[103,111]⟩)),(1,.k (.string ⟨#[106,97,99,107,112,111,116]⟩)),(2,.k (.string ⟨#[97,92,34,98]⟩)),(3,.k (.string ⟨#[]⟩))]),none⟩,oM 170 0,oC 171 53 [.t 170,.k (.int .i64 4)],oA 172 169 171 1,oL 173 172,oP 174 (.bin .add (.k (.string ⟨#[116,101,120,116,32,34]⟩)) (.t 173)),oP 175 (.bin .add (.t 174) (.k (.string ⟨#[34,44,32]⟩))),oM 176 0,oC 177 24 [.t 176,.k (.int .i64 0)],oB 178 175 177 .add,oP 179 (.bin .add (.t 178) (.k (.string ⟨#[59]⟩))),oM 4 179] .ret [(0,none),(1,none),(7,none),(2,some [0,7]),(3,none),(4,none),(5,none),(6,none),(8,some [0,3,4,5,6]),(9,none),(10,none),(11,some [])] 12 [0]
abbrev u139_71:=qS [oV 4 (.string ⟨#[99,111,110,115,117,109,101,59]⟩)] .ret []
abbrev u139_70:=qK u139_71 .skip (.t 180) [0,180]
abbrev u139_69:=qS [oK 181 24 .eql 17,oM 180 181] u139_70 [0,24]
abbrev u139_67:=qK u139_68 u139_69 (.t 167) [0,24,167]
abbrev u139_66:=qS [oK 168 24 .eql 16,oM 167 168] u139_67 [0,24]
abbrev u139_64:=qK u139_65 u139_66 (.t 156) [0,24,156]
abbrev u139_63:=qS [oK 157 24 .eql 15,oM 156 157] u139_64 [0,24]
abbrev u139_61:=qK u139_62 u139_63 (.t 150) [0,24,150]
abbrev u139_60:=qS [oK 151 24 .eql 14,oM 150 151] u139_61 [0,24]
abbrev u139_58:=qK u139_59 u139_60 (.t 144) [0,24,144]
abbrev u139_57:=qS [oK 145 24 .eql 13,oM 144 145] u139_58 [0,24]
abbrev u139_55:=qK u139_56 u139_57 (.t 138) [0,24,138]
abbrev u139_54:=qS [oK 139 24 .eql 12,oM 138 139] u139_55 [0,24]
abbrev u139_52:=qK u139_53 u139_54 (.t 132) [0,24,132]
abbrev u139_51:=qS [oK 133 24 .eql 11,oM 132 133] u139_52 [0,24]
abbrev u139_49:=qK u139_50 u139_51 (.t 126) [0,24,126]
abbrev u139_48:=qS [oK 127 24 .eql 10,oM 126 127] u139_49 [0,24]
abbrev u139_46:=qK u139_47 u139_48 (.t 116) [0,24,116]
abbrev u139_45:=qS [oK 117 24 .eql 9,oM 116 117] u139_46 [0,24]
abbrev u139_42:=qK u139_43 u139_45 (.t 101) [0,24,101]
abbrev u139_41:=qS [oK 102 24 .eql 8,oM 101 102] u139_42 [0,24]
abbrev u139_39:=qK u139_40 u139_41 (.t 91) [0,24,91]
abbrev u139_38:=qS [oK 92 24 .eql 7,oM 91 92] u139_39 [0,24]
abbrev u139_36:=qK u139_37 u139_38 (.t 80) [0,24,80]
abbrev u139_35:=qS [oK 81 24 .eql 6,oM 80 81] u139_36 [0,24]
abbrev u139_33:=qK u139_34 u139_35 (.t 73) [0,24,73]
abbrev u139_29:=qQ u139_30 u139_33 [0,24]
abbrev u139_27:=qK u139_28 u139_29 (.t 62) [0,1,24,62]
abbrev u139_26:=qS [oK 63 24 .eql 3,oM 62 63] u139_27 [0,1,24]
abbrev u139_14:=qK u139_15 u139_26 (.t 25) [0,1,24,25]
abbrev u139_10:=qQ u139_11 u139_14 [0,1,24]
abbrev u139_9:=qJ u139_10 0 [0,1,24]
abbrev u139_8:=qS [oM 24 5] u139_9 [0,1,5]
abbrev u139_72:=qS [oM 182 0,oC 183 54 [.t 182,.k (.string ⟨#[118]⟩),.k (.int .i64 3)],oP 184 (.bin .add (.t 183) (.k (.string ⟨#[32,61,32]⟩))),oM 185 0,oC 186 24 [.t 185,.k (.int .i64 2)],oB 187 184 186 .add,oP 188 (.bin .add (.t 187) (.k (.string ⟨#[59]⟩))),oM 4 188] .ret [0]
abbrev u139_7:=qQ u139_8 u139_72 [0,1,5]
abbrev u139_3:=qQ u139_4 u139_7 [0,1,5]
abbrev u139_2:=qS [oM 8 0,oC 9 53 [.t 8,.k (.int .i64 20)],oM 5 9] u139_3 [0,1]
abbrev u139_1:=qS [oV 4 (.string ⟨#[]⟩)] u139_2 [0,1]
def u139:IFn:=⟨189,u139_1,[.tmp 4]⟩
end
theorem isU139:A3 Tryz.prog 139 u139:=by unfold A3;kernel_rfl
section
abbrev u107_8:=qK .skip (.exit 0) (.t 10) [0,1,5,6,10]
abbrev u107_7:=qS [oM 9 6,oK 10 9 .gtr 0] u107_8 [0,1,5,6]
abbrev u107_10:=qE [oM 13 5,oP 14 (.bin .add (.t 13) (.k (.string ⟨#[32]⟩))),oM 15 0,oM 16 1,oC 17 139 [.t 15,.t 16],oB 18 14 17 .add,oM 5 18] [0,1,5,6]
abbrev u107_11:=qE [oM 11 6,oK 12 11 .sub 1,oM 6 12] [0,1,5,6]
abbrev u107_9:=qB u107_10 u107_11 1 [0,1,5,6]
abbrev u107_6:=qQ u107_7 u107_9 [0,1,5,6]
abbrev u107_5:=qJ (.loop u107_6) 0 [0,1,5,6]
abbrev u107_4:=qS [oM 7 0,oC 8 53 [.t 7,.k (.int .i64 4)],oM 6 8] u107_5 [0,1,5]
abbrev u107_12:=qS [oM 19 5,oP 20 (.bin .add (.t 19) (.k (.string ⟨#[32,125]⟩))),oM 4 20] .ret [5]
abbrev u107_3:=qQ u107_4 u107_12 [0,1,5]
abbrev u107_2:=qS [oV 5 (.string ⟨#[123]⟩)] u107_3 [0,1]
abbrev u107_1:=qS [oV 4 (.string ⟨#[]⟩)] u107_2 [0,1]
def u107:IFn:=⟨21,u107_1,[.tmp 4]⟩
end
theorem isU107:A3 Tryz.prog 107 u107:=by unfold A3;kernel_rfl
section
abbrev u69_6:=qE [oM 25 0,oC 26 54 [.t 25,.k (.string ⟨#[115,119]⟩),.k (.int .i64 4)],oP 27 (.bin .add (.k (.string ⟨#[99,108,111,115,101,32]⟩)) (.t 26)),oM 5 27] [0]
abbrev u69_5:=qK u69_6 .skip (.t 24) [0,5,24]
abbrev u69_4:=qS [oM 11 0,oN 12 11,oF 13 12 2,oL 14 13,oK 15 14 .gtr 0,oM 16 15,gM 17 0 16,gM 18 0 16,gN 19 18 16,gF 20 19 2 16,gL 21 20 16,⟨some 22,.call 53 [.t 17,.t 21],some (16,true)⟩,gK 23 22 16 .eql 1,oJ 24 16 23] u69_5 [0,5]
abbrev u69_7:=qS [oM 28 5,oP 29 (.bin .add (.k (.string ⟨#[111,110,32]⟩)) (.t 28)),oP 30 (.bin .add (.t 29) (.k (.string ⟨#[32]⟩))),oM 31 0,oC 32 107 [.t 31,.k (.int .i64 2)],oB 33 30 32 .add,oM 4 33] .ret [0,5]
abbrev u69_3:=qQ u69_4 u69_7 [0,5]
abbrev u69_2:=qS [⟨some 6,.new (.bsl 1 11 #[.string ⟨#[]⟩] [(0,.k (.string ⟨#[115,116,97,114,116]⟩)),(1,.k (.string ⟨#[115,116,111,112]⟩)),(2,.k (.string ⟨#[99,108,111,115,101,32,115,119,48]⟩)),(3,.k (.string ⟨#[111,112,101,110,32,115,119,48]⟩)),(4,.k (.string ⟨#[99,108,111,115,101,32,115,119,49]⟩)),(5,.k (.string ⟨#[99,108,111,115,101,32,115,119,50]⟩)),(6,.k (.string ⟨#[116,105,109,101,114,32,116,109,48]⟩)),(7,.k (.string ⟨#[116,105,109,101,114,32,116,109,49]⟩)),(8,.k (.string ⟨#[101,118,101,110,116,32,101,118,48]⟩)),(9,.k (.string ⟨#[101,118,101,110,116,32,101,118,49]⟩)),(10,.k (.string ⟨#[111,112,101,110,32,115,119,51]⟩))]),none⟩,oM 7 1,oK 8 7 .rem 11,oA 9 6 8 1,oL 10 9,oM 5 10] u69_3 [0,1]
abbrev u69_1:=qS [oV 4 (.string ⟨#[]⟩)] u69_2 [0,1]
def u69:IFn:=⟨34,u69_1,[.tmp 4]⟩
end
theorem isU69:A3 Tryz.prog 69 u69:=by unfold A3;kernel_rfl
section
abbrev u35_9:=qK .skip (.exit 0) (.t 17) [0,3,4,17]
abbrev u35_8:=qS [oM 16 4,oK 17 16 .lss 3] u35_9 [0,3,4]
abbrev u35_18:=qK .skip (.exit 2) (.t 36) [0,3,4,5,6,36]
abbrev u35_17:=qS [oM 35 6,oK 36 35 .gtr 0] u35_18 [0,3,4,5,6]
abbrev u35_21:=qE [oM 45 5,oK 46 45 .add 1,oM 5 46] [0,3,4,5,6]
abbrev u35_20:=qS [oM 39 3,oM 40 0,oM 41 5,oC 42 69 [.t 40,.t 41],oB 43 39 42 .add,oP 44 (.bin .add (.t 43) (.k (.string ⟨#[10]⟩))),oM 3 44] u35_21 [0,3,4,5,6]
abbrev u35_22:=qE [oM 37 6,oK 38 37 .sub 1,oM 6 38] [0,3,4,5,6]
abbrev u35_19:=qB u35_20 u35_22 3 [0,3,4,5,6]
abbrev u35_16:=qQ u35_17 u35_19 [0,3,4,5,6]
abbrev u35_15:=qJ (.loop u35_16) 2 [0,3,4,5,6]
abbrev u35_14:=qS [oM 33 0,oC 34 53 [.t 33,.k (.int .i64 5)],oM 6 34] u35_15 [0,3,4,5]
abbrev u35_23:=qE [oM 47 3,oP 48 (.bin .add (.t 47) (.k (.string ⟨#[125,10]⟩))),oM 3 48] [0,3,4]
abbrev u35_13:=qQ u35_14 u35_23 [0,3,4,5]
abbrev u35_12:=qS [oM 31 0,oC 32 53 [.t 31,.k (.int .i64 11)],oM 5 32] u35_13 [0,3,4]
abbrev u35_11:=qS [oM 20 3,oP 21 (.bin .add (.t 20) (.k (.string ⟨#[109,111,100,101,32,109,111,100,101]⟩))),oM 22 4,oC 23 55 [.t 22],oB 24 21 23 .add,oP 25 (.bin .add (.t 24) (.k (.string ⟨#[32]⟩))),oM 26 0,oC 27 53 [.t 26,.k (.int .i64 4)],oC 28 55 [.t 27],oB 29 25 28 .add,oP 30 (.bin .add (.t 29) (.k (.string ⟨#[32,123,10]⟩))),oM 3 30] u35_12 [0,3,4]
abbrev u35_24:=qE [oM 18 4,oK 19 18 .add 1,oM 4 19] [0,3,4]
abbrev u35_10:=qB u35_11 u35_24 1 [0,3,4]
abbrev u35_7:=qQ u35_8 u35_10 [0,3,4]
abbrev u35_6:=qJ (.loop u35_7) 0 [0,3,4]
abbrev u35_5:=qS [oI 4 0] u35_6 [0,3]
abbrev u35_25:=qS [oM 49 3,oM 2 49] .ret [3]
abbrev u35_4:=qQ u35_5 u35_25 [0,3]
abbrev u35_3:=qS [oM 7 3,oP 8 (.bin .add (.t 7) (.k (.string ⟨#[118,97,114,32,118,48,32]⟩))),⟨some 9,.new (.bsl 1 4 #[.string ⟨#[]⟩] [(0,.k (.string ⟨#[48]⟩)),(1,.k (.string ⟨#[53]⟩)),(2,.k (.string ⟨#[45,55]⟩)),(3,.k (.string ⟨#[50,49,52,55,52,56,51,54,52,55]⟩))]),none⟩,oM 10 0,oC 11 53 [.t 10,.k (.int .i64 4)],oA 12 9 11 1,oL 13 12,oB 14 8 13 .add,oP 15 (.bin .add (.t 14) (.k (.string ⟨#[59,32,118,97,114,32,118,49,32,49,59,32,118,97,114,32,118,50,32,48,59,32,116,105,109,101,114,32,116,109,48,59,32,116,105,109,101,114,32,116,109,49,59,32,101,118,101,110,116,32,101,118,48,59,32,101,118,101,110,116,32,101,118,49,59,10]⟩))),oM 3 15] u35_4 [0,3]
abbrev u35_2:=qS [oV 3 (.string ⟨#[115,119,105,116,99,104,32,115,119,48,32,51,59,32,115,119,105,116,99,104,32,115,119,49,32,57,59,32,115,119,105,116,99,104,32,115,119,50,32,52,48,59,32,115,119,105,116,99,104,32,115,119,51,32,54,51,59,10,99,111,105,108,32,99,111,105,108,48,32,48,59,32,99,111,105,108,32,99,111,105,108,49,32,55,59,32,99,111,105,108,32,99,111,105,108,50,32,51,49,59,10,108,97,109,112,32,108,97,109,112,48,32,48,59,32,108,97,109,112,32,108,97,109,112,49,32,57,59,32,108,97,109,112,32,108,97,109,112,50,32,51,51,59,32,108,97,109,112,32,108,97,109,112,51,32,54,51,59,10,115,111,117,110,100,32,115,110,100,48,32,48,59,32,115,111,117,110,100,32,115,110,100,49,32,53,59,32,115,104,111,119,32,115,104,111,119,48,32,48,59,32,115,104,111,119,32,115,104,111,119,49,32,49,59,10]⟩)] u35_3 [0]
abbrev u35_1:=qS [oV 2 (.string ⟨#[]⟩)] u35_2 [0]
def u35:IFn:=⟨50,u35_1,[.tmp 2]⟩
end
theorem isU35:A3 Tryz.prog 35 u35:=by unfold A3;kernel_rfl
section
abbrev u14_8:=qS [oM 41 8,oK 42 41 .eql 44,oM 43 42,gM 44 7 43,gK 45 44 43 .eql 38,oJ 46 43 45,oM 47 46,gM 48 10 47,gK 49 48 47 .eql 0,oJ 50 47 49,oM 51 50,gM 52 11 51,oG 53 (.len (.t 52)) 51,gK 54 53 51 .eql 1,oJ 55 51 54,oM 56 55,gM 57 11 56,oG 58 (.iad 1 (.t 57) (.k (.int .i64 0))) 56,gL 59 58 56,oG 60 (.bin .eql (.t 59) (.k (.string ⟨#[118]⟩))) 56,oJ 61 56 60,oM 62 61,gM 63 12 62,gK 64 63 62 .eql 3,oJ 65 62 64,oM 66 65,gM 67 13 66,gK 68 67 66 .eql 3,oJ 69 66 68,oM 0 69] .ret [7,8,10,11,12,13]
abbrev u14_7:=qS [oD 37 4 2,oC 38 28 [.t 37,.k (.string ⟨#[108]⟩)],oM 36 38,oE 39 36 0,oE 40 36 1,oM 12 39,oM 13 40] u14_8 [4,7,8,10,11]
abbrev u14_6:=qS [oD 34 4 2,oC 35 21 [.t 34],oM 11 35] u14_7 [4,7,8,10]
abbrev u14_5:=qS [oD 30 4 2,oC 31 17 [.t 30],oM 29 31,oE 32 29 0,oE 33 29 1,oM 9 32,oM 10 33] u14_6 [4,7,8]
abbrev u14_4:=qS [oD 25 1 2,oC 26 17 [.t 25],oM 24 26,oE 27 24 0,oE 28 24 1,oM 7 27,oM 8 28] u14_5 [1,4]
abbrev u14_3:=qS [oC 20 15 [.k (.string ⟨#[108,97,109,112,32,108,32,51,59,32,118,97,114,32,118,32,48,59,32,109,111,100,101,32,109,32,49,32,123,32,111,110,32,115,116,97,114,116,32,123,32,108,105,103,104,116,32,108,32,56,59,32,125,32,125]⟩)],oM 19 20,oE 21 19 0,oE 22 19 1,oE 23 19 2,oW 4 (.agg #[.slice none 0 0,.slice none 0 0]),oS 4 21 2,oM 5 22,oM 6 23] u14_4 [1]
abbrev u14_2:=qS [oC 15 15 [.k (.string ⟨#[108,97,109,112,32,108,32,51,59,32,109,111,100,101,32,109,32,49,32,123,32,111,110,32,115,116,97,114,116,32,123,32,115,99,111,114,101,32,108,59,32,125,32,125]⟩)],oM 14 15,oE 16 14 0,oE 17 14 1,oE 18 14 2,oW 1 (.agg #[.slice none 0 0,.slice none 0 0]),oS 1 16 2,oM 2 17,oM 3 18] u14_3 []
abbrev u14_1:=qS [oV 0 (.bool false)] u14_2 []
def u14:IFn:=⟨70,u14_1,[.tmp 0]⟩
end
theorem isU14:A3 Tryz.prog 14 u14:=by unfold A3;kernel_rfl
section
abbrev u13_5:=qS [oD 24 6 2,oS 4 24 2] .ret [4,6]
abbrev u13_4:=qS [oM 18 5,oC 19 35 [.t 18],oC 20 15 [.t 19],oM 17 20,oE 21 17 0,oE 22 17 1,oE 23 17 2,oW 6 (.agg #[.slice none 0 0,.slice none 0 0]),oS 6 21 2,oM 7 22,oM 8 23] u13_5 [4,5]
abbrev u13_3:=qS [oM 11 5,oM 12 1,oP 13 (.bin .rem (.t 12) (.k (.int .u8 20))),oP 14 (.cvi .i64 (.t 13)),oN 15 11,oF 16 15 2,oS 16 14 1] u13_4 [1,4,5]
abbrev u13_2:=qS [oM 9 0,oC 10 22 [.t 9],oM 5 10] u13_3 [0,1,4]
abbrev u13_1:=qS [oW 4 (.agg #[.slice none 0 0,.slice none 0 0])] u13_2 [0,1]
def u13:IFn:=⟨25,u13_1,[.cell 4 2 true]⟩
end
theorem isU13:A3 Tryz.prog 13 u13:=by unfold A3;kernel_rfl
section
abbrev u3_2:=qS [oM 5 0,oM 6 1,oC 7 13 [.t 5,.t 6],oC 8 12 [.t 7],oM 9 8,⟨some 10,.call 14 [],some (9,true)⟩,oJ 11 9 10,oM 4 11] .ret [0,1]
abbrev u3_1:=qS [oV 4 (.bool false)] u3_2 [0,1]
def u3:IFn:=⟨12,u3_1,[.tmp 4]⟩
end
section
abbrev u4_3:=qS [oD 16 5 2,oC 17 12 [.t 16],oM 18 17,⟨some 19,.call 14 [],some (18,true)⟩,oJ 20 18 19,oM 4 20] .ret [5]
abbrev u4_2:=qS [oM 9 0,oM 10 1,oC 11 16 [.t 9,.t 10],oC 12 15 [.t 11],oM 8 12,oE 13 8 0,oE 14 8 1,oE 15 8 2,oW 5 (.agg #[.slice none 0 0,.slice none 0 0]),oS 5 13 2,oM 6 14,oM 7 15] u4_3 [0,1]
abbrev u4_1:=qS [oV 4 (.bool false)] u4_2 [0,1]
def u4:IFn:=⟨21,u4_1,[.tmp 4]⟩
end
section
abbrev u10_17:=qK (.exit 1) .skip (.t 73) [7,17,64,65,66,73]
abbrev u10_16:=qS [oF 70 17 3,oL 71 70,oH 72 71,oK 73 72 .gtr 4] u10_17 [7,17,64,65,66]
abbrev u10_22:=qS [oV 6 (.bool false)] .ret []
abbrev u10_21:=qK u10_22 .skip (.t 100) [7,64,65,66,100]
abbrev u10_20:=qS [oM 88 18,oM 89 21,oB 90 88 89 .neq,oM 91 90,hM 92 19 91,hM 93 22 91,oR 94 (.bin .neq (.t 92) (.t 93)) 91,oO 95 91 94,oM 96 95,hM 97 20 96,hM 98 23 96,oR 99 (.bin .neq (.t 97) (.t 98)) 96,oO 100 96 99] u10_21 [7,18,19,20,21,22,23,64,65,66]
abbrev u10_19:=qS [oD 82 7 2,oD 83 17 5,oC 84 27 [.t 82,.t 83],oM 81 84,oE 85 81 0,oE 86 81 1,oE 87 81 2,oM 21 85,oM 22 86,oM 23 87] u10_20 [7,17,18,19,20,64,65,66]
abbrev u10_18:=qS [oD 75 7 2,oD 76 17 5,oC 77 26 [.t 75,.t 76],oM 74 77,oE 78 74 0,oE 79 74 1,oE 80 74 2,oM 18 78,oM 19 79,oM 20 80] u10_19 [7,17,64,65,66]
abbrev u10_15:=qQ u10_16 u10_18 [7,17,64,65,66]
abbrev u10_14:=qS [oA 68 64 66 5,oD 69 68 5,oW 17 (.agg #[.int .i64 0,.int .i64 0,.string ⟨#[]⟩,.slice none 0 0,.int .i64 0]),oS 17 69 5] u10_15 [7,64,65,66]
abbrev u10_23:=qE [oK 101 66 .add 1,oM 66 101] [7,64,65,66]
abbrev u10_13:=qB u10_14 u10_23 1 [7,64,65,66]
abbrev u10_12:=qC .skip u10_13 (.exit 0) (.t 67) [7,64,65,66,67]
abbrev u10_11:=qS [oB 67 66 65 .lss] u10_12 [7,64,65,66]
abbrev u10_10:=qJ (.loop u10_11) 0 [7,64,65,66]
abbrev u10_9:=qS [oD 56 9 5,oD 57 12 5,oD 58 15 5,oD 59 4 5,oD 60 12 5,oD 61 12 5,⟨some 62,.new (.bsl 5 2 #[.int .i64 0,.int .i64 0,.string ⟨#[]⟩,.slice none 0 0,.int .i64 0] [(0,.t 60),(1,.t 61)]),none⟩,oP 63 (.bld #[.int .i64 0,.int .i64 0,.string ⟨#[]⟩,.slice none 0 0,.int .i64 0] [(0,1),(1,1),(2,1),(3,1),(4,1)] [(0,.k (.int .i64 21)),(3,.t 62)]),⟨some 64,.new (.bsl 5 5 #[.int .i64 0,.int .i64 0,.string ⟨#[]⟩,.slice none 0 0,.int .i64 0] [(0,.t 56),(1,.t 57),(2,.t 58),(3,.t 59),(4,.t 63)]),none⟩,oH 65 64,oI 66 0] u10_10 [4,7,9,12,15]
abbrev u10_24:=qS [oC 102 14 [],oM 6 102] .ret []
abbrev u10_8:=qQ u10_9 u10_24 [4,7,9,12,15]
abbrev u10_7:=qS [oM 48 2,oP 49 (.bin .rem (.t 48) (.k (.int .u8 15))),oP 50 (.cvi .i64 (.t 49)),oK 51 50 .add 10,oD 52 9 5,oD 53 12 5,⟨some 54,.new (.bsl 5 2 #[.int .i64 0,.int .i64 0,.string ⟨#[]⟩,.slice none 0 0,.int .i64 0] [(0,.t 52),(1,.t 53)]),none⟩,oP 55 (.bld #[.int .i64 0,.int .i64 0,.string ⟨#[]⟩,.slice none 0 0,.int .i64 0] [(0,1),(1,1),(2,1),(3,1),(4,1)] [(0,.t 51),(3,.t 54),(4,.k (.int .i64 5))]),oW 15 (.agg #[.int .i64 0,.int .i64 0,.string ⟨#[]⟩,.slice none 0 0,.int .i64 0]),oS 15 55 5] u10_8 [2,4,7,9,12]
abbrev u10_6:=qS [oM 42 8,oC 43 25 [.t 42,.k (.int .i64 3)],oC 44 23 [.t 43],oM 41 44,oE 45 41 0,oE 46 41 1,oE 47 41 2,oW 12 (.agg #[.int .i64 0,.int .i64 0,.string ⟨#[]⟩,.slice none 0 0,.int .i64 0]),oS 12 45 5,oM 13 46,oM 14 47] u10_7 [2,4,7,8,9]
abbrev u10_5:=qS [oM 35 8,oC 36 24 [.t 35,.k (.int .i64 3)],oC 37 23 [.t 36],oM 34 37,oE 38 34 0,oE 39 34 1,oE 40 34 2,oW 9 (.agg #[.int .i64 0,.int .i64 0,.string ⟨#[]⟩,.slice none 0 0,.int .i64 0]),oS 9 38 5,oM 10 39,oM 11 40] u10_6 [2,4,7,8]
abbrev u10_4:=qS [oM 28 8,oM 29 2,oP 30 (.bin .rem (.t 29) (.k (.int .u8 9))),oP 31 (.cvi .i64 (.t 30)),oN 32 28,oF 33 32 2,oS 33 31 1] u10_5 [2,4,7,8]
abbrev u10_3:=qS [oM 26 0,oC 27 22 [.t 26],oM 8 27] u10_4 [0,2,4,7]
abbrev u10_2:=qS [oM 24 0,oC 25 13 [.t 24,.k (.int .u8 0)],oW 7 (.agg #[.slice none 0 0,.slice none 0 0]),oS 7 25 2] u10_3 [0,2,4]
abbrev u10_1:=qS [oX 4 1,oV 6 (.bool false)] u10_2 [0,1,2]
def u10:IFn:=⟨103,u10_1,[.tmp 6]⟩
end
section
abbrev u18_8:=qK .skip (.exit 0) (.t 12) [1,2,4,5,6,12]
abbrev u18_7:=qS [oM 8 6,oF 9 2 0,oL 10 9,oH 11 10,oB 12 8 11 .lss] u18_8 [1,2,4,5,6]
abbrev u18_10:=qG [oF 15 5 0,oL 16 15,oF 17 2 0,oL 18 17,oM 19 6,oM 20 1,oB 21 19 20 .add,oF 22 2 0,oL 23 22,oH 24 23,oB 25 21 24 .rem,oA 26 18 25 4,oD 27 26 4,⟨some 28,.new (.bsl 4 1 #[.int .i64 0,.string ⟨#[]⟩,.int .i64 0,.int .i64 0] [(0,.t 27)]),none⟩,oT 29 16 28 4 40,oF 30 5 0,oS 30 29 1] [(0,none),(1,none),(2,none),(3,none),(4,none),(5,none),(6,none),(7,none),(8,none),(9,none),(10,none),(11,none),(12,none),(13,none),(14,some []),(15,none),(16,some [])] 17 [1,2,4,5,6]
abbrev u18_11:=qE [oM 13 6,oK 14 13 .add 1,oM 6 14] [1,2,4,5,6]
abbrev u18_9:=qB u18_10 u18_11 1 [1,2,4,5,6]
abbrev u18_6:=qQ u18_7 u18_9 [1,2,4,5,6]
abbrev u18_5:=qJ (.loop u18_6) 0 [1,2,4,5,6]
abbrev u18_4:=qS [oI 6 0] u18_5 [1,2,4,5]
abbrev u18_17:=qK .skip (.exit 2) (.t 35) [1,2,4,5,7,35]
abbrev u18_16:=qS [oM 31 7,oF 32 2 1,oL 33 32,oH 34 33,oB 35 31 34 .lss] u18_17 [1,2,4,5,7]
abbrev u18_19:=qG [oF 38 5 1,oL 39 38,oF 40 2 1,oL 41 40,oM 42 7,oM 43 1,oB 44 42 43 .add,oF 45 2 1,oL 46 45,oH 47 46,oB 48 44 47 .rem,oA 49 41 48 4,oD 50 49 4,⟨some 51,.new (.bsl 4 1 #[.string ⟨#[]⟩,.int .i64 0,.slice none 0 0,.int .i64 0] [(0,.t 50)]),none⟩,oT 52 39 51 4 56,oF 53 5 1,oS 53 52 1] [(0,none),(1,none),(2,none),(3,none),(4,none),(5,none),(6,none),(7,none),(8,none),(9,none),(10,none),(11,none),(12,none),(13,none),(14,some []),(15,none),(16,some [])] 17 [1,2,4,5,7]
abbrev u18_20:=qE [oM 36 7,oK 37 36 .add 1,oM 7 37] [1,2,4,5,7]
abbrev u18_18:=qB u18_19 u18_20 3 [1,2,4,5,7]
abbrev u18_15:=qQ u18_16 u18_18 [1,2,4,5,7]
abbrev u18_14:=qJ (.loop u18_15) 2 [1,2,4,5,7]
abbrev u18_13:=qS [oI 7 0] u18_14 [1,2,4,5]
abbrev u18_21:=qS [oD 54 5 2,oS 4 54 2] .ret [4,5]
abbrev u18_12:=qQ u18_13 u18_21 [1,2,4,5]
abbrev u18_3:=qQ u18_4 u18_12 [1,2,4,5]
abbrev u18_2:=qS [oW 5 (.agg #[.slice none 0 0,.slice none 0 0])] u18_3 [1,2,4]
abbrev u18_1:=qS [oX 2 0,oW 4 (.agg #[.slice none 0 0,.slice none 0 0])] u18_2 [0,1]
def u18:IFn:=⟨55,u18_1,[.cell 4 2 true]⟩
end
section
abbrev u8_7:=qS [oC 21 14 [],oM 2 21] .ret []
abbrev u8_6:=qK u8_7 .skip (.t 20) [3,20]
abbrev u8_5:=qS [oM 19 5,oK 20 19 .neq 0] u8_6 [3,5]
abbrev u8_4:=qS [oD 15 3 2,oC 16 17 [.t 15],oM 14 16,oE 17 14 0,oE 18 14 1,oM 4 17,oM 5 18] u8_5 [3]
abbrev u8_13:=qS [oV 2 (.bool false)] .ret []
abbrev u8_12:=qK u8_13 .skip (.t 38) [6,38]
abbrev u8_11:=qS [oM 31 8,oK 32 31 .neq 0,oM 33 32,oR 34 (.ld 2 true (.t 6)) 33,⟨some 35,.call 21 [.t 34],some (33,false)⟩,oR 36 (.len (.t 35)) 33,hK 37 36 33 .neq 0,oO 38 33 37] u8_12 [6,8]
abbrev u8_10:=qS [oD 27 6 2,oC 28 17 [.t 27],oM 26 28,oE 29 26 0,oE 30 26 1,oM 7 29,oM 8 30] u8_11 [6]
abbrev u8_19:=qK .skip (.exit 0) (.t 43) [6,9,43]
abbrev u8_18:=qS [oM 39 9,oF 40 6 0,oL 41 40,oH 42 41,oB 43 39 42 .lss] u8_19 [6,9]
abbrev u8_24:=qS [oV 2 (.bool false)] .ret []
abbrev u8_23:=qK u8_24 .skip (.t 60) [6,9,60]
abbrev u8_22:=qS [oM 59 11,oK 60 59 .neq 8] u8_23 [6,9,11]
abbrev u8_21:=qD [oD 47 6 2,oF 48 6 0,oL 49 48,oM 50 9,oA 51 49 50 4,oF 52 51 1,oL 53 52,⟨some 54,.new (.bsl 1 1 #[.string ⟨#[]⟩] [(0,.t 53)]),none⟩,oC 55 20 [.t 47,.t 54],oC 56 17 [.t 55],oM 46 56,oE 57 46 0,oE 58 46 1,oM 10 57,oM 11 58] u8_22 [(0,none),(1,none),(2,none),(3,none),(4,none),(5,none),(6,none),(7,none),(8,some []),(9,some []),(10,none),(11,none),(12,none),(13,some [12]),(14,some [])] 15 [6,9]
abbrev u8_25:=qE [oM 44 9,oK 45 44 .add 1,oM 9 45] [6,9]
abbrev u8_20:=qB u8_21 u8_25 1 [6,9]
abbrev u8_17:=qQ u8_18 u8_20 [6,9]
abbrev u8_16:=qJ (.loop u8_17) 0 [6,9]
abbrev u8_15:=qS [oI 9 0] u8_16 [6]
abbrev u8_26:=qS [oC 61 14 [],oM 2 61] .ret []
abbrev u8_14:=qQ u8_15 u8_26 [6]
abbrev u8_9:=qQ u8_10 u8_14 [6]
abbrev u8_8:=qD [oD 22 3 2,oD 23 3 2,oC 24 21 [.t 23],oC 25 20 [.t 22,.t 24],oW 6 (.agg #[.slice none 0 0,.slice none 0 0]),oS 6 25 2] u8_9 [(0,none),(1,none),(4,none),(2,some [0,4]),(3,some [4]),(5,some [])] 6 [3]
abbrev u8_3:=qQ u8_4 u8_8 [3]
abbrev u8_2:=qS [oM 12 0,oC 13 13 [.t 12,.k (.int .u8 0)],oW 3 (.agg #[.slice none 0 0,.slice none 0 0]),oS 3 13 2] u8_3 [0]
abbrev u8_1:=qS [oV 2 (.bool false)] u8_2 [0]
def u8:IFn:=⟨62,u8_1,[.tmp 2]⟩
end
section
abbrev u9_3:=qS [oM 11 4,oK 12 11 .eql 0,oM 13 12,⟨some 14,.call 14 [],some (13,true)⟩,oJ 15 13 14,oM 2 15] .ret [4]
abbrev u9_2:=qS [oM 6 0,oC 7 13 [.t 6,.k (.int .u8 0)],oC 8 17 [.t 7],oM 5 8,oE 9 5 0,oE 10 5 1,oM 3 9,oM 4 10] u9_3 [0]
abbrev u9_1:=qS [oV 2 (.bool false)] u9_2 [0]
def u9:IFn:=⟨16,u9_1,[.tmp 2]⟩
end
theorem isU9:A3 Tryz.prog 9 u9:=by unfold A3;kernel_rfl
end Go.Proofs.YtnmkkggfgdfmeaaGreatDoor
set_option maxHeartbeats 8000000
namespace Go.Proofs.YtnmkkggfgdfmeaaGreatDoor
open Go.Eng (IC IOper DReg IFn A3)
open Go.Sym Go.Pb
def lit1:List UInt8:=[108,97,109,112,32,108,32,51,59,32,109,111,100,101,32,109,32,49,32,123,32,111,110,32,115,116,97,114,116,32,123,32,115,99,111,114,101,32,108,59,32,125,32,125]
def lit2:List UInt8:=[108,97,109,112,32,108,32,51,59,32,118,97,114,32,118,32,48,59,32,109,111,100,101,32,109,32,49,32,123,32,111,110,32,115,116,97,114,116,32,123,32,108,105,103,104,116,32,108,32,56,59,32,125,32,125]
def ru1:Ru:=⟨[⟨3,[108],3,0⟩],[⟨[109],1,[⟨1,[],[.mk 4 [] [] [.mk 2 0 [108] [] 38] [] [] 32],21⟩],10⟩]⟩
def ru2:Ru:=⟨[⟨3,[108],3,0⟩,⟨6,[118],0,10⟩],[⟨[109],1,[⟨1,[],[.mk 8 [108] [] [.mk 1 8 [] [] 49] [] [] 41],30⟩],19⟩]⟩
theorem par_of {s:List UInt8} {L:List Tok} {r:Ru} {i:Nat} {p o q:Int} (h1:D5 s=(L,0,0)) (N:Nat) (h2:∀ n,A2j L s.length (n+N) rd0=some (r,⟨i,0,p,o,q⟩)):K5 s=(r,0,0):=by
 have hE:Evt (fun f=>A2j L s.length f rd0) (r,⟨i,0,p,o,q⟩):=⟨N,fun f hf=>by
  obtain ⟨n,rfl⟩:∃ n,f=n+N:=⟨f-N,by omega⟩;exact h2 n⟩
 have hr:=Evt.uniq (A3t L s.length) hE;unfold K5;dsimp only;rw [h1];dsimp only;rw [if_neg (by decide),hr,if_neg (by show ¬ ((0:Int) == 0)=false;decide)]
theorem par1:K5 lit1=(ru1,0,0):=par_of (L:=(D5 lit1).1) (by decide +kernel) 40 (fun n=>rfl)
theorem par2:K5 lit2=(ru2,0,0):=par_of (L:=(D5 lit2).1) (by decide +kernel) 40 (fun n=>rfl)
theorem chk1:chkV ru1=.tup [I64 38,I64 44]:=by rfl
theorem chk2:chkV ru2=.tup [I64 0,I64 0]:=by rfl
theorem unu2:unuV ru2=.lst [.str [118]]:=by rfl
theorem lok2:lokV ru2 [108]=.tup [I64 3,I64 3]:=by rfl
theorem c_sane:PC Tryz.prog 14 [] (.bool true):=by
 have p1:=c_Parse lit1 (by decide);have p2:=c_Parse lit2 (by decide);rw [par1] at p1;rw [par2] at p2;have k1:=c_Check32 ru1 (by decide);have k2:=c_Check32 ru2 (by decide);rw [chk1] at k1;rw [chk2] at k2;have u2:=c_Unused32 ru2 (by decide);rw [unu2] at u2;have l2:=c_Lookup32 ru2 [108] (by decide);rw [lok2] at l2;dsimp only [parV] at p1 p2;have e1:ru1.v=.agg [H4 ru1.decls,I5 ru1.modes]:=rfl;have e2:ru2.v=.agg [H4 ru2.decls,I5 ru2.modes]:=rfl;rw [e1] at p1 k1;rw [e2] at p2 k2 u2 l2;generalize ru1.decls.map Dc.v=d1 at *;generalize ru1.modes.map Md.v=m1 at *;generalize ru2.decls.map Dc.v=d2 at *;generalize ru2.modes.map Md.v=m2 at *;unfold lit1 at p1;unfold lit2 at p2;refine PC.of A6 isU14 (Nat.le_of_ble_eq_true rfl) (by simp [DV.nlL,DV.nl]) (by simp [DV.nlL,DV.nl]) ?_;show IW Tryz.prog 70 u14_1 ⟨B4 _,_,_⟩ (rt [.tmp 0] _);repeat' ((with_reducible first|apply wr|refine cpc p1 ?_|refine cpc p2 ?_|refine cpc k1 ?_|refine cpc k2 ?_|refine cpc u2 ?_|refine cpc l2 ?_|fail)<;>try simp only [go_sem,seval])
 all_goals exact A4 rfl
end Go.Proofs.YtnmkkggfgdfmeaaGreatDoor
namespace Go.Pb
variable [Go.Sym.Tab]
open Go.Sym
def nxK (L:List UInt8) (n i:Nat):Nat × Nat:=if h:i<L.length then ((L[i]).toNat % n,i+1) else (0,i)
def W0:List (List UInt8):=[[115,119,48],[99,111,105,108,48],[108,97,109,112,48],[118,48],[116,109,48],[101,118,48],[109,111,100,101,48],[110,111,110,101],[115,110,100,48],[115,104,111,119,48]]
def nmK (L:List UInt8) (w:Nat) (p:List UInt8) (n i:Nat):List UInt8 × Nat :=
 let a:=nxK L w i
 if 0<w/\a.1+1=w then
  let b:=nxK L 10 a.2
  (W0.getD b.1 [],b.2)
 else
  let b:=nxK L n (if 0<w then a.2 else i)
  (p++N7 (b.1:Int),b.2)
theorem J0 (L:List UInt8) {n:Nat} (i:Nat) (h:0<n):(nxK L n i).1<n:=by
 unfold nxK;split
 ·exact Nat.mod_lt _ h
 ·exact h
abbrev Mk:=List UInt8 × Nat
def bigL:List (List UInt8):=[[50,49,52,55,52,56,51,54,52,55],[49,48,48,48,48,48,48],[54,53,53,51,54],[49,48,48,48,48,48]]
def aopL:List (List UInt8):=[[43],[45],[42],[47],[37]]
def copL:List (List UInt8):=[[60],[60,61],[62],[62,61],[61,61],[33,61]]
def bl0 (L:List UInt8) (w i:Nat):Mk :=
 let k:=nxK L 5 i
 if k.1=0 then ([116,114,117,101],k.2)
 else if k.1=1 then ([102,97,108,115,101],k.2)
 else if k.1=2 then let a:=nmK L w [109,111,100,101] 3 k.2;([97,99,116,105,118,101,32]++a.1,a.2)
 else let a:=nmK L w [115,119] 4 k.2;([99,108,111,115,101,100,32]++a.1,a.2)
def in1 (L:List UInt8) (w i:Nat):Mk :=
 let k:=nxK L 7 i
 if k.1=0\/k.1=1 then nmK L w [118] 3 k.2
 else if k.1=2 then ([112,108,97,121,101,114],k.2)
 else if k.1=3 then ([98,97,108,108],k.2)
 else if k.1=4 then let a:=nmK L w [116,109] 2 k.2;([108,101,102,116,32]++a.1,a.2)
 else if k.1=5 then let j:=nxK L 4 k.2;(bigL.getD j.1 [],j.2)
 else let j:=nxK L 12 k.2;(N7 (j.1:Int),j.2)
def wlK (L:List UInt8) (w:Nat) (f g:Nat->Mk) (i:Nat):Mk :=
 let k:=nxK L (4 * w) i
 if 0<w/\k.1=1 then f k.2 else g (if 0<w then k.2 else i)
def in0 (L:List UInt8) (w:Nat):Nat->Mk:=wlK L w (bl0 L w) (in1 L w)
mutual
def inK (L:List UInt8) (w:Nat):Nat->Nat->Mk
 | 0,i=>in0 L w i
 | d+1,i=>wlK L w (blK L w d) (fun i =>
   let k:=nxK L 5 i
   if k.1=0 then in0 L w k.2
   else if k.1=1 then let a:=in0 L w k.2;([45]++a.1,a.2)
   else
    let a:=inK L w d k.2
    let c:=inK L w d a.2
    let o:=nxK L 5 c.2
    (((((([40]++a.1)++[32])++aopL.getD o.1 [])++[32])++c.1)++[41],o.2)) i
def blK (L:List UInt8) (w:Nat):Nat->Nat->Mk
 | 0,i=>bl0 L w i
 | d+1,i =>
  let k:=nxK L 6 i
  if k.1=0 then let a:=bl0 L w k.2;([33]++a.1,a.2)
  else if k.1=1 then
   let a:=blK L w d k.2
   let c:=blK L w d a.2
   (((([40]++a.1)++[32,38,38,32])++c.1)++[41],c.2)
  else if k.1=2 then
   let a:=blK L w d k.2
   let c:=blK L w d a.2
   (((([40]++a.1)++[32,124,124,32])++c.1)++[41],c.2)
  else
   let a:=inK L w d k.2
   let o:=nxK L 6 a.2
   let c:=inK L w d o.2
   (((a.1++[32])++copL.getD o.1 [])++[32]++c.1,c.2)
end
end Go.Pb
namespace Go.Proofs.YtnmkkggfgdfmeaaGreatDoor
open Go.Eng (IC IOper DReg IFn A3)
open Go.Sym Go.Pb
abbrev mkB (L:List UInt8) (w i:Nat):Blk:=⟨0,true,[.lst (bytesC L),I64 i,I64 w]⟩
theorem bytesC_get {L:List UInt8} {i:Nat} {b:UInt8} (h:L[i]? = some b):(bytesC L)[i]? = some (.int .u8 (b.toNat:Int)):=by
 simp [bytesC,h]
theorem c_Next (L:List UInt8) (hL:L.length<=300) (w i:Nat) (hi:i<=300) (n:Nat) (hn:0<n) (hn2:n<=1000) (H:Hp) (cc t:Nat) (ht:H t=some (mkB L w i)) (htc:t<cc) :
  AC Tryz.prog 53 [.ptr t 0,I64 n] H cc (fun v H' c'=>v=I64 (nxK L n i).1/\H'=H.upd t (mkB L w (nxK L n i).2)):=by
 refine AC.body A6 isU53 (Nat.le_of_ble_eq_true rfl) fun hfr=>?_;show IW Tryz.prog 36 u53_1 ⟨B4 _,_,_⟩ (rt [.tmp 4] _);have hlen:(bytesC L).length=L.length:=by simp [bytesC]
 unfold nxK;by_cases hlt:i<L.length
 ·have hd:decide ((i:Int)≥L.length)=false:=by simp;omega
  have hg:=bytesC_get (List.getElem?_eq_getElem hlt);rw [dif_pos hlt];generalize L[i]=b at hg;have hw:=w64 (n:=(i:Int)+1) (by omega) (by omega);have hw3:IntKind.i64.wrap ((i:Int)+1-1)=(i:Int):=by rw [w64 (by omega) (by omega)];omega
  have hb:=b.toNat_lt;have hw4:=w64 (n:=(b.toNat:Int)) (by omega) (by omega);have hrm:binR .rem (.int .i64 (b.toNat:Int)) (I64 (n:Int))=some (I64 ((b.toNat % n:Nat):Int)):=by
   rw [A5p (by omega)];rfl
  repeat' ((with_reducible apply wr)<;>try simp only [go_sem,seval,ht,hd,hg,hw,hw3,hw4,hrm,hlen,A0,A1])
  exact ⟨_,_,GL.refl _ _,rfl,rfl⟩
 ·have hd:decide ((i:Int)≥L.length)=true:=by simp;omega
  rw [dif_neg hlt];repeat' ((with_reducible apply wr)<;>try simp only [go_sem,seval,ht,hd,hlen,A0,A1])
  exact ⟨_,_,GL.refl _ _,rfl,(upd_same ht).symm⟩
theorem E1 {L:List UInt8} (hL:L.length<=300) {n i:Nat} (hi:i<=300):(nxK L n i).2<=300:=by
 unfold nxK;split<;>simp<;>omega
theorem c_name32 (L:List UInt8) (hL:L.length<=300) (w i:Nat) (hw:w<=100) (hi:i<=300) (p:List UInt8) (hp:p.length<=100) (n:Nat) (hn:0<n) (hn2:n<=1000) (H:Hp) (cc t:Nat) (ht:H t=some (mkB L w i)) (htc:t<cc) :
  AC Tryz.prog 54 [.ptr t 0,.str p,I64 n] H cc (fun v H' c'=>v=.str (nmK L w p n i).1/\H'=H.upd t (mkB L w (nmK L w p n i).2)):=by
 refine AC.body A6 isU54 (Nat.le_of_ble_eq_true rfl) fun hfr=>?_;show IW Tryz.prog 37 u54_1 ⟨B4 _,_,_⟩ (rt [.tmp 6] _);unfold nmK;by_cases h0:0<w
 ·have q0:decide ((w:Int)>0)=true:=by simpa using h0
  repeat' ((with_reducible apply wr)<;>try simp only [go_sem,seval,ht,q0,A0,A1])
  refine AC.call (c_Next L hL w i hi w h0 (by omega) _ _ t ht (by omega)) ?_;rintro v' H' c2 ⟨rfl,rfl⟩ hc2;have hi2:=E1 hL (n:=w) hi;have hw1:=w64 (n:=(w:Int)-1) (by omega) (by omega);simp only [go_sem,seval,A0,A1];repeat' ((with_reducible apply wr)<;>try simp only [go_sem,seval,A0,A1,hw1])
  refine ⟨by and_intros<;>(rw [A2 (by omega)];exact hfr _ (by omega)),?_⟩;by_cases hq:(nxK L w i).1+1=w
  ·have qq:(((nxK L w i).1:Int) == IntKind.i64.wrap ((w:Int)-1))=true:=by rw [hw1];simp;omega
   rw [if_pos ⟨h0,hq⟩];repeat' ((with_reducible apply wr)<;>try simp only [go_sem,seval,A0,A1,qq])
   refine AC.call (c_Next L hL w _ hi2 10 (by decide) (by decide) _ _ t (by rw [A2 (by omega)];exact A0) (by omega)) ?_;rintro v' H' c3 ⟨rfl,rfl⟩ hc3;have hlt:=J0 L (nxK L w i).2 (n:=10) (by decide);generalize (nxK L 10 (nxK L w i).2)=kq at hlt ⊢;obtain ⟨k,i3⟩:=kq;dsimp only at hlt ⊢;have hia:N0 1 (.slc c2 0 10) (I64 (k:Int))=some (.ptr c2 k):=by simp [N0];omega
   have hld:([.str [115,119,48],.str [99,111,105,108,48],.str [108,97,109,112,48],.str [118,48],.str [116,109,48],.str [101,118,48],.str [109,111,100,101,48],.str [110,111,110,101],.str [115,110,100,48],.str [115,104,111,119,48]]:List DV)[k]? = some (.str (W0.getD k [])):=by
    match k,hlt with
    | 0,_=>rfl
    | 1,_=>rfl
    | 2,_=>rfl
    | 3,_=>rfl
    | 4,_=>rfl
    | 5,_=>rfl
    | 6,_=>rfl
    | 7,_=>rfl
    | 8,_=>rfl
    | 9,_=>rfl
   have ne0:=M8 t c2 (by omega);generalize hWL:([.str [115,119,48],.str [99,111,105,108,48],.str [108,97,109,112,48],.str [118,48],.str [116,109,48],.str [101,118,48],.str [109,111,100,101,48],.str [110,111,110,101],.str [115,110,100,48],.str [115,104,111,119,48]]:List DV)=WL at hld ⊢;simp only [go_sem,seval,A0,A1,ne0,hia,hld];repeat' ((with_reducible apply wr)<;>try simp only [go_sem,seval,A0,A1,ne0,hia,hld])
   refine ⟨_,_,GL.less' (fun j b hj=>?_),rfl,rfl⟩;by_cases e:j=t
   ·subst e;rw [A0] at hj ⊢;exact hj
   ·rw [A2 e] at hj;have:j≠c2:=by rintro rfl;rw [hfr _ (by omega)] at hj;cases hj
    rw [A2 e,A2 this,A2 e];exact hj
  ·have qq:(((nxK L w i).1:Int) == IntKind.i64.wrap ((w:Int)-1))=false:=by rw [hw1];simp;omega
   rw [if_neg (fun h=>hq h.2),if_pos h0];repeat' ((with_reducible apply wr)<;>try simp only [go_sem,seval,A0,A1,qq])
   refine AC.call (c_Next L hL w _ hi2 n hn hn2 _ _ t A0 (by omega)) ?_;rintro v' H' c3 ⟨rfl,rfl⟩ hc3;have hlt:=J0 L (nxK L w i).2 hn;have hdc:=c_Dec' ((nxK L n (nxK L w i).2).1:Int) (by omega) (by omega);have hdl:=O4 (n:=((nxK L n (nxK L w i).2).1:Int)) (by omega) (by omega);have hadd:=L5 (s:=p) (t:=N7 ((nxK L n (nxK L w i).2).1:Int)) (by omega);simp only [go_sem,seval,A1];repeat' ((with_reducible first|apply wr|refine cpc hdc ?_|fail)<;>try simp only [go_sem,seval,A0,A1,hadd])
   exact ⟨_,_,GL.refl _ _,rfl,rfl⟩
 ·have q0:decide ((w:Int)>0)=false:=by simpa using h0
  rw [if_neg (fun h=>h0 h.1),if_neg h0];repeat' ((with_reducible apply wr)<;>try simp only [go_sem,seval,ht,q0,A0,A1])
  refine ⟨by and_intros<;>exact hfr _ (by omega),?_⟩;repeat' ((with_reducible apply wr)<;>try simp only [go_sem,seval,ht,q0,A0,A1])
  refine AC.call (c_Next L hL w i hi n hn hn2 _ _ t ht (by omega)) ?_;rintro v' H' c2 ⟨rfl,rfl⟩ hc2;have hlt:=J0 L i hn;have hdc:=c_Dec' ((nxK L n i).1:Int) (by omega) (by omega);have hdl:=O4 (n:=((nxK L n i).1:Int)) (by omega) (by omega);have hadd:=L5 (s:=p) (t:=N7 ((nxK L n i).1:Int)) (by omega);simp only [go_sem,seval];repeat' ((with_reducible first|apply wr|refine cpc hdc ?_|fail)<;>try simp only [go_sem,seval,A0,A1,hadd])
  exact ⟨_,_,GL.refl _ _,rfl,rfl⟩
theorem A0z {L:List UInt8} (hL:L.length<=300) {w n i:Nat} {p:List UInt8} (hi:i<=300):(nmK L w p n i).2<=300:=by
 unfold nmK;dsimp only;split
 ·exact E1 hL (E1 hL hi)
 ·split
  ·exact E1 hL (E1 hL hi)
  ·exact E1 hL hi
theorem R6 {L:List UInt8} {w n i:Nat} {p:List UInt8} (hn:0<n) (hn2:n<=1000):(nmK L w p n i).1.length<=p.length+100:=by
 unfold nmK;dsimp only;split
 ·have:=J0 L (nxK L w i).2 (n:=10) (by decide);generalize (nxK L 10 (nxK L w i).2).1=k at this
  match k,this with
  | 0,_=>simp [W0]
  | 1,_=>simp [W0]
  | 2,_=>simp [W0]
  | 3,_=>simp [W0]
  | 4,_=>simp [W0]
  | 5,_=>simp [W0]
  | 6,_=>simp [W0]
  | 7,_=>simp [W0]
  | 8,_=>simp [W0]
  | 9,_=>simp [W0]
 ·have:=J0 L (if 0<w then (nxK L w i).2 else i) hn;have h:=O4 (n:=((nxK L n (if 0<w then (nxK L w i).2 else i)).1:Int)) (by omega) (by omega);rw [List.length_append];omega
theorem c_bl0 (L:List UInt8) (hL:L.length<=300) (w:Nat) (hw:w<=100) (i:Nat) (hi:i<=300) (d:Int) (hd:d<=0) (H:Hp) (cc t:Nat) (ht:H t=some (mkB L w i)) (htc:t<cc) :
  AC Tryz.prog 25 [.ptr t 0,I64 d] H cc (fun v H' c'=>v=.str (bl0 L w i).1/\H'=H.upd t (mkB L w (bl0 L w i).2)):=by
 refine AC.body A6 isU25 (Nat.le_of_ble_eq_true rfl) fun hfr=>?_;show IW Tryz.prog 79 u25_1 ⟨B4 _,_,_⟩ (rt [.tmp 4] _);have qd:decide (d<=0)=true:=by simpa using hd
 unfold bl0;repeat' ((with_reducible apply wr)<;>try simp only [go_sem,seval,qd])
 refine AC.call (c_Next L hL w i hi 5 (by decide) (by decide) _ _ t ht (by omega)) ?_;rintro v' H' c2 ⟨rfl,rfl⟩ hc2;have hi2:=E1 hL (n:=5) hi;generalize nxK L 5 i=k at hi2 ⊢;obtain ⟨k,i2⟩:=k;dsimp only at hi2 ⊢;by_cases k0:k=0
 ·subst k0;simp only [go_sem,seval];repeat' ((with_reducible apply wr)<;>try simp only [go_sem,seval])
  exact ⟨_,_,GL.refl _ _,rfl,rfl⟩
 have q0:((k:Int) == 0)=false:=by simpa using k0
 rw [if_neg k0];by_cases k1:k=1
 ·subst k1;simp only [go_sem,seval];repeat' ((with_reducible apply wr)<;>try simp only [go_sem,seval])
  exact ⟨_,_,GL.refl _ _,rfl,rfl⟩
 have q1:((k:Int) == 1)=false:=by simp;omega
 rw [if_neg k1];by_cases k2:k=2
 ·subst k2;rw [if_pos rfl];simp only [go_sem,seval];repeat' ((with_reducible apply wr)<;>try simp only [go_sem,seval])
  refine AC.call (c_name32 L hL w i2 hw hi2 [109,111,100,101] (by decide) 3 (by decide) (by decide) _ _ t A0 (by omega)) ?_;rintro v' H' c3 ⟨rfl,rfl⟩ hc3;have hl:=R6 (L:=L) (w:=w) (i:=i2) (p:=[109,111,100,101]) (n:=3) (by decide) (by decide);generalize nmK L w [109,111,100,101] 3 i2=a at hl ⊢;have hadd:=L5 (s:=[97,99,116,105,118,101,32]) (t:=a.1) (by simp at hl ⊢;omega);simp only [go_sem,seval,A1,hadd];repeat' ((with_reducible apply wr)<;>try simp only [go_sem,seval,A1,hadd])
  exact ⟨_,_,GL.refl _ _,rfl,rfl⟩
 have q2:((k:Int) == 2)=false:=by simp;omega
 rw [if_neg k2];simp only [go_sem,seval,q0,q1,q2];repeat' ((with_reducible apply wr)<;>try simp only [go_sem,seval,q0,q1,q2])
 refine AC.call (c_name32 L hL w i2 hw hi2 [115,119] (by decide) 4 (by decide) (by decide) _ _ t A0 (by omega)) ?_;rintro v' H' c3 ⟨rfl,rfl⟩ hc3;have hl:=R6 (L:=L) (w:=w) (i:=i2) (p:=[115,119]) (n:=4) (by decide) (by decide);generalize nmK L w [115,119] 4 i2=a at hl ⊢;have hadd:=L5 (s:=[99,108,111,115,101,100,32]) (t:=a.1) (by simp at hl ⊢;omega);simp only [go_sem,seval,A1,hadd];repeat' ((with_reducible apply wr)<;>try simp only [go_sem,seval,A1,hadd])
 exact ⟨_,_,GL.refl _ _,rfl,rfl⟩
theorem Z0 {H:Hp} {cc t c2:Nat} {b0 b1 b:Blk} {ds:List DV} (hfr:∀ i,cc<=i->H i=none) (htc:t<cc) (hc:cc<=c2):GL (((H.upd t b0).upd c2 b1).upd t b) ds (H.upd t b) ds:=GL.less' fun j q hj=>by
 by_cases e:j=t
 ·subst e;rw [A0] at hj ⊢;exact hj
 ·rw [A2 e] at hj;have:j≠c2:=by rintro rfl;rw [hfr _ (by omega)] at hj;cases hj
  rw [A2 e,A2 this,A2 e];exact hj
theorem c_in0 (L:List UInt8) (hL:L.length<=300) (w:Nat) (hw:w<=100) (i:Nat) (hi:i<=300) (d:Int) (hd:d<=0) (hd2 : -1000<=d) (H:Hp) (cc t:Nat) (ht:H t=some (mkB L w i)) (htc:t<cc) :
  AC Tryz.prog 24 [.ptr t 0,I64 d] H cc (fun v H' c'=>v=.str (in0 L w i).1/\H'=H.upd t (mkB L w (in0 L w i).2)):=by
 refine AC.body A6 isU24 (Nat.le_of_ble_eq_true rfl) fun hfr=>?_;show IW Tryz.prog 86 u24_1 ⟨B4 _,_,_⟩ (rt [.tmp 4] _);have qd:decide (d<=0)=true:=by simpa using hd
 have kI:∀ (j c0:Nat),j<=300->cc<=c0->IW Tryz.prog 86 u24_6 ⟨tm [(0,.ptr t 0),(1,I64 d)],H.upd t (mkB L w j),c0⟩ (rt [.tmp 4] fun v H' c' => ∃ v2 H2,GL H' [v] H2 [v2]/\v2=.str (in1 L w j).1/\H2=H.upd t (mkB L w (in1 L w j).2)):=by
  intro j c0 hj hc0;unfold in1;repeat' ((with_reducible apply wr)<;>try simp only [go_sem,seval,qd])
  refine AC.call (c_Next L hL w j hj 7 (by decide) (by decide) _ _ t A0 (by omega)) ?_;rintro v' H' c2 ⟨rfl,rfl⟩ hc2;rw [A1];have hi2:=E1 hL (n:=7) hj;generalize nxK L 7 j=k at hi2 ⊢;obtain ⟨k,i2⟩:=k;dsimp only at hi2 ⊢;by_cases k0:k=0
  ·subst k0;rw [if_pos (.inl rfl)];simp only [go_sem,seval];repeat' ((with_reducible apply wr)<;>try simp only [go_sem,seval])
   refine AC.call (c_name32 L hL w i2 hw hi2 [118] (by decide) 3 (by decide) (by decide) _ _ t A0 (by omega)) ?_;rintro v' H' c3 ⟨rfl,rfl⟩ hc3;rw [A1];simp only [go_sem,seval];repeat' ((with_reducible apply wr)<;>try simp only [go_sem,seval])
   exact ⟨_,_,GL.refl _ _,rfl,rfl⟩
  have q0:((k:Int) == 0)=false:=by simpa using k0
  by_cases k1:k=1
  ·subst k1;rw [if_pos (.inr rfl)];simp only [go_sem,seval];repeat' ((with_reducible apply wr)<;>try simp only [go_sem,seval])
   refine AC.call (c_name32 L hL w i2 hw hi2 [118] (by decide) 3 (by decide) (by decide) _ _ t A0 (by omega)) ?_;rintro v' H' c3 ⟨rfl,rfl⟩ hc3;rw [A1];simp only [go_sem,seval];repeat' ((with_reducible apply wr)<;>try simp only [go_sem,seval])
   exact ⟨_,_,GL.refl _ _,rfl,rfl⟩
  have q1:((k:Int) == 1)=false:=by simp;omega
  rw [if_neg (by omega)];by_cases k2:k=2
  ·subst k2;simp only [go_sem,seval];repeat' ((with_reducible apply wr)<;>try simp only [go_sem,seval])
   exact ⟨_,_,GL.refl _ _,rfl,rfl⟩
  have q2:((k:Int) == 2)=false:=by simp;omega
  rw [if_neg k2];by_cases k3:k=3
  ·subst k3;simp only [go_sem,seval];repeat' ((with_reducible apply wr)<;>try simp only [go_sem,seval])
   exact ⟨_,_,GL.refl _ _,rfl,rfl⟩
  have q3:((k:Int) == 3)=false:=by simp;omega
  rw [if_neg k3];by_cases k4:k=4
  ·subst k4;rw [if_pos rfl];simp only [go_sem,seval];repeat' ((with_reducible apply wr)<;>try simp only [go_sem,seval])
   refine AC.call (c_name32 L hL w i2 hw hi2 [116,109] (by decide) 2 (by decide) (by decide) _ _ t A0 (by omega)) ?_;rintro v' H' c3 ⟨rfl,rfl⟩ hc3;have hl:=R6 (L:=L) (w:=w) (i:=i2) (p:=[116,109]) (n:=2) (by decide) (by decide);generalize nmK L w [116,109] 2 i2=a at hl ⊢;have hadd:=L5 (s:=[108,101,102,116,32]) (t:=a.1) (by simp at hl ⊢;omega);simp only [go_sem,seval,A1,hadd];repeat' ((with_reducible apply wr)<;>try simp only [go_sem,seval,A1,hadd])
   exact ⟨_,_,GL.refl _ _,rfl,rfl⟩
  have q4:((k:Int) == 4)=false:=by simp;omega
  rw [if_neg k4];by_cases k5:k=5
  ·subst k5;rw [if_pos rfl];simp only [go_sem,seval];repeat' ((with_reducible apply wr)<;>try simp only [go_sem,seval])
   refine AC.call (c_Next L hL w i2 hi2 4 (by decide) (by decide) _ _ t (by rw [A2 (by omega)];exact A0) (by omega)) ?_;rintro v' H' c3 ⟨rfl,rfl⟩ hc3;have hlt:=J0 L i2 (n:=4) (by decide);generalize (nxK L 4 i2)=kq at hlt ⊢;obtain ⟨k,i3⟩:=kq;dsimp only at hlt ⊢;have hia:N0 1 (.slc c2 0 4) (I64 (k:Int))=some (.ptr c2 k):=by simp [N0];omega
   have hld:([.str [50,49,52,55,52,56,51,54,52,55],.str [49,48,48,48,48,48,48],.str [54,53,53,51,54],.str [49,48,48,48,48,48]]:List DV)[k]? = some (.str (bigL.getD k [])):=by
    match k,hlt with
    | 0,_=>rfl
    | 1,_=>rfl
    | 2,_=>rfl
    | 3,_=>rfl
   have ne0:=M8 t c2 (by omega);generalize hWL:([.str [50,49,52,55,52,56,51,54,52,55],.str [49,48,48,48,48,48,48],.str [54,53,53,51,54],.str [49,48,48,48,48,48]]:List DV)=WL at hld ⊢;simp only [go_sem,seval,A0,A1,ne0,hia,hld];repeat' ((with_reducible apply wr)<;>try simp only [go_sem,seval,A0,A1,ne0,hia,hld])
   exact ⟨_,_,Z0 hfr htc (by omega),rfl,rfl⟩
  have q5:((k:Int) == 5)=false:=by simp;omega
  rw [if_neg k5];simp only [go_sem,seval,q0,q1,q2,q3,q4,q5];repeat' ((with_reducible apply wr)<;>try simp only [go_sem,seval,q0,q1,q2,q3,q4,q5])
  refine AC.call (c_Next L hL w i2 hi2 12 (by decide) (by decide) _ _ t A0 (by omega)) ?_;rintro v' H' c3 ⟨rfl,rfl⟩ hc3;rw [A1];have hlt:=J0 L i2 (n:=12) (by decide);have hdc:=c_Dec' ((nxK L 12 i2).1:Int) (by omega) (by omega);simp only [go_sem,seval];repeat' ((with_reducible first|apply wr|refine cpc hdc ?_|fail)<;>try simp only [go_sem,seval])
  exact ⟨_,_,GL.refl _ _,rfl,rfl⟩
 unfold in0 wlK;by_cases h0:0<w
 ·have q0:decide ((w:Int)>0)=true:=by simpa using h0
  have hw4:IntKind.i64.wrap (4 * (w:Int))=((4 * w:Nat):Int):=by rw [w64 (by omega) (by omega)];omega
  repeat' ((with_reducible apply wr)<;>try simp only [go_sem,seval,ht,q0,hw4])
  refine AC.call (c_Next L hL w i hi (4 * w) (by omega) (by omega) _ _ t ht (by omega)) ?_;rintro v' H' c2 ⟨rfl,rfl⟩ hc2;have hi2:=E1 hL (n:=4 * w) hi;generalize nxK L (4 * w) i=k at hi2 ⊢;obtain ⟨k,i2⟩:=k;dsimp only at hi2 ⊢;by_cases k1:k=1
  ·subst k1;rw [if_pos ⟨h0,rfl⟩];have hw1:=w64 (n:=d-1) (by omega) (by omega);simp only [go_sem,seval];repeat' ((with_reducible apply wr)<;>try simp only [go_sem,seval,hw1])
   refine AC.call (c_bl0 L hL w hw i2 hi2 (d-1) (by omega) _ _ t A0 (by omega)) ?_;rintro v' H' c3 ⟨rfl,rfl⟩ hc3;rw [A1];simp only [go_sem,seval];repeat' ((with_reducible apply wr)<;>try simp only [go_sem,seval])
   exact ⟨_,_,GL.refl _ _,rfl,rfl⟩
  have q1:((k:Int) == 1)=false:=by simp;omega
  rw [if_neg (fun h=>k1 h.2),if_pos h0];simp only [go_sem,seval,q1];repeat' ((with_reducible first|refine G1 (p:=IW _ _ u24_6 _ _) ?_|refine wr ?_|fail)<;>try simp only [go_sem,seval,q1])
  exact IW.stage (by simp [C1,tm,Tm.upd]) (kI i2 _ hi2 hc2)
 ·have q0:decide ((w:Int)>0)=false:=by simpa using h0
  rw [if_neg (fun h=>h0 h.1),if_neg h0];have hHt:H=H.upd t (mkB L w i):=(upd_same ht).symm;repeat' ((with_reducible first|refine G1 (p:=IW _ _ u24_6 _ _) ?_|refine wr ?_|fail)<;>try simp only [go_sem,seval,ht,q0])
  have:=kI i cc hi (Nat.le_refl _);rw [upd_same ht] at this;exact IW.stage (by simp [C1,tm,Tm.upd]) this
def lnB:Nat->Nat
 | 0=>300
 | d+1=>2 * lnB d+300
theorem lnB_300 (d:Nat):300<=lnB d:=by cases d<;>simp only [lnB]<;>omega
def A4x (n:Nat) (f:Nat->Mk):Prop:=∀ i,i<=300->(f i).1.length<=n/\(f i).2<=300
theorem A6x {L:List UInt8} (hL:L.length<=300) (w:Nat):A4x 300 (bl0 L w):=by
 intro i hi;unfold bl0;dsimp only;have h2:=E1 hL (n:=5) hi;split
 ·exact ⟨by simp,h2⟩
 ·split
  ·exact ⟨by simp,h2⟩
  ·split
   ·have:=R6 (L:=L) (w:=w) (i:=(nxK L 5 i).2) (p:=[109,111,100,101]) (n:=3) (by decide) (by decide);exact ⟨by simp at this ⊢;omega,A0z hL h2⟩
   ·have:=R6 (L:=L) (w:=w) (i:=(nxK L 5 i).2) (p:=[115,119]) (n:=4) (by decide) (by decide);exact ⟨by simp at this ⊢;omega,A0z hL h2⟩
theorem K4 {l:List (List UInt8)} {n:Nat} (h:∀ x∈l,x.length<=n) (k:Nat):(l.getD k []).length<=n:=by
 rw [List.getD_eq_getElem?_getD];cases hk:l[k]? with
 | none=>simp
 | some x=>exact h x (List.mem_of_getElem? hk)
theorem ok_in1 {L:List UInt8} (hL:L.length<=300) (w:Nat):A4x 300 (in1 L w):=by
 intro i hi;unfold in1;dsimp only;have h2:=E1 hL (n:=7) hi;split
 ·have:=R6 (L:=L) (w:=w) (i:=(nxK L 7 i).2) (p:=[118]) (n:=3) (by decide) (by decide);exact ⟨by simp at this ⊢;omega,A0z hL h2⟩
 ·split
  ·exact ⟨by simp,h2⟩
  ·split
   ·exact ⟨by simp,h2⟩
   ·split
    ·have:=R6 (L:=L) (w:=w) (i:=(nxK L 7 i).2) (p:=[116,109]) (n:=2) (by decide) (by decide);exact ⟨by simp at this ⊢;omega,A0z hL h2⟩
    ·split
     ·exact ⟨Nat.le_trans (K4 (n:=300) (by decide) _) (by decide),E1 hL h2⟩
     ·have hlt:=J0 L (nxK L 7 i).2 (n:=12) (by decide);have h:=O4 (n:=((nxK L 12 (nxK L 7 i).2).1:Int)) (by omega) (by omega);exact ⟨Nat.le_trans h (by decide),E1 hL h2⟩
theorem ok_wl {L:List UInt8} (hL:L.length<=300) {w n:Nat} {f g:Nat->Mk} (hf:A4x n f) (hg:A4x n g):A4x n (wlK L w f g):=by
 intro i hi;unfold wlK;dsimp only;have h2:=E1 hL (n:=4 * w) hi;split
 ·exact hf _ h2
 ·split
  ·exact hg _ h2
  ·exact hg _ hi
theorem A4x.mono {n m:Nat} {f:Nat->Mk} (h:A4x n f) (hnm:n<=m):A4x m f:=fun i hi=>⟨Nat.le_trans (h i hi).1 hnm,(h i hi).2⟩
theorem A6w {L:List UInt8} (hL:L.length<=300) (w:Nat):A4x 300 (in0 L w):=ok_wl hL (A6x hL w) (ok_in1 hL w)
theorem A0w {L:List UInt8} (hL:L.length<=300) (w:Nat):∀ d,A4x (lnB d) (inK L w d)/\A4x (lnB d) (blK L w d)
 | 0=>⟨fun i hi=>by rw [inK];exact A6w hL w i hi,fun i hi=>by rw [blK];exact A6x hL w i hi⟩
 | d+1=>by
  obtain ⟨h1,h2⟩:=A0w hL w d;have h300:=lnB_300 d;have e:lnB (d+1)=2 * lnB d+300:=rfl;refine ⟨fun i hi=>?_,fun i hi=>?_⟩
  ·rw [inK];refine ok_wl hL (h2.mono (by omega)) (fun i hi=>?_) i hi;dsimp only;have hk:=E1 hL (n:=5) hi;split
   ·exact (A6w hL w).mono (by omega) _ hk
   ·split
    ·have:=A6w hL w _ hk;exact ⟨by simp;omega,this.2⟩
    ·have ha:=h1 _ hk;have hc:=h1 _ ha.2;refine ⟨?_,E1 hL hc.2⟩;have ho:=K4 (l:=aopL) (n:=5) (by decide) (nxK L 5 (inK L w d (inK L w d (nxK L 5 i).2).2).2).1;simp only [List.length_append,List.length_cons,List.length_nil];omega
  ·rw [blK];dsimp only;have hk:=E1 hL (n:=6) hi;split
   ·have:=A6x hL w _ hk;exact ⟨by simp;omega,this.2⟩
   ·split
    ·have ha:=h2 _ hk;have hc:=h2 _ ha.2;exact ⟨by simp only [List.length_append,List.length_cons,List.length_nil];omega,hc.2⟩
    ·split
     ·have ha:=h2 _ hk;have hc:=h2 _ ha.2;exact ⟨by simp only [List.length_append,List.length_cons,List.length_nil];omega,hc.2⟩
     ·have ha:=h1 _ hk;have ho:=E1 hL (n:=6) ha.2;have hc:=h1 _ ho;have hg:=K4 (l:=copL) (n:=5) (by decide) (nxK L 6 (inK L w d (nxK L 6 i).2).2).1;exact ⟨by simp only [List.length_append,List.length_cons,List.length_nil];omega,hc.2⟩
def InC (L:List UInt8) (w d:Nat):Prop:=∀ (i:Nat) (hi:i<=300) (H:Hp) (cc t:Nat) (ht:H t=some (mkB L w i)) (htc:t<cc),
  AC Tryz.prog 24 [.ptr t 0,I64 d] H cc (fun v H' c'=>v=.str (inK L w d i).1/\H'=H.upd t (mkB L w (inK L w d i).2))
def BlC (L:List UInt8) (w d:Nat):Prop:=∀ (i:Nat) (hi:i<=300) (H:Hp) (cc t:Nat) (ht:H t=some (mkB L w i)) (htc:t<cc),
  AC Tryz.prog 25 [.ptr t 0,I64 d] H cc (fun v H' c'=>v=.str (blK L w d i).1/\H'=H.upd t (mkB L w (blK L w d i).2))
theorem hide1 {G:Hp} {k t:Nat} {b:Blk} (h:¬ t=k):K8 (G.upd k b) [k] t=G t:=by
 simp only [K8];rw [if_neg (by simpa using h),A2 h]
theorem A3a {X:Hp} {k t:Nat} {B:Blk} (h:¬ t=k):G5 [k] X ((K8 X [k]).upd t B)=X.upd t B:=by
 funext j
 simp only [G5];by_cases e:j=k
 ·subst e;rw [if_pos (by simp),A2 (Ne.symm h)]
 ·rw [if_neg (by simpa using e)];by_cases e2:j=t
  ·subst e2;rw [A0,A0]
  ·rw [A2 e2,A2 e2];simp only [K8];rw [if_neg (by simpa using e)]
theorem c_bl1 (L:List UInt8) (hL:L.length<=300) (w:Nat) (hw:w<=100) (d:Nat) (hd:d<=10) (h1:InC L w d) (h2:BlC L w d):BlC L w (d+1):=by
 intro i hi H cc t ht htc;obtain ⟨o1,o2⟩:=A0w hL w d;have hB:lnB d<=1000000:=by
  have:∀ d,d<=10->lnB d<=1000000:=by decide
  exact this d hd
 refine AC.body A6 isU25 (Nat.le_of_ble_eq_true rfl) fun hfr=>?_;show IW Tryz.prog 79 u25_1 ⟨B4 _,_,_⟩ (rt [.tmp 4] _);have qd:decide (((d+1:Nat):Int)<=0)=false:=by simp<;>omega
 have hw1:IntKind.i64.wrap (((d+1:Nat):Int)-1)=(d:Int):=by rw [w64 (by omega) (by omega)];omega
 rw [blK];dsimp only;generalize hD:((d+1:Nat):Int)=D at qd hw1 ⊢;repeat' ((with_reducible apply wr)<;>try simp only [go_sem,seval,qd])
 refine AC.call (c_Next L hL w i hi 6 (by decide) (by decide) _ _ t ht (by omega)) ?_;rintro v' H' c2 ⟨rfl,rfl⟩ hc2;have hi2:=E1 hL (n:=6) hi;generalize nxK L 6 i=k at hi2 ⊢;obtain ⟨k,i2⟩:=k;dsimp only at hi2 ⊢;by_cases k0:k=0
 ·subst k0;rw [if_pos rfl];simp only [go_sem,seval];repeat' ((with_reducible apply wr)<;>try simp only [go_sem,seval])
  refine AC.call (c_bl0 L hL w hw i2 hi2 0 (by omega) _ _ t A0 (by omega)) ?_;rintro v' H' c3 ⟨rfl,rfl⟩ hc3;have hl:=(A6x hL w i2 hi2).1;have hadd:=L5 (s:=[33]) (t:=(bl0 L w i2).1) (by simp;omega);rw [A1];simp only [go_sem,seval,hadd];repeat' ((with_reducible apply wr)<;>try simp only [go_sem,seval,hadd])
  exact ⟨_,_,GL.refl _ _,rfl,rfl⟩
 have q0:((k:Int) == 0)=false:=by simpa using k0
 rw [if_neg k0];by_cases k1:k=1
 ·subst k1;rw [if_pos rfl];simp only [go_sem,seval];repeat' ((with_reducible apply wr)<;>try simp only [go_sem,seval,hw1])
  refine AC.call (h2 i2 hi2 _ _ t A0 (by omega)) ?_;rintro v' H' c3 ⟨rfl,rfl⟩ hc3;have hl:=o2 i2 hi2;generalize blK L w d i2=a at hl ⊢;have a1:=L5 (s:=[40]) (t:=a.1) (by simp;omega);have a2:=L5 (s:=40 :: a.1) (t:=[32,38,38,32]) (by simp;omega);rw [A1];simp only [go_sem,seval,a1,a2];repeat' ((with_reducible apply wr)<;>try simp only [go_sem,seval,hw1,a1,a2])
  refine AC.call (h2 a.2 hl.2 _ _ t A0 (by omega)) ?_;rintro v' H' c4 ⟨rfl,rfl⟩ hc4;have hl2:=o2 a.2 hl.2;generalize blK L w d a.2=c at hl2 ⊢;have a3:=L5 (s:=40 :: (a.1++[32,38,38,32])) (t:=c.1) (by simp;omega);have a4:=L5 (s:=40 :: (a.1++[32,38,38,32]++c.1)) (t:=[41]) (by simp;omega);rw [A1];simp only [go_sem,seval,a3,a4];repeat' ((with_reducible apply wr)<;>try simp only [go_sem,seval,a3,a4])
  refine ⟨_,_,GL.refl _ _,?_,rfl⟩;simp
 have q1:((k:Int) == 1)=false:=by simp;omega
 rw [if_neg k1];by_cases k2:k=2
 ·subst k2;rw [if_pos rfl];simp only [go_sem,seval];repeat' ((with_reducible apply wr)<;>try simp only [go_sem,seval,hw1])
  refine AC.call (h2 i2 hi2 _ _ t A0 (by omega)) ?_;rintro v' H' c3 ⟨rfl,rfl⟩ hc3;have hl:=o2 i2 hi2;generalize blK L w d i2=a at hl ⊢;have a1:=L5 (s:=[40]) (t:=a.1) (by simp;omega);have a2:=L5 (s:=40 :: a.1) (t:=[32,124,124,32]) (by simp;omega);rw [A1];simp only [go_sem,seval,a1,a2];repeat' ((with_reducible apply wr)<;>try simp only [go_sem,seval,hw1,a1,a2])
  refine AC.call (h2 a.2 hl.2 _ _ t A0 (by omega)) ?_;rintro v' H' c4 ⟨rfl,rfl⟩ hc4;have hl2:=o2 a.2 hl.2;generalize blK L w d a.2=c at hl2 ⊢;have a3:=L5 (s:=40 :: (a.1++[32,124,124,32])) (t:=c.1) (by simp;omega);have a4:=L5 (s:=40 :: (a.1++[32,124,124,32]++c.1)) (t:=[41]) (by simp;omega);rw [A1];simp only [go_sem,seval,a3,a4];repeat' ((with_reducible apply wr)<;>try simp only [go_sem,seval,a3,a4])
  refine ⟨_,_,GL.refl _ _,?_,rfl⟩;simp
 have q2:((k:Int) == 2)=false:=by simp;omega
 rw [if_neg k2];simp only [go_sem,seval,q0,q1,q2];repeat' ((with_reducible apply wr)<;>try simp only [go_sem,seval,q0,q1,q2,hw1])
 refine AC.call (h1 i2 hi2 _ _ t A0 (by omega)) ?_;rintro v' H' c3 ⟨rfl,rfl⟩ hc3;have hl:=o1 i2 hi2;generalize inK L w d i2=a at hl ⊢;have a1:=L5 (s:=a.1) (t:=[32]) (by simp;omega);rw [A1];simp only [go_sem,seval,a1,hw1];repeat' ((with_reducible apply wr)<;>try simp only [go_sem,seval,hw1,a1])
 refine AC.call (c_Next L hL w a.2 hl.2 6 (by decide) (by decide) _ _ t (by rw [hide1 (by omega)];exact A0) (by omega)) ?_;rintro v' H' c4 ⟨rfl,rfl⟩ hc4;have hlt:=J0 L a.2 (n:=6) (by decide);have ho2:=E1 hL (n:=6) hl.2;generalize nxK L 6 a.2=kq at hlt ho2 ⊢;obtain ⟨k3,i3⟩:=kq;dsimp only at hlt ho2 ⊢;have hmg:∀ (X:Hp) (B:Blk),G5 [c3+2] X ((K8 X [c3+2]).upd t B)=X.upd t B:=fun X B=>A3a (by omega);have hia:N0 1 (.slc (c3+2) 0 6) (I64 (k3:Int))=some (.ptr (c3+2) k3):=by simp [N0];omega
 have hld:([.str [60],.str [60,61],.str [62],.str [62,61],.str [61,61],.str [33,61]]:List DV)[k3]? = some (.str (copL.getD k3 [])):=by
  match k3,hlt with
  | 0,_=>rfl
  | 1,_=>rfl
  | 2,_=>rfl
  | 3,_=>rfl
  | 4,_=>rfl
  | 5,_=>rfl
 have hg:=K4 (l:=copL) (n:=5) (by decide) k3;generalize copL.getD k3 []=og at hg hld ⊢;generalize hWL:([.str [60],.str [60,61],.str [62],.str [62,61],.str [61,61],.str [33,61]]:List DV)=WL at hld ⊢;have ne0:=M8 t (c3+2) (by omega);have a2:=L5 (s:=a.1++[32]) (t:=og) (by simp;omega);have a3:=L5 (s:=a.1++[32]++og) (t:=[32]) (by simp;omega);simp only [go_sem,seval,hmg,A0,A1,ne0,hia,hld,a1,a2,a3,hw1];refine ⟨by and_intros<;>first|rfl|(rw [<- hWL];done)|((repeat rw [A2 (by omega)]);exact hfr _ (by omega)),?_⟩;refine AC.call (h1 i3 ho2 _ _ t (by simp only [K8];rw [if_neg (by simp;omega)];exact A0) (by omega)) ?_;rintro v' H' c5 ⟨rfl,rfl⟩ hc5;have hl3:=o1 i3 ho2;generalize inK L w d i3=c at hl3 ⊢;have a4:=L5 (s:=a.1++[32]++og++[32]) (t:=c.1) (by simp;omega);simp only [go_sem,seval,hmg,A0,A1,ne0,hia,hld,a1,a2,a3,a4,hw1];refine ⟨by and_intros<;>first|rfl|(rw [<- hWL];done)|((repeat rw [A2 (by omega)]);exact hfr _ (by omega)),?_⟩;repeat' ((with_reducible apply wr)<;>try simp only [go_sem,seval])
 exact ⟨_,_,Z0 hfr htc (by omega),by simp,rfl⟩
def in2 (L:List UInt8) (w d i:Nat):Mk :=
 let k:=nxK L 5 i
 if k.1=0 then in0 L w k.2
 else if k.1=1 then let a:=in0 L w k.2;([45]++a.1,a.2)
 else
  let a:=inK L w d k.2
  let c:=inK L w d a.2
  let o:=nxK L 5 c.2
  (((((([40]++a.1)++[32])++aopL.getD o.1 [])++[32])++c.1)++[41],o.2)
theorem c_in2 (L:List UInt8) (hL:L.length<=300) (w:Nat) (hw:w<=100) (d:Nat) (hd:d<=10) (h1:InC L w d) (h2:BlC L w d):InC L w (d+1):=by
 intro i hi H cc t ht htc;obtain ⟨o1,o2⟩:=A0w hL w d;have hB:lnB d<=1000000:=by
  have:∀ d,d<=10->lnB d<=1000000:=by decide
  exact this d hd
 refine AC.body A6 isU24 (Nat.le_of_ble_eq_true rfl) fun hfr=>?_;show IW Tryz.prog 86 u24_1 ⟨B4 _,_,_⟩ (rt [.tmp 4] _);have qd:decide (((d+1:Nat):Int)<=0)=false:=by simp<;>omega
 have hw1:IntKind.i64.wrap (((d+1:Nat):Int)-1)=(d:Int):=by rw [w64 (by omega) (by omega)];omega
 rw [show inK L w (d+1) i=wlK L w (blK L w d) (in2 L w d) i from by rw [inK];rfl];generalize hD:((d+1:Nat):Int)=D at qd hw1 ⊢;have kI:∀ (j c0:Nat),j<=300->cc<=c0->IW Tryz.prog 86 u24_6 ⟨tm [(0,.ptr t 0),(1,I64 D)],H.upd t (mkB L w j),c0⟩ (rt [.tmp 4] fun v H' c' => ∃ v2 H2,GL H' [v] H2 [v2]/\v2=.str (in2 L w d j).1/\H2=H.upd t (mkB L w (in2 L w d j).2)):=by
  intro j c0 hj hc0;unfold in2;repeat' ((with_reducible apply wr)<;>try simp only [go_sem,seval,qd])
  refine AC.call (c_Next L hL w j hj 5 (by decide) (by decide) _ _ t A0 (by omega)) ?_;rintro v' H' c2 ⟨rfl,rfl⟩ hc2;rw [A1];have hi2:=E1 hL (n:=5) hj;generalize nxK L 5 j=k at hi2 ⊢;obtain ⟨k,i2⟩:=k;dsimp only at hi2 ⊢;by_cases k0:k=0
  ·subst k0;rw [if_pos rfl];simp only [go_sem,seval];repeat' ((with_reducible apply wr)<;>try simp only [go_sem,seval])
   refine AC.call (c_in0 L hL w hw i2 hi2 0 (by omega) (by omega) _ _ t A0 (by omega)) ?_;rintro v' H' c3 ⟨rfl,rfl⟩ hc3;rw [A1];simp only [go_sem,seval];repeat' ((with_reducible apply wr)<;>try simp only [go_sem,seval])
   exact ⟨_,_,GL.refl _ _,rfl,rfl⟩
  have q0:((k:Int) == 0)=false:=by simpa using k0
  rw [if_neg k0];by_cases k1:k=1
  ·subst k1;rw [if_pos rfl];simp only [go_sem,seval];repeat' ((with_reducible apply wr)<;>try simp only [go_sem,seval])
   refine AC.call (c_in0 L hL w hw i2 hi2 0 (by omega) (by omega) _ _ t A0 (by omega)) ?_;rintro v' H' c3 ⟨rfl,rfl⟩ hc3;rw [A1];have hl:=(A6w hL w i2 hi2).1;have hadd:=L5 (s:=[45]) (t:=(in0 L w i2).1) (by simp;omega);simp only [go_sem,seval,hadd];repeat' ((with_reducible apply wr)<;>try simp only [go_sem,seval,hadd])
   exact ⟨_,_,GL.refl _ _,rfl,rfl⟩
  have q1:((k:Int) == 1)=false:=by simp;omega
  rw [if_neg k1];simp only [go_sem,seval,q0,q1];repeat' ((with_reducible apply wr)<;>try simp only [go_sem,seval,q0,q1,hw1])
  refine AC.call (h1 i2 hi2 _ _ t A0 (by omega)) ?_;rintro v' H' c3 ⟨rfl,rfl⟩ hc3;have hl:=o1 i2 hi2;generalize inK L w d i2=a at hl ⊢;rw [A1];simp only [go_sem,seval,hw1];repeat' ((with_reducible apply wr)<;>try simp only [go_sem,seval,hw1])
  refine AC.call (h1 a.2 hl.2 _ _ t A0 (by omega)) ?_;rintro v' H' c4 ⟨rfl,rfl⟩ hc4;have hl2:=o1 a.2 hl.2;generalize inK L w d a.2=c at hl2 ⊢;rw [A1];have a1:=L5 (s:=[40]) (t:=a.1) (by simp;omega);have a2:=L5 (s:=40 :: a.1) (t:=[32]) (by simp;omega);simp only [go_sem,seval,a1,a2];repeat' ((with_reducible apply wr)<;>try simp only [go_sem,seval,a1,a2])
  refine AC.call (c_Next L hL w c.2 hl2.2 5 (by decide) (by decide) _ _ t (by rw [A2 (by omega)];exact A0) (by omega)) ?_;rintro v' H' c5 ⟨rfl,rfl⟩ hc5;have hlt:=J0 L c.2 (n:=5) (by decide);generalize nxK L 5 c.2=kq at hlt ⊢;obtain ⟨k3,i3⟩:=kq;dsimp only at hlt ⊢;have hia:N0 1 (.slc c4 0 5) (I64 (k3:Int))=some (.ptr c4 k3):=by simp [N0];omega
  have hld:([.str [43],.str [45],.str [42],.str [47],.str [37]]:List DV)[k3]? = some (.str (aopL.getD k3 [])):=by
   match k3,hlt with
   | 0,_=>rfl
   | 1,_=>rfl
   | 2,_=>rfl
   | 3,_=>rfl
   | 4,_=>rfl
  have hg:=K4 (l:=aopL) (n:=5) (by decide) k3;generalize aopL.getD k3 []=og at hg hld ⊢;generalize hWL:([.str [43],.str [45],.str [42],.str [47],.str [37]]:List DV)=WL at hld ⊢;have ne0:=M8 t c4 (by omega);have a3:=L5 (s:=40 :: (a.1++[32])) (t:=og) (by simp;omega);have a4:=L5 (s:=40 :: (a.1++[32]++og)) (t:=[32]) (by simp;omega);have a5:=L5 (s:=40 :: (a.1++[32]++og++[32])) (t:=c.1) (by simp;omega);have a6:=L5 (s:=40 :: (a.1++[32]++og++[32]++c.1)) (t:=[41]) (by simp;omega);simp only [go_sem,seval,A0,A1,ne0,hia,hld,a3,a4,a5,a6];repeat' ((with_reducible apply wr)<;>try simp only [go_sem,seval,A0,A1,ne0,hia,hld,a3,a4,a5,a6])
  exact ⟨_,_,Z0 hfr htc (by omega),by simp,rfl⟩
 unfold wlK;by_cases h0:0<w
 ·have q0:decide ((w:Int)>0)=true:=by simpa using h0
  have hw4:IntKind.i64.wrap (4 * (w:Int))=((4 * w:Nat):Int):=by rw [w64 (by omega) (by omega)];omega
  repeat' ((with_reducible apply wr)<;>try simp only [go_sem,seval,ht,q0,hw4])
  refine AC.call (c_Next L hL w i hi (4 * w) (by omega) (by omega) _ _ t ht (by omega)) ?_;rintro v' H' c2 ⟨rfl,rfl⟩ hc2;have hi2:=E1 hL (n:=4 * w) hi;generalize nxK L (4 * w) i=k at hi2 ⊢;obtain ⟨k,i2⟩:=k;dsimp only at hi2 ⊢;by_cases k1:k=1
  ·subst k1;rw [if_pos ⟨h0,rfl⟩];simp only [go_sem,seval];repeat' ((with_reducible apply wr)<;>try simp only [go_sem,seval,hw1])
   refine AC.call (h2 i2 hi2 _ _ t A0 (by omega)) ?_;rintro v' H' c3 ⟨rfl,rfl⟩ hc3;rw [A1];simp only [go_sem,seval];repeat' ((with_reducible apply wr)<;>try simp only [go_sem,seval])
   exact ⟨_,_,GL.refl _ _,rfl,rfl⟩
  have q1:((k:Int) == 1)=false:=by simp;omega
  rw [if_neg (fun h=>k1 h.2),if_pos h0];simp only [go_sem,seval,q1];repeat' ((with_reducible first|refine G1 (p:=IW _ _ u24_6 _ _) ?_|refine wr ?_|fail)<;>try simp only [go_sem,seval,q1])
  exact IW.stage (by simp [C1,tm,Tm.upd]) (kI i2 _ hi2 hc2)
 ·have q0:decide ((w:Int)>0)=false:=by simpa using h0
  rw [if_neg (fun h=>h0 h.1),if_neg h0];repeat' ((with_reducible first|refine G1 (p:=IW _ _ u24_6 _ _) ?_|refine wr ?_|fail)<;>try simp only [go_sem,seval,ht,q0])
  have:=kI i cc hi (Nat.le_refl _);rw [upd_same ht] at this;exact IW.stage (by simp [C1,tm,Tm.upd]) this
theorem c_exK (L:List UInt8) (hL:L.length<=300) (w:Nat) (hw:w<=100):∀ d,d<=10->InC L w d/\BlC L w d
 | 0,_=>⟨fun i hi H cc t ht htc=>by rw [inK];exact c_in0 L hL w hw i hi 0 (by omega) (by omega) H cc t ht htc,fun i hi H cc t ht htc=>by rw [blK];exact c_bl0 L hL w hw i hi 0 (by omega) H cc t ht htc⟩
 | d+1,h=>by
  obtain ⟨h1,h2⟩:=c_exK L hL w hw d (by omega);exact ⟨c_in2 L hL w hw d (by omega) h1 h2,c_bl1 L hL w hw d (by omega) h1 h2⟩
end Go.Proofs.YtnmkkggfgdfmeaaGreatDoor
end
