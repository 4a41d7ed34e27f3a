/-
  FUNCTIONS IN THE ENGINE's FORM, part 0; each is what the translation gives.
-/
import Derived.Test.YtniclakgfgmhhaaGreatEngS
import Derived.Test.YtniclakgfgmhhaaGreatProg
import Derived.KernelRfl
set_option maxRecDepth 100000
namespace Go.Proofs.YtniclakgfgmhhaaGreat
open Go.Eng
/-- pinball/pinballlaw35.VMComputes -/
noncomputable def ir3 : IFn := ⟨58, .seq (.reg [⟨(some 6), .pur (.mv (.k (.bool false))), none⟩])
 (.seq (.seq (.reg [⟨(some 7), .pur (.mv (.k (.int .i64 0))), none⟩])
 (.blk 0 (.loop (.seq (.seq (.reg [⟨(some 9), .pur (.bin .lss (.t 7) (.k (.int .i64 27))), none⟩])
   (.cond (.t 9)
    (.skip)
    (.exit 0)))
   (.seq (.blk 1 (.seq (.reg [⟨(some 14), .call 10 [(.t 7), (.t 1)], none⟩,
      ⟨(some 17), .call 11 [(.t 7), (.t 1)], none⟩,
      ⟨(some 18), .pur (.bin .neq (.t 14) (.t 17)), none⟩,
      ⟨(some 20), .pur (.mv (.t 7)), some (18, false)⟩,
      ⟨(some 21), .pur (.mv (.t 1)), some (18, false)⟩,
      ⟨(some 22), .pur (.mv (.t 2)), some (18, false)⟩,
      ⟨(some 23), .call 12 [(.t 20), (.t 21), (.t 22)], some (18, false)⟩,
      ⟨(some 24), .pur (.mv (.t 7)), some (18, false)⟩,
      ⟨(some 25), .pur (.mv (.t 1)), some (18, false)⟩,
      ⟨(some 26), .pur (.mv (.t 2)), some (18, false)⟩,
      ⟨(some 27), .call 13 [(.t 24), (.t 25), (.t 26)], some (18, false)⟩,
      ⟨(some 28), .pur (.bin .neq (.t 23) (.t 27)), some (18, false)⟩,
      ⟨(some 29), .pur (.pick (.t 18) (.k (.bool true)) (.t 28)), none⟩])
    (.cond (.t 29)
     (.seq (.reg [⟨(some 6), .pur (.mv (.k (.bool false))), none⟩])
     (.ret))
     (.skip))))
   (.reg [⟨(some 11), .pur (.bin .add (.t 7) (.k (.int .i64 1))), none⟩,
     ⟨(some 7), .pur (.mv (.t 11)), none⟩]))))))
 (.seq (.reg [⟨(some 31), .call 14 [(.t 1)], none⟩,
   ⟨(some 33), .call 15 [(.t 1)], none⟩,
   ⟨(some 34), .pur (.bin .eql (.t 31) (.t 33)), none⟩,
   ⟨(some 36), .pur (.mv (.t 0)), some (34, true)⟩,
   ⟨(some 37), .pur (.mv (.t 2)), some (34, true)⟩,
   ⟨(some 38), .call 10 [(.t 36), (.t 37)], some (34, true)⟩,
   ⟨(some 39), .pur (.mv (.t 0)), some (34, true)⟩,
   ⟨(some 40), .pur (.mv (.t 2)), some (34, true)⟩,
   ⟨(some 41), .call 11 [(.t 39), (.t 40)], some (34, true)⟩,
   ⟨(some 42), .pur (.bin .eql (.t 38) (.t 41)), some (34, true)⟩,
   ⟨(some 43), .pur (.pick (.t 34) (.t 42) (.k (.bool false))), none⟩,
   ⟨(some 45), .pur (.mv (.t 0)), some (43, true)⟩,
   ⟨(some 46), .pur (.mv (.t 2)), some (43, true)⟩,
   ⟨(some 47), .pur (.mv (.t 1)), some (43, true)⟩,
   ⟨(some 48), .call 12 [(.t 45), (.t 46), (.t 47)], some (43, true)⟩,
   ⟨(some 49), .pur (.mv (.t 0)), some (43, true)⟩,
   ⟨(some 50), .pur (.mv (.t 2)), some (43, true)⟩,
   ⟨(some 51), .pur (.mv (.t 1)), some (43, true)⟩,
   ⟨(some 52), .call 13 [(.t 49), (.t 50), (.t 51)], some (43, true)⟩,
   ⟨(some 53), .pur (.bin .eql (.t 48) (.t 52)), some (43, true)⟩,
   ⟨(some 54), .pur (.pick (.t 43) (.t 53) (.k (.bool false))), none⟩,
   ⟨(some 56), .call 16 [], some (54, true)⟩,
   ⟨(some 57), .pur (.pick (.t 54) (.t 56) (.k (.bool false))), none⟩,
   ⟨(some 6), .pur (.mv (.t 57)), none⟩])
 (.ret))),
 [.tmp 6]⟩
theorem is3 : IsFnO Tryz.prog 3 ir3 := .of 36046428934092088 (by kernel_rfl)
/-- pinball/pinballlaw35.VMArithmetic -/
noncomputable def ir4 : IFn := ⟨157, .seq (.reg [⟨(some 4), .pur (.mv (.k (.bool false))), none⟩])
 (.seq (.reg [⟨(some 12), .call 14 [(.t 0)], none⟩,
   ⟨(some 14), .call 14 [(.t 1)], none⟩,
   ⟨(some 5), .pur (.mv (.t 12)), none⟩,
   ⟨(some 6), .pur (.mv (.t 14)), none⟩])
 (.seq (.seq (.reg [⟨(some 7), .pur (.mv (.k (.int .i64 12))), none⟩])
 (.blk 0 (.loop (.seq (.seq (.reg [⟨(some 16), .pur (.bin .leq (.t 7) (.k (.int .i64 24))), none⟩])
   (.cond (.t 16)
    (.skip)
    (.exit 0)))
   (.seq (.blk 1 (.seq (.reg [⟨(some 22), .call 12 [(.t 7), (.t 0), (.t 1)], none⟩,
      ⟨(some 8), .pur (.mv (.t 22)), none⟩])
    (.seq (.reg [⟨(some 24), .pur (.bin .lss (.t 8) (.k (.int .i64 (-2147483647)))), none⟩,
      ⟨(some 26), .pur (.mv (.t 8)), some (24, false)⟩,
      ⟨(some 27), .pur (.bin .gtr (.t 26) (.k (.int .i64 2147483647))), some (24, false)⟩,
      ⟨(some 28), .pur (.pick (.t 24) (.k (.bool true)) (.t 27)), none⟩,
      ⟨(some 30), .pur (.mv (.t 8)), some (28, false)⟩,
      ⟨(some 31), .pur (.mv (.t 7)), some (28, false)⟩,
      ⟨(some 32), .pur (.mv (.t 5)), some (28, false)⟩,
      ⟨(some 33), .pur (.mv (.t 6)), some (28, false)⟩,
      ⟨(some 34), .call 12 [(.t 31), (.t 32), (.t 33)], some (28, false)⟩,
      ⟨(some 35), .pur (.bin .neq (.t 30) (.t 34)), some (28, false)⟩,
      ⟨(some 36), .pur (.pick (.t 28) (.k (.bool true)) (.t 35)), none⟩,
      ⟨(some 38), .pur (.mv (.t 7)), some (36, false)⟩,
      ⟨(some 39), .pur (.bin .geq (.t 38) (.k (.int .i64 17))), some (36, false)⟩,
      ⟨(some 40), .pur (.mv (.t 39)), some (36, false)⟩,
      ⟨(some 41), .pur (.mv (.t 8)), some (40, true)⟩,
      ⟨(some 42), .pur (.bin .neq (.t 41) (.k (.int .i64 0))), some (40, true)⟩,
      ⟨(some 43), .pur (.pick (.t 40) (.t 42) (.k (.bool false))), some (36, false)⟩,
      ⟨(some 44), .pur (.mv (.t 43)), some (36, false)⟩,
      ⟨(some 45), .pur (.mv (.t 8)), some (44, true)⟩,
      ⟨(some 46), .pur (.bin .neq (.t 45) (.k (.int .i64 1))), some (44, true)⟩,
      ⟨(some 47), .pur (.pick (.t 44) (.t 46) (.k (.bool false))), some (36, false)⟩,
      ⟨(some 48), .pur (.pick (.t 36) (.k (.bool true)) (.t 47)), none⟩])
    (.cond (.t 48)
     (.seq (.reg [⟨(some 4), .pur (.mv (.k (.bool false))), none⟩])
     (.ret))
     (.skip)))))
   (.reg [⟨(some 18), .pur (.bin .add (.t 7) (.k (.int .i64 1))), none⟩,
     ⟨(some 7), .pur (.mv (.t 18)), none⟩]))))))
 (.seq (.reg [⟨(some 51), .call 12 [(.k (.int .i64 13)), (.t 5), (.t 6)], none⟩,
   ⟨(some 54), .call 12 [(.k (.int .i64 14)), (.t 5), (.t 6)], none⟩,
   ⟨(some 9), .pur (.mv (.t 51)), none⟩,
   ⟨(some 10), .pur (.mv (.t 54)), none⟩])
 (.seq (.seq (.reg [⟨(some 56), .pur (.bin .neq (.t 6) (.k (.int .i64 0))), none⟩,
   ⟨(some 58), .pur (.mv (.t 9)), some (56, true)⟩,
   ⟨(some 59), .pur (.mv (.t 6)), some (56, true)⟩,
   ⟨(some 60), .pur (.bin .mul (.t 58) (.t 59)), some (56, true)⟩,
   ⟨(some 61), .pur (.mv (.t 10)), some (56, true)⟩,
   ⟨(some 62), .pur (.bin .add (.t 60) (.t 61)), some (56, true)⟩,
   ⟨(some 63), .pur (.mv (.t 5)), some (56, true)⟩,
   ⟨(some 64), .pur (.bin .neq (.t 62) (.t 63)), some (56, true)⟩,
   ⟨(some 65), .pur (.mv (.t 64)), some (56, true)⟩,
   ⟨(some 66), .pur (.mv (.t 10)), some (65, false)⟩,
   ⟨(some 67), .pur (.bin .neq (.t 66) (.k (.int .i64 0))), some (65, false)⟩,
   ⟨(some 68), .pur (.mv (.t 67)), some (65, false)⟩,
   ⟨(some 69), .pur (.mv (.t 10)), some (68, true)⟩,
   ⟨(some 70), .pur (.bin .lss (.t 69) (.k (.int .i64 0))), some (68, true)⟩,
   ⟨(some 71), .pur (.mv (.t 5)), some (68, true)⟩,
   ⟨(some 72), .pur (.bin .lss (.t 71) (.k (.int .i64 0))), some (68, true)⟩,
   ⟨(some 73), .pur (.eqb true (.t 70) (.t 72)), some (68, true)⟩,
   ⟨(some 74), .pur (.pick (.t 68) (.t 73) (.k (.bool false))), some (65, false)⟩,
   ⟨(some 75), .pur (.pick (.t 65) (.k (.bool true)) (.t 74)), some (56, true)⟩,
   ⟨(some 76), .pur (.mv (.t 75)), some (56, true)⟩,
   ⟨(some 77), .pur (.mv (.t 10)), some (76, false)⟩,
   ⟨(some 78), .pur (.mv (.t 10)), some (76, false)⟩,
   ⟨(some 79), .pur (.bin .mul (.t 77) (.t 78)), some (76, false)⟩,
   ⟨(some 80), .pur (.mv (.t 6)), some (76, false)⟩,
   ⟨(some 81), .pur (.mv (.t 6)), some (76, false)⟩,
   ⟨(some 82), .pur (.bin .mul (.t 80) (.t 81)), some (76, false)⟩,
   ⟨(some 83), .pur (.bin .geq (.t 79) (.t 82)), some (76, false)⟩,
   ⟨(some 84), .pur (.pick (.t 76) (.k (.bool true)) (.t 83)), some (56, true)⟩,
   ⟨(some 85), .pur (.pick (.t 56) (.t 84) (.k (.bool false))), none⟩,
   ⟨(some 87), .pur (.mv (.t 6)), some (85, false)⟩,
   ⟨(some 88), .pur (.bin .eql (.t 87) (.k (.int .i64 0))), some (85, false)⟩,
   ⟨(some 89), .pur (.mv (.t 88)), some (85, false)⟩,
   ⟨(some 90), .pur (.mv (.t 9)), some (89, true)⟩,
   ⟨(some 91), .pur (.bin .neq (.t 90) (.k (.int .i64 0))), some (89, true)⟩,
   ⟨(some 92), .pur (.mv (.t 91)), some (89, true)⟩,
   ⟨(some 93), .pur (.mv (.t 10)), some (92, false)⟩,
   ⟨(some 94), .pur (.bin .neq (.t 93) (.k (.int .i64 0))), some (92, false)⟩,
   ⟨(some 95), .pur (.pick (.t 92) (.k (.bool true)) (.t 94)), some (89, true)⟩,
   ⟨(some 96), .pur (.pick (.t 89) (.t 95) (.k (.bool false))), some (85, false)⟩,
   ⟨(some 97), .pur (.pick (.t 85) (.k (.bool true)) (.t 96)), none⟩])
 (.cond (.t 97)
  (.seq (.reg [⟨(some 4), .pur (.mv (.k (.bool false))), none⟩])
  (.ret))
  (.skip)))
 (.seq (.reg [⟨(some 100), .call 12 [(.k (.int .i64 17)), (.t 5), (.t 6)], none⟩,
   ⟨(some 103), .call 12 [(.k (.int .i64 20)), (.t 5), (.t 6)], none⟩,
   ⟨(some 104), .pur (.bin .add (.t 100) (.t 103)), none⟩,
   ⟨(some 105), .pur (.bin .eql (.t 104) (.k (.int .i64 1))), none⟩,
   ⟨(some 107), .pur (.mv (.t 5)), some (105, true)⟩,
   ⟨(some 108), .pur (.mv (.t 6)), some (105, true)⟩,
   ⟨(some 109), .call 12 [(.k (.int .i64 19)), (.t 107), (.t 108)], some (105, true)⟩,
   ⟨(some 110), .pur (.mv (.t 5)), some (105, true)⟩,
   ⟨(some 111), .pur (.mv (.t 6)), some (105, true)⟩,
   ⟨(some 112), .call 12 [(.k (.int .i64 18)), (.t 110), (.t 111)], some (105, true)⟩,
   ⟨(some 113), .pur (.bin .add (.t 109) (.t 112)), some (105, true)⟩,
   ⟨(some 114), .pur (.bin .eql (.t 113) (.k (.int .i64 1))), some (105, true)⟩,
   ⟨(some 115), .pur (.pick (.t 105) (.t 114) (.k (.bool false))), none⟩,
   ⟨(some 117), .pur (.mv (.t 5)), some (115, true)⟩,
   ⟨(some 118), .pur (.mv (.t 6)), some (115, true)⟩,
   ⟨(some 119), .call 12 [(.k (.int .i64 21)), (.t 117), (.t 118)], some (115, true)⟩,
   ⟨(some 120), .pur (.mv (.t 5)), some (115, true)⟩,
   ⟨(some 121), .pur (.mv (.t 6)), some (115, true)⟩,
   ⟨(some 122), .call 12 [(.k (.int .i64 22)), (.t 120), (.t 121)], some (115, true)⟩,
   ⟨(some 123), .pur (.bin .add (.t 119) (.t 122)), some (115, true)⟩,
   ⟨(some 124), .pur (.bin .eql (.t 123) (.k (.int .i64 1))), some (115, true)⟩,
   ⟨(some 125), .pur (.pick (.t 115) (.t 124) (.k (.bool false))), none⟩,
   ⟨(some 127), .pur (.mv (.t 5)), some (125, true)⟩,
   ⟨(some 128), .pur (.mv (.t 6)), some (125, true)⟩,
   ⟨(some 129), .call 12 [(.k (.int .i64 17)), (.t 127), (.t 128)], some (125, true)⟩,
   ⟨(some 130), .pur (.mv (.t 6)), some (125, true)⟩,
   ⟨(some 131), .pur (.mv (.t 5)), some (125, true)⟩,
   ⟨(some 132), .call 12 [(.k (.int .i64 19)), (.t 130), (.t 131)], some (125, true)⟩,
   ⟨(some 133), .pur (.bin .eql (.t 129) (.t 132)), some (125, true)⟩,
   ⟨(some 134), .pur (.pick (.t 125) (.t 133) (.k (.bool false))), none⟩,
   ⟨(some 136), .pur (.mv (.t 5)), some (134, true)⟩,
   ⟨(some 137), .pur (.mv (.t 6)), some (134, true)⟩,
   ⟨(some 138), .call 12 [(.k (.int .i64 15)), (.t 136), (.t 137)], some (134, true)⟩,
   ⟨(some 139), .pur (.mv (.t 6)), some (134, true)⟩,
   ⟨(some 140), .pur (.mv (.t 5)), some (134, true)⟩,
   ⟨(some 141), .call 12 [(.k (.int .i64 15)), (.t 139), (.t 140)], some (134, true)⟩,
   ⟨(some 142), .pur (.bin .eql (.t 138) (.t 141)), some (134, true)⟩,
   ⟨(some 143), .pur (.pick (.t 134) (.t 142) (.k (.bool false))), none⟩,
   ⟨(some 145), .pur (.mv (.t 5)), some (143, true)⟩,
   ⟨(some 146), .pur (.mv (.t 6)), some (143, true)⟩,
   ⟨(some 147), .call 12 [(.k (.int .i64 16)), (.t 145), (.t 146)], some (143, true)⟩,
   ⟨(some 148), .pur (.mv (.t 5)), some (143, true)⟩,
   ⟨(some 149), .pur (.mv (.t 6)), some (143, true)⟩,
   ⟨(some 150), .call 10 [(.k (.int .i64 10)), (.t 149)], some (143, true)⟩,
   ⟨(some 151), .call 12 [(.k (.int .i64 15)), (.t 148), (.t 150)], some (143, true)⟩,
   ⟨(some 152), .pur (.bin .eql (.t 147) (.t 151)), some (143, true)⟩,
   ⟨(some 153), .pur (.pick (.t 143) (.t 152) (.k (.bool false))), none⟩,
   ⟨(some 155), .call 16 [], some (153, true)⟩,
   ⟨(some 156), .pur (.pick (.t 153) (.t 155) (.k (.bool false))), none⟩,
   ⟨(some 4), .pur (.mv (.t 156)), none⟩])
 (.ret)))))),
 [.tmp 4]⟩
theorem is4 : IsFnO Tryz.prog 4 ir4 := .of 22858307469790612766525945049195297539962349580 (by kernel_rfl)
/-- pinball/vm.Unary -/
noncomputable def ir10 : IFn := ⟨17, .seq (.reg [⟨(some 4), .pur (.mv (.k (.int .i64 0))), none⟩])
 (.seq (.reg [⟨(some 6), .call 14 [(.t 1)], none⟩,
   ⟨(some 1), .pur (.mv (.t 6)), none⟩])
 (.seq (.seq (.reg [⟨(some 7), .pur (.mv (.t 0)), none⟩])
 (.blk 0 (.seq (.reg [⟨(some 9), .pur (.bin .eql (.t 7) (.k (.int .i64 10))), none⟩,
    ⟨(some 8), .pur (.mv (.t 9)), none⟩])
  (.cond (.t 8)
   (.seq (.reg [⟨(some 11), .pur (.un .neg (.t 1)), none⟩,
     ⟨(some 4), .pur (.mv (.t 11)), none⟩])
   (.ret))
   (.seq (.reg [⟨(some 13), .pur (.bin .eql (.t 7) (.k (.int .i64 11))), none⟩,
     ⟨(some 12), .pur (.mv (.t 13)), none⟩])
   (.cond (.t 12)
    (.seq (.reg [⟨(some 15), .pur (.bin .eql (.t 1) (.k (.int .i64 0))), none⟩,
      ⟨(some 16), .call 27 [(.t 15)], none⟩,
      ⟨(some 4), .pur (.mv (.t 16)), none⟩])
    (.ret))
    (.skip)))))))
 (.seq (.reg [⟨(some 4), .pur (.mv (.k (.int .i64 0))), none⟩])
 (.ret)))),
 [.tmp 4]⟩
theorem is10 : IsFnO Tryz.prog 10 ir10 := .of 17452 (by kernel_rfl)
/-- pinball/pinballref35.Unary -/
noncomputable def ir11 : IFn := ⟨17, .seq (.reg [⟨(some 4), .pur (.mv (.k (.int .i64 0))), none⟩])
 (.seq (.reg [⟨(some 6), .call 15 [(.t 1)], none⟩,
   ⟨(some 1), .pur (.mv (.t 6)), none⟩])
 (.seq (.seq (.reg [⟨(some 7), .pur (.mv (.t 0)), none⟩])
 (.blk 0 (.seq (.reg [⟨(some 9), .pur (.bin .eql (.t 7) (.k (.int .i64 10))), none⟩,
    ⟨(some 8), .pur (.mv (.t 9)), none⟩])
  (.cond (.t 8)
   (.seq (.reg [⟨(some 11), .pur (.un .neg (.t 1)), none⟩,
     ⟨(some 4), .pur (.mv (.t 11)), none⟩])
   (.ret))
   (.seq (.reg [⟨(some 13), .pur (.bin .eql (.t 7) (.k (.int .i64 11))), none⟩,
     ⟨(some 12), .pur (.mv (.t 13)), none⟩])
   (.cond (.t 12)
    (.seq (.reg [⟨(some 15), .pur (.bin .eql (.t 1) (.k (.int .i64 0))), none⟩,
      ⟨(some 16), .call 28 [(.t 15)], none⟩,
      ⟨(some 4), .pur (.mv (.t 16)), none⟩])
    (.ret))
    (.skip)))))))
 (.seq (.reg [⟨(some 4), .pur (.mv (.k (.int .i64 0))), none⟩])
 (.ret)))),
 [.tmp 4]⟩
theorem is11 : IsFnO Tryz.prog 11 ir11 := .of 17452 (by kernel_rfl)
/-- pinball/vm.Binary -/
noncomputable def ir12 : IFn := ⟨98, .seq (.reg [⟨(some 6), .pur (.mv (.k (.int .i64 0))), none⟩])
 (.seq (.reg [⟨(some 8), .call 14 [(.t 1)], none⟩,
   ⟨(some 10), .call 14 [(.t 2)], none⟩,
   ⟨(some 1), .pur (.mv (.t 8)), none⟩,
   ⟨(some 2), .pur (.mv (.t 10)), none⟩])
 (.seq (.seq (.reg [⟨(some 11), .pur (.mv (.t 0)), none⟩])
 (.blk 0 (.seq (.reg [⟨(some 13), .pur (.bin .eql (.t 11) (.k (.int .i64 12))), none⟩,
    ⟨(some 12), .pur (.mv (.t 13)), none⟩])
  (.cond (.t 12)
   (.seq (.reg [⟨(some 16), .pur (.bin .mul (.t 1) (.t 2)), none⟩,
     ⟨(some 17), .call 14 [(.t 16)], none⟩,
     ⟨(some 6), .pur (.mv (.t 17)), none⟩])
   (.ret))
   (.seq (.reg [⟨(some 19), .pur (.bin .eql (.t 11) (.k (.int .i64 13))), none⟩,
     ⟨(some 18), .pur (.mv (.t 19)), none⟩])
   (.cond (.t 18)
    (.seq (.reg [⟨(some 21), .pur (.bin .neq (.t 2) (.k (.int .i64 0))), none⟩])
    (.cond (.t 21)
     (.seq (.reg [⟨(some 24), .pur (.bin .quo (.t 1) (.t 2)), none⟩,
       ⟨(some 6), .pur (.mv (.t 24)), none⟩])
     (.ret))
     (.skip)))
    (.seq (.reg [⟨(some 26), .pur (.bin .eql (.t 11) (.k (.int .i64 14))), none⟩,
      ⟨(some 25), .pur (.mv (.t 26)), none⟩])
    (.cond (.t 25)
     (.seq (.reg [⟨(some 28), .pur (.bin .neq (.t 2) (.k (.int .i64 0))), none⟩])
     (.cond (.t 28)
      (.seq (.reg [⟨(some 31), .pur (.bin .rem (.t 1) (.t 2)), none⟩,
        ⟨(some 6), .pur (.mv (.t 31)), none⟩])
      (.ret))
      (.skip)))
     (.seq (.reg [⟨(some 33), .pur (.bin .eql (.t 11) (.k (.int .i64 15))), none⟩,
       ⟨(some 32), .pur (.mv (.t 33)), none⟩])
     (.cond (.t 32)
      (.seq (.reg [⟨(some 36), .pur (.bin .add (.t 1) (.t 2)), none⟩,
        ⟨(some 37), .call 14 [(.t 36)], none⟩,
        ⟨(some 6), .pur (.mv (.t 37)), none⟩])
      (.ret))
      (.seq (.reg [⟨(some 39), .pur (.bin .eql (.t 11) (.k (.int .i64 16))), none⟩,
        ⟨(some 38), .pur (.mv (.t 39)), none⟩])
      (.cond (.t 38)
       (.seq (.reg [⟨(some 42), .pur (.bin .sub (.t 1) (.t 2)), none⟩,
         ⟨(some 43), .call 14 [(.t 42)], none⟩,
         ⟨(some 6), .pur (.mv (.t 43)), none⟩])
       (.ret))
       (.seq (.reg [⟨(some 45), .pur (.bin .eql (.t 11) (.k (.int .i64 17))), none⟩,
         ⟨(some 44), .pur (.mv (.t 45)), none⟩])
       (.cond (.t 44)
        (.seq (.reg [⟨(some 48), .pur (.bin .lss (.t 1) (.t 2)), none⟩,
          ⟨(some 49), .call 27 [(.t 48)], none⟩,
          ⟨(some 6), .pur (.mv (.t 49)), none⟩])
        (.ret))
        (.seq (.reg [⟨(some 51), .pur (.bin .eql (.t 11) (.k (.int .i64 18))), none⟩,
          ⟨(some 50), .pur (.mv (.t 51)), none⟩])
        (.cond (.t 50)
         (.seq (.reg [⟨(some 54), .pur (.bin .leq (.t 1) (.t 2)), none⟩,
           ⟨(some 55), .call 27 [(.t 54)], none⟩,
           ⟨(some 6), .pur (.mv (.t 55)), none⟩])
         (.ret))
         (.seq (.reg [⟨(some 57), .pur (.bin .eql (.t 11) (.k (.int .i64 19))), none⟩,
           ⟨(some 56), .pur (.mv (.t 57)), none⟩])
         (.cond (.t 56)
          (.seq (.reg [⟨(some 60), .pur (.bin .gtr (.t 1) (.t 2)), none⟩,
            ⟨(some 61), .call 27 [(.t 60)], none⟩,
            ⟨(some 6), .pur (.mv (.t 61)), none⟩])
          (.ret))
          (.seq (.reg [⟨(some 63), .pur (.bin .eql (.t 11) (.k (.int .i64 20))), none⟩,
            ⟨(some 62), .pur (.mv (.t 63)), none⟩])
          (.cond (.t 62)
           (.seq (.reg [⟨(some 66), .pur (.bin .geq (.t 1) (.t 2)), none⟩,
             ⟨(some 67), .call 27 [(.t 66)], none⟩,
             ⟨(some 6), .pur (.mv (.t 67)), none⟩])
           (.ret))
           (.seq (.reg [⟨(some 69), .pur (.bin .eql (.t 11) (.k (.int .i64 21))), none⟩,
             ⟨(some 68), .pur (.mv (.t 69)), none⟩])
           (.cond (.t 68)
            (.seq (.reg [⟨(some 72), .pur (.bin .eql (.t 1) (.t 2)), none⟩,
              ⟨(some 73), .call 27 [(.t 72)], none⟩,
              ⟨(some 6), .pur (.mv (.t 73)), none⟩])
            (.ret))
            (.seq (.reg [⟨(some 75), .pur (.bin .eql (.t 11) (.k (.int .i64 22))), none⟩,
              ⟨(some 74), .pur (.mv (.t 75)), none⟩])
            (.cond (.t 74)
             (.seq (.reg [⟨(some 78), .pur (.bin .neq (.t 1) (.t 2)), none⟩,
               ⟨(some 79), .call 27 [(.t 78)], none⟩,
               ⟨(some 6), .pur (.mv (.t 79)), none⟩])
             (.ret))
             (.seq (.reg [⟨(some 81), .pur (.bin .eql (.t 11) (.k (.int .i64 23))), none⟩,
               ⟨(some 80), .pur (.mv (.t 81)), none⟩])
             (.cond (.t 80)
              (.seq (.reg [⟨(some 83), .pur (.bin .neq (.t 1) (.k (.int .i64 0))), none⟩,
                ⟨(some 85), .pur (.mv (.t 2)), some (83, true)⟩,
                ⟨(some 86), .pur (.bin .neq (.t 85) (.k (.int .i64 0))), some (83, true)⟩,
                ⟨(some 87), .pur (.pick (.t 83) (.t 86) (.k (.bool false))), none⟩,
                ⟨(some 88), .call 27 [(.t 87)], none⟩,
                ⟨(some 6), .pur (.mv (.t 88)), none⟩])
              (.ret))
              (.seq (.reg [⟨(some 90), .pur (.bin .eql (.t 11) (.k (.int .i64 24))), none⟩,
                ⟨(some 89), .pur (.mv (.t 90)), none⟩])
              (.cond (.t 89)
               (.seq (.reg [⟨(some 92), .pur (.bin .neq (.t 1) (.k (.int .i64 0))), none⟩,
                 ⟨(some 94), .pur (.mv (.t 2)), some (92, false)⟩,
                 ⟨(some 95), .pur (.bin .neq (.t 94) (.k (.int .i64 0))), some (92, false)⟩,
                 ⟨(some 96), .pur (.pick (.t 92) (.k (.bool true)) (.t 95)), none⟩,
                 ⟨(some 97), .call 27 [(.t 96)], none⟩,
                 ⟨(some 6), .pur (.mv (.t 97)), none⟩])
               (.ret))
               (.skip)))))))))))))))))))))))))))))
 (.seq (.reg [⟨(some 6), .pur (.mv (.k (.int .i64 0))), none⟩])
 (.ret)))),
 [.tmp 6]⟩
theorem is12 : IsFnO Tryz.prog 12 ir12 := .of 12403809180830783834220970680 (by kernel_rfl)
/-- pinball/pinballref35.Binary -/
noncomputable def ir13 : IFn := ⟨98, .seq (.reg [⟨(some 6), .pur (.mv (.k (.int .i64 0))), none⟩])
 (.seq (.reg [⟨(some 8), .call 15 [(.t 1)], none⟩,
   ⟨(some 10), .call 15 [(.t 2)], none⟩,
   ⟨(some 1), .pur (.mv (.t 8)), none⟩,
   ⟨(some 2), .pur (.mv (.t 10)), none⟩])
 (.seq (.seq (.reg [⟨(some 11), .pur (.mv (.t 0)), none⟩])
 (.blk 0 (.seq (.reg [⟨(some 13), .pur (.bin .eql (.t 11) (.k (.int .i64 12))), none⟩,
    ⟨(some 12), .pur (.mv (.t 13)), none⟩])
  (.cond (.t 12)
   (.seq (.reg [⟨(some 16), .pur (.bin .mul (.t 1) (.t 2)), none⟩,
     ⟨(some 17), .call 15 [(.t 16)], none⟩,
     ⟨(some 6), .pur (.mv (.t 17)), none⟩])
   (.ret))
   (.seq (.reg [⟨(some 19), .pur (.bin .eql (.t 11) (.k (.int .i64 13))), none⟩,
     ⟨(some 18), .pur (.mv (.t 19)), none⟩])
   (.cond (.t 18)
    (.seq (.seq (.reg [⟨(some 21), .pur (.bin .eql (.t 2) (.k (.int .i64 0))), none⟩])
    (.cond (.t 21)
     (.seq (.reg [⟨(some 6), .pur (.mv (.k (.int .i64 0))), none⟩])
     (.ret))
     (.skip)))
    (.seq (.reg [⟨(some 24), .pur (.bin .quo (.t 1) (.t 2)), none⟩,
      ⟨(some 6), .pur (.mv (.t 24)), none⟩])
    (.ret)))
    (.seq (.reg [⟨(some 26), .pur (.bin .eql (.t 11) (.k (.int .i64 14))), none⟩,
      ⟨(some 25), .pur (.mv (.t 26)), none⟩])
    (.cond (.t 25)
     (.seq (.seq (.reg [⟨(some 28), .pur (.bin .eql (.t 2) (.k (.int .i64 0))), none⟩])
     (.cond (.t 28)
      (.seq (.reg [⟨(some 6), .pur (.mv (.k (.int .i64 0))), none⟩])
      (.ret))
      (.skip)))
     (.seq (.reg [⟨(some 31), .pur (.bin .rem (.t 1) (.t 2)), none⟩,
       ⟨(some 6), .pur (.mv (.t 31)), none⟩])
     (.ret)))
     (.seq (.reg [⟨(some 33), .pur (.bin .eql (.t 11) (.k (.int .i64 15))), none⟩,
       ⟨(some 32), .pur (.mv (.t 33)), none⟩])
     (.cond (.t 32)
      (.seq (.reg [⟨(some 36), .pur (.bin .add (.t 1) (.t 2)), none⟩,
        ⟨(some 37), .call 15 [(.t 36)], none⟩,
        ⟨(some 6), .pur (.mv (.t 37)), none⟩])
      (.ret))
      (.seq (.reg [⟨(some 39), .pur (.bin .eql (.t 11) (.k (.int .i64 16))), none⟩,
        ⟨(some 38), .pur (.mv (.t 39)), none⟩])
      (.cond (.t 38)
       (.seq (.reg [⟨(some 42), .pur (.bin .sub (.t 1) (.t 2)), none⟩,
         ⟨(some 43), .call 15 [(.t 42)], none⟩,
         ⟨(some 6), .pur (.mv (.t 43)), none⟩])
       (.ret))
       (.seq (.reg [⟨(some 45), .pur (.bin .eql (.t 11) (.k (.int .i64 17))), none⟩,
         ⟨(some 44), .pur (.mv (.t 45)), none⟩])
       (.cond (.t 44)
        (.seq (.reg [⟨(some 48), .pur (.bin .lss (.t 1) (.t 2)), none⟩,
          ⟨(some 49), .call 28 [(.t 48)], none⟩,
          ⟨(some 6), .pur (.mv (.t 49)), none⟩])
        (.ret))
        (.seq (.reg [⟨(some 51), .pur (.bin .eql (.t 11) (.k (.int .i64 18))), none⟩,
          ⟨(some 50), .pur (.mv (.t 51)), none⟩])
        (.cond (.t 50)
         (.seq (.reg [⟨(some 54), .pur (.bin .leq (.t 1) (.t 2)), none⟩,
           ⟨(some 55), .call 28 [(.t 54)], none⟩,
           ⟨(some 6), .pur (.mv (.t 55)), none⟩])
         (.ret))
         (.seq (.reg [⟨(some 57), .pur (.bin .eql (.t 11) (.k (.int .i64 19))), none⟩,
           ⟨(some 56), .pur (.mv (.t 57)), none⟩])
         (.cond (.t 56)
          (.seq (.reg [⟨(some 60), .pur (.bin .gtr (.t 1) (.t 2)), none⟩,
            ⟨(some 61), .call 28 [(.t 60)], none⟩,
            ⟨(some 6), .pur (.mv (.t 61)), none⟩])
          (.ret))
          (.seq (.reg [⟨(some 63), .pur (.bin .eql (.t 11) (.k (.int .i64 20))), none⟩,
            ⟨(some 62), .pur (.mv (.t 63)), none⟩])
          (.cond (.t 62)
           (.seq (.reg [⟨(some 66), .pur (.bin .geq (.t 1) (.t 2)), none⟩,
             ⟨(some 67), .call 28 [(.t 66)], none⟩,
             ⟨(some 6), .pur (.mv (.t 67)), none⟩])
           (.ret))
           (.seq (.reg [⟨(some 69), .pur (.bin .eql (.t 11) (.k (.int .i64 21))), none⟩,
             ⟨(some 68), .pur (.mv (.t 69)), none⟩])
           (.cond (.t 68)
            (.seq (.reg [⟨(some 72), .pur (.bin .eql (.t 1) (.t 2)), none⟩,
              ⟨(some 73), .call 28 [(.t 72)], none⟩,
              ⟨(some 6), .pur (.mv (.t 73)), none⟩])
            (.ret))
            (.seq (.reg [⟨(some 75), .pur (.bin .eql (.t 11) (.k (.int .i64 22))), none⟩,
              ⟨(some 74), .pur (.mv (.t 75)), none⟩])
            (.cond (.t 74)
             (.seq (.reg [⟨(some 78), .pur (.bin .neq (.t 1) (.t 2)), none⟩,
               ⟨(some 79), .call 28 [(.t 78)], none⟩,
               ⟨(some 6), .pur (.mv (.t 79)), none⟩])
             (.ret))
             (.seq (.reg [⟨(some 81), .pur (.bin .eql (.t 11) (.k (.int .i64 23))), none⟩,
               ⟨(some 80), .pur (.mv (.t 81)), none⟩])
             (.cond (.t 80)
              (.seq (.reg [⟨(some 83), .pur (.bin .neq (.t 1) (.k (.int .i64 0))), none⟩,
                ⟨(some 85), .pur (.mv (.t 2)), some (83, true)⟩,
                ⟨(some 86), .pur (.bin .neq (.t 85) (.k (.int .i64 0))), some (83, true)⟩,
                ⟨(some 87), .pur (.pick (.t 83) (.t 86) (.k (.bool false))), none⟩,
                ⟨(some 88), .call 28 [(.t 87)], none⟩,
                ⟨(some 6), .pur (.mv (.t 88)), none⟩])
              (.ret))
              (.seq (.reg [⟨(some 90), .pur (.bin .eql (.t 11) (.k (.int .i64 24))), none⟩,
                ⟨(some 89), .pur (.mv (.t 90)), none⟩])
              (.cond (.t 89)
               (.seq (.reg [⟨(some 92), .pur (.bin .neq (.t 1) (.k (.int .i64 0))), none⟩,
                 ⟨(some 94), .pur (.mv (.t 2)), some (92, false)⟩,
                 ⟨(some 95), .pur (.bin .neq (.t 94) (.k (.int .i64 0))), some (92, false)⟩,
                 ⟨(some 96), .pur (.pick (.t 92) (.k (.bool true)) (.t 95)), none⟩,
                 ⟨(some 97), .call 28 [(.t 96)], none⟩,
                 ⟨(some 6), .pur (.mv (.t 97)), none⟩])
               (.ret))
               (.skip)))))))))))))))))))))))))))))
 (.seq (.reg [⟨(some 6), .pur (.mv (.k (.int .i64 0))), none⟩])
 (.ret)))),
 [.tmp 6]⟩
theorem is13 : IsFnO Tryz.prog 13 ir13 := .of 12403809180830783834220970680 (by kernel_rfl)
/-- pinball/vm.Clamp -/
noncomputable def ir14 : IFn := ⟨6, .seq (.reg [⟨(some 2), .pur (.mv (.k (.int .i64 0))), none⟩])
 (.seq (.reg [⟨(some 4), .pur (.mx (.t 0) (.k (.int .i64 (-2147483647)))), none⟩,
   ⟨(some 5), .pur (.mn (.t 4) (.k (.int .i64 2147483647))), none⟩,
   ⟨(some 2), .pur (.mv (.t 5)), none⟩])
 (.ret)),
 [.tmp 2]⟩
theorem is14 : IsFnO Tryz.prog 14 ir14 := .of 10 (by kernel_rfl)
/-- pinball/pinballref35.Clamp -/
noncomputable def ir15 : IFn := ⟨6, .seq (.reg [⟨(some 2), .pur (.mv (.k (.int .i64 0))), none⟩])
 (.seq (.reg [⟨(some 4), .pur (.mn (.k (.int .i64 2147483647)) (.t 0)), none⟩,
   ⟨(some 5), .pur (.mx (.k (.int .i64 (-2147483647))) (.t 4)), none⟩,
   ⟨(some 2), .pur (.mv (.t 5)), none⟩])
 (.ret)),
 [.tmp 2]⟩
theorem is15 : IsFnO Tryz.prog 15 ir15 := .of 10 (by kernel_rfl)
/-- pinball/pinballlaw35.sane -/
noncomputable def ir16 : IFn := ⟨62, .seq (.reg [⟨(some 0), .pur (.mv (.k (.bool false))), none⟩])
 (.seq (.reg [⟨(some 15), .call 29 [(.k (.string ⟨#[109, 111, 100, 101, 32, 109, 32, 49, 32, 123, 32, 111, 110, 32, 115, 116, 97, 114, 116, 32, 123, 32, 115, 99, 111, 114, 101, 32, 55, 32, 47, 32, 50, 59, 32, 115, 99, 111, 114, 101, 32, 45, 55, 32, 37, 32, 50, 59, 32, 125, 32, 111, 110, 32, 115, 116, 111, 112, 32, 123, 32, 114, 101, 112, 101, 97, 116, 32, 49, 48, 48, 48, 32, 123, 32, 125, 32, 125, 32, 125]⟩))], none⟩,
   ⟨(some 16), .pur (.ext (.t 15) 0), none⟩,
   ⟨(some 17), .pur (.ext (.t 15) 1), none⟩,
   ⟨(some 18), .pur (.ext (.t 15) 2), none⟩,
   ⟨(some 1), .new (.box (.k (.agg #[.slice none 0 0, .slice none 0 0, .slice none 0 0, .slice none 0 0, .slice none 0 0, .int .i64 0, .int .i64 0]))), none⟩,
   ⟨none, .eff (.st 7 (.t 1) (.t 16)), none⟩])
 (.seq (.reg [⟨(some 20), .pur (.ld 7 true (.t 1)), none⟩,
   ⟨(some 21), .pur (.bld #[.slice none 0 0, .slice none 0 0, .int .u64 0, .int .u32 0, .int .i64 0, .int .i64 0] [(0, 1), (1, 1), (2, 1), (3, 1), (4, 1), (5, 1)] []), none⟩,
   ⟨(some 22), .call 19 [(.t 20), (.k (.int .i64 0)), (.t 21), (.k (.int .i64 100))], none⟩,
   ⟨(some 23), .pur (.ext (.t 22) 0), none⟩,
   ⟨(some 24), .pur (.ext (.t 22) 1), none⟩,
   ⟨(some 25), .pur (.ext (.t 22) 2), none⟩,
   ⟨(some 26), .pur (.ext (.t 22) 3), none⟩,
   ⟨(some 5), .pur (.mv (.t 24)), none⟩,
   ⟨(some 6), .pur (.mv (.t 25)), none⟩,
   ⟨(some 7), .pur (.mv (.t 26)), none⟩])
 (.seq (.reg [⟨(some 28), .pur (.ld 7 true (.t 1)), none⟩,
   ⟨(some 29), .call 30 [(.t 28), (.k (.int .i64 0)), (.k (.int .i64 2)), (.k (.int .i64 0))], none⟩,
   ⟨(some 30), .pur (.ext (.t 29) 0), none⟩,
   ⟨(some 31), .pur (.ext (.t 29) 1), none⟩,
   ⟨(some 8), .pur (.mv (.t 30)), none⟩])
 (.seq (.reg [⟨(some 33), .pur (.ld 7 true (.t 1)), none⟩,
   ⟨(some 35), .pur (.bld #[.slice none 0 0, .slice none 0 0, .int .u64 0, .int .u32 0, .int .i64 0, .int .i64 0] [(0, 1), (1, 1), (2, 1), (3, 1), (4, 1), (5, 1)] []), none⟩,
   ⟨(some 36), .call 19 [(.t 33), (.t 8), (.t 35), (.k (.int .i64 1000))], none⟩,
   ⟨(some 37), .pur (.ext (.t 36) 0), none⟩,
   ⟨(some 38), .pur (.ext (.t 36) 1), none⟩,
   ⟨(some 39), .pur (.ext (.t 36) 2), none⟩,
   ⟨(some 40), .pur (.ext (.t 36) 3), none⟩,
   ⟨(some 13), .pur (.mv (.t 40)), none⟩])
 (.seq (.reg [⟨(some 42), .pur (.bin .eql (.t 7) (.k (.int .i64 0))), none⟩,
   ⟨(some 44), .pur (.mv (.t 6)), some (42, true)⟩,
   ⟨(some 45), .pur (.bin .eql (.t 44) (.k (.int .i64 10))), some (42, true)⟩,
   ⟨(some 46), .pur (.pick (.t 42) (.t 45) (.k (.bool false))), none⟩,
   ⟨(some 48), .pur (.mv (.t 5)), some (46, true)⟩,
   ⟨(some 49), .pur (.bld #[.int .i64 0, .int .i64 0, .int .i64 0, .int .i64 0, .string ⟨#[]⟩] [(0, 1), (1, 1), (2, 1), (3, 1), (4, 1)] [(0, (.k (.int .i64 15))), (2, (.k (.int .i64 3)))]), some (46, true)⟩,
   ⟨(some 50), .pur (.bld #[.int .i64 0, .int .i64 0, .int .i64 0, .int .i64 0, .string ⟨#[]⟩] [(0, 1), (1, 1), (2, 1), (3, 1), (4, 1)] [(0, (.k (.int .i64 15))), (2, (.k (.int .i64 (-1))))]), some (46, true)⟩,
   ⟨(some 51), .new (.bsl 5 2 #[.int .i64 0, .int .i64 0, .int .i64 0, .int .i64 0, .string ⟨#[]⟩] [(0, (.t 49)), (1, (.t 50))]), some (46, true)⟩,
   ⟨(some 52), .call 21 [(.t 48), (.t 51)], some (46, true)⟩,
   ⟨(some 53), .pur (.pick (.t 46) (.t 52) (.k (.bool false))), none⟩,
   ⟨(some 55), .pur (.mv (.t 13)), some (53, true)⟩,
   ⟨(some 56), .pur (.bin .eql (.t 55) (.k (.int .i64 52))), some (53, true)⟩,
   ⟨(some 57), .pur (.pick (.t 53) (.t 56) (.k (.bool false))), none⟩,
   ⟨(some 59), .call 14 [(.k (.int .i64 1099511627776))], some (57, true)⟩,
   ⟨(some 60), .pur (.bin .eql (.t 59) (.k (.int .i64 2147483647))), some (57, true)⟩,
   ⟨(some 61), .pur (.pick (.t 57) (.t 60) (.k (.bool false))), none⟩,
   ⟨(some 0), .pur (.mv (.t 61)), none⟩])
 (.ret)))))),
 [.tmp 0]⟩
theorem is16 : IsFnO Tryz.prog 16 ir16 := .of 306396528875429404 (by kernel_rfl)
/-- pinball/vm.Exec -/
noncomputable def ir19 : IFn := ⟨71, .seq (.reg [⟨(some 4), .new (.box (.t 0)), none⟩,
   ⟨(some 6), .new (.box (.t 2)), none⟩,
   ⟨(some 8), .pur (.mv (.k (.slice none 0 0))), none⟩,
   ⟨(some 9), .pur (.mv (.k (.slice none 0 0))), none⟩,
   ⟨(some 10), .pur (.mv (.k (.int .i64 0))), none⟩,
   ⟨(some 11), .pur (.mv (.k (.int .i64 0))), none⟩])
 (.seq (.reg [⟨(some 16), .pur (.ld 7 true (.t 4)), none⟩,
   ⟨(some 18), .pur (.ld 6 true (.t 6)), none⟩,
   ⟨(some 20), .call 34 [(.t 16), (.t 1), (.t 18), (.t 3)], none⟩,
   ⟨(some 21), .pur (.ext (.t 20) 0), none⟩,
   ⟨(some 22), .pur (.ext (.t 20) 1), none⟩,
   ⟨(some 12), .pur (.mv (.t 21)), none⟩,
   ⟨(some 13), .pur (.mv (.t 22)), none⟩])
 (.seq (.seq (.reg [⟨(some 24), .pur (.bin .neq (.t 13) (.k (.int .i64 0))), none⟩])
 (.cond (.t 24)
  (.seq (.reg [⟨(some 8), .pur (.mv (.k (.slice none 0 0))), none⟩,
    ⟨(some 9), .pur (.mv (.k (.slice none 0 0))), none⟩,
    ⟨(some 10), .pur (.mv (.k (.int .i64 0))), none⟩,
    ⟨(some 11), .pur (.mv (.t 13)), none⟩])
  (.ret))
  (.skip)))
 (.seq (.reg [⟨(some 14), .pur (.mv (.k (.int .i64 0))), none⟩])
 (.seq (.blk 0 (.loop (.seq (.seq (.reg [⟨(some 27), .pur (.nck (.t 12)), none⟩,
     ⟨(some 28), .pur (.fad 14 (.t 27)), none⟩,
     ⟨(some 29), .pur (.ld 1 false (.t 28)), none⟩,
     ⟨(some 30), .pur (.un .not (.t 29)), none⟩,
     ⟨(some 32), .pur (.mv (.t 14)), some (30, true)⟩,
     ⟨(some 33), .pur (.mv (.t 3)), some (30, true)⟩,
     ⟨(some 34), .pur (.bin .lss (.t 32) (.t 33)), some (30, true)⟩,
     ⟨(some 35), .pur (.pick (.t 30) (.t 34) (.k (.bool false))), none⟩,
     ⟨(some 37), .pur (.mv (.t 12)), some (35, true)⟩,
     ⟨(some 38), .pur (.nck (.t 37)), some (35, true)⟩,
     ⟨(some 39), .pur (.fad 16 (.t 38)), some (35, true)⟩,
     ⟨(some 40), .pur (.ld 1 false (.t 39)), some (35, true)⟩,
     ⟨(some 41), .pur (.len (.t 40)), some (35, true)⟩,
     ⟨(some 42), .pur (.bin .leq (.t 41) (.k (.int .i64 256))), some (35, true)⟩,
     ⟨(some 43), .pur (.pick (.t 35) (.t 42) (.k (.bool false))), none⟩])
   (.cond (.t 43)
    (.skip)
    (.exit 0)))
   (.seq (.blk 1 (.reg [⟨(some 47), .call 35 [(.t 12)], none⟩]))
   (.reg [⟨(some 45), .pur (.bin .add (.t 14) (.k (.int .i64 1))), none⟩,
     ⟨(some 14), .pur (.mv (.t 45)), none⟩])))))
 (.seq (.seq (.reg [⟨(some 49), .pur (.nck (.t 12)), none⟩,
   ⟨(some 50), .pur (.fad 14 (.t 49)), none⟩,
   ⟨(some 51), .pur (.ld 1 false (.t 50)), none⟩,
   ⟨(some 52), .pur (.un .not (.t 51)), none⟩,
   ⟨(some 54), .pur (.mv (.t 12)), some (52, false)⟩,
   ⟨(some 55), .pur (.nck (.t 54)), some (52, false)⟩,
   ⟨(some 56), .pur (.fad 16 (.t 55)), some (52, false)⟩,
   ⟨(some 57), .pur (.ld 1 false (.t 56)), some (52, false)⟩,
   ⟨(some 58), .pur (.len (.t 57)), some (52, false)⟩,
   ⟨(some 59), .pur (.bin .gtr (.t 58) (.k (.int .i64 256))), some (52, false)⟩,
   ⟨(some 60), .pur (.pick (.t 52) (.k (.bool true)) (.t 59)), none⟩])
 (.cond (.t 60)
  (.seq (.reg [⟨(some 8), .pur (.mv (.k (.slice none 0 0))), none⟩,
    ⟨(some 9), .pur (.mv (.k (.slice none 0 0))), none⟩,
    ⟨(some 10), .pur (.mv (.k (.int .i64 0))), none⟩,
    ⟨(some 11), .pur (.mv (.k (.int .i64 52))), none⟩])
  (.ret))
  (.skip)))
 (.seq (.drw 14 ⟨[⟨(some 61), .pur (.mv (.t 12)), none⟩,
   ⟨(some 62), .pur (.nck (.t 61)), none⟩,
   ⟨(some 63), .pur (.fad 7 (.t 62)), none⟩,
   ⟨(some 64), .pur (.fad 0 (.t 63)), none⟩,
   ⟨(some 65), .pur (.ld 1 false (.t 64)), none⟩,
   ⟨(some 66), .pur (.mv (.t 12)), none⟩,
   ⟨(some 67), .pur (.nck (.t 66)), none⟩,
   ⟨(some 68), .pur (.fad 16 (.t 67)), none⟩,
   ⟨(some 69), .pur (.ld 1 false (.t 68)), none⟩,
   ⟨(some 70), .pur (.mv (.t 14)), none⟩,
   ⟨(some 8), .pur (.mv (.t 65)), none⟩,
   ⟨(some 9), .pur (.mv (.t 69)), none⟩,
   ⟨(some 10), .pur (.mv (.t 70)), none⟩,
   ⟨(some 11), .pur (.mv (.k (.int .i64 0))), none⟩],
   [[], [0], [1, 0], [2, 1, 0], [3, 2, 1, 0], [], [5], [6, 5], [7, 6, 5], [], [4, 0, 1, 2, 3], [8, 10, 0, 1, 2, 3, 4, 5, 6, 7], [9, 11, 0, 1, 2, 3, 4, 5, 6, 7, 8, 10], [12, 0, 1, 2, 3, 4, 5, 6, 7, 8, 9, 10, 11]],
   [(0, none), (1, none), (2, none), (3, none), (4, none), (5, none), (6, none), (7, none), (8, none), (9, none), (10, some [5, 6, 7, 8, 9]), (11, some [9]), (12, some []), (13, some [])]⟩)
 (.ret))))))),
 [.tmp 8, .tmp 9, .tmp 10, .tmp 11]⟩
theorem is19 : IsFnO Tryz.prog 19 ir19 := .of 9376706138374304 (by kernel_rfl)
/-- pinball/pinballref35.SameEffects -/
noncomputable def ir21 : IFn := ⟨26, .seq (.reg [⟨(some 4), .pur (.mv (.k (.bool false))), none⟩])
 (.seq (.seq (.reg [⟨(some 7), .pur (.len (.t 0)), none⟩,
   ⟨(some 9), .pur (.len (.t 1)), none⟩,
   ⟨(some 10), .pur (.bin .neq (.t 7) (.t 9)), none⟩])
 (.cond (.t 10)
  (.seq (.reg [⟨(some 4), .pur (.mv (.k (.bool false))), none⟩])
  (.ret))
  (.skip)))
 (.seq (.seq (.reg [⟨(some 5), .pur (.mv (.k (.int .i64 0))), none⟩])
 (.blk 0 (.loop (.seq (.seq (.reg [⟨(some 13), .pur (.len (.t 0)), none⟩,
     ⟨(some 14), .pur (.bin .lss (.t 5) (.t 13)), none⟩])
   (.cond (.t 14)
    (.skip)
    (.exit 0)))
   (.seq (.blk 1 (.seq (.drw 9 ⟨[⟨(some 17), .pur (.mv (.t 0)), none⟩,
      ⟨(some 18), .pur (.mv (.t 5)), none⟩,
      ⟨(some 19), .pur (.iad 5 (.t 17) (.t 18)), none⟩,
      ⟨(some 20), .pur (.ld 5 true (.t 19)), none⟩,
      ⟨(some 21), .pur (.mv (.t 1)), none⟩,
      ⟨(some 22), .pur (.mv (.t 5)), none⟩,
      ⟨(some 23), .pur (.iad 5 (.t 21) (.t 22)), none⟩,
      ⟨(some 24), .pur (.ld 5 true (.t 23)), none⟩,
      ⟨(some 25), .pur (.eqa true [0, 0, 0, 0, 2] (.t 20) (.t 24)), none⟩],
      [[], [], [0, 1], [2, 0, 1], [], [], [4, 5], [6, 4, 5], [3, 7, 2, 0, 1, 6, 4, 5]],
      [(0, none), (1, none), (2, none), (3, none), (4, none), (5, none), (6, none), (7, none), (8, none)]⟩)
    (.cond (.t 25)
     (.seq (.reg [⟨(some 4), .pur (.mv (.k (.bool false))), none⟩])
     (.ret))
     (.skip))))
   (.reg [⟨(some 16), .pur (.bin .add (.t 5) (.k (.int .i64 1))), none⟩,
     ⟨(some 5), .pur (.mv (.t 16)), none⟩]))))))
 (.seq (.reg [⟨(some 4), .pur (.mv (.k (.bool true))), none⟩])
 (.ret)))),
 [.tmp 4]⟩
theorem is21 : IsFnO Tryz.prog 21 ir21 := .of 39244 (by kernel_rfl)
/-- pinball/vm.IsEnv -/
noncomputable def ir24 : IFn := ⟨67, .seq (.reg [⟨(some 2), .new (.box (.t 0)), none⟩,
   ⟨(some 3), .new (.box (.t 1)), none⟩,
   ⟨(some 4), .pur (.mv (.k (.bool false))), none⟩])
 (.seq (.reg [⟨(some 5), .pur (.mv (.f 38)), none⟩])
 (.seq (.drw 62 ⟨[⟨(some 6), .pur (.ld 7 true (.t 2)), none⟩,
   ⟨(some 7), .call 40 [(.t 6)], none⟩,
   ⟨(some 8), .pur (.bin .eql (.t 7) (.k (.int .i64 0))), none⟩,
   ⟨(some 9), .pur (.mv (.t 8)), none⟩,
   ⟨(some 10), .pur (.fad 0 (.t 3)), some (9, true)⟩,
   ⟨(some 11), .pur (.ld 1 false (.t 10)), some (9, true)⟩,
   ⟨(some 12), .pur (.len (.t 11)), some (9, true)⟩,
   ⟨(some 13), .pur (.fad 4 (.t 2)), some (9, true)⟩,
   ⟨(some 14), .pur (.ld 1 false (.t 13)), some (9, true)⟩,
   ⟨(some 15), .pur (.len (.t 14)), some (9, true)⟩,
   ⟨(some 16), .pur (.bin .eql (.t 12) (.t 15)), some (9, true)⟩,
   ⟨(some 17), .pur (.pick (.t 9) (.t 16) (.k (.bool false))), none⟩,
   ⟨(some 18), .pur (.mv (.t 17)), none⟩,
   ⟨(some 19), .pur (.fad 1 (.t 3)), some (18, true)⟩,
   ⟨(some 20), .pur (.ld 1 false (.t 19)), some (18, true)⟩,
   ⟨(some 21), .pur (.len (.t 20)), some (18, true)⟩,
   ⟨(some 22), .pur (.fad 5 (.t 2)), some (18, true)⟩,
   ⟨(some 23), .pur (.ld 1 false (.t 22)), some (18, true)⟩,
   ⟨(some 24), .pur (.bin .eql (.t 21) (.t 23)), some (18, true)⟩,
   ⟨(some 25), .pur (.pick (.t 18) (.t 24) (.k (.bool false))), none⟩,
   ⟨(some 26), .pur (.mv (.t 25)), none⟩,
   ⟨(some 27), .pur (.fad 0 (.t 3)), some (26, true)⟩,
   ⟨(some 28), .pur (.ld 1 false (.t 27)), some (26, true)⟩,
   ⟨(some 29), .pur (.mv (.t 5)), some (26, true)⟩,
   ⟨(some 30), .callv (.t 29) [(.k (.int .i64 (-2147483647)))], some (26, true)⟩,
   ⟨(some 31), .call 41 [(.t 28), (.t 30)], some (26, true)⟩,
   ⟨(some 32), .pur (.un .not (.t 31)), some (26, true)⟩,
   ⟨(some 33), .pur (.pick (.t 26) (.t 32) (.k (.bool false))), none⟩,
   ⟨(some 34), .pur (.mv (.t 33)), none⟩,
   ⟨(some 35), .pur (.fad 1 (.t 3)), some (34, true)⟩,
   ⟨(some 36), .pur (.ld 1 false (.t 35)), some (34, true)⟩,
   ⟨(some 37), .pur (.mv (.t 5)), some (34, true)⟩,
   ⟨(some 38), .callv (.t 37) [(.k (.int .i64 0))], some (34, true)⟩,
   ⟨(some 39), .call 41 [(.t 36), (.t 38)], some (34, true)⟩,
   ⟨(some 40), .pur (.un .not (.t 39)), some (34, true)⟩,
   ⟨(some 41), .pur (.pick (.t 34) (.t 40) (.k (.bool false))), none⟩,
   ⟨(some 42), .pur (.mv (.t 41)), none⟩,
   ⟨(some 43), .pur (.fad 3 (.t 3)), some (42, true)⟩,
   ⟨(some 44), .pur (.ld 1 false (.t 43)), some (42, true)⟩,
   ⟨(some 45), .pur (.fad 3 (.t 2)), some (42, true)⟩,
   ⟨(some 46), .pur (.ld 1 false (.t 45)), some (42, true)⟩,
   ⟨(some 47), .pur (.len (.t 46)), some (42, true)⟩,
   ⟨(some 48), .pur (.bin .shr (.t 44) (.t 47)), some (42, true)⟩,
   ⟨(some 49), .pur (.bin .eql (.t 48) (.k (.int .u32 0))), some (42, true)⟩,
   ⟨(some 50), .pur (.pick (.t 42) (.t 49) (.k (.bool false))), none⟩,
   ⟨(some 51), .pur (.mv (.t 50)), none⟩,
   ⟨(some 52), .pur (.mv (.t 5)), some (51, true)⟩,
   ⟨(some 53), .callv (.t 52) [(.k (.int .i64 0))], some (51, true)⟩,
   ⟨(some 54), .pur (.fad 4 (.t 3)), some (51, true)⟩,
   ⟨(some 55), .pur (.ld 1 false (.t 54)), some (51, true)⟩,
   ⟨(some 56), .callv (.t 53) [(.t 55)], some (51, true)⟩,
   ⟨(some 57), .pur (.un .not (.t 56)), some (51, true)⟩,
   ⟨(some 58), .pur (.pick (.t 51) (.t 57) (.k (.bool false))), none⟩,
   ⟨(some 59), .pur (.mv (.t 58)), none⟩,
   ⟨(some 60), .pur (.mv (.t 5)), some (59, true)⟩,
   ⟨(some 61), .callv (.t 60) [(.k (.int .i64 0))], some (59, true)⟩,
   ⟨(some 62), .pur (.fad 5 (.t 3)), some (59, true)⟩,
   ⟨(some 63), .pur (.ld 1 false (.t 62)), some (59, true)⟩,
   ⟨(some 64), .callv (.t 61) [(.t 63)], some (59, true)⟩,
   ⟨(some 65), .pur (.un .not (.t 64)), some (59, true)⟩,
   ⟨(some 66), .pur (.pick (.t 59) (.t 65) (.k (.bool false))), none⟩,
   ⟨(some 4), .pur (.mv (.t 66)), none⟩],
   [[], [0], [1, 0], [2, 1, 0], [3, 2, 1, 0], [4, 3, 2, 1, 0], [5, 3, 4, 2, 1, 0], [3, 2, 1, 0], [7, 3, 2, 1, 0], [8, 3, 7, 2, 1, 0], [6, 9, 3, 5, 4, 2, 1, 0, 8, 7], [3, 10, 2, 1, 0, 6, 9, 5, 4, 8, 7], [11, 3, 10, 2, 1, 0, 6, 9, 5, 4, 8, 7], [12, 11, 3, 10, 2, 1, 0, 6, 9, 5, 4, 8, 7], [13, 12, 11, 3, 10, 2, 1, 0, 6, 9, 5, 4, 8, 7], [14, 12, 13, 11, 3, 10, 2, 1, 0, 6, 9, 5, 4, 8, 7], [12, 11, 3, 10, 2, 1, 0, 6, 9, 5, 4, 8, 7], [16, 12, 11, 3, 10, 2, 1, 0, 6, 9, 5, 4, 8, 7], [15, 17, 12, 14, 13, 11, 3, 10, 2, 1, 0, 6, 9, 5, 4, 8, 7, 16], [12, 18, 11, 3, 10, 2, 1, 0, 6, 9, 5, 4, 8, 7, 15, 17, 14, 13, 16], [19, 12, 18, 11, 3, 10, 2, 1, 0, 6, 9, 5, 4, 8, 7, 15, 17, 14, 13, 16], [20, 19, 12, 18, 11, 3, 10, 2, 1, 0, 6, 9, 5, 4, 8, 7, 15, 17, 14, 13, 16], [21, 20, 19, 12, 18, 11, 3, 10, 2, 1, 0, 6, 9, 5, 4, 8, 7, 15, 17, 14, 13, 16], [20, 19, 12, 18, 11, 3, 10, 2, 1, 0, 6, 9, 5, 4, 8, 7, 15, 17, 14, 13, 16], [23, 20, 19, 12, 18, 11, 3, 10, 2, 1, 0, 6, 9, 5, 4, 8, 7, 15, 17, 14, 13, 16], [22, 24, 20, 21, 19, 12, 18, 11, 3, 10, 2, 1, 0, 6, 9, 5, 4, 8, 7, 15, 17, 14, 13, 16, 23], [25, 20, 22, 24, 21, 19, 12, 18, 11, 3, 10, 2, 1, 0, 6, 9, 5, 4, 8, 7, 15, 17, 14, 13, 16, 23], [20, 26, 19, 12, 18, 11, 3, 10, 2, 1, 0, 6, 9, 5, 4, 8, 7, 15, 17, 14, 13, 16, 25, 22, 24, 21, 23], [27, 25, 20, 26, 19, 12, 18, 11, 3, 10, 2, 1, 0, 6, 9, 5, 4, 8, 7, 15, 17, 14, 13, 16, 22, 24, 21, 23], [28, 27, 25, 20, 26, 19, 12, 18, 11, 3, 10, 2, 1, 0, 6, 9, 5, 4, 8, 7, 15, 17, 14, 13, 16, 22, 24, 21, 23], [29, 28, 27, 25, 20, 26, 19, 12, 18, 11, 3, 10, 2, 1, 0, 6, 9, 5, 4, 8, 7, 15, 17, 14, 13, 16, 22, 24, 21, 23], [28, 27, 25, 20, 26, 19, 12, 18, 11, 3, 10, 2, 1, 0, 6, 9, 5, 4, 8, 7, 15, 17, 14, 13, 16, 22, 24, 21, 23], [31, 28, 27, 25, 20, 26, 19, 12, 18, 11, 3, 10, 2, 1, 0, 6, 9, 5, 4, 8, 7, 15, 17, 14, 13, 16, 22, 24, 21, 23], [30, 32, 28, 29, 27, 25, 20, 26, 19, 12, 18, 11, 3, 10, 2, 1, 0, 6, 9, 5, 4, 8, 7, 15, 17, 14, 13, 16, 22, 24, 21, 23, 31], [33, 28, 30, 32, 29, 27, 25, 20, 26, 19, 12, 18, 11, 3, 10, 2, 1, 0, 6, 9, 5, 4, 8, 7, 15, 17, 14, 13, 16, 22, 24, 21, 23, 31], [28, 34, 27, 25, 20, 26, 19, 12, 18, 11, 3, 10, 2, 1, 0, 6, 9, 5, 4, 8, 7, 15, 17, 14, 13, 16, 22, 24, 21, 23, 33, 30, 32, 29, 31], [35, 33, 28, 34, 27, 25, 20, 26, 19, 12, 18, 11, 3, 10, 2, 1, 0, 6, 9, 5, 4, 8, 7, 15, 17, 14, 13, 16, 22, 24, 21, 23, 30, 32, 29, 31], [36, 35, 33, 28, 34, 27, 25, 20, 26, 19, 12, 18, 11, 3, 10, 2, 1, 0, 6, 9, 5, 4, 8, 7, 15, 17, 14, 13, 16, 22, 24, 21, 23, 30, 32, 29, 31], [37, 36, 35, 33, 28, 34, 27, 25, 20, 26, 19, 12, 18, 11, 3, 10, 2, 1, 0, 6, 9, 5, 4, 8, 7, 15, 17, 14, 13, 16, 22, 24, 21, 23, 30, 32, 29, 31], [36, 35, 33, 28, 34, 27, 25, 20, 26, 19, 12, 18, 11, 3, 10, 2, 1, 0, 6, 9, 5, 4, 8, 7, 15, 17, 14, 13, 16, 22, 24, 21, 23, 30, 32, 29, 31], [39, 36, 35, 33, 28, 34, 27, 25, 20, 26, 19, 12, 18, 11, 3, 10, 2, 1, 0, 6, 9, 5, 4, 8, 7, 15, 17, 14, 13, 16, 22, 24, 21, 23, 30, 32, 29, 31], [40, 36, 39, 35, 33, 28, 34, 27, 25, 20, 26, 19, 12, 18, 11, 3, 10, 2, 1, 0, 6, 9, 5, 4, 8, 7, 15, 17, 14, 13, 16, 22, 24, 21, 23, 30, 32, 29, 31], [38, 41, 36, 37, 35, 33, 28, 34, 27, 25, 20, 26, 19, 12, 18, 11, 3, 10, 2, 1, 0, 6, 9, 5, 4, 8, 7, 15, 17, 14, 13, 16, 22, 24, 21, 23, 30, 32, 29, 31, 40, 39], [42, 36, 38, 41, 37, 35, 33, 28, 34, 27, 25, 20, 26, 19, 12, 18, 11, 3, 10, 2, 1, 0, 6, 9, 5, 4, 8, 7, 15, 17, 14, 13, 16, 22, 24, 21, 23, 30, 32, 29, 31, 40, 39], [36, 43, 35, 33, 28, 34, 27, 25, 20, 26, 19, 12, 18, 11, 3, 10, 2, 1, 0, 6, 9, 5, 4, 8, 7, 15, 17, 14, 13, 16, 22, 24, 21, 23, 30, 32, 29, 31, 42, 38, 41, 37, 40, 39], [44, 36, 43, 35, 33, 28, 34, 27, 25, 20, 26, 19, 12, 18, 11, 3, 10, 2, 1, 0, 6, 9, 5, 4, 8, 7, 15, 17, 14, 13, 16, 22, 24, 21, 23, 30, 32, 29, 31, 42, 38, 41, 37, 40, 39], [45, 44, 36, 43, 35, 33, 28, 34, 27, 25, 20, 26, 19, 12, 18, 11, 3, 10, 2, 1, 0, 6, 9, 5, 4, 8, 7, 15, 17, 14, 13, 16, 22, 24, 21, 23, 30, 32, 29, 31, 42, 38, 41, 37, 40, 39], [46, 45, 44, 36, 43, 35, 33, 28, 34, 27, 25, 20, 26, 19, 12, 18, 11, 3, 10, 2, 1, 0, 6, 9, 5, 4, 8, 7, 15, 17, 14, 13, 16, 22, 24, 21, 23, 30, 32, 29, 31, 42, 38, 41, 37, 40, 39], [45, 44, 36, 43, 35, 33, 28, 34, 27, 25, 20, 26, 19, 12, 18, 11, 3, 10, 2, 1, 0, 6, 9, 5, 4, 8, 7, 15, 17, 14, 13, 16, 22, 24, 21, 23, 30, 32, 29, 31, 42, 38, 41, 37, 40, 39], [48, 45, 44, 36, 43, 35, 33, 28, 34, 27, 25, 20, 26, 19, 12, 18, 11, 3, 10, 2, 1, 0, 6, 9, 5, 4, 8, 7, 15, 17, 14, 13, 16, 22, 24, 21, 23, 30, 32, 29, 31, 42, 38, 41, 37, 40, 39], [47, 49, 45, 46, 44, 36, 43, 35, 33, 28, 34, 27, 25, 20, 26, 19, 12, 18, 11, 3, 10, 2, 1, 0, 6, 9, 5, 4, 8, 7, 15, 17, 14, 13, 16, 22, 24, 21, 23, 30, 32, 29, 31, 42, 38, 41, 37, 40, 39, 48], [50, 45, 47, 49, 46, 44, 36, 43, 35, 33, 28, 34, 27, 25, 20, 26, 19, 12, 18, 11, 3, 10, 2, 1, 0, 6, 9, 5, 4, 8, 7, 15, 17, 14, 13, 16, 22, 24, 21, 23, 30, 32, 29, 31, 42, 38, 41, 37, 40, 39, 48], [45, 51, 44, 36, 43, 35, 33, 28, 34, 27, 25, 20, 26, 19, 12, 18, 11, 3, 10, 2, 1, 0, 6, 9, 5, 4, 8, 7, 15, 17, 14, 13, 16, 22, 24, 21, 23, 30, 32, 29, 31, 42, 38, 41, 37, 40, 39, 50, 47, 49, 46, 48], [52, 50, 45, 51, 44, 36, 43, 35, 33, 28, 34, 27, 25, 20, 26, 19, 12, 18, 11, 3, 10, 2, 1, 0, 6, 9, 5, 4, 8, 7, 15, 17, 14, 13, 16, 22, 24, 21, 23, 30, 32, 29, 31, 42, 38, 41, 37, 40, 39, 47, 49, 46, 48], [53, 52, 50, 45, 51, 44, 36, 43, 35, 33, 28, 34, 27, 25, 20, 26, 19, 12, 18, 11, 3, 10, 2, 1, 0, 6, 9, 5, 4, 8, 7, 15, 17, 14, 13, 16, 22, 24, 21, 23, 30, 32, 29, 31, 42, 38, 41, 37, 40, 39, 47, 49, 46, 48], [54, 53, 52, 50, 45, 51, 44, 36, 43, 35, 33, 28, 34, 27, 25, 20, 26, 19, 12, 18, 11, 3, 10, 2, 1, 0, 6, 9, 5, 4, 8, 7, 15, 17, 14, 13, 16, 22, 24, 21, 23, 30, 32, 29, 31, 42, 38, 41, 37, 40, 39, 47, 49, 46, 48], [53, 52, 50, 45, 51, 44, 36, 43, 35, 33, 28, 34, 27, 25, 20, 26, 19, 12, 18, 11, 3, 10, 2, 1, 0, 6, 9, 5, 4, 8, 7, 15, 17, 14, 13, 16, 22, 24, 21, 23, 30, 32, 29, 31, 42, 38, 41, 37, 40, 39, 47, 49, 46, 48], [56, 53, 52, 50, 45, 51, 44, 36, 43, 35, 33, 28, 34, 27, 25, 20, 26, 19, 12, 18, 11, 3, 10, 2, 1, 0, 6, 9, 5, 4, 8, 7, 15, 17, 14, 13, 16, 22, 24, 21, 23, 30, 32, 29, 31, 42, 38, 41, 37, 40, 39, 47, 49, 46, 48], [55, 57, 53, 54, 52, 50, 45, 51, 44, 36, 43, 35, 33, 28, 34, 27, 25, 20, 26, 19, 12, 18, 11, 3, 10, 2, 1, 0, 6, 9, 5, 4, 8, 7, 15, 17, 14, 13, 16, 22, 24, 21, 23, 30, 32, 29, 31, 42, 38, 41, 37, 40, 39, 47, 49, 46, 48, 56], [58, 53, 55, 57, 54, 52, 50, 45, 51, 44, 36, 43, 35, 33, 28, 34, 27, 25, 20, 26, 19, 12, 18, 11, 3, 10, 2, 1, 0, 6, 9, 5, 4, 8, 7, 15, 17, 14, 13, 16, 22, 24, 21, 23, 30, 32, 29, 31, 42, 38, 41, 37, 40, 39, 47, 49, 46, 48, 56], [53, 59, 52, 50, 45, 51, 44, 36, 43, 35, 33, 28, 34, 27, 25, 20, 26, 19, 12, 18, 11, 3, 10, 2, 1, 0, 6, 9, 5, 4, 8, 7, 15, 17, 14, 13, 16, 22, 24, 21, 23, 30, 32, 29, 31, 42, 38, 41, 37, 40, 39, 47, 49, 46, 48, 58, 55, 57, 54, 56], [60, 58, 0, 1, 2, 3, 4, 5, 6, 7, 8, 9, 10, 11, 12, 13, 14, 15, 16, 17, 18, 19, 20, 21, 22, 23, 24, 25, 26, 27, 28, 29, 30, 31, 32, 33, 34, 35, 36, 37, 38, 39, 40, 41, 42, 43, 44, 45, 46, 47, 48, 49, 50, 51, 52, 53, 54, 55, 56, 57, 59]],
   [(0, none), (1, some []), (2, none), (3, none), (4, none), (5, none), (6, none), (7, none), (8, none), (9, none), (10, none), (11, none), (12, none), (13, none), (14, none), (15, none), (16, none), (17, none), (18, none), (19, none), (20, none), (21, none), (22, none), (23, none), (24, some [21, 22]), (25, some []), (26, none), (27, none), (28, none), (29, none), (30, none), (31, none), (32, some [29, 30]), (33, some []), (34, none), (35, none), (36, none), (37, none), (38, none), (39, none), (40, none), (41, none), (42, none), (43, none), (44, none), (45, none), (46, none), (48, none), (49, none), (47, some [48, 49]), (50, some []), (51, none), (52, none), (53, none), (54, none), (56, none), (57, none), (55, some [56, 57]), (58, some []), (59, none), (60, none), (61, some [])]⟩)
 (.ret))),
 [.tmp 4]⟩
theorem is24 : IsFnO Tryz.prog 24 ir24 := .of 0 (by kernel_rfl)
/-- pinball/vm.bit -/
noncomputable def ir27 : IFn := ⟨4, .seq (.reg [⟨(some 2), .pur (.mv (.k (.int .i64 0))), none⟩])
 (.seq (.seq (.reg [⟨(some 3), .pur (.mv (.t 0)), none⟩])
 (.cond (.t 3)
  (.seq (.reg [⟨(some 2), .pur (.mv (.k (.int .i64 1))), none⟩])
  (.ret))
  (.skip)))
 (.seq (.reg [⟨(some 2), .pur (.mv (.k (.int .i64 0))), none⟩])
 (.ret))),
 [.tmp 2]⟩
theorem is27 : IsFnO Tryz.prog 27 ir27 := .of 2 (by kernel_rfl)
/-- pinball/pinballref35.truth -/
noncomputable def ir28 : IFn := ⟨4, .seq (.reg [⟨(some 2), .pur (.mv (.k (.int .i64 0))), none⟩])
 (.seq (.seq (.reg [⟨(some 3), .pur (.mv (.t 0)), none⟩])
 (.cond (.t 3)
  (.seq (.reg [⟨(some 2), .pur (.mv (.k (.int .i64 1))), none⟩])
  (.ret))
  (.skip)))
 (.seq (.reg [⟨(some 2), .pur (.mv (.k (.int .i64 0))), none⟩])
 (.ret))),
 [.tmp 2]⟩
theorem is28 : IsFnO Tryz.prog 28 ir28 := .of 2 (by kernel_rfl)
/-- pinball/pinballref34.Build -/
noncomputable def ir29 : IFn := ⟨24, .seq (.reg [⟨(some 2), .new (.box (.k (.agg #[.slice none 0 0, .slice none 0 0, .slice none 0 0, .slice none 0 0, .slice none 0 0, .int .i64 0, .int .i64 0]))), none⟩,
   ⟨(some 3), .pur (.mv (.k (.int .i64 0))), none⟩,
   ⟨(some 4), .pur (.mv (.k (.int .i64 0))), none⟩])
 (.seq (.reg [⟨(some 10), .call 43 [(.t 0)], none⟩,
   ⟨(some 11), .pur (.ext (.t 10) 0), none⟩,
   ⟨(some 12), .pur (.ext (.t 10) 1), none⟩,
   ⟨(some 13), .pur (.ext (.t 10) 2), none⟩,
   ⟨(some 5), .new (.box (.k (.agg #[.slice none 0 0, .slice none 0 0]))), none⟩,
   ⟨none, .eff (.st 2 (.t 5) (.t 11)), none⟩,
   ⟨(some 6), .pur (.mv (.t 12)), none⟩,
   ⟨(some 7), .pur (.mv (.t 13)), none⟩])
 (.seq (.seq (.reg [⟨(some 15), .pur (.bin .neq (.t 7) (.k (.int .i64 0))), none⟩])
 (.cond (.t 15)
  (.seq (.reg [⟨(some 16), .pur (.bld #[.slice none 0 0, .slice none 0 0, .slice none 0 0, .slice none 0 0, .slice none 0 0, .int .i64 0, .int .i64 0] [(0, 1), (1, 1), (2, 1), (3, 1), (4, 1), (5, 1), (6, 1)] []), none⟩,
    ⟨none, .eff (.st 7 (.t 2) (.t 16)), none⟩,
    ⟨(some 3), .pur (.mv (.t 6)), none⟩,
    ⟨(some 4), .pur (.mv (.t 7)), none⟩])
  (.ret))
  (.skip)))
 (.seq (.reg [⟨(some 19), .pur (.ld 2 true (.t 5)), none⟩,
   ⟨(some 20), .call 44 [(.t 19)], none⟩,
   ⟨(some 21), .pur (.ext (.t 20) 0), none⟩,
   ⟨(some 22), .pur (.ext (.t 20) 1), none⟩,
   ⟨(some 23), .pur (.ext (.t 20) 2), none⟩,
   ⟨none, .eff (.st 7 (.t 2) (.t 21)), none⟩,
   ⟨(some 3), .pur (.mv (.t 22)), none⟩,
   ⟨(some 4), .pur (.mv (.t 23)), none⟩])
 (.ret)))),
 [.cell 2 7 true, .tmp 3, .tmp 4]⟩
theorem is29 : IsFnO Tryz.prog 29 ir29 := .of 410370 (by kernel_rfl)
/-- pinball/pinballref33.Find -/
noncomputable def ir30 : IFn := ⟨42, .seq (.reg [⟨(some 4), .new (.box (.t 0)), none⟩,
   ⟨(some 8), .pur (.mv (.k (.int .i64 0))), none⟩,
   ⟨(some 9), .pur (.mv (.k (.bool false))), none⟩])
 (.seq (.seq (.reg [⟨(some 10), .pur (.mv (.k (.int .i64 0))), none⟩])
 (.blk 0 (.loop (.seq (.seq (.reg [⟨(some 13), .pur (.fad 2 (.t 4)), none⟩,
     ⟨(some 14), .pur (.ld 1 false (.t 13)), none⟩,
     ⟨(some 15), .pur (.len (.t 14)), none⟩,
     ⟨(some 16), .pur (.bin .lss (.t 10) (.t 15)), none⟩])
   (.cond (.t 16)
    (.skip)
    (.exit 0)))
   (.seq (.blk 1 (.seq (.reg [⟨(some 19), .pur (.fad 2 (.t 4)), none⟩,
      ⟨(some 20), .pur (.ld 1 false (.t 19)), none⟩,
      ⟨(some 22), .pur (.iad 4 (.t 20) (.t 10)), none⟩,
      ⟨(some 23), .pur (.ld 4 true (.t 22)), none⟩,
      ⟨(some 11), .new (.box (.k (.agg #[.int .i64 0, .int .i64 0, .int .i64 0, .int .i64 0]))), none⟩,
      ⟨none, .eff (.st 4 (.t 11) (.t 23)), none⟩])
    (.seq (.reg [⟨(some 24), .pur (.fad 0 (.t 11)), none⟩,
      ⟨(some 25), .pur (.ld 1 false (.t 24)), none⟩,
      ⟨(some 27), .pur (.bin .eql (.t 25) (.t 1)), none⟩,
      ⟨(some 29), .pur (.fad 1 (.t 11)), some (27, true)⟩,
      ⟨(some 30), .pur (.ld 1 false (.t 29)), some (27, true)⟩,
      ⟨(some 31), .pur (.mv (.t 2)), some (27, true)⟩,
      ⟨(some 32), .pur (.bin .eql (.t 30) (.t 31)), some (27, true)⟩,
      ⟨(some 33), .pur (.pick (.t 27) (.t 32) (.k (.bool false))), none⟩,
      ⟨(some 35), .pur (.fad 2 (.t 11)), some (33, true)⟩,
      ⟨(some 36), .pur (.ld 1 false (.t 35)), some (33, true)⟩,
      ⟨(some 37), .pur (.mv (.t 3)), some (33, true)⟩,
      ⟨(some 38), .pur (.bin .eql (.t 36) (.t 37)), some (33, true)⟩,
      ⟨(some 39), .pur (.pick (.t 33) (.t 38) (.k (.bool false))), none⟩])
    (.cond (.t 39)
     (.seq (.reg [⟨(some 40), .pur (.fad 3 (.t 11)), none⟩,
       ⟨(some 41), .pur (.ld 1 false (.t 40)), none⟩,
       ⟨(some 8), .pur (.mv (.t 41)), none⟩,
       ⟨(some 9), .pur (.mv (.k (.bool true))), none⟩])
     (.ret))
     (.skip)))))
   (.reg [⟨(some 18), .pur (.bin .add (.t 10) (.k (.int .i64 1))), none⟩,
     ⟨(some 10), .pur (.mv (.t 18)), none⟩]))))))
 (.seq (.reg [⟨(some 8), .pur (.mv (.k (.int .i64 0))), none⟩,
   ⟨(some 9), .pur (.mv (.k (.bool false))), none⟩])
 (.ret))),
 [.tmp 8, .tmp 9]⟩
theorem is30 : IsFnO Tryz.prog 30 ir30 := .of 17517646048 (by kernel_rfl)
/-- pinball/vm.begin -/
noncomputable def ir34 : IFn := ⟨37, .seq (.reg [⟨(some 4), .new (.box (.t 0)), none⟩,
   ⟨(some 5), .new (.box (.t 1)), none⟩,
   ⟨(some 6), .new (.box (.t 2)), none⟩,
   ⟨(some 8), .pur (.mv (.k (.pointer none))), none⟩,
   ⟨(some 9), .pur (.mv (.k (.int .i64 0))), none⟩])
 (.seq (.blk 0 (.seq (.reg [⟨(some 11), .pur (.ld 7 true (.t 4)), none⟩,
    ⟨(some 12), .pur (.ld 6 true (.t 6)), none⟩,
    ⟨(some 13), .call 24 [(.t 11), (.t 12)], none⟩,
    ⟨(some 14), .pur (.un .not (.t 13)), none⟩,
    ⟨(some 10), .pur (.mv (.t 14)), none⟩])
  (.cond (.t 10)
   (.seq (.reg [⟨(some 8), .pur (.mv (.k (.pointer none))), none⟩,
     ⟨(some 9), .pur (.mv (.k (.int .i64 1))), none⟩])
   (.ret))
   (.seq (.reg [⟨(some 16), .pur (.fad 2 (.t 4)), none⟩,
     ⟨(some 17), .pur (.ld 1 false (.t 16)), none⟩,
     ⟨(some 18), .pur (.mkf 47 [] [(.t 5)]), none⟩,
     ⟨(some 19), .call 46 [(.t 17), (.t 18)], none⟩,
     ⟨(some 20), .pur (.un .not (.t 19)), none⟩,
     ⟨(some 15), .pur (.mv (.t 20)), none⟩])
   (.cond (.t 15)
    (.seq (.reg [⟨(some 8), .pur (.mv (.k (.pointer none))), none⟩,
      ⟨(some 9), .pur (.mv (.k (.int .i64 54))), none⟩])
    (.ret))
    (.seq (.reg [⟨(some 23), .pur (.bin .lss (.t 3) (.k (.int .i64 0))), none⟩,
      ⟨(some 25), .pur (.mv (.t 3)), some (23, false)⟩,
      ⟨(some 26), .pur (.bin .gtr (.t 25) (.k (.int .i64 1000))), some (23, false)⟩,
      ⟨(some 27), .pur (.pick (.t 23) (.k (.bool true)) (.t 26)), none⟩,
      ⟨(some 21), .pur (.mv (.t 27)), none⟩])
    (.cond (.t 21)
     (.seq (.reg [⟨(some 8), .pur (.mv (.k (.pointer none))), none⟩,
       ⟨(some 9), .pur (.mv (.k (.int .i64 5))), none⟩])
     (.ret))
     (.skip))))))))
 (.seq (.reg [⟨(some 28), .pur (.fad 0 (.t 6)), none⟩,
   ⟨(some 29), .pur (.ld 1 false (.t 28)), none⟩,
   ⟨(some 30), .call 48 [(.t 29)], none⟩,
   ⟨(some 31), .pur (.fad 0 (.t 6)), none⟩,
   ⟨none, .eff (.st 1 (.t 31) (.t 30)), none⟩])
 (.seq (.reg [⟨(some 32), .pur (.ld 7 true (.t 4)), none⟩,
   ⟨(some 33), .pur (.ld 6 true (.t 6)), none⟩,
   ⟨(some 34), .pur (.ld 1 false (.t 5)), none⟩,
   ⟨(some 35), .pur (.bld #[.slice none 0 0, .slice none 0 0, .slice none 0 0, .slice none 0 0, .slice none 0 0, .int .i64 0, .int .i64 0, .slice none 0 0, .slice none 0 0, .int .u64 0, .int .u32 0, .int .i64 0, .int .i64 0, .int .i64 0, .bool false, .slice none 0 0, .slice none 0 0] [(0, 7), (7, 6), (13, 1), (14, 1), (15, 1), (16, 1)] [(0, (.t 32)), (1, (.t 33)), (2, (.t 34))]), none⟩,
   ⟨(some 36), .new (.box (.t 35)), none⟩,
   ⟨(some 8), .pur (.mv (.t 36)), none⟩,
   ⟨(some 9), .pur (.mv (.k (.int .i64 0))), none⟩])
 (.ret)))),
 [.tmp 8, .tmp 9]⟩
theorem is34 : IsFnO Tryz.prog 34 ir34 := .of 20971648 (by kernel_rfl)
/-- (*pinball/vm.machine).step -/
noncomputable def ir35 : IFn := ⟨226, .seq (.drw 13 ⟨[⟨(some 6), .pur (.mv (.t 0)), none⟩,
   ⟨(some 7), .pur (.nck (.t 6)), none⟩,
   ⟨(some 8), .pur (.fad 0 (.t 7)), none⟩,
   ⟨(some 9), .pur (.fad 0 (.t 8)), none⟩,
   ⟨(some 10), .pur (.ld 1 false (.t 9)), none⟩,
   ⟨(some 11), .pur (.mv (.t 0)), none⟩,
   ⟨(some 12), .pur (.nck (.t 11)), none⟩,
   ⟨(some 13), .pur (.fad 13 (.t 12)), none⟩,
   ⟨(some 14), .pur (.ld 1 false (.t 13)), none⟩,
   ⟨(some 15), .pur (.iad 2 (.t 10) (.t 14)), none⟩,
   ⟨(some 16), .pur (.ld 2 true (.t 15)), none⟩,
   ⟨(some 2), .new (.box (.k (.agg #[.int .i64 0, .int .i64 0]))), none⟩,
   ⟨none, .eff (.st 2 (.t 2) (.t 16)), none⟩],
   [[], [0], [1, 0], [2, 1, 0], [3, 2, 1, 0], [], [5], [6, 5], [7, 6, 5], [4, 8, 3, 2, 1, 0, 7, 6, 5], [9, 4, 8, 3, 2, 1, 0, 7, 6, 5], [], [11, 10, 0, 1, 2, 3, 4, 5, 6, 7, 8, 9]],
   [(0, none), (1, none), (2, none), (3, none), (4, none), (5, none), (6, none), (7, none), (8, none), (9, none), (10, none), (11, none), (12, some [])]⟩)
 (.seq (.reg [⟨(some 18), .pur (.nck (.t 0)), none⟩,
   ⟨(some 19), .pur (.fad 13 (.t 18)), none⟩,
   ⟨(some 20), .pur (.ld 1 false (.t 19)), none⟩,
   ⟨(some 21), .pur (.bin .add (.t 20) (.k (.int .i64 1))), none⟩,
   ⟨(some 22), .pur (.nck (.t 0)), none⟩,
   ⟨(some 23), .pur (.fad 13 (.t 22)), none⟩,
   ⟨none, .eff (.st 1 (.t 23) (.t 21)), none⟩])
 (.seq (.reg [⟨(some 24), .pur (.fad 0 (.t 2)), none⟩,
   ⟨(some 25), .pur (.ld 1 false (.t 24)), none⟩])
 (.blk 0 (.seq (.reg [⟨(some 30), .pur (.bin .eql (.t 25) (.k (.int .i64 1))), none⟩,
    ⟨(some 29), .pur (.mv (.t 30)), none⟩])
  (.cond (.t 29)
   (.reg [⟨(some 32), .pur (.fad 1 (.t 2)), none⟩,
     ⟨(some 33), .pur (.ld 1 false (.t 32)), none⟩,
     ⟨(some 34), .call 49 [(.t 0), (.t 33)], none⟩])
   (.seq (.reg [⟨(some 36), .pur (.bin .eql (.t 25) (.k (.int .i64 2))), none⟩,
     ⟨(some 35), .pur (.mv (.t 36)), none⟩])
   (.cond (.t 35)
    (.drw 11 ⟨[⟨(some 37), .pur (.mv (.t 0)), none⟩,
      ⟨(some 38), .pur (.mv (.t 0)), none⟩,
      ⟨(some 39), .pur (.nck (.t 38)), none⟩,
      ⟨(some 40), .pur (.fad 7 (.t 39)), none⟩,
      ⟨(some 41), .pur (.fad 0 (.t 40)), none⟩,
      ⟨(some 42), .pur (.ld 1 false (.t 41)), none⟩,
      ⟨(some 43), .pur (.fad 1 (.t 2)), none⟩,
      ⟨(some 44), .pur (.ld 1 false (.t 43)), none⟩,
      ⟨(some 45), .pur (.iad 1 (.t 42) (.t 44)), none⟩,
      ⟨(some 46), .pur (.ld 1 false (.t 45)), none⟩,
      ⟨(some 47), .call 49 [(.t 37), (.t 46)], none⟩],
      [[], [], [1], [2, 1], [3, 2, 1], [4, 3, 2, 1], [], [6], [5, 7, 4, 3, 2, 1, 6], [8, 5, 7, 4, 3, 2, 1, 6], [0, 9, 8, 5, 7, 4, 3, 2, 1, 6]],
      [(0, none), (1, none), (2, none), (3, none), (4, none), (5, none), (6, none), (7, none), (8, none), (9, none), (10, some [])]⟩)
    (.seq (.reg [⟨(some 49), .pur (.bin .eql (.t 25) (.k (.int .i64 3))), none⟩,
      ⟨(some 48), .pur (.mv (.t 49)), none⟩])
    (.cond (.t 48)
     (.drw 11 ⟨[⟨(some 50), .pur (.mv (.t 0)), none⟩,
       ⟨(some 51), .pur (.nck (.t 50)), none⟩,
       ⟨(some 52), .pur (.fad 7 (.t 51)), none⟩,
       ⟨(some 53), .pur (.fad 0 (.t 52)), none⟩,
       ⟨(some 54), .pur (.ld 1 false (.t 53)), none⟩,
       ⟨(some 55), .pur (.fad 1 (.t 2)), none⟩,
       ⟨(some 56), .pur (.ld 1 false (.t 55)), none⟩,
       ⟨(some 57), .pur (.mv (.t 0)), none⟩,
       ⟨(some 58), .call 50 [(.t 57)], none⟩,
       ⟨(some 59), .pur (.iad 1 (.t 54) (.t 56)), none⟩,
       ⟨none, .eff (.st 1 (.t 59) (.t 58)), none⟩],
       [[], [0], [1, 0], [2, 1, 0], [3, 2, 1, 0], [], [5], [], [7], [4, 6, 0, 1, 2, 3, 5, 7, 8], [9, 8, 0, 1, 2, 3, 4, 5, 6, 7]],
       [(0, none), (1, none), (2, none), (3, none), (4, none), (5, none), (6, none), (7, none), (8, some [0, 1, 2, 3, 4, 5, 6]), (9, none), (10, some [])]⟩)
     (.seq (.reg [⟨(some 61), .pur (.bin .eql (.t 25) (.k (.int .i64 4))), none⟩,
       ⟨(some 60), .pur (.mv (.t 61)), none⟩])
     (.cond (.t 60)
      (.drw 12 ⟨[⟨(some 62), .pur (.mv (.t 0)), none⟩,
        ⟨(some 63), .pur (.mv (.t 0)), none⟩,
        ⟨(some 64), .pur (.nck (.t 63)), none⟩,
        ⟨(some 65), .pur (.fad 7 (.t 64)), none⟩,
        ⟨(some 66), .pur (.fad 2 (.t 65)), none⟩,
        ⟨(some 67), .pur (.ld 1 false (.t 66)), none⟩,
        ⟨(some 68), .pur (.fad 1 (.t 2)), none⟩,
        ⟨(some 69), .pur (.ld 1 false (.t 68)), none⟩,
        ⟨(some 70), .pur (.bin .shr (.t 67) (.t 69)), none⟩,
        ⟨(some 71), .pur (.bin .and (.t 70) (.k (.int .u64 1))), none⟩,
        ⟨(some 72), .pur (.cvi .i64 (.t 71)), none⟩,
        ⟨(some 73), .call 49 [(.t 62), (.t 72)], none⟩],
        [[], [], [1], [2, 1], [3, 2, 1], [4, 3, 2, 1], [], [6], [5, 7, 4, 3, 2, 1, 6], [8, 5, 7, 4, 3, 2, 1, 6], [9, 8, 5, 7, 4, 3, 2, 1, 6], [0, 10, 9, 8, 5, 7, 4, 3, 2, 1, 6]],
        [(0, none), (1, none), (2, none), (3, none), (4, none), (5, none), (6, none), (7, none), (8, none), (9, none), (10, none), (11, some [])]⟩)
      (.seq (.reg [⟨(some 75), .pur (.bin .eql (.t 25) (.k (.int .i64 5))), none⟩,
        ⟨(some 74), .pur (.mv (.t 75)), none⟩])
      (.cond (.t 74)
       (.drw 12 ⟨[⟨(some 76), .pur (.mv (.t 0)), none⟩,
         ⟨(some 77), .pur (.mv (.t 0)), none⟩,
         ⟨(some 78), .pur (.nck (.t 77)), none⟩,
         ⟨(some 79), .pur (.fad 7 (.t 78)), none⟩,
         ⟨(some 80), .pur (.fad 3 (.t 79)), none⟩,
         ⟨(some 81), .pur (.ld 1 false (.t 80)), none⟩,
         ⟨(some 82), .pur (.fad 1 (.t 2)), none⟩,
         ⟨(some 83), .pur (.ld 1 false (.t 82)), none⟩,
         ⟨(some 84), .pur (.bin .shr (.t 81) (.t 83)), none⟩,
         ⟨(some 85), .pur (.bin .and (.t 84) (.k (.int .u32 1))), none⟩,
         ⟨(some 86), .pur (.cvi .i64 (.t 85)), none⟩,
         ⟨(some 87), .call 49 [(.t 76), (.t 86)], none⟩],
         [[], [], [1], [2, 1], [3, 2, 1], [4, 3, 2, 1], [], [6], [5, 7, 4, 3, 2, 1, 6], [8, 5, 7, 4, 3, 2, 1, 6], [9, 8, 5, 7, 4, 3, 2, 1, 6], [0, 10, 9, 8, 5, 7, 4, 3, 2, 1, 6]],
         [(0, none), (1, none), (2, none), (3, none), (4, none), (5, none), (6, none), (7, none), (8, none), (9, none), (10, none), (11, some [])]⟩)
       (.seq (.reg [⟨(some 89), .pur (.bin .eql (.t 25) (.k (.int .i64 6))), none⟩,
         ⟨(some 88), .pur (.mv (.t 89)), none⟩])
       (.cond (.t 88)
        (.drw 11 ⟨[⟨(some 90), .pur (.mv (.t 0)), none⟩,
          ⟨(some 91), .pur (.mv (.t 0)), none⟩,
          ⟨(some 92), .pur (.nck (.t 91)), none⟩,
          ⟨(some 93), .pur (.fad 7 (.t 92)), none⟩,
          ⟨(some 94), .pur (.fad 1 (.t 93)), none⟩,
          ⟨(some 95), .pur (.ld 1 false (.t 94)), none⟩,
          ⟨(some 96), .pur (.fad 1 (.t 2)), none⟩,
          ⟨(some 97), .pur (.ld 1 false (.t 96)), none⟩,
          ⟨(some 98), .pur (.iad 1 (.t 95) (.t 97)), none⟩,
          ⟨(some 99), .pur (.ld 1 false (.t 98)), none⟩,
          ⟨(some 100), .call 49 [(.t 90), (.t 99)], none⟩],
          [[], [], [1], [2, 1], [3, 2, 1], [4, 3, 2, 1], [], [6], [5, 7, 4, 3, 2, 1, 6], [8, 5, 7, 4, 3, 2, 1, 6], [0, 9, 8, 5, 7, 4, 3, 2, 1, 6]],
          [(0, none), (1, none), (2, none), (3, none), (4, none), (5, none), (6, none), (7, none), (8, none), (9, none), (10, some [])]⟩)
        (.seq (.reg [⟨(some 102), .pur (.bin .eql (.t 25) (.k (.int .i64 7))), none⟩,
          ⟨(some 101), .pur (.mv (.t 102)), none⟩])
        (.cond (.t 101)
         (.reg [⟨(some 105), .pur (.nck (.t 0)), none⟩,
           ⟨(some 106), .pur (.fad 7 (.t 105)), none⟩,
           ⟨(some 107), .pur (.fad 4 (.t 106)), none⟩,
           ⟨(some 108), .pur (.ld 1 false (.t 107)), none⟩,
           ⟨(some 109), .call 49 [(.t 0), (.t 108)], none⟩])
         (.seq (.reg [⟨(some 111), .pur (.bin .eql (.t 25) (.k (.int .i64 8))), none⟩,
           ⟨(some 110), .pur (.mv (.t 111)), none⟩])
         (.cond (.t 110)
          (.reg [⟨(some 114), .pur (.nck (.t 0)), none⟩,
            ⟨(some 115), .pur (.fad 7 (.t 114)), none⟩,
            ⟨(some 116), .pur (.fad 5 (.t 115)), none⟩,
            ⟨(some 117), .pur (.ld 1 false (.t 116)), none⟩,
            ⟨(some 118), .call 49 [(.t 0), (.t 117)], none⟩])
          (.seq (.reg [⟨(some 120), .pur (.bin .eql (.t 25) (.k (.int .i64 9))), none⟩,
            ⟨(some 119), .pur (.mv (.t 120)), none⟩])
          (.cond (.t 119)
           (.reg [⟨(some 123), .call 50 [(.t 0)], none⟩,
             ⟨(some 124), .call 10 [(.k (.int .i64 10)), (.t 123)], none⟩,
             ⟨(some 125), .call 49 [(.t 0), (.t 124)], none⟩])
           (.seq (.reg [⟨(some 127), .pur (.bin .eql (.t 25) (.k (.int .i64 10))), none⟩,
             ⟨(some 126), .pur (.mv (.t 127)), none⟩])
           (.cond (.t 126)
            (.reg [⟨(some 130), .call 50 [(.t 0)], none⟩,
              ⟨(some 131), .call 10 [(.k (.int .i64 11)), (.t 130)], none⟩,
              ⟨(some 132), .call 49 [(.t 0), (.t 131)], none⟩])
            (.seq (.reg [⟨(some 134), .pur (.bin .eql (.t 25) (.k (.int .i64 11))), none⟩,
              ⟨(some 133), .pur (.mv (.t 134)), none⟩])
            (.cond (.t 133)
             (.seq (.reg [⟨(some 136), .call 50 [(.t 0)], none⟩,
               ⟨(some 3), .pur (.mv (.t 136)), none⟩])
             (.drw 8 ⟨[⟨(some 137), .pur (.mv (.t 0)), none⟩,
               ⟨(some 138), .pur (.fad 1 (.t 2)), none⟩,
               ⟨(some 139), .pur (.ld 1 false (.t 138)), none⟩,
               ⟨(some 140), .pur (.mv (.t 0)), none⟩,
               ⟨(some 141), .call 50 [(.t 140)], none⟩,
               ⟨(some 142), .pur (.mv (.t 3)), none⟩,
               ⟨(some 143), .call 12 [(.t 139), (.t 141), (.t 142)], none⟩,
               ⟨(some 144), .call 49 [(.t 137), (.t 143)], none⟩],
               [[], [], [1], [], [3], [], [2, 4, 5, 1, 3], [0, 6, 2, 4, 5, 1, 3]],
               [(0, none), (1, none), (2, none), (3, none), (5, none), (4, some [0, 1, 2, 5]), (6, some [0]), (7, some [])]⟩))
             (.seq (.reg [⟨(some 146), .pur (.bin .eql (.t 25) (.k (.int .i64 12))), none⟩,
               ⟨(some 145), .pur (.mv (.t 146)), none⟩])
             (.cond (.t 145)
              (.reg [⟨(some 148), .pur (.fad 1 (.t 2)), none⟩,
                ⟨(some 149), .pur (.ld 1 false (.t 148)), none⟩,
                ⟨(some 150), .pur (.nck (.t 0)), none⟩,
                ⟨(some 151), .pur (.fad 13 (.t 150)), none⟩,
                ⟨none, .eff (.st 1 (.t 151) (.t 149)), none⟩])
              (.seq (.reg [⟨(some 153), .pur (.bin .eql (.t 25) (.k (.int .i64 13))), none⟩,
                ⟨(some 152), .pur (.mv (.t 153)), none⟩])
              (.cond (.t 152)
               (.seq (.reg [⟨(some 155), .call 50 [(.t 0)], none⟩,
                 ⟨(some 156), .pur (.bin .eql (.t 155) (.k (.int .i64 0))), none⟩])
               (.cond (.t 156)
                (.reg [⟨(some 158), .pur (.fad 1 (.t 2)), none⟩,
                  ⟨(some 159), .pur (.ld 1 false (.t 158)), none⟩,
                  ⟨(some 160), .pur (.nck (.t 0)), none⟩,
                  ⟨(some 161), .pur (.fad 13 (.t 160)), none⟩,
                  ⟨none, .eff (.st 1 (.t 161) (.t 159)), none⟩])
                (.skip)))
               (.seq (.reg [⟨(some 163), .pur (.bin .eql (.t 25) (.k (.int .i64 14))), none⟩,
                 ⟨(some 162), .pur (.mv (.t 163)), none⟩])
               (.cond (.t 162)
                (.seq (.reg [⟨(some 165), .call 50 [(.t 0)], none⟩,
                  ⟨(some 4), .pur (.mv (.t 165)), none⟩])
                (.seq (.reg [⟨(some 167), .pur (.bin .leq (.t 4) (.k (.int .i64 0))), none⟩])
                (.cond (.t 167)
                 (.reg [⟨(some 169), .pur (.fad 1 (.t 2)), none⟩,
                   ⟨(some 170), .pur (.ld 1 false (.t 169)), none⟩,
                   ⟨(some 171), .pur (.nck (.t 0)), none⟩,
                   ⟨(some 172), .pur (.fad 13 (.t 171)), none⟩,
                   ⟨none, .eff (.st 1 (.t 172) (.t 170)), none⟩])
                 (.reg [⟨(some 175), .pur (.bin .sub (.t 4) (.k (.int .i64 1))), none⟩,
                   ⟨(some 176), .call 49 [(.t 0), (.t 175)], none⟩]))))
                (.seq (.seq (.reg [⟨(some 178), .pur (.bin .eql (.t 25) (.k (.int .i64 15))), none⟩,
                  ⟨(some 177), .pur (.mv (.t 178)), none⟩])
                (.cond (.t 177)
                 (.skip)
                 (.seq (.reg [⟨(some 179), .pur (.bin .eql (.t 25) (.k (.int .i64 19))), none⟩,
                   ⟨(some 177), .pur (.mv (.t 179)), none⟩])
                 (.cond (.t 177)
                  (.skip)
                  (.reg [⟨(some 180), .pur (.bin .eql (.t 25) (.k (.int .i64 21))), none⟩,
                    ⟨(some 177), .pur (.mv (.t 180)), none⟩])))))
                (.cond (.t 177)
                 (.drw 5 ⟨[⟨(some 181), .pur (.mv (.t 0)), none⟩,
                   ⟨(some 182), .pur (.ld 2 true (.t 2)), none⟩,
                   ⟨(some 183), .pur (.mv (.t 0)), none⟩,
                   ⟨(some 184), .call 50 [(.t 183)], none⟩,
                   ⟨(some 185), .call 51 [(.t 181), (.t 182), (.t 184), (.k (.int .i64 0))], none⟩],
                   [[], [], [], [2], [0, 1, 3, 2]],
                   [(0, none), (1, none), (2, none), (3, some [0, 1]), (4, some [])]⟩)
                 (.seq (.reg [⟨(some 187), .pur (.bin .eql (.t 25) (.k (.int .i64 20))), none⟩,
                   ⟨(some 186), .pur (.mv (.t 187)), none⟩])
                 (.cond (.t 186)
                  (.seq (.reg [⟨(some 189), .call 50 [(.t 0)], none⟩,
                    ⟨(some 5), .pur (.mv (.t 189)), none⟩])
                  (.drw 6 ⟨[⟨(some 190), .pur (.mv (.t 0)), none⟩,
                    ⟨(some 191), .pur (.ld 2 true (.t 2)), none⟩,
                    ⟨(some 192), .pur (.mv (.t 0)), none⟩,
                    ⟨(some 193), .call 50 [(.t 192)], none⟩,
                    ⟨(some 194), .pur (.mv (.t 5)), none⟩,
                    ⟨(some 195), .call 51 [(.t 190), (.t 191), (.t 193), (.t 194)], none⟩],
                    [[], [], [], [2], [], [0, 1, 3, 4, 2]],
                    [(0, none), (1, none), (2, none), (4, none), (3, some [0, 1, 4]), (5, some [])]⟩))
                  (.seq (.reg [⟨(some 197), .pur (.bin .eql (.t 25) (.k (.int .i64 29))), none⟩,
                    ⟨(some 196), .pur (.mv (.t 197)), none⟩])
                  (.cond (.t 196)
                   (.drw 24 ⟨[⟨(some 198), .pur (.mv (.t 0)), none⟩,
                     ⟨(some 199), .pur (.mv (.t 0)), none⟩,
                     ⟨(some 200), .pur (.nck (.t 199)), none⟩,
                     ⟨(some 201), .pur (.fad 16 (.t 200)), none⟩,
                     ⟨(some 202), .pur (.ld 1 false (.t 201)), none⟩,
                     ⟨(some 203), .pur (.fad 0 (.t 2)), none⟩,
                     ⟨(some 204), .pur (.ld 1 false (.t 203)), none⟩,
                     ⟨(some 205), .pur (.mv (.t 0)), none⟩,
                     ⟨(some 206), .call 50 [(.t 205)], none⟩,
                     ⟨(some 207), .pur (.mv (.t 0)), none⟩,
                     ⟨(some 208), .pur (.nck (.t 207)), none⟩,
                     ⟨(some 209), .pur (.fad 0 (.t 208)), none⟩,
                     ⟨(some 210), .pur (.fad 1 (.t 209)), none⟩,
                     ⟨(some 211), .pur (.ld 1 false (.t 210)), none⟩,
                     ⟨(some 212), .pur (.fad 1 (.t 2)), none⟩,
                     ⟨(some 213), .pur (.ld 1 false (.t 212)), none⟩,
                     ⟨(some 214), .pur (.iad 1 (.t 211) (.t 213)), none⟩,
                     ⟨(some 215), .pur (.ld 1 false (.t 214)), none⟩,
                     ⟨(some 216), .pur (.bld #[.int .i64 0, .int .i64 0, .int .i64 0, .int .i64 0, .string ⟨#[]⟩] [(0, 1), (1, 1), (2, 1), (3, 1), (4, 1)] [(0, (.t 204)), (2, (.t 206)), (4, (.t 215))]), none⟩,
                     ⟨(some 217), .new (.bsl 5 1 #[.int .i64 0, .int .i64 0, .int .i64 0, .int .i64 0, .string ⟨#[]⟩] [(0, (.t 216))]), none⟩,
                     ⟨(some 218), .eff (.app 5 48 (.t 202) (.t 217)), none⟩,
                     ⟨(some 219), .pur (.nck (.t 198)), none⟩,
                     ⟨(some 220), .pur (.fad 16 (.t 219)), none⟩,
                     ⟨none, .eff (.st 1 (.t 220) (.t 218)), none⟩],
                     [[], [], [1], [2, 1], [3, 2, 1], [], [5], [], [7], [], [9], [10, 9], [11, 10, 9], [12, 11, 10, 9], [], [14], [13, 15, 12, 11, 10, 9, 14], [16, 13, 15, 12, 11, 10, 9, 14], [6, 8, 17, 5, 7, 16, 13, 15, 12, 11, 10, 9, 14], [18, 6, 8, 17, 5, 7, 16, 13, 15, 12, 11, 10, 9, 14], [4, 19, 8, 3, 2, 1, 18, 6, 17, 5, 7, 16, 13, 15, 12, 11, 10, 9, 14], [0, 1, 2, 3, 4, 5, 6, 7, 8, 9, 10, 11, 12, 13, 14, 15, 16, 17, 18, 19, 20], [21, 0, 1, 2, 3, 4, 5, 6, 7, 8, 9, 10, 11, 12, 13, 14, 15, 16, 17, 18, 19, 20], [22, 20, 0, 1, 2, 3, 4, 5, 6, 7, 8, 9, 10, 11, 12, 13, 14, 15, 16, 17, 18, 19, 21]],
                     [(0, none), (1, none), (2, none), (3, none), (4, none), (5, none), (6, none), (7, none), (9, none), (10, none), (11, none), (12, none), (13, none), (14, none), (15, none), (16, none), (17, none), (8, some [0, 1, 2, 3, 4, 5, 6, 9, 10, 11, 12, 13, 14, 15, 16, 17]), (18, none), (19, none), (20, some [0]), (21, none), (22, none), (23, some [])]⟩)
                   (.seq (.reg [⟨(some 222), .pur (.bin .eql (.t 25) (.k (.int .i64 31))), none⟩,
                     ⟨(some 221), .pur (.mv (.t 222)), none⟩])
                   (.cond (.t 221)
                    (.reg [⟨(some 224), .pur (.nck (.t 0)), none⟩,
                      ⟨(some 225), .pur (.fad 14 (.t 224)), none⟩,
                      ⟨none, .eff (.st 1 (.t 225) (.k (.bool true))), none⟩])
                    (.reg [⟨(some 27), .pur (.ld 2 true (.t 2)), none⟩,
                      ⟨(some 28), .call 51 [(.t 0), (.t 27), (.k (.int .i64 0)), (.k (.int .i64 0))], none⟩])))))))))))))))))))))))))))))))))))))))),
 []⟩
theorem is35 : IsFnO Tryz.prog 35 ir35 := .of 13479973333967675164929666396999277975754967674566065254288878338050 (by kernel_rfl)
/-- pinball/vm.IsEnv$1 -/
noncomputable def ir38 : IFn := ⟨4, .seq (.reg [⟨(some 1), .new (.box (.t 0)), none⟩,
   ⟨(some 2), .pur (.mv (.k (.nilFunc))), none⟩])
 (.seq (.reg [⟨(some 3), .pur (.mkf 39 [] [(.t 1)]), none⟩,
   ⟨(some 2), .pur (.mv (.t 3)), none⟩])
 (.ret)),
 [.tmp 2]⟩
theorem is38 : IsFnO Tryz.prog 38 ir38 := .of 0 (by kernel_rfl)
/-- pinball/vm.IsEnv$1$1 -/
noncomputable def ir39 : IFn := ⟨11, .seq (.reg [⟨(some 3), .pur (.mv (.k (.bool false))), none⟩])
 (.seq (.reg [⟨(some 5), .pur (.ld 1 false (.t 1)), none⟩,
   ⟨(some 6), .pur (.bin .lss (.t 0) (.t 5)), none⟩,
   ⟨(some 8), .pur (.mv (.t 0)), some (6, false)⟩,
   ⟨(some 9), .pur (.bin .gtr (.t 8) (.k (.int .i64 2147483647))), some (6, false)⟩,
   ⟨(some 10), .pur (.pick (.t 6) (.k (.bool true)) (.t 9)), none⟩,
   ⟨(some 3), .pur (.mv (.t 10)), none⟩])
 (.ret)),
 [.tmp 3]⟩
theorem is39 : IsFnO Tryz.prog 39 ir39 := .of 148 (by kernel_rfl)
/-- pinball/bytecode.Valid -/
noncomputable def ir40 : IFn := ⟨11, .seq (.reg [⟨(some 1), .new (.box (.t 0)), none⟩,
   ⟨(some 2), .pur (.mv (.k (.int .i64 0))), none⟩])
 (.seq (.reg [⟨(some 6), .pur (.ld 7 true (.t 1)), none⟩,
   ⟨(some 7), .call 54 [(.t 6)], none⟩,
   ⟨(some 8), .pur (.ext (.t 7) 0), none⟩,
   ⟨(some 9), .pur (.ext (.t 7) 1), none⟩,
   ⟨(some 4), .pur (.mv (.t 9)), none⟩])
 (.seq (.reg [⟨(some 2), .pur (.mv (.t 4)), none⟩])
 (.ret))),
 [.tmp 2]⟩
theorem is40 : IsFnO Tryz.prog 40 ir40 := .of 1064 (by kernel_rfl)
/-- slices.ContainsFunc[[]int,int] -/
noncomputable def ir41 : IFn := ⟨9, .seq (.reg [⟨(some 4), .pur (.mv (.k (.bool false))), none⟩])
 (.seq (.reg [⟨(some 7), .call 55 [(.t 0), (.t 1)], none⟩,
   ⟨(some 8), .pur (.bin .geq (.t 7) (.k (.int .i64 0))), none⟩,
   ⟨(some 4), .pur (.mv (.t 8)), none⟩])
 (.ret)),
 [.tmp 4]⟩
theorem is41 : IsFnO Tryz.prog 41 ir41 := .of 108 (by kernel_rfl)
/-- pinball/pinballref31.Parse -/
noncomputable def ir43 : IFn := ⟨41, .seq (.reg [⟨(some 2), .new (.box (.k (.agg #[.slice none 0 0, .slice none 0 0]))), none⟩,
   ⟨(some 3), .pur (.mv (.k (.int .i64 0))), none⟩,
   ⟨(some 4), .pur (.mv (.k (.int .i64 0))), none⟩])
 (.seq (.reg [⟨(some 12), .call 61 [(.t 0)], none⟩,
   ⟨(some 13), .pur (.ext (.t 12) 0), none⟩,
   ⟨(some 14), .pur (.ext (.t 12) 1), none⟩,
   ⟨(some 15), .pur (.ext (.t 12) 2), none⟩,
   ⟨(some 5), .pur (.mv (.t 13)), none⟩,
   ⟨(some 6), .pur (.mv (.t 14)), none⟩,
   ⟨(some 7), .pur (.mv (.t 15)), none⟩])
 (.seq (.seq (.reg [⟨(some 17), .pur (.bin .neq (.t 7) (.k (.int .i64 0))), none⟩])
 (.cond (.t 17)
  (.seq (.reg [⟨(some 18), .pur (.bld #[.slice none 0 0, .slice none 0 0] [(0, 1), (1, 1)] []), none⟩,
    ⟨none, .eff (.st 2 (.t 2) (.t 18)), none⟩,
    ⟨(some 3), .pur (.mv (.t 6)), none⟩,
    ⟨(some 4), .pur (.mv (.t 7)), none⟩])
  (.ret))
  (.skip)))
 (.seq (.reg [⟨(some 23), .pur (.lens (.t 0)), none⟩,
   ⟨(some 24), .pur (.bld #[.slice none 0 0, .int .i64 0, .int .i64 0, .int .i64 0, .int .i64 0, .int .i64 0, .int .i64 0] [(0, 1), (1, 1), (2, 1), (3, 1), (4, 1), (5, 1), (6, 1)] [(0, (.t 5)), (1, (.t 23))]), none⟩,
   ⟨(some 25), .new (.box (.t 24)), none⟩,
   ⟨(some 8), .pur (.mv (.t 25)), none⟩])
 (.seq (.reg [⟨(some 27), .call 62 [(.t 8)], none⟩,
   ⟨(some 9), .new (.box (.k (.agg #[.slice none 0 0, .slice none 0 0]))), none⟩,
   ⟨none, .eff (.st 2 (.t 9) (.t 27)), none⟩])
 (.seq (.seq (.reg [⟨(some 29), .call 63 [(.t 8)], none⟩,
   ⟨(some 30), .pur (.un .not (.t 29)), none⟩])
 (.cond (.t 30)
  (.seq (.drw 12 ⟨[⟨(some 31), .pur (.bld #[.slice none 0 0, .slice none 0 0] [(0, 1), (1, 1)] []), none⟩,
    ⟨(some 32), .pur (.mv (.t 8)), none⟩,
    ⟨(some 33), .pur (.nck (.t 32)), none⟩,
    ⟨(some 34), .pur (.fad 4 (.t 33)), none⟩,
    ⟨(some 35), .pur (.ld 1 false (.t 34)), none⟩,
    ⟨(some 36), .pur (.mv (.t 8)), none⟩,
    ⟨(some 37), .pur (.nck (.t 36)), none⟩,
    ⟨(some 38), .pur (.fad 3 (.t 37)), none⟩,
    ⟨(some 39), .pur (.ld 1 false (.t 38)), none⟩,
    ⟨none, .eff (.st 2 (.t 2) (.t 31)), none⟩,
    ⟨(some 3), .pur (.mv (.t 35)), none⟩,
    ⟨(some 4), .pur (.mv (.t 39)), none⟩],
    [[], [], [1], [2, 1], [3, 2, 1], [], [5], [6, 5], [7, 6, 5], [0], [4, 9, 0, 1, 2, 3], [8, 10, 0, 1, 2, 3, 4, 5, 6, 7, 9]],
    [(0, none), (1, none), (2, none), (3, none), (4, none), (5, none), (6, none), (7, none), (8, none), (9, some [1, 2, 3, 4, 5, 6, 7, 8]), (10, some [5, 6, 7, 8]), (11, some [])]⟩)
  (.ret))
  (.skip)))
 (.seq (.reg [⟨(some 40), .pur (.ld 2 true (.t 9)), none⟩,
   ⟨none, .eff (.st 2 (.t 2) (.t 40)), none⟩,
   ⟨(some 3), .pur (.mv (.k (.int .i64 0))), none⟩,
   ⟨(some 4), .pur (.mv (.k (.int .i64 0))), none⟩])
 (.ret))))))),
 [.cell 2 2 true, .tmp 3, .tmp 4]⟩
theorem is43 : IsFnO Tryz.prog 43 ir43 := .of 343477250 (by kernel_rfl)
/-- pinball/pinballref34.Compile -/
noncomputable def ir44 : IFn := ⟨184, .seq (.reg [⟨(some 1), .new (.box (.t 0)), none⟩,
   ⟨(some 2), .new (.box (.k (.agg #[.slice none 0 0, .slice none 0 0, .slice none 0 0, .slice none 0 0, .slice none 0 0, .int .i64 0, .int .i64 0]))), none⟩,
   ⟨(some 3), .pur (.mv (.k (.int .i64 0))), none⟩,
   ⟨(some 4), .pur (.mv (.k (.int .i64 0))), none⟩])
 (.seq (.seq (.reg [⟨(some 20), .pur (.ld 2 true (.t 1)), none⟩,
   ⟨(some 21), .call 64 [(.t 20)], none⟩,
   ⟨(some 22), .pur (.ext (.t 21) 0), none⟩,
   ⟨(some 23), .pur (.ext (.t 21) 1), none⟩,
   ⟨(some 5), .pur (.mv (.t 22)), none⟩,
   ⟨(some 6), .pur (.mv (.t 23)), none⟩])
 (.seq (.reg [⟨(some 25), .pur (.bin .neq (.t 6) (.k (.int .i64 0))), none⟩])
 (.cond (.t 25)
  (.seq (.reg [⟨(some 26), .pur (.bld #[.slice none 0 0, .slice none 0 0, .slice none 0 0, .slice none 0 0, .slice none 0 0, .int .i64 0, .int .i64 0] [(0, 1), (1, 1), (2, 1), (3, 1), (4, 1), (5, 1), (6, 1)] []), none⟩,
    ⟨none, .eff (.st 7 (.t 2) (.t 26)), none⟩,
    ⟨(some 3), .pur (.mv (.t 5)), none⟩,
    ⟨(some 4), .pur (.mv (.t 6)), none⟩])
  (.ret))
  (.skip))))
 (.seq (.reg [⟨(some 29), .pur (.ld 2 true (.t 1)), none⟩,
   ⟨(some 30), .pur (.bld #[.slice none 0 0, .slice none 0 0, .slice none 0 0, .slice none 0 0] [(0, 2), (2, 1), (3, 1)] [(0, (.t 29))]), none⟩,
   ⟨(some 31), .new (.box (.t 30)), none⟩,
   ⟨(some 7), .pur (.mv (.t 31)), none⟩])
 (.seq (.drw 7 ⟨[⟨(some 32), .pur (.ld 2 true (.t 1)), none⟩,
   ⟨(some 33), .call 65 [(.t 32), (.k (.int .i64 7))], none⟩,
   ⟨(some 34), .pur (.ld 2 true (.t 1)), none⟩,
   ⟨(some 35), .call 65 [(.t 34), (.k (.int .i64 8))], none⟩,
   ⟨(some 36), .pur (.bld #[.slice none 0 0, .slice none 0 0, .slice none 0 0, .slice none 0 0, .slice none 0 0, .int .i64 0, .int .i64 0] [(0, 1), (1, 1), (2, 1), (3, 1), (4, 1), (5, 1), (6, 1)] [(5, (.t 33)), (6, (.t 35))]), none⟩,
   ⟨(some 8), .new (.box (.k (.agg #[.slice none 0 0, .slice none 0 0, .slice none 0 0, .slice none 0 0, .slice none 0 0, .int .i64 0, .int .i64 0]))), none⟩,
   ⟨none, .eff (.st 7 (.t 8) (.t 36)), none⟩],
   [[], [0], [], [2, 1, 0], [1, 3, 0, 2], [], [5, 4, 3, 0, 1, 2]],
   [(0, none), (2, none), (5, none), (1, some [2, 5]), (3, some [5]), (4, none), (6, some [])]⟩)
 (.seq (.seq (.reg [⟨(some 9), .pur (.mv (.k (.int .i64 0))), none⟩])
 (.blk 0 (.loop (.seq (.seq (.reg [⟨(some 38), .pur (.fad 0 (.t 1)), none⟩,
     ⟨(some 39), .pur (.ld 1 false (.t 38)), none⟩,
     ⟨(some 40), .pur (.len (.t 39)), none⟩,
     ⟨(some 41), .pur (.bin .lss (.t 9) (.t 40)), none⟩])
   (.cond (.t 41)
    (.skip)
    (.exit 0)))
   (.seq (.blk 1 (.seq (.reg [⟨(some 44), .pur (.fad 0 (.t 1)), none⟩,
      ⟨(some 45), .pur (.ld 1 false (.t 44)), none⟩,
      ⟨(some 47), .pur (.iad 4 (.t 45) (.t 9)), none⟩,
      ⟨(some 48), .pur (.fad 0 (.t 47)), none⟩,
      ⟨(some 49), .pur (.ld 1 false (.t 48)), none⟩,
      ⟨(some 50), .pur (.bin .eql (.t 49) (.k (.int .i64 6))), none⟩])
    (.cond (.t 50)
     (.drw 12 ⟨[⟨(some 51), .pur (.fad 4 (.t 8)), none⟩,
       ⟨(some 52), .pur (.ld 1 false (.t 51)), none⟩,
       ⟨(some 53), .pur (.fad 0 (.t 1)), none⟩,
       ⟨(some 54), .pur (.ld 1 false (.t 53)), none⟩,
       ⟨(some 55), .pur (.mv (.t 9)), none⟩,
       ⟨(some 56), .pur (.iad 4 (.t 54) (.t 55)), none⟩,
       ⟨(some 57), .pur (.fad 2 (.t 56)), none⟩,
       ⟨(some 58), .pur (.ld 1 false (.t 57)), none⟩,
       ⟨(some 59), .new (.bsl 1 1 #[.int .i64 0] [(0, (.t 58))]), none⟩,
       ⟨(some 60), .eff (.app 1 8 (.t 52) (.t 59)), none⟩,
       ⟨(some 61), .pur (.fad 4 (.t 8)), none⟩,
       ⟨none, .eff (.st 1 (.t 61) (.t 60)), none⟩],
       [[], [0], [], [2], [], [3, 4, 2], [5, 3, 4, 2], [6, 5, 3, 4, 2], [7, 6, 5, 3, 4, 2], [1, 8, 0, 7, 6, 5, 3, 4, 2], [0, 1, 2, 3, 4, 5, 6, 7, 8, 9], [10, 9, 0, 1, 2, 3, 4, 5, 6, 7, 8]],
       [(0, none), (1, none), (2, none), (3, none), (4, none), (5, none), (6, none), (7, none), (8, none), (9, some []), (10, none), (11, some [])]⟩)
     (.skip))))
   (.reg [⟨(some 43), .pur (.bin .add (.t 9) (.k (.int .i64 1))), none⟩,
     ⟨(some 9), .pur (.mv (.t 43)), none⟩]))))))
 (.seq (.seq (.reg [⟨(some 10), .pur (.mv (.k (.int .i64 0))), none⟩])
 (.blk 2 (.loop (.seq (.seq (.reg [⟨(some 63), .pur (.fad 1 (.t 1)), none⟩,
     ⟨(some 64), .pur (.ld 1 false (.t 63)), none⟩,
     ⟨(some 65), .pur (.len (.t 64)), none⟩,
     ⟨(some 66), .pur (.bin .lss (.t 10) (.t 65)), none⟩])
   (.cond (.t 66)
    (.skip)
    (.exit 2)))
   (.seq (.blk 3 (.seq (.drw 12 ⟨[⟨(some 69), .pur (.fad 3 (.t 8)), none⟩,
      ⟨(some 70), .pur (.ld 1 false (.t 69)), none⟩,
      ⟨(some 71), .pur (.fad 1 (.t 1)), none⟩,
      ⟨(some 72), .pur (.ld 1 false (.t 71)), none⟩,
      ⟨(some 73), .pur (.mv (.t 10)), none⟩,
      ⟨(some 74), .pur (.iad 4 (.t 72) (.t 73)), none⟩,
      ⟨(some 75), .pur (.fad 1 (.t 74)), none⟩,
      ⟨(some 76), .pur (.ld 1 false (.t 75)), none⟩,
      ⟨(some 77), .new (.bsl 1 1 #[.int .i64 0] [(0, (.t 76))]), none⟩,
      ⟨(some 78), .eff (.app 1 8 (.t 70) (.t 77)), none⟩,
      ⟨(some 79), .pur (.fad 3 (.t 8)), none⟩,
      ⟨none, .eff (.st 1 (.t 79) (.t 78)), none⟩],
      [[], [0], [], [2], [], [3, 4, 2], [5, 3, 4, 2], [6, 5, 3, 4, 2], [7, 6, 5, 3, 4, 2], [1, 8, 0, 7, 6, 5, 3, 4, 2], [0, 1, 2, 3, 4, 5, 6, 7, 8, 9], [10, 9, 0, 1, 2, 3, 4, 5, 6, 7, 8]],
      [(0, none), (1, none), (2, none), (3, none), (4, none), (5, none), (6, none), (7, none), (8, none), (9, some []), (10, none), (11, some [])]⟩)
    (.seq (.reg [⟨(some 80), .pur (.fad 1 (.t 1)), none⟩,
      ⟨(some 81), .pur (.ld 1 false (.t 80)), none⟩,
      ⟨(some 83), .pur (.iad 4 (.t 81) (.t 10)), none⟩,
      ⟨(some 84), .pur (.fad 2 (.t 83)), none⟩,
      ⟨(some 85), .pur (.ld 1 false (.t 84)), none⟩,
      ⟨(some 11), .pur (.mv (.t 85)), none⟩])
    (.seq (.reg [⟨(some 87), .pur (.len (.t 11)), none⟩,
      ⟨(some 88), .new (.msl 1 8 #[.int .i64 0] (.t 87) (.t 87)), none⟩,
      ⟨(some 12), .pur (.mv (.t 88)), none⟩])
    (.seq (.seq (.reg [⟨(some 13), .pur (.mv (.k (.int .i64 0))), none⟩])
    (.blk 4 (.loop (.seq (.seq (.reg [⟨(some 91), .pur (.len (.t 11)), none⟩,
        ⟨(some 92), .pur (.bin .lss (.t 13) (.t 91)), none⟩])
      (.cond (.t 92)
       (.skip)
       (.exit 4)))
      (.seq (.blk 5 (.reg [⟨(some 100), .pur (.iad 4 (.t 11) (.t 13)), none⟩,
         ⟨(some 101), .pur (.ld 4 true (.t 100)), none⟩,
         ⟨(some 102), .call 66 [(.t 7), (.t 101)], none⟩,
         ⟨(some 103), .pur (.iad 1 (.t 12) (.t 13)), none⟩,
         ⟨none, .eff (.st 1 (.t 103) (.t 102)), none⟩]))
      (.reg [⟨(some 94), .pur (.bin .add (.t 13) (.k (.int .i64 1))), none⟩,
        ⟨(some 13), .pur (.mv (.t 94)), none⟩]))))))
    (.seq (.reg [⟨(some 14), .pur (.mv (.k (.int .i64 1))), none⟩])
    (.blk 6 (.loop (.seq (.seq (.reg [⟨(some 105), .pur (.bin .leq (.t 14) (.k (.int .i64 6))), none⟩])
      (.cond (.t 105)
       (.skip)
       (.exit 6)))
      (.seq (.blk 7 (.seq (.reg [⟨(some 15), .pur (.mv (.k (.int .i64 0))), none⟩])
       (.blk 8 (.loop (.seq (.seq (.reg [⟨(some 109), .pur (.bin .lss (.t 15) (.k (.int .i64 128))), none⟩])
         (.cond (.t 109)
          (.skip)
          (.exit 8)))
         (.seq (.blk 9 (.seq (.reg [⟨(some 113), .pur (.nck (.t 7)), none⟩,
            ⟨(some 114), .pur (.fad 2 (.t 113)), none⟩,
            ⟨(some 115), .pur (.ld 1 false (.t 114)), none⟩,
            ⟨(some 116), .pur (.len (.t 115)), none⟩,
            ⟨(some 16), .pur (.mv (.t 116)), none⟩,
            ⟨(some 17), .pur (.mv (.k (.bool false))), none⟩])
          (.seq (.seq (.reg [⟨(some 18), .pur (.mv (.k (.int .i64 0))), none⟩])
          (.blk 10 (.loop (.seq (.seq (.reg [⟨(some 119), .pur (.len (.t 11)), none⟩,
              ⟨(some 120), .pur (.bin .lss (.t 18) (.t 119)), none⟩])
            (.cond (.t 120)
             (.skip)
             (.exit 10)))
            (.seq (.blk 11 (.seq (.reg [⟨(some 125), .pur (.iad 4 (.t 11) (.t 18)), none⟩,
               ⟨(some 126), .pur (.fad 0 (.t 125)), none⟩,
               ⟨(some 127), .pur (.ld 1 false (.t 126)), none⟩,
               ⟨(some 129), .pur (.bin .eql (.t 127) (.t 14)), none⟩,
               ⟨(some 131), .pur (.mv (.t 12)), some (129, true)⟩,
               ⟨(some 132), .pur (.mv (.t 18)), some (129, true)⟩,
               ⟨(some 133), .pur (.iad 1 (.t 131) (.t 132)), some (129, true)⟩,
               ⟨(some 134), .pur (.ld 1 false (.t 133)), some (129, true)⟩,
               ⟨(some 135), .pur (.mv (.t 15)), some (129, true)⟩,
               ⟨(some 136), .pur (.bin .eql (.t 134) (.t 135)), some (129, true)⟩,
               ⟨(some 137), .pur (.pick (.t 129) (.t 136) (.k (.bool false))), none⟩])
             (.cond (.t 137)
              (.seq (.reg [⟨(some 141), .pur (.iad 4 (.t 11) (.t 18)), none⟩,
                ⟨(some 142), .pur (.fad 2 (.t 141)), none⟩,
                ⟨(some 143), .pur (.ld 1 false (.t 142)), none⟩,
                ⟨(some 144), .call 67 [(.t 7), (.t 143)], none⟩])
              (.reg [⟨(some 17), .pur (.mv (.k (.bool true))), none⟩]))
              (.skip))))
            (.reg [⟨(some 122), .pur (.bin .add (.t 18) (.k (.int .i64 1))), none⟩,
              ⟨(some 18), .pur (.mv (.t 122)), none⟩]))))))
          (.seq (.reg [⟨(some 145), .pur (.mv (.t 17)), none⟩])
          (.cond (.t 145)
           (.seq (.reg [⟨(some 147), .call 68 [(.t 7), (.k (.int .i64 31)), (.k (.int .i64 0))], none⟩])
           (.reg [⟨(some 148), .pur (.fad 2 (.t 8)), none⟩,
             ⟨(some 149), .pur (.ld 1 false (.t 148)), none⟩,
             ⟨(some 154), .pur (.bld #[.int .i64 0, .int .i64 0, .int .i64 0, .int .i64 0] [(0, 1), (1, 1), (2, 1), (3, 1)] [(0, (.t 10)), (1, (.t 14)), (2, (.t 15)), (3, (.t 16))]), none⟩,
             ⟨(some 155), .new (.bsl 4 1 #[.int .i64 0, .int .i64 0, .int .i64 0, .int .i64 0] [(0, (.t 154))]), none⟩,
             ⟨(some 156), .eff (.app 4 32 (.t 149) (.t 155)), none⟩,
             ⟨(some 157), .pur (.fad 2 (.t 8)), none⟩,
             ⟨none, .eff (.st 1 (.t 157) (.t 156)), none⟩]))
           (.skip))))))
         (.reg [⟨(some 111), .pur (.bin .add (.t 15) (.k (.int .i64 1))), none⟩,
           ⟨(some 15), .pur (.mv (.t 111)), none⟩])))))))
      (.reg [⟨(some 107), .pur (.bin .add (.t 14) (.k (.int .i64 1))), none⟩,
        ⟨(some 14), .pur (.mv (.t 107)), none⟩])))))))))))
   (.reg [⟨(some 68), .pur (.bin .add (.t 10) (.k (.int .i64 1))), none⟩,
     ⟨(some 10), .pur (.mv (.t 68)), none⟩]))))))
 (.seq (.seq (.reg [⟨(some 159), .pur (.nck (.t 7)), none⟩,
   ⟨(some 160), .pur (.fad 2 (.t 159)), none⟩,
   ⟨(some 161), .pur (.ld 1 false (.t 160)), none⟩,
   ⟨(some 162), .pur (.len (.t 161)), none⟩,
   ⟨(some 163), .pur (.bin .gtr (.t 162) (.k (.int .i64 4000))), none⟩,
   ⟨(some 165), .pur (.mv (.t 7)), some (163, false)⟩,
   ⟨(some 166), .pur (.nck (.t 165)), some (163, false)⟩,
   ⟨(some 167), .pur (.fad 3 (.t 166)), some (163, false)⟩,
   ⟨(some 168), .pur (.ld 1 false (.t 167)), some (163, false)⟩,
   ⟨(some 169), .pur (.len (.t 168)), some (163, false)⟩,
   ⟨(some 170), .pur (.bin .gtr (.t 169) (.k (.int .i64 200))), some (163, false)⟩,
   ⟨(some 171), .pur (.pick (.t 163) (.k (.bool true)) (.t 170)), none⟩])
 (.cond (.t 171)
  (.seq (.reg [⟨(some 172), .pur (.bld #[.slice none 0 0, .slice none 0 0, .slice none 0 0, .slice none 0 0, .slice none 0 0, .int .i64 0, .int .i64 0] [(0, 1), (1, 1), (2, 1), (3, 1), (4, 1), (5, 1), (6, 1)] []), none⟩,
    ⟨none, .eff (.st 7 (.t 2) (.t 172)), none⟩,
    ⟨(some 3), .pur (.mv (.k (.int .i64 0))), none⟩,
    ⟨(some 4), .pur (.mv (.k (.int .i64 9))), none⟩])
  (.ret))
  (.skip)))
 (.seq (.drw 12 ⟨[⟨(some 173), .pur (.mv (.t 7)), none⟩,
   ⟨(some 174), .pur (.nck (.t 173)), none⟩,
   ⟨(some 175), .pur (.fad 2 (.t 174)), none⟩,
   ⟨(some 176), .pur (.ld 1 false (.t 175)), none⟩,
   ⟨(some 177), .pur (.mv (.t 7)), none⟩,
   ⟨(some 178), .pur (.nck (.t 177)), none⟩,
   ⟨(some 179), .pur (.fad 3 (.t 178)), none⟩,
   ⟨(some 180), .pur (.ld 1 false (.t 179)), none⟩,
   ⟨(some 181), .pur (.fad 0 (.t 8)), none⟩,
   ⟨none, .eff (.st 1 (.t 181) (.t 176)), none⟩,
   ⟨(some 182), .pur (.fad 1 (.t 8)), none⟩,
   ⟨none, .eff (.st 1 (.t 182) (.t 180)), none⟩],
   [[], [0], [1, 0], [2, 1, 0], [], [4], [5, 4], [6, 5, 4], [0, 1, 2, 3], [8, 3, 0, 1, 2], [0, 1, 2, 3, 4, 5, 6, 7, 8, 9], [10, 7, 9, 0, 1, 2, 3, 4, 5, 6, 8]],
   [(0, none), (1, none), (2, none), (3, none), (4, none), (5, none), (6, none), (7, none), (8, none), (9, some [4, 5, 6, 7]), (10, none), (11, some [])]⟩)
 (.seq (.reg [⟨(some 183), .pur (.ld 7 true (.t 8)), none⟩,
   ⟨none, .eff (.st 7 (.t 2) (.t 183)), none⟩,
   ⟨(some 3), .pur (.mv (.k (.int .i64 0))), none⟩,
   ⟨(some 4), .pur (.mv (.k (.int .i64 0))), none⟩])
 (.ret))))))))),
 [.cell 2 7 true, .tmp 3, .tmp 4]⟩
theorem is44 : IsFnO Tryz.prog 44 ir44 := .of 23770901965879039171340298544660171528809738665984 (by kernel_rfl)
/-- slices.ContainsFunc[[]pinball/api.Entry,pinball/api.Entry] -/
noncomputable def ir46 : IFn := ⟨9, .seq (.reg [⟨(some 4), .pur (.mv (.k (.bool false))), none⟩])
 (.seq (.reg [⟨(some 7), .call 69 [(.t 0), (.t 1)], none⟩,
   ⟨(some 8), .pur (.bin .geq (.t 7) (.k (.int .i64 0))), none⟩,
   ⟨(some 4), .pur (.mv (.t 8)), none⟩])
 (.ret)),
 [.tmp 4]⟩
theorem is46 : IsFnO Tryz.prog 46 ir46 := .of 108 (by kernel_rfl)
/-- pinball/vm.begin$1 -/
noncomputable def ir47 : IFn := ⟨8, .seq (.reg [⟨(some 2), .new (.box (.t 0)), none⟩,
   ⟨(some 3), .pur (.mv (.k (.bool false))), none⟩])
 (.seq (.reg [⟨(some 4), .pur (.fad 3 (.t 2)), none⟩,
   ⟨(some 5), .pur (.ld 1 false (.t 4)), none⟩,
   ⟨(some 6), .pur (.ld 1 false (.t 1)), none⟩,
   ⟨(some 7), .pur (.bin .eql (.t 5) (.t 6)), none⟩,
   ⟨(some 3), .pur (.mv (.t 7)), none⟩])
 (.ret)),
 [.tmp 3]⟩
theorem is47 : IsFnO Tryz.prog 47 ir47 := .of 0 (by kernel_rfl)
/-- slices.Clone[[]int,int] -/
noncomputable def ir48 : IFn := ⟨8, .seq (.reg [⟨(some 2), .pur (.mv (.k (.slice none 0 0))), none⟩])
 (.seq (.seq (.reg [⟨(some 4), .pur (.eqn false 1 (.t 0) (.k (.slice none 0 0))), none⟩])
 (.cond (.t 4)
  (.seq (.reg [⟨(some 2), .pur (.mv (.k (.slice none 0 0))), none⟩])
  (.ret))
  (.skip)))
 (.seq (.reg [⟨(some 5), .new (.bsl 1 0 #[.int .i64 0] []), none⟩,
   ⟨(some 7), .eff (.app 1 8 (.t 5) (.t 0)), none⟩,
   ⟨(some 2), .pur (.mv (.t 7)), none⟩])
 (.ret))),
 [.tmp 2]⟩
theorem is48 : IsFnO Tryz.prog 48 ir48 := .of 74 (by kernel_rfl)
/-- (*pinball/vm.machine).put -/
noncomputable def ir49 : IFn := ⟨14, .reg [⟨(some 6), .pur (.nck (.t 0)), none⟩,
   ⟨(some 7), .pur (.fad 15 (.t 6)), none⟩,
   ⟨(some 8), .pur (.ld 1 false (.t 7)), none⟩,
   ⟨(some 10), .new (.bsl 1 1 #[.int .i64 0] [(0, (.t 1))]), none⟩,
   ⟨(some 11), .eff (.app 1 8 (.t 8) (.t 10)), none⟩,
   ⟨(some 12), .pur (.nck (.t 0)), none⟩,
   ⟨(some 13), .pur (.fad 15 (.t 12)), none⟩,
   ⟨none, .eff (.st 1 (.t 13) (.t 11)), none⟩],
 []⟩
theorem is49 : IsFnO Tryz.prog 49 ir49 := .of 572 (by kernel_rfl)
/-- (*pinball/vm.machine).take -/
noncomputable def ir50 : IFn := ⟨31, .seq (.reg [⟨(some 2), .pur (.mv (.k (.int .i64 0))), none⟩])
 (.seq (.drw 13 ⟨[⟨(some 4), .pur (.mv (.t 0)), none⟩,
   ⟨(some 5), .pur (.nck (.t 4)), none⟩,
   ⟨(some 6), .pur (.fad 15 (.t 5)), none⟩,
   ⟨(some 7), .pur (.ld 1 false (.t 6)), none⟩,
   ⟨(some 8), .pur (.mv (.t 0)), none⟩,
   ⟨(some 9), .pur (.nck (.t 8)), none⟩,
   ⟨(some 10), .pur (.fad 15 (.t 9)), none⟩,
   ⟨(some 11), .pur (.ld 1 false (.t 10)), none⟩,
   ⟨(some 12), .pur (.len (.t 11)), none⟩,
   ⟨(some 13), .pur (.bin .sub (.t 12) (.k (.int .i64 1))), none⟩,
   ⟨(some 14), .pur (.iad 1 (.t 7) (.t 13)), none⟩,
   ⟨(some 15), .pur (.ld 1 false (.t 14)), none⟩,
   ⟨(some 3), .pur (.mv (.t 15)), none⟩],
   [[], [0], [1, 0], [2, 1, 0], [], [4], [5, 4], [6, 5, 4], [7, 6, 5, 4], [8, 7, 6, 5, 4], [3, 9, 2, 1, 0, 8, 7, 6, 5, 4], [10, 3, 9, 2, 1, 0, 8, 7, 6, 5, 4], [11, 0, 1, 2, 3, 4, 5, 6, 7, 8, 9, 10]],
   [(0, none), (1, none), (2, none), (3, none), (4, none), (5, none), (6, none), (7, none), (8, none), (9, none), (10, none), (11, none), (12, some [])]⟩)
 (.seq (.drw 15 ⟨[⟨(some 16), .pur (.mv (.t 0)), none⟩,
   ⟨(some 17), .pur (.mv (.t 0)), none⟩,
   ⟨(some 18), .pur (.nck (.t 17)), none⟩,
   ⟨(some 19), .pur (.fad 15 (.t 18)), none⟩,
   ⟨(some 20), .pur (.ld 1 false (.t 19)), none⟩,
   ⟨(some 21), .pur (.mv (.t 0)), none⟩,
   ⟨(some 22), .pur (.nck (.t 21)), none⟩,
   ⟨(some 23), .pur (.fad 15 (.t 22)), none⟩,
   ⟨(some 24), .pur (.ld 1 false (.t 23)), none⟩,
   ⟨(some 25), .pur (.len (.t 24)), none⟩,
   ⟨(some 26), .pur (.bin .sub (.t 25) (.k (.int .i64 1))), none⟩,
   ⟨(some 27), .pur (.slc 1 (.t 20) none (some (.t 26))), none⟩,
   ⟨(some 28), .pur (.nck (.t 16)), none⟩,
   ⟨(some 29), .pur (.fad 15 (.t 28)), none⟩,
   ⟨none, .eff (.st 1 (.t 29) (.t 27)), none⟩],
   [[], [], [1], [2, 1], [3, 2, 1], [], [5], [6, 5], [7, 6, 5], [8, 7, 6, 5], [9, 8, 7, 6, 5], [4, 10, 3, 2, 1, 9, 8, 7, 6, 5], [0, 1, 2, 3, 4, 5, 6, 7, 8, 9, 10, 11], [12, 0, 1, 2, 3, 4, 5, 6, 7, 8, 9, 10, 11], [13, 11, 0, 1, 2, 3, 4, 5, 6, 7, 8, 9, 10, 12]],
   [(0, none), (1, none), (2, none), (3, none), (4, none), (5, none), (6, none), (7, none), (8, none), (9, none), (10, none), (11, none), (12, none), (13, none), (14, some [])]⟩)
 (.seq (.reg [⟨(some 2), .pur (.mv (.t 3)), none⟩])
 (.ret)))),
 [.tmp 2]⟩
theorem is50 : IsFnO Tryz.prog 50 ir50 := .of 1073741826 (by kernel_rfl)
/-- (*pinball/vm.machine).effect -/
noncomputable def ir51 : IFn := ⟨24, .seq (.reg [⟨(some 5), .new (.box (.t 1)), none⟩])
 (.drw 17 ⟨[⟨(some 8), .pur (.mv (.t 0)), none⟩,
   ⟨(some 9), .pur (.mv (.t 0)), none⟩,
   ⟨(some 10), .pur (.nck (.t 9)), none⟩,
   ⟨(some 11), .pur (.fad 16 (.t 10)), none⟩,
   ⟨(some 12), .pur (.ld 1 false (.t 11)), none⟩,
   ⟨(some 13), .pur (.fad 0 (.t 5)), none⟩,
   ⟨(some 14), .pur (.ld 1 false (.t 13)), none⟩,
   ⟨(some 15), .pur (.fad 1 (.t 5)), none⟩,
   ⟨(some 16), .pur (.ld 1 false (.t 15)), none⟩,
   ⟨(some 17), .pur (.mv (.t 2)), none⟩,
   ⟨(some 18), .pur (.mv (.t 3)), none⟩,
   ⟨(some 19), .pur (.bld #[.int .i64 0, .int .i64 0, .int .i64 0, .int .i64 0, .string ⟨#[]⟩] [(0, 1), (1, 1), (2, 1), (3, 1), (4, 1)] [(0, (.t 14)), (1, (.t 16)), (2, (.t 17)), (3, (.t 18))]), none⟩,
   ⟨(some 20), .new (.bsl 5 1 #[.int .i64 0, .int .i64 0, .int .i64 0, .int .i64 0, .string ⟨#[]⟩] [(0, (.t 19))]), none⟩,
   ⟨(some 21), .eff (.app 5 48 (.t 12) (.t 20)), none⟩,
   ⟨(some 22), .pur (.nck (.t 8)), none⟩,
   ⟨(some 23), .pur (.fad 16 (.t 22)), none⟩,
   ⟨none, .eff (.st 1 (.t 23) (.t 21)), none⟩],
   [[], [], [1], [2, 1], [3, 2, 1], [], [5], [], [7], [], [], [6, 8, 9, 10, 5, 7], [11, 6, 8, 9, 10, 5, 7], [4, 12, 3, 2, 1, 11, 6, 8, 9, 10, 5, 7], [0, 1, 2, 3, 4, 5, 6, 7, 8, 9, 10, 11, 12, 13], [14, 0, 1, 2, 3, 4, 5, 6, 7, 8, 9, 10, 11, 12, 13], [15, 13, 0, 1, 2, 3, 4, 5, 6, 7, 8, 9, 10, 11, 12, 14]],
   [(0, none), (1, none), (2, none), (3, none), (4, none), (5, none), (6, none), (7, none), (8, none), (9, none), (10, none), (11, none), (12, none), (13, some [0]), (14, none), (15, none), (16, some [])]⟩),
 []⟩
theorem is51 : IsFnO Tryz.prog 51 ir51 := .of 208 (by kernel_rfl)
/-- pinball/bytecode.verify -/
noncomputable def ir54 : IFn := ⟨47, .seq (.reg [⟨(some 1), .new (.box (.t 0)), none⟩,
   ⟨(some 2), .pur (.mv (.k (.slice none 0 0))), none⟩,
   ⟨(some 3), .pur (.mv (.k (.int .i64 0))), none⟩])
 (.seq (.blk 0 (.seq (.reg [⟨(some 8), .pur (.ld 7 true (.t 1)), none⟩,
    ⟨(some 9), .call 73 [(.t 8)], none⟩,
    ⟨(some 10), .pur (.un .not (.t 9)), none⟩,
    ⟨(some 7), .pur (.mv (.t 10)), none⟩])
  (.cond (.t 7)
   (.seq (.reg [⟨(some 2), .pur (.mv (.k (.slice none 0 0))), none⟩,
     ⟨(some 3), .pur (.mv (.k (.int .i64 9))), none⟩])
   (.ret))
   (.seq (.reg [⟨(some 12), .pur (.ld 7 true (.t 1)), none⟩,
     ⟨(some 13), .call 74 [(.t 12)], none⟩,
     ⟨(some 14), .pur (.un .not (.t 13)), none⟩,
     ⟨(some 11), .pur (.mv (.t 14)), none⟩])
   (.cond (.t 11)
    (.seq (.reg [⟨(some 2), .pur (.mv (.k (.slice none 0 0))), none⟩,
      ⟨(some 3), .pur (.mv (.k (.int .i64 51))), none⟩])
    (.ret))
    (.seq (.reg [⟨(some 16), .pur (.ld 7 true (.t 1)), none⟩,
      ⟨(some 17), .call 75 [(.t 16)], none⟩,
      ⟨(some 18), .pur (.un .not (.t 17)), none⟩,
      ⟨(some 15), .pur (.mv (.t 18)), none⟩])
    (.cond (.t 15)
     (.seq (.reg [⟨(some 2), .pur (.mv (.k (.slice none 0 0))), none⟩,
       ⟨(some 3), .pur (.mv (.k (.int .i64 54))), none⟩])
     (.ret))
     (.skip))))))))
 (.seq (.seq (.reg [⟨(some 4), .pur (.mv (.k (.int .i64 1))), none⟩])
 (.blk 1 (.loop (.seq (.seq (.reg [⟨(some 20), .pur (.fad 2 (.t 1)), none⟩,
     ⟨(some 21), .pur (.ld 1 false (.t 20)), none⟩,
     ⟨(some 22), .pur (.len (.t 21)), none⟩,
     ⟨(some 23), .pur (.bin .lss (.t 4) (.t 22)), none⟩])
   (.cond (.t 23)
    (.skip)
    (.exit 1)))
   (.seq (.blk 2 (.seq (.drw 13 ⟨[⟨(some 26), .pur (.fad 2 (.t 1)), none⟩,
      ⟨(some 27), .pur (.ld 1 false (.t 26)), none⟩,
      ⟨(some 28), .pur (.mv (.t 4)), none⟩,
      ⟨(some 29), .pur (.bin .sub (.t 28) (.k (.int .i64 1))), none⟩,
      ⟨(some 30), .pur (.iad 4 (.t 27) (.t 29)), none⟩,
      ⟨(some 31), .pur (.ld 4 true (.t 30)), none⟩,
      ⟨(some 32), .pur (.fad 2 (.t 1)), none⟩,
      ⟨(some 33), .pur (.ld 1 false (.t 32)), none⟩,
      ⟨(some 34), .pur (.mv (.t 4)), none⟩,
      ⟨(some 35), .pur (.iad 4 (.t 33) (.t 34)), none⟩,
      ⟨(some 36), .pur (.ld 4 true (.t 35)), none⟩,
      ⟨(some 37), .call 76 [(.t 31), (.t 36)], none⟩,
      ⟨(some 38), .pur (.un .not (.t 37)), none⟩],
      [[], [0], [], [2], [1, 3, 0, 2], [4, 1, 3, 0, 2], [], [6], [], [7, 8, 6], [9, 7, 8, 6], [5, 10, 4, 1, 3, 0, 2, 9, 7, 8, 6], [11, 5, 10, 4, 1, 3, 0, 2, 9, 7, 8, 6]],
      [(0, none), (1, none), (2, none), (3, none), (4, none), (5, none), (6, none), (7, none), (8, none), (9, none), (10, none), (11, some []), (12, none)]⟩)
    (.cond (.t 38)
     (.seq (.reg [⟨(some 2), .pur (.mv (.k (.slice none 0 0))), none⟩,
       ⟨(some 3), .pur (.mv (.k (.int .i64 66))), none⟩])
     (.ret))
     (.skip))))
   (.reg [⟨(some 25), .pur (.bin .add (.t 4) (.k (.int .i64 1))), none⟩,
     ⟨(some 4), .pur (.mv (.t 25)), none⟩]))))))
 (.seq (.reg [⟨(some 40), .pur (.ld 7 true (.t 1)), none⟩,
   ⟨(some 41), .call 77 [(.t 40)], none⟩,
   ⟨(some 42), .pur (.ext (.t 41) 0), none⟩,
   ⟨(some 43), .pur (.ext (.t 41) 1), none⟩,
   ⟨(some 5), .pur (.mv (.t 42)), none⟩,
   ⟨(some 6), .pur (.mv (.t 43)), none⟩])
 (.seq (.seq (.reg [⟨(some 45), .pur (.un .not (.t 6)), none⟩])
 (.cond (.t 45)
  (.seq (.reg [⟨(some 2), .pur (.mv (.k (.slice none 0 0))), none⟩,
    ⟨(some 3), .pur (.mv (.k (.int .i64 53))), none⟩])
  (.ret))
  (.skip)))
 (.seq (.reg [⟨(some 2), .pur (.mv (.t 5)), none⟩,
   ⟨(some 3), .pur (.mv (.k (.int .i64 0))), none⟩])
 (.ret)))))),
 [.tmp 2, .tmp 3]⟩
theorem is54 : IsFnO Tryz.prog 54 ir54 := .of 88510703337472 (by kernel_rfl)
/-- slices.IndexFunc[[]int,int] -/
noncomputable def ir55 : IFn := ⟨19, .seq (.reg [⟨(some 4), .pur (.mv (.k (.int .i64 0))), none⟩])
 (.seq (.seq (.reg [⟨(some 7), .pur (.len (.t 0)), none⟩,
   ⟨(some 8), .pur (.mv (.k (.int .i64 0))), none⟩])
 (.blk 0 (.loop (.seq (.reg [⟨(some 9), .pur (.bin .lss (.t 8) (.t 7)), none⟩])
   (.seq (.cond (.t 9)
    (.skip)
    (.exit 0))
   (.seq (.blk 1 (.seq (.reg [⟨(some 5), .pur (.mv (.t 8)), none⟩])
    (.seq (.reg [⟨(some 14), .pur (.iad 1 (.t 0) (.t 5)), none⟩,
      ⟨(some 15), .pur (.ld 1 false (.t 14)), none⟩,
      ⟨(some 16), .callv (.t 1) [(.t 15)], none⟩])
    (.cond (.t 16)
     (.seq (.reg [⟨(some 4), .pur (.mv (.t 5)), none⟩])
     (.ret))
     (.skip)))))
   (.reg [⟨(some 18), .pur (.bin .add (.t 8) (.k (.int .i64 1))), none⟩,
     ⟨(some 8), .pur (.mv (.t 18)), none⟩])))))))
 (.seq (.reg [⟨(some 4), .pur (.mv (.k (.int .i64 (-1)))), none⟩])
 (.ret))),
 [.tmp 4]⟩
theorem is55 : IsFnO Tryz.prog 55 ir55 := .of 146508 (by kernel_rfl)
/-- pinball/pinballref30.Scan -/
noncomputable def ir61 : IFn := ⟨39, .seq (.reg [⟨(some 2), .pur (.mv (.k (.slice none 0 0))), none⟩,
   ⟨(some 3), .pur (.mv (.k (.int .i64 0))), none⟩,
   ⟨(some 4), .pur (.mv (.k (.int .i64 0))), none⟩])
 (.seq (.seq (.reg [⟨(some 11), .pur (.lens (.t 0)), none⟩,
   ⟨(some 12), .pur (.bin .gtr (.t 11) (.k (.int .i64 20000))), none⟩])
 (.cond (.t 12)
  (.seq (.reg [⟨(some 2), .pur (.mv (.k (.slice none 0 0))), none⟩,
    ⟨(some 3), .pur (.mv (.k (.int .i64 0))), none⟩,
    ⟨(some 4), .pur (.mv (.k (.int .i64 9))), none⟩])
  (.ret))
  (.skip)))
 (.seq (.reg [⟨(some 5), .pur (.mv (.k (.slice none 0 0))), none⟩])
 (.seq (.seq (.reg [⟨(some 14), .call 83 [(.t 0), (.k (.int .i64 0))], none⟩,
   ⟨(some 6), .pur (.mv (.t 14)), none⟩])
 (.blk 0 (.loop (.seq (.seq (.reg [⟨(some 17), .pur (.lens (.t 0)), none⟩,
     ⟨(some 18), .pur (.bin .lss (.t 6) (.t 17)), none⟩])
   (.cond (.t 18)
    (.skip)
    (.exit 0)))
   (.seq (.blk 1 (.seq (.reg [⟨(some 25), .call 84 [(.t 0), (.t 6)], none⟩,
      ⟨(some 26), .pur (.ext (.t 25) 0), none⟩,
      ⟨(some 27), .pur (.ext (.t 25) 1), none⟩,
      ⟨(some 28), .pur (.ext (.t 25) 2), none⟩,
      ⟨(some 7), .new (.box (.k (.agg #[.int .i64 0, .string ⟨#[]⟩, .int .i64 0, .int .i64 0]))), none⟩,
      ⟨none, .eff (.st 4 (.t 7) (.t 26)), none⟩,
      ⟨(some 8), .pur (.mv (.t 27)), none⟩,
      ⟨(some 9), .pur (.mv (.t 28)), none⟩])
    (.seq (.seq (.reg [⟨(some 30), .pur (.bin .neq (.t 9) (.k (.int .i64 0))), none⟩])
    (.cond (.t 30)
     (.seq (.reg [⟨(some 2), .pur (.mv (.k (.slice none 0 0))), none⟩,
       ⟨(some 3), .pur (.mv (.t 6)), none⟩,
       ⟨(some 4), .pur (.mv (.t 9)), none⟩])
     (.ret))
     (.skip)))
    (.seq (.reg [⟨(some 34), .pur (.ld 4 true (.t 7)), none⟩,
      ⟨(some 35), .new (.bsl 4 1 #[.int .i64 0, .string ⟨#[]⟩, .int .i64 0, .int .i64 0] [(0, (.t 34))]), none⟩,
      ⟨(some 36), .eff (.app 4 40 (.t 5) (.t 35)), none⟩,
      ⟨(some 5), .pur (.mv (.t 36)), none⟩])
    (.reg [⟨(some 6), .pur (.mv (.t 8)), none⟩])))))
   (.reg [⟨(some 21), .call 83 [(.t 0), (.t 6)], none⟩,
     ⟨(some 6), .pur (.mv (.t 21)), none⟩]))))))
 (.seq (.reg [⟨(some 2), .pur (.mv (.t 5)), none⟩,
   ⟨(some 3), .pur (.mv (.k (.int .i64 0))), none⟩,
   ⟨(some 4), .pur (.mv (.k (.int .i64 0))), none⟩])
 (.ret))))),
 [.tmp 2, .tmp 3, .tmp 4]⟩
theorem is61 : IsFnO Tryz.prog 61 ir61 := .of 427917157378 (by kernel_rfl)
/-- (*pinball/pinballref31.reader).rules -/
noncomputable def ir62 : IFn := ⟨65, .seq (.reg [⟨(some 2), .new (.box (.k (.agg #[.slice none 0 0, .slice none 0 0]))), none⟩])
 (.seq (.reg [⟨(some 3), .new (.box (.k (.agg #[.slice none 0 0, .slice none 0 0]))), none⟩])
 (.seq (.seq (.reg [⟨(some 6), .call 86 [], none⟩,
   ⟨(some 7), .call 85 [(.t 0), (.t 6)], none⟩,
   ⟨(some 4), .pur (.mv (.t 7)), none⟩])
 (.blk 0 (.loop (.seq (.seq (.reg [⟨(some 9), .pur (.bin .geq (.t 4) (.k (.int .i64 0))), none⟩])
   (.cond (.t 9)
    (.skip)
    (.exit 0)))
   (.seq (.blk 1 (.seq (.reg [⟨(some 14), .pur (.fad 0 (.t 3)), none⟩,
      ⟨(some 15), .pur (.ld 1 false (.t 14)), none⟩,
      ⟨(some 16), .pur (.len (.t 15)), none⟩,
      ⟨(some 17), .pur (.bin .add (.t 16) (.k (.int .i64 1))), none⟩,
      ⟨(some 18), .call 87 [(.t 0), (.t 17), (.k (.int .i64 128)), (.k (.int .i64 9))], none⟩])
    (.seq (.reg [⟨(some 20), .call 63 [(.t 0)], none⟩])
    (.cond (.t 20)
     (.drw 9 ⟨[⟨(some 21), .pur (.fad 0 (.t 3)), none⟩,
       ⟨(some 22), .pur (.ld 1 false (.t 21)), none⟩,
       ⟨(some 23), .pur (.mv (.t 0)), none⟩,
       ⟨(some 24), .pur (.mv (.t 4)), none⟩,
       ⟨(some 25), .call 88 [(.t 23), (.t 24)], none⟩,
       ⟨(some 26), .new (.bsl 4 1 #[.int .i64 0, .string ⟨#[]⟩, .int .i64 0, .int .i64 0] [(0, (.t 25))]), none⟩,
       ⟨(some 27), .eff (.app 4 40 (.t 22) (.t 26)), none⟩,
       ⟨(some 28), .pur (.fad 0 (.t 3)), none⟩,
       ⟨none, .eff (.st 1 (.t 28) (.t 27)), none⟩],
       [[], [0], [], [], [2, 3], [4, 2, 3], [1, 5, 4, 0, 2, 3], [0, 1, 2, 3, 4, 5, 6], [7, 6, 0, 1, 2, 3, 4, 5]],
       [(0, none), (1, none), (2, none), (3, none), (4, some [0, 1]), (5, none), (6, some []), (7, none), (8, some [])]⟩)
     (.skip)))))
   (.reg [⟨(some 11), .call 86 [], none⟩,
     ⟨(some 12), .call 85 [(.t 0), (.t 11)], none⟩,
     ⟨(some 4), .pur (.mv (.t 12)), none⟩]))))))
 (.seq (.blk 2 (.loop (.seq (.seq (.drw 14 ⟨[⟨(some 29), .pur (.mv (.t 0)), none⟩,
     ⟨(some 30), .call 63 [(.t 29)], none⟩,
     ⟨(some 31), .pur (.mv (.t 30)), none⟩,
     ⟨(some 32), .pur (.mv (.t 0)), some (31, true)⟩,
     ⟨(some 33), .pur (.nck (.t 32)), some (31, true)⟩,
     ⟨(some 34), .pur (.fad 2 (.t 33)), some (31, true)⟩,
     ⟨(some 35), .pur (.ld 1 false (.t 34)), some (31, true)⟩,
     ⟨(some 36), .pur (.mv (.t 0)), some (31, true)⟩,
     ⟨(some 37), .pur (.nck (.t 36)), some (31, true)⟩,
     ⟨(some 38), .pur (.fad 0 (.t 37)), some (31, true)⟩,
     ⟨(some 39), .pur (.ld 1 false (.t 38)), some (31, true)⟩,
     ⟨(some 40), .pur (.len (.t 39)), some (31, true)⟩,
     ⟨(some 41), .pur (.bin .lss (.t 35) (.t 40)), some (31, true)⟩,
     ⟨(some 42), .pur (.pick (.t 31) (.t 41) (.k (.bool false))), none⟩],
     [[], [0], [1, 0], [2, 1, 0], [3, 2, 1, 0], [4, 2, 3, 1, 0], [5, 2, 4, 3, 1, 0], [2, 1, 0], [7, 2, 1, 0], [8, 2, 7, 1, 0], [9, 2, 8, 7, 1, 0], [10, 2, 9, 8, 7, 1, 0], [6, 11, 2, 5, 4, 3, 1, 0, 10, 9, 8, 7], [2, 12, 1, 0, 6, 11, 5, 4, 3, 10, 9, 8, 7]],
     [(0, none), (1, some []), (2, none), (3, none), (4, none), (5, none), (6, none), (7, none), (8, none), (9, none), (10, none), (11, none), (12, none), (13, none)]⟩)
   (.cond (.t 42)
    (.skip)
    (.exit 2)))
   (.blk 3 (.seq (.seq (.reg [⟨(some 44), .call 89 [(.t 0), (.k (.string ⟨#[109, 111, 100, 101]⟩))], none⟩,
      ⟨(some 45), .pur (.un .not (.t 44)), none⟩])
    (.cond (.t 45)
     (.seq (.reg [⟨(some 47), .call 90 [(.t 0)], none⟩])
     (.seq (.reg [⟨(some 48), .pur (.ld 2 true (.t 3)), none⟩,
       ⟨none, .eff (.st 2 (.t 2) (.t 48)), none⟩])
     (.ret)))
     (.skip)))
    (.seq (.reg [⟨(some 50), .pur (.fad 1 (.t 3)), none⟩,
      ⟨(some 51), .pur (.ld 1 false (.t 50)), none⟩,
      ⟨(some 52), .pur (.len (.t 51)), none⟩,
      ⟨(some 53), .pur (.bin .add (.t 52) (.k (.int .i64 1))), none⟩,
      ⟨(some 54), .call 87 [(.t 0), (.t 53), (.k (.int .i64 16)), (.k (.int .i64 9))], none⟩])
    (.seq (.reg [⟨(some 56), .call 63 [(.t 0)], none⟩])
    (.cond (.t 56)
     (.drw 8 ⟨[⟨(some 57), .pur (.fad 1 (.t 3)), none⟩,
       ⟨(some 58), .pur (.ld 1 false (.t 57)), none⟩,
       ⟨(some 59), .pur (.mv (.t 0)), none⟩,
       ⟨(some 60), .call 91 [(.t 59)], none⟩,
       ⟨(some 61), .new (.bsl 4 1 #[.string ⟨#[]⟩, .int .i64 0, .slice none 0 0, .int .i64 0] [(0, (.t 60))]), none⟩,
       ⟨(some 62), .eff (.app 4 56 (.t 58) (.t 61)), none⟩,
       ⟨(some 63), .pur (.fad 1 (.t 3)), none⟩,
       ⟨none, .eff (.st 1 (.t 63) (.t 62)), none⟩],
       [[], [0], [], [2], [3, 2], [1, 4, 3, 0, 2], [0, 1, 2, 3, 4, 5], [6, 5, 0, 1, 2, 3, 4]],
       [(0, none), (1, none), (2, none), (3, some [0, 1]), (4, none), (5, some []), (6, none), (7, some [])]⟩)
     (.skip)))))))))
 (.seq (.reg [⟨(some 64), .pur (.ld 2 true (.t 3)), none⟩,
   ⟨none, .eff (.st 2 (.t 2) (.t 64)), none⟩])
 (.ret))))),
 [.cell 2 2 true]⟩
theorem is62 : IsFnO Tryz.prog 62 ir62 := .of 36670911810118946 (by kernel_rfl)
/-- (*pinball/pinballref31.reader).ok -/
noncomputable def ir63 : IFn := ⟨8, .seq (.reg [⟨(some 2), .pur (.mv (.k (.bool false))), none⟩])
 (.seq (.reg [⟨(some 4), .pur (.nck (.t 0)), none⟩,
   ⟨(some 5), .pur (.fad 3 (.t 4)), none⟩,
   ⟨(some 6), .pur (.ld 1 false (.t 5)), none⟩,
   ⟨(some 7), .pur (.bin .eql (.t 6) (.k (.int .i64 0))), none⟩,
   ⟨(some 2), .pur (.mv (.t 7)), none⟩])
 (.ret)),
 [.tmp 2]⟩
theorem is63 : IsFnO Tryz.prog 63 ir63 := .of 10 (by kernel_rfl)
end Go.Proofs.YtniclakgfgmhhaaGreat
