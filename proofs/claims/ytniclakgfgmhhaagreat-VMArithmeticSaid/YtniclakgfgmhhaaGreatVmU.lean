/-
  FUNCTIONS IN THE ENGINE's PLAIN FORM; each is what the translation gives.
-/
import Derived.Test.YtniclakgfgmhhaaGreatEngS
import Derived.Test.YtniclakgfgmhhaaGreatProg
import Derived.KernelRfl
set_option maxRecDepth 100000
namespace Go.Proofs.YtniclakgfgmhhaaGreat
open Go.Eng
/-- pinball/pinballlaw35.VMComputes -/
noncomputable def u3 : IFn := ⟨58, .seq (.reg [⟨(some 6), .pur (.mv (.k (.bool false))), none⟩])
 (.seq (.seq (.reg [⟨(some 7), .pur (.mv (.k (.int .i64 0))), none⟩])
 (.blk 0 (.loop (.seq (.seq (.reg [⟨(some 8), .pur (.mv (.t 7)), none⟩,
     ⟨(some 9), .pur (.bin .lss (.t 8) (.k (.int .i64 27))), none⟩])
   (.cond (.t 9)
    (.skip)
    (.exit 0)))
   (.seq (.blk 1 (.seq (.reg [⟨(some 12), .pur (.mv (.t 7)), none⟩,
      ⟨(some 13), .pur (.mv (.t 1)), none⟩,
      ⟨(some 14), .call 10 [(.t 12), (.t 13)], none⟩,
      ⟨(some 15), .pur (.mv (.t 7)), none⟩,
      ⟨(some 16), .pur (.mv (.t 1)), none⟩,
      ⟨(some 17), .call 11 [(.t 15), (.t 16)], none⟩,
      ⟨(some 18), .pur (.bin .neq (.t 14) (.t 17)), none⟩,
      ⟨(some 19), .pur (.mv (.t 18)), none⟩,
      ⟨(some 20), .pur (.mv (.t 7)), some (19, false)⟩,
      ⟨(some 21), .pur (.mv (.t 1)), some (19, false)⟩,
      ⟨(some 22), .pur (.mv (.t 2)), some (19, false)⟩,
      ⟨(some 23), .call 12 [(.t 20), (.t 21), (.t 22)], some (19, false)⟩,
      ⟨(some 24), .pur (.mv (.t 7)), some (19, false)⟩,
      ⟨(some 25), .pur (.mv (.t 1)), some (19, false)⟩,
      ⟨(some 26), .pur (.mv (.t 2)), some (19, false)⟩,
      ⟨(some 27), .call 13 [(.t 24), (.t 25), (.t 26)], some (19, false)⟩,
      ⟨(some 28), .pur (.bin .neq (.t 23) (.t 27)), some (19, false)⟩,
      ⟨(some 29), .pur (.pick (.t 19) (.k (.bool true)) (.t 28)), none⟩])
    (.cond (.t 29)
     (.seq (.reg [⟨(some 6), .pur (.mv (.k (.bool false))), none⟩])
     (.ret))
     (.skip))))
   (.reg [⟨(some 10), .pur (.mv (.t 7)), none⟩,
     ⟨(some 11), .pur (.bin .add (.t 10) (.k (.int .i64 1))), none⟩,
     ⟨(some 7), .pur (.mv (.t 11)), none⟩]))))))
 (.seq (.reg [⟨(some 30), .pur (.mv (.t 1)), none⟩,
   ⟨(some 31), .call 14 [(.t 30)], none⟩,
   ⟨(some 32), .pur (.mv (.t 1)), none⟩,
   ⟨(some 33), .call 15 [(.t 32)], none⟩,
   ⟨(some 34), .pur (.bin .eql (.t 31) (.t 33)), none⟩,
   ⟨(some 35), .pur (.mv (.t 34)), none⟩,
   ⟨(some 36), .pur (.mv (.t 0)), some (35, true)⟩,
   ⟨(some 37), .pur (.mv (.t 2)), some (35, true)⟩,
   ⟨(some 38), .call 10 [(.t 36), (.t 37)], some (35, true)⟩,
   ⟨(some 39), .pur (.mv (.t 0)), some (35, true)⟩,
   ⟨(some 40), .pur (.mv (.t 2)), some (35, true)⟩,
   ⟨(some 41), .call 11 [(.t 39), (.t 40)], some (35, true)⟩,
   ⟨(some 42), .pur (.bin .eql (.t 38) (.t 41)), some (35, true)⟩,
   ⟨(some 43), .pur (.pick (.t 35) (.t 42) (.k (.bool false))), none⟩,
   ⟨(some 44), .pur (.mv (.t 43)), none⟩,
   ⟨(some 45), .pur (.mv (.t 0)), some (44, true)⟩,
   ⟨(some 46), .pur (.mv (.t 2)), some (44, true)⟩,
   ⟨(some 47), .pur (.mv (.t 1)), some (44, true)⟩,
   ⟨(some 48), .call 12 [(.t 45), (.t 46), (.t 47)], some (44, true)⟩,
   ⟨(some 49), .pur (.mv (.t 0)), some (44, true)⟩,
   ⟨(some 50), .pur (.mv (.t 2)), some (44, true)⟩,
   ⟨(some 51), .pur (.mv (.t 1)), some (44, true)⟩,
   ⟨(some 52), .call 13 [(.t 49), (.t 50), (.t 51)], some (44, true)⟩,
   ⟨(some 53), .pur (.bin .eql (.t 48) (.t 52)), some (44, true)⟩,
   ⟨(some 54), .pur (.pick (.t 44) (.t 53) (.k (.bool false))), none⟩,
   ⟨(some 55), .pur (.mv (.t 54)), none⟩,
   ⟨(some 56), .call 16 [], some (55, true)⟩,
   ⟨(some 57), .pur (.pick (.t 55) (.t 56) (.k (.bool false))), none⟩,
   ⟨(some 6), .pur (.mv (.t 57)), none⟩])
 (.ret))),
 [.tmp 6]⟩
theorem isU3 : IsFn Tryz.prog 3 u3 := by unfold IsFn; kernel_rfl
/-- pinball/pinballlaw35.VMArithmetic -/
noncomputable def u4 : IFn := ⟨157, .seq (.reg [⟨(some 4), .pur (.mv (.k (.bool false))), none⟩])
 (.seq (.reg [⟨(some 11), .pur (.mv (.t 0)), none⟩,
   ⟨(some 12), .call 14 [(.t 11)], none⟩,
   ⟨(some 13), .pur (.mv (.t 1)), none⟩,
   ⟨(some 14), .call 14 [(.t 13)], none⟩,
   ⟨(some 5), .pur (.mv (.t 12)), none⟩,
   ⟨(some 6), .pur (.mv (.t 14)), none⟩])
 (.seq (.seq (.reg [⟨(some 7), .pur (.mv (.k (.int .i64 12))), none⟩])
 (.blk 0 (.loop (.seq (.seq (.reg [⟨(some 15), .pur (.mv (.t 7)), none⟩,
     ⟨(some 16), .pur (.bin .leq (.t 15) (.k (.int .i64 24))), none⟩])
   (.cond (.t 16)
    (.skip)
    (.exit 0)))
   (.seq (.blk 1 (.seq (.reg [⟨(some 19), .pur (.mv (.t 7)), none⟩,
      ⟨(some 20), .pur (.mv (.t 0)), none⟩,
      ⟨(some 21), .pur (.mv (.t 1)), none⟩,
      ⟨(some 22), .call 12 [(.t 19), (.t 20), (.t 21)], none⟩,
      ⟨(some 8), .pur (.mv (.t 22)), none⟩])
    (.seq (.reg [⟨(some 23), .pur (.mv (.t 8)), none⟩,
      ⟨(some 24), .pur (.bin .lss (.t 23) (.k (.int .i64 (-2147483647)))), none⟩,
      ⟨(some 25), .pur (.mv (.t 24)), none⟩,
      ⟨(some 26), .pur (.mv (.t 8)), some (25, false)⟩,
      ⟨(some 27), .pur (.bin .gtr (.t 26) (.k (.int .i64 2147483647))), some (25, false)⟩,
      ⟨(some 28), .pur (.pick (.t 25) (.k (.bool true)) (.t 27)), none⟩,
      ⟨(some 29), .pur (.mv (.t 28)), none⟩,
      ⟨(some 30), .pur (.mv (.t 8)), some (29, false)⟩,
      ⟨(some 31), .pur (.mv (.t 7)), some (29, false)⟩,
      ⟨(some 32), .pur (.mv (.t 5)), some (29, false)⟩,
      ⟨(some 33), .pur (.mv (.t 6)), some (29, false)⟩,
      ⟨(some 34), .call 12 [(.t 31), (.t 32), (.t 33)], some (29, false)⟩,
      ⟨(some 35), .pur (.bin .neq (.t 30) (.t 34)), some (29, false)⟩,
      ⟨(some 36), .pur (.pick (.t 29) (.k (.bool true)) (.t 35)), none⟩,
      ⟨(some 37), .pur (.mv (.t 36)), none⟩,
      ⟨(some 38), .pur (.mv (.t 7)), some (37, false)⟩,
      ⟨(some 39), .pur (.bin .geq (.t 38) (.k (.int .i64 17))), some (37, false)⟩,
      ⟨(some 40), .pur (.mv (.t 39)), some (37, false)⟩,
      ⟨(some 41), .pur (.mv (.t 8)), some (40, true)⟩,
      ⟨(some 42), .pur (.bin .neq (.t 41) (.k (.int .i64 0))), some (40, true)⟩,
      ⟨(some 43), .pur (.pick (.t 40) (.t 42) (.k (.bool false))), some (37, false)⟩,
      ⟨(some 44), .pur (.mv (.t 43)), some (37, false)⟩,
      ⟨(some 45), .pur (.mv (.t 8)), some (44, true)⟩,
      ⟨(some 46), .pur (.bin .neq (.t 45) (.k (.int .i64 1))), some (44, true)⟩,
      ⟨(some 47), .pur (.pick (.t 44) (.t 46) (.k (.bool false))), some (37, false)⟩,
      ⟨(some 48), .pur (.pick (.t 37) (.k (.bool true)) (.t 47)), none⟩])
    (.cond (.t 48)
     (.seq (.reg [⟨(some 4), .pur (.mv (.k (.bool false))), none⟩])
     (.ret))
     (.skip)))))
   (.reg [⟨(some 17), .pur (.mv (.t 7)), none⟩,
     ⟨(some 18), .pur (.bin .add (.t 17) (.k (.int .i64 1))), none⟩,
     ⟨(some 7), .pur (.mv (.t 18)), none⟩]))))))
 (.seq (.reg [⟨(some 49), .pur (.mv (.t 5)), none⟩,
   ⟨(some 50), .pur (.mv (.t 6)), none⟩,
   ⟨(some 51), .call 12 [(.k (.int .i64 13)), (.t 49), (.t 50)], none⟩,
   ⟨(some 52), .pur (.mv (.t 5)), none⟩,
   ⟨(some 53), .pur (.mv (.t 6)), none⟩,
   ⟨(some 54), .call 12 [(.k (.int .i64 14)), (.t 52), (.t 53)], none⟩,
   ⟨(some 9), .pur (.mv (.t 51)), none⟩,
   ⟨(some 10), .pur (.mv (.t 54)), none⟩])
 (.seq (.seq (.reg [⟨(some 55), .pur (.mv (.t 6)), none⟩,
   ⟨(some 56), .pur (.bin .neq (.t 55) (.k (.int .i64 0))), none⟩,
   ⟨(some 57), .pur (.mv (.t 56)), none⟩,
   ⟨(some 58), .pur (.mv (.t 9)), some (57, true)⟩,
   ⟨(some 59), .pur (.mv (.t 6)), some (57, true)⟩,
   ⟨(some 60), .pur (.bin .mul (.t 58) (.t 59)), some (57, true)⟩,
   ⟨(some 61), .pur (.mv (.t 10)), some (57, true)⟩,
   ⟨(some 62), .pur (.bin .add (.t 60) (.t 61)), some (57, true)⟩,
   ⟨(some 63), .pur (.mv (.t 5)), some (57, true)⟩,
   ⟨(some 64), .pur (.bin .neq (.t 62) (.t 63)), some (57, true)⟩,
   ⟨(some 65), .pur (.mv (.t 64)), some (57, true)⟩,
   ⟨(some 66), .pur (.mv (.t 10)), some (65, false)⟩,
   ⟨(some 67), .pur (.bin .neq (.t 66) (.k (.int .i64 0))), some (65, false)⟩,
   ⟨(some 68), .pur (.mv (.t 67)), some (65, false)⟩,
   ⟨(some 69), .pur (.mv (.t 10)), some (68, true)⟩,
   ⟨(some 70), .pur (.bin .lss (.t 69) (.k (.int .i64 0))), some (68, true)⟩,
   ⟨(some 71), .pur (.mv (.t 5)), some (68, true)⟩,
   ⟨(some 72), .pur (.bin .lss (.t 71) (.k (.int .i64 0))), some (68, true)⟩,
   ⟨(some 73), .pur (.eqb true (.t 70) (.t 72)), some (68, true)⟩,
   ⟨(some 74), .pur (.pick (.t 68) (.t 73) (.k (.bool false))), some (65, false)⟩,
   ⟨(some 75), .pur (.pick (.t 65) (.k (.bool true)) (.t 74)), some (57, true)⟩,
   ⟨(some 76), .pur (.mv (.t 75)), some (57, true)⟩,
   ⟨(some 77), .pur (.mv (.t 10)), some (76, false)⟩,
   ⟨(some 78), .pur (.mv (.t 10)), some (76, false)⟩,
   ⟨(some 79), .pur (.bin .mul (.t 77) (.t 78)), some (76, false)⟩,
   ⟨(some 80), .pur (.mv (.t 6)), some (76, false)⟩,
   ⟨(some 81), .pur (.mv (.t 6)), some (76, false)⟩,
   ⟨(some 82), .pur (.bin .mul (.t 80) (.t 81)), some (76, false)⟩,
   ⟨(some 83), .pur (.bin .geq (.t 79) (.t 82)), some (76, false)⟩,
   ⟨(some 84), .pur (.pick (.t 76) (.k (.bool true)) (.t 83)), some (57, true)⟩,
   ⟨(some 85), .pur (.pick (.t 57) (.t 84) (.k (.bool false))), none⟩,
   ⟨(some 86), .pur (.mv (.t 85)), none⟩,
   ⟨(some 87), .pur (.mv (.t 6)), some (86, false)⟩,
   ⟨(some 88), .pur (.bin .eql (.t 87) (.k (.int .i64 0))), some (86, false)⟩,
   ⟨(some 89), .pur (.mv (.t 88)), some (86, false)⟩,
   ⟨(some 90), .pur (.mv (.t 9)), some (89, true)⟩,
   ⟨(some 91), .pur (.bin .neq (.t 90) (.k (.int .i64 0))), some (89, true)⟩,
   ⟨(some 92), .pur (.mv (.t 91)), some (89, true)⟩,
   ⟨(some 93), .pur (.mv (.t 10)), some (92, false)⟩,
   ⟨(some 94), .pur (.bin .neq (.t 93) (.k (.int .i64 0))), some (92, false)⟩,
   ⟨(some 95), .pur (.pick (.t 92) (.k (.bool true)) (.t 94)), some (89, true)⟩,
   ⟨(some 96), .pur (.pick (.t 89) (.t 95) (.k (.bool false))), some (86, false)⟩,
   ⟨(some 97), .pur (.pick (.t 86) (.k (.bool true)) (.t 96)), none⟩])
 (.cond (.t 97)
  (.seq (.reg [⟨(some 4), .pur (.mv (.k (.bool false))), none⟩])
  (.ret))
  (.skip)))
 (.seq (.reg [⟨(some 98), .pur (.mv (.t 5)), none⟩,
   ⟨(some 99), .pur (.mv (.t 6)), none⟩,
   ⟨(some 100), .call 12 [(.k (.int .i64 17)), (.t 98), (.t 99)], none⟩,
   ⟨(some 101), .pur (.mv (.t 5)), none⟩,
   ⟨(some 102), .pur (.mv (.t 6)), none⟩,
   ⟨(some 103), .call 12 [(.k (.int .i64 20)), (.t 101), (.t 102)], none⟩,
   ⟨(some 104), .pur (.bin .add (.t 100) (.t 103)), none⟩,
   ⟨(some 105), .pur (.bin .eql (.t 104) (.k (.int .i64 1))), none⟩,
   ⟨(some 106), .pur (.mv (.t 105)), none⟩,
   ⟨(some 107), .pur (.mv (.t 5)), some (106, true)⟩,
   ⟨(some 108), .pur (.mv (.t 6)), some (106, true)⟩,
   ⟨(some 109), .call 12 [(.k (.int .i64 19)), (.t 107), (.t 108)], some (106, true)⟩,
   ⟨(some 110), .pur (.mv (.t 5)), some (106, true)⟩,
   ⟨(some 111), .pur (.mv (.t 6)), some (106, true)⟩,
   ⟨(some 112), .call 12 [(.k (.int .i64 18)), (.t 110), (.t 111)], some (106, true)⟩,
   ⟨(some 113), .pur (.bin .add (.t 109) (.t 112)), some (106, true)⟩,
   ⟨(some 114), .pur (.bin .eql (.t 113) (.k (.int .i64 1))), some (106, true)⟩,
   ⟨(some 115), .pur (.pick (.t 106) (.t 114) (.k (.bool false))), none⟩,
   ⟨(some 116), .pur (.mv (.t 115)), none⟩,
   ⟨(some 117), .pur (.mv (.t 5)), some (116, true)⟩,
   ⟨(some 118), .pur (.mv (.t 6)), some (116, true)⟩,
   ⟨(some 119), .call 12 [(.k (.int .i64 21)), (.t 117), (.t 118)], some (116, true)⟩,
   ⟨(some 120), .pur (.mv (.t 5)), some (116, true)⟩,
   ⟨(some 121), .pur (.mv (.t 6)), some (116, true)⟩,
   ⟨(some 122), .call 12 [(.k (.int .i64 22)), (.t 120), (.t 121)], some (116, true)⟩,
   ⟨(some 123), .pur (.bin .add (.t 119) (.t 122)), some (116, true)⟩,
   ⟨(some 124), .pur (.bin .eql (.t 123) (.k (.int .i64 1))), some (116, true)⟩,
   ⟨(some 125), .pur (.pick (.t 116) (.t 124) (.k (.bool false))), none⟩,
   ⟨(some 126), .pur (.mv (.t 125)), none⟩,
   ⟨(some 127), .pur (.mv (.t 5)), some (126, true)⟩,
   ⟨(some 128), .pur (.mv (.t 6)), some (126, true)⟩,
   ⟨(some 129), .call 12 [(.k (.int .i64 17)), (.t 127), (.t 128)], some (126, true)⟩,
   ⟨(some 130), .pur (.mv (.t 6)), some (126, true)⟩,
   ⟨(some 131), .pur (.mv (.t 5)), some (126, true)⟩,
   ⟨(some 132), .call 12 [(.k (.int .i64 19)), (.t 130), (.t 131)], some (126, true)⟩,
   ⟨(some 133), .pur (.bin .eql (.t 129) (.t 132)), some (126, true)⟩,
   ⟨(some 134), .pur (.pick (.t 126) (.t 133) (.k (.bool false))), none⟩,
   ⟨(some 135), .pur (.mv (.t 134)), none⟩,
   ⟨(some 136), .pur (.mv (.t 5)), some (135, true)⟩,
   ⟨(some 137), .pur (.mv (.t 6)), some (135, true)⟩,
   ⟨(some 138), .call 12 [(.k (.int .i64 15)), (.t 136), (.t 137)], some (135, true)⟩,
   ⟨(some 139), .pur (.mv (.t 6)), some (135, true)⟩,
   ⟨(some 140), .pur (.mv (.t 5)), some (135, true)⟩,
   ⟨(some 141), .call 12 [(.k (.int .i64 15)), (.t 139), (.t 140)], some (135, true)⟩,
   ⟨(some 142), .pur (.bin .eql (.t 138) (.t 141)), some (135, true)⟩,
   ⟨(some 143), .pur (.pick (.t 135) (.t 142) (.k (.bool false))), none⟩,
   ⟨(some 144), .pur (.mv (.t 143)), none⟩,
   ⟨(some 145), .pur (.mv (.t 5)), some (144, true)⟩,
   ⟨(some 146), .pur (.mv (.t 6)), some (144, true)⟩,
   ⟨(some 147), .call 12 [(.k (.int .i64 16)), (.t 145), (.t 146)], some (144, true)⟩,
   ⟨(some 148), .pur (.mv (.t 5)), some (144, true)⟩,
   ⟨(some 149), .pur (.mv (.t 6)), some (144, true)⟩,
   ⟨(some 150), .call 10 [(.k (.int .i64 10)), (.t 149)], some (144, true)⟩,
   ⟨(some 151), .call 12 [(.k (.int .i64 15)), (.t 148), (.t 150)], some (144, true)⟩,
   ⟨(some 152), .pur (.bin .eql (.t 147) (.t 151)), some (144, true)⟩,
   ⟨(some 153), .pur (.pick (.t 144) (.t 152) (.k (.bool false))), none⟩,
   ⟨(some 154), .pur (.mv (.t 153)), none⟩,
   ⟨(some 155), .call 16 [], some (154, true)⟩,
   ⟨(some 156), .pur (.pick (.t 154) (.t 155) (.k (.bool false))), none⟩,
   ⟨(some 4), .pur (.mv (.t 156)), none⟩])
 (.ret)))))),
 [.tmp 4]⟩
theorem isU4 : IsFn Tryz.prog 4 u4 := by unfold IsFn; kernel_rfl
/-- pinball/vm.Unary -/
noncomputable def u10 : IFn := ⟨17, .seq (.reg [⟨(some 4), .pur (.mv (.k (.int .i64 0))), none⟩])
 (.seq (.reg [⟨(some 5), .pur (.mv (.t 1)), none⟩,
   ⟨(some 6), .call 14 [(.t 5)], none⟩,
   ⟨(some 1), .pur (.mv (.t 6)), none⟩])
 (.seq (.seq (.reg [⟨(some 7), .pur (.mv (.t 0)), none⟩])
 (.blk 0 (.seq (.reg [⟨(some 9), .pur (.bin .eql (.t 7) (.k (.int .i64 10))), none⟩,
    ⟨(some 8), .pur (.mv (.t 9)), none⟩])
  (.cond (.t 8)
   (.seq (.reg [⟨(some 10), .pur (.mv (.t 1)), none⟩,
     ⟨(some 11), .pur (.un .neg (.t 10)), none⟩,
     ⟨(some 4), .pur (.mv (.t 11)), none⟩])
   (.ret))
   (.seq (.reg [⟨(some 13), .pur (.bin .eql (.t 7) (.k (.int .i64 11))), none⟩,
     ⟨(some 12), .pur (.mv (.t 13)), none⟩])
   (.cond (.t 12)
    (.seq (.reg [⟨(some 14), .pur (.mv (.t 1)), none⟩,
      ⟨(some 15), .pur (.bin .eql (.t 14) (.k (.int .i64 0))), none⟩,
      ⟨(some 16), .call 27 [(.t 15)], none⟩,
      ⟨(some 4), .pur (.mv (.t 16)), none⟩])
    (.ret))
    (.skip)))))))
 (.seq (.reg [⟨(some 4), .pur (.mv (.k (.int .i64 0))), none⟩])
 (.ret)))),
 [.tmp 4]⟩
theorem isU10 : IsFn Tryz.prog 10 u10 := by unfold IsFn; kernel_rfl
/-- pinball/pinballref35.Unary -/
noncomputable def u11 : IFn := ⟨17, .seq (.reg [⟨(some 4), .pur (.mv (.k (.int .i64 0))), none⟩])
 (.seq (.reg [⟨(some 5), .pur (.mv (.t 1)), none⟩,
   ⟨(some 6), .call 15 [(.t 5)], none⟩,
   ⟨(some 1), .pur (.mv (.t 6)), none⟩])
 (.seq (.seq (.reg [⟨(some 7), .pur (.mv (.t 0)), none⟩])
 (.blk 0 (.seq (.reg [⟨(some 9), .pur (.bin .eql (.t 7) (.k (.int .i64 10))), none⟩,
    ⟨(some 8), .pur (.mv (.t 9)), none⟩])
  (.cond (.t 8)
   (.seq (.reg [⟨(some 10), .pur (.mv (.t 1)), none⟩,
     ⟨(some 11), .pur (.un .neg (.t 10)), none⟩,
     ⟨(some 4), .pur (.mv (.t 11)), none⟩])
   (.ret))
   (.seq (.reg [⟨(some 13), .pur (.bin .eql (.t 7) (.k (.int .i64 11))), none⟩,
     ⟨(some 12), .pur (.mv (.t 13)), none⟩])
   (.cond (.t 12)
    (.seq (.reg [⟨(some 14), .pur (.mv (.t 1)), none⟩,
      ⟨(some 15), .pur (.bin .eql (.t 14) (.k (.int .i64 0))), none⟩,
      ⟨(some 16), .call 28 [(.t 15)], none⟩,
      ⟨(some 4), .pur (.mv (.t 16)), none⟩])
    (.ret))
    (.skip)))))))
 (.seq (.reg [⟨(some 4), .pur (.mv (.k (.int .i64 0))), none⟩])
 (.ret)))),
 [.tmp 4]⟩
theorem isU11 : IsFn Tryz.prog 11 u11 := by unfold IsFn; kernel_rfl
/-- pinball/vm.Binary -/
noncomputable def u12 : IFn := ⟨98, .seq (.reg [⟨(some 6), .pur (.mv (.k (.int .i64 0))), none⟩])
 (.seq (.reg [⟨(some 7), .pur (.mv (.t 1)), none⟩,
   ⟨(some 8), .call 14 [(.t 7)], none⟩,
   ⟨(some 9), .pur (.mv (.t 2)), none⟩,
   ⟨(some 10), .call 14 [(.t 9)], none⟩,
   ⟨(some 1), .pur (.mv (.t 8)), none⟩,
   ⟨(some 2), .pur (.mv (.t 10)), none⟩])
 (.seq (.seq (.reg [⟨(some 11), .pur (.mv (.t 0)), none⟩])
 (.blk 0 (.seq (.reg [⟨(some 13), .pur (.bin .eql (.t 11) (.k (.int .i64 12))), none⟩,
    ⟨(some 12), .pur (.mv (.t 13)), none⟩])
  (.cond (.t 12)
   (.seq (.reg [⟨(some 14), .pur (.mv (.t 1)), none⟩,
     ⟨(some 15), .pur (.mv (.t 2)), none⟩,
     ⟨(some 16), .pur (.bin .mul (.t 14) (.t 15)), none⟩,
     ⟨(some 17), .call 14 [(.t 16)], none⟩,
     ⟨(some 6), .pur (.mv (.t 17)), none⟩])
   (.ret))
   (.seq (.reg [⟨(some 19), .pur (.bin .eql (.t 11) (.k (.int .i64 13))), none⟩,
     ⟨(some 18), .pur (.mv (.t 19)), none⟩])
   (.cond (.t 18)
    (.seq (.reg [⟨(some 20), .pur (.mv (.t 2)), none⟩,
      ⟨(some 21), .pur (.bin .neq (.t 20) (.k (.int .i64 0))), none⟩])
    (.cond (.t 21)
     (.seq (.reg [⟨(some 22), .pur (.mv (.t 1)), none⟩,
       ⟨(some 23), .pur (.mv (.t 2)), none⟩,
       ⟨(some 24), .pur (.bin .quo (.t 22) (.t 23)), none⟩,
       ⟨(some 6), .pur (.mv (.t 24)), none⟩])
     (.ret))
     (.skip)))
    (.seq (.reg [⟨(some 26), .pur (.bin .eql (.t 11) (.k (.int .i64 14))), none⟩,
      ⟨(some 25), .pur (.mv (.t 26)), none⟩])
    (.cond (.t 25)
     (.seq (.reg [⟨(some 27), .pur (.mv (.t 2)), none⟩,
       ⟨(some 28), .pur (.bin .neq (.t 27) (.k (.int .i64 0))), none⟩])
     (.cond (.t 28)
      (.seq (.reg [⟨(some 29), .pur (.mv (.t 1)), none⟩,
        ⟨(some 30), .pur (.mv (.t 2)), none⟩,
        ⟨(some 31), .pur (.bin .rem (.t 29) (.t 30)), none⟩,
        ⟨(some 6), .pur (.mv (.t 31)), none⟩])
      (.ret))
      (.skip)))
     (.seq (.reg [⟨(some 33), .pur (.bin .eql (.t 11) (.k (.int .i64 15))), none⟩,
       ⟨(some 32), .pur (.mv (.t 33)), none⟩])
     (.cond (.t 32)
      (.seq (.reg [⟨(some 34), .pur (.mv (.t 1)), none⟩,
        ⟨(some 35), .pur (.mv (.t 2)), none⟩,
        ⟨(some 36), .pur (.bin .add (.t 34) (.t 35)), none⟩,
        ⟨(some 37), .call 14 [(.t 36)], none⟩,
        ⟨(some 6), .pur (.mv (.t 37)), none⟩])
      (.ret))
      (.seq (.reg [⟨(some 39), .pur (.bin .eql (.t 11) (.k (.int .i64 16))), none⟩,
        ⟨(some 38), .pur (.mv (.t 39)), none⟩])
      (.cond (.t 38)
       (.seq (.reg [⟨(some 40), .pur (.mv (.t 1)), none⟩,
         ⟨(some 41), .pur (.mv (.t 2)), none⟩,
         ⟨(some 42), .pur (.bin .sub (.t 40) (.t 41)), none⟩,
         ⟨(some 43), .call 14 [(.t 42)], none⟩,
         ⟨(some 6), .pur (.mv (.t 43)), none⟩])
       (.ret))
       (.seq (.reg [⟨(some 45), .pur (.bin .eql (.t 11) (.k (.int .i64 17))), none⟩,
         ⟨(some 44), .pur (.mv (.t 45)), none⟩])
       (.cond (.t 44)
        (.seq (.reg [⟨(some 46), .pur (.mv (.t 1)), none⟩,
          ⟨(some 47), .pur (.mv (.t 2)), none⟩,
          ⟨(some 48), .pur (.bin .lss (.t 46) (.t 47)), none⟩,
          ⟨(some 49), .call 27 [(.t 48)], none⟩,
          ⟨(some 6), .pur (.mv (.t 49)), none⟩])
        (.ret))
        (.seq (.reg [⟨(some 51), .pur (.bin .eql (.t 11) (.k (.int .i64 18))), none⟩,
          ⟨(some 50), .pur (.mv (.t 51)), none⟩])
        (.cond (.t 50)
         (.seq (.reg [⟨(some 52), .pur (.mv (.t 1)), none⟩,
           ⟨(some 53), .pur (.mv (.t 2)), none⟩,
           ⟨(some 54), .pur (.bin .leq (.t 52) (.t 53)), none⟩,
           ⟨(some 55), .call 27 [(.t 54)], none⟩,
           ⟨(some 6), .pur (.mv (.t 55)), none⟩])
         (.ret))
         (.seq (.reg [⟨(some 57), .pur (.bin .eql (.t 11) (.k (.int .i64 19))), none⟩,
           ⟨(some 56), .pur (.mv (.t 57)), none⟩])
         (.cond (.t 56)
          (.seq (.reg [⟨(some 58), .pur (.mv (.t 1)), none⟩,
            ⟨(some 59), .pur (.mv (.t 2)), none⟩,
            ⟨(some 60), .pur (.bin .gtr (.t 58) (.t 59)), none⟩,
            ⟨(some 61), .call 27 [(.t 60)], none⟩,
            ⟨(some 6), .pur (.mv (.t 61)), none⟩])
          (.ret))
          (.seq (.reg [⟨(some 63), .pur (.bin .eql (.t 11) (.k (.int .i64 20))), none⟩,
            ⟨(some 62), .pur (.mv (.t 63)), none⟩])
          (.cond (.t 62)
           (.seq (.reg [⟨(some 64), .pur (.mv (.t 1)), none⟩,
             ⟨(some 65), .pur (.mv (.t 2)), none⟩,
             ⟨(some 66), .pur (.bin .geq (.t 64) (.t 65)), none⟩,
             ⟨(some 67), .call 27 [(.t 66)], none⟩,
             ⟨(some 6), .pur (.mv (.t 67)), none⟩])
           (.ret))
           (.seq (.reg [⟨(some 69), .pur (.bin .eql (.t 11) (.k (.int .i64 21))), none⟩,
             ⟨(some 68), .pur (.mv (.t 69)), none⟩])
           (.cond (.t 68)
            (.seq (.reg [⟨(some 70), .pur (.mv (.t 1)), none⟩,
              ⟨(some 71), .pur (.mv (.t 2)), none⟩,
              ⟨(some 72), .pur (.bin .eql (.t 70) (.t 71)), none⟩,
              ⟨(some 73), .call 27 [(.t 72)], none⟩,
              ⟨(some 6), .pur (.mv (.t 73)), none⟩])
            (.ret))
            (.seq (.reg [⟨(some 75), .pur (.bin .eql (.t 11) (.k (.int .i64 22))), none⟩,
              ⟨(some 74), .pur (.mv (.t 75)), none⟩])
            (.cond (.t 74)
             (.seq (.reg [⟨(some 76), .pur (.mv (.t 1)), none⟩,
               ⟨(some 77), .pur (.mv (.t 2)), none⟩,
               ⟨(some 78), .pur (.bin .neq (.t 76) (.t 77)), none⟩,
               ⟨(some 79), .call 27 [(.t 78)], none⟩,
               ⟨(some 6), .pur (.mv (.t 79)), none⟩])
             (.ret))
             (.seq (.reg [⟨(some 81), .pur (.bin .eql (.t 11) (.k (.int .i64 23))), none⟩,
               ⟨(some 80), .pur (.mv (.t 81)), none⟩])
             (.cond (.t 80)
              (.seq (.reg [⟨(some 82), .pur (.mv (.t 1)), none⟩,
                ⟨(some 83), .pur (.bin .neq (.t 82) (.k (.int .i64 0))), none⟩,
                ⟨(some 84), .pur (.mv (.t 83)), none⟩,
                ⟨(some 85), .pur (.mv (.t 2)), some (84, true)⟩,
                ⟨(some 86), .pur (.bin .neq (.t 85) (.k (.int .i64 0))), some (84, true)⟩,
                ⟨(some 87), .pur (.pick (.t 84) (.t 86) (.k (.bool false))), none⟩,
                ⟨(some 88), .call 27 [(.t 87)], none⟩,
                ⟨(some 6), .pur (.mv (.t 88)), none⟩])
              (.ret))
              (.seq (.reg [⟨(some 90), .pur (.bin .eql (.t 11) (.k (.int .i64 24))), none⟩,
                ⟨(some 89), .pur (.mv (.t 90)), none⟩])
              (.cond (.t 89)
               (.seq (.reg [⟨(some 91), .pur (.mv (.t 1)), none⟩,
                 ⟨(some 92), .pur (.bin .neq (.t 91) (.k (.int .i64 0))), none⟩,
                 ⟨(some 93), .pur (.mv (.t 92)), none⟩,
                 ⟨(some 94), .pur (.mv (.t 2)), some (93, false)⟩,
                 ⟨(some 95), .pur (.bin .neq (.t 94) (.k (.int .i64 0))), some (93, false)⟩,
                 ⟨(some 96), .pur (.pick (.t 93) (.k (.bool true)) (.t 95)), none⟩,
                 ⟨(some 97), .call 27 [(.t 96)], none⟩,
                 ⟨(some 6), .pur (.mv (.t 97)), none⟩])
               (.ret))
               (.skip)))))))))))))))))))))))))))))
 (.seq (.reg [⟨(some 6), .pur (.mv (.k (.int .i64 0))), none⟩])
 (.ret)))),
 [.tmp 6]⟩
theorem isU12 : IsFn Tryz.prog 12 u12 := by unfold IsFn; kernel_rfl
/-- pinball/pinballref35.Binary -/
noncomputable def u13 : IFn := ⟨98, .seq (.reg [⟨(some 6), .pur (.mv (.k (.int .i64 0))), none⟩])
 (.seq (.reg [⟨(some 7), .pur (.mv (.t 1)), none⟩,
   ⟨(some 8), .call 15 [(.t 7)], none⟩,
   ⟨(some 9), .pur (.mv (.t 2)), none⟩,
   ⟨(some 10), .call 15 [(.t 9)], none⟩,
   ⟨(some 1), .pur (.mv (.t 8)), none⟩,
   ⟨(some 2), .pur (.mv (.t 10)), none⟩])
 (.seq (.seq (.reg [⟨(some 11), .pur (.mv (.t 0)), none⟩])
 (.blk 0 (.seq (.reg [⟨(some 13), .pur (.bin .eql (.t 11) (.k (.int .i64 12))), none⟩,
    ⟨(some 12), .pur (.mv (.t 13)), none⟩])
  (.cond (.t 12)
   (.seq (.reg [⟨(some 14), .pur (.mv (.t 1)), none⟩,
     ⟨(some 15), .pur (.mv (.t 2)), none⟩,
     ⟨(some 16), .pur (.bin .mul (.t 14) (.t 15)), none⟩,
     ⟨(some 17), .call 15 [(.t 16)], none⟩,
     ⟨(some 6), .pur (.mv (.t 17)), none⟩])
   (.ret))
   (.seq (.reg [⟨(some 19), .pur (.bin .eql (.t 11) (.k (.int .i64 13))), none⟩,
     ⟨(some 18), .pur (.mv (.t 19)), none⟩])
   (.cond (.t 18)
    (.seq (.seq (.reg [⟨(some 20), .pur (.mv (.t 2)), none⟩,
      ⟨(some 21), .pur (.bin .eql (.t 20) (.k (.int .i64 0))), none⟩])
    (.cond (.t 21)
     (.seq (.reg [⟨(some 6), .pur (.mv (.k (.int .i64 0))), none⟩])
     (.ret))
     (.skip)))
    (.seq (.reg [⟨(some 22), .pur (.mv (.t 1)), none⟩,
      ⟨(some 23), .pur (.mv (.t 2)), none⟩,
      ⟨(some 24), .pur (.bin .quo (.t 22) (.t 23)), none⟩,
      ⟨(some 6), .pur (.mv (.t 24)), none⟩])
    (.ret)))
    (.seq (.reg [⟨(some 26), .pur (.bin .eql (.t 11) (.k (.int .i64 14))), none⟩,
      ⟨(some 25), .pur (.mv (.t 26)), none⟩])
    (.cond (.t 25)
     (.seq (.seq (.reg [⟨(some 27), .pur (.mv (.t 2)), none⟩,
       ⟨(some 28), .pur (.bin .eql (.t 27) (.k (.int .i64 0))), none⟩])
     (.cond (.t 28)
      (.seq (.reg [⟨(some 6), .pur (.mv (.k (.int .i64 0))), none⟩])
      (.ret))
      (.skip)))
     (.seq (.reg [⟨(some 29), .pur (.mv (.t 1)), none⟩,
       ⟨(some 30), .pur (.mv (.t 2)), none⟩,
       ⟨(some 31), .pur (.bin .rem (.t 29) (.t 30)), none⟩,
       ⟨(some 6), .pur (.mv (.t 31)), none⟩])
     (.ret)))
     (.seq (.reg [⟨(some 33), .pur (.bin .eql (.t 11) (.k (.int .i64 15))), none⟩,
       ⟨(some 32), .pur (.mv (.t 33)), none⟩])
     (.cond (.t 32)
      (.seq (.reg [⟨(some 34), .pur (.mv (.t 1)), none⟩,
        ⟨(some 35), .pur (.mv (.t 2)), none⟩,
        ⟨(some 36), .pur (.bin .add (.t 34) (.t 35)), none⟩,
        ⟨(some 37), .call 15 [(.t 36)], none⟩,
        ⟨(some 6), .pur (.mv (.t 37)), none⟩])
      (.ret))
      (.seq (.reg [⟨(some 39), .pur (.bin .eql (.t 11) (.k (.int .i64 16))), none⟩,
        ⟨(some 38), .pur (.mv (.t 39)), none⟩])
      (.cond (.t 38)
       (.seq (.reg [⟨(some 40), .pur (.mv (.t 1)), none⟩,
         ⟨(some 41), .pur (.mv (.t 2)), none⟩,
         ⟨(some 42), .pur (.bin .sub (.t 40) (.t 41)), none⟩,
         ⟨(some 43), .call 15 [(.t 42)], none⟩,
         ⟨(some 6), .pur (.mv (.t 43)), none⟩])
       (.ret))
       (.seq (.reg [⟨(some 45), .pur (.bin .eql (.t 11) (.k (.int .i64 17))), none⟩,
         ⟨(some 44), .pur (.mv (.t 45)), none⟩])
       (.cond (.t 44)
        (.seq (.reg [⟨(some 46), .pur (.mv (.t 1)), none⟩,
          ⟨(some 47), .pur (.mv (.t 2)), none⟩,
          ⟨(some 48), .pur (.bin .lss (.t 46) (.t 47)), none⟩,
          ⟨(some 49), .call 28 [(.t 48)], none⟩,
          ⟨(some 6), .pur (.mv (.t 49)), none⟩])
        (.ret))
        (.seq (.reg [⟨(some 51), .pur (.bin .eql (.t 11) (.k (.int .i64 18))), none⟩,
          ⟨(some 50), .pur (.mv (.t 51)), none⟩])
        (.cond (.t 50)
         (.seq (.reg [⟨(some 52), .pur (.mv (.t 1)), none⟩,
           ⟨(some 53), .pur (.mv (.t 2)), none⟩,
           ⟨(some 54), .pur (.bin .leq (.t 52) (.t 53)), none⟩,
           ⟨(some 55), .call 28 [(.t 54)], none⟩,
           ⟨(some 6), .pur (.mv (.t 55)), none⟩])
         (.ret))
         (.seq (.reg [⟨(some 57), .pur (.bin .eql (.t 11) (.k (.int .i64 19))), none⟩,
           ⟨(some 56), .pur (.mv (.t 57)), none⟩])
         (.cond (.t 56)
          (.seq (.reg [⟨(some 58), .pur (.mv (.t 1)), none⟩,
            ⟨(some 59), .pur (.mv (.t 2)), none⟩,
            ⟨(some 60), .pur (.bin .gtr (.t 58) (.t 59)), none⟩,
            ⟨(some 61), .call 28 [(.t 60)], none⟩,
            ⟨(some 6), .pur (.mv (.t 61)), none⟩])
          (.ret))
          (.seq (.reg [⟨(some 63), .pur (.bin .eql (.t 11) (.k (.int .i64 20))), none⟩,
            ⟨(some 62), .pur (.mv (.t 63)), none⟩])
          (.cond (.t 62)
           (.seq (.reg [⟨(some 64), .pur (.mv (.t 1)), none⟩,
             ⟨(some 65), .pur (.mv (.t 2)), none⟩,
             ⟨(some 66), .pur (.bin .geq (.t 64) (.t 65)), none⟩,
             ⟨(some 67), .call 28 [(.t 66)], none⟩,
             ⟨(some 6), .pur (.mv (.t 67)), none⟩])
           (.ret))
           (.seq (.reg [⟨(some 69), .pur (.bin .eql (.t 11) (.k (.int .i64 21))), none⟩,
             ⟨(some 68), .pur (.mv (.t 69)), none⟩])
           (.cond (.t 68)
            (.seq (.reg [⟨(some 70), .pur (.mv (.t 1)), none⟩,
              ⟨(some 71), .pur (.mv (.t 2)), none⟩,
              ⟨(some 72), .pur (.bin .eql (.t 70) (.t 71)), none⟩,
              ⟨(some 73), .call 28 [(.t 72)], none⟩,
              ⟨(some 6), .pur (.mv (.t 73)), none⟩])
            (.ret))
            (.seq (.reg [⟨(some 75), .pur (.bin .eql (.t 11) (.k (.int .i64 22))), none⟩,
              ⟨(some 74), .pur (.mv (.t 75)), none⟩])
            (.cond (.t 74)
             (.seq (.reg [⟨(some 76), .pur (.mv (.t 1)), none⟩,
               ⟨(some 77), .pur (.mv (.t 2)), none⟩,
               ⟨(some 78), .pur (.bin .neq (.t 76) (.t 77)), none⟩,
               ⟨(some 79), .call 28 [(.t 78)], none⟩,
               ⟨(some 6), .pur (.mv (.t 79)), none⟩])
             (.ret))
             (.seq (.reg [⟨(some 81), .pur (.bin .eql (.t 11) (.k (.int .i64 23))), none⟩,
               ⟨(some 80), .pur (.mv (.t 81)), none⟩])
             (.cond (.t 80)
              (.seq (.reg [⟨(some 82), .pur (.mv (.t 1)), none⟩,
                ⟨(some 83), .pur (.bin .neq (.t 82) (.k (.int .i64 0))), none⟩,
                ⟨(some 84), .pur (.mv (.t 83)), none⟩,
                ⟨(some 85), .pur (.mv (.t 2)), some (84, true)⟩,
                ⟨(some 86), .pur (.bin .neq (.t 85) (.k (.int .i64 0))), some (84, true)⟩,
                ⟨(some 87), .pur (.pick (.t 84) (.t 86) (.k (.bool false))), none⟩,
                ⟨(some 88), .call 28 [(.t 87)], none⟩,
                ⟨(some 6), .pur (.mv (.t 88)), none⟩])
              (.ret))
              (.seq (.reg [⟨(some 90), .pur (.bin .eql (.t 11) (.k (.int .i64 24))), none⟩,
                ⟨(some 89), .pur (.mv (.t 90)), none⟩])
              (.cond (.t 89)
               (.seq (.reg [⟨(some 91), .pur (.mv (.t 1)), none⟩,
                 ⟨(some 92), .pur (.bin .neq (.t 91) (.k (.int .i64 0))), none⟩,
                 ⟨(some 93), .pur (.mv (.t 92)), none⟩,
                 ⟨(some 94), .pur (.mv (.t 2)), some (93, false)⟩,
                 ⟨(some 95), .pur (.bin .neq (.t 94) (.k (.int .i64 0))), some (93, false)⟩,
                 ⟨(some 96), .pur (.pick (.t 93) (.k (.bool true)) (.t 95)), none⟩,
                 ⟨(some 97), .call 28 [(.t 96)], none⟩,
                 ⟨(some 6), .pur (.mv (.t 97)), none⟩])
               (.ret))
               (.skip)))))))))))))))))))))))))))))
 (.seq (.reg [⟨(some 6), .pur (.mv (.k (.int .i64 0))), none⟩])
 (.ret)))),
 [.tmp 6]⟩
theorem isU13 : IsFn Tryz.prog 13 u13 := by unfold IsFn; kernel_rfl
/-- pinball/vm.Clamp -/
noncomputable def u14 : IFn := ⟨6, .seq (.reg [⟨(some 2), .pur (.mv (.k (.int .i64 0))), none⟩])
 (.seq (.reg [⟨(some 3), .pur (.mv (.t 0)), none⟩,
   ⟨(some 4), .pur (.mx (.t 3) (.k (.int .i64 (-2147483647)))), none⟩,
   ⟨(some 5), .pur (.mn (.t 4) (.k (.int .i64 2147483647))), none⟩,
   ⟨(some 2), .pur (.mv (.t 5)), none⟩])
 (.ret)),
 [.tmp 2]⟩
theorem isU14 : IsFn Tryz.prog 14 u14 := by unfold IsFn; kernel_rfl
/-- pinball/pinballref35.Clamp -/
noncomputable def u15 : IFn := ⟨6, .seq (.reg [⟨(some 2), .pur (.mv (.k (.int .i64 0))), none⟩])
 (.seq (.reg [⟨(some 3), .pur (.mv (.t 0)), none⟩,
   ⟨(some 4), .pur (.mn (.k (.int .i64 2147483647)) (.t 3)), none⟩,
   ⟨(some 5), .pur (.mx (.k (.int .i64 (-2147483647))) (.t 4)), none⟩,
   ⟨(some 2), .pur (.mv (.t 5)), none⟩])
 (.ret)),
 [.tmp 2]⟩
theorem isU15 : IsFn Tryz.prog 15 u15 := by unfold IsFn; kernel_rfl
/-- pinball/vm.bit -/
noncomputable def u27 : IFn := ⟨4, .seq (.reg [⟨(some 2), .pur (.mv (.k (.int .i64 0))), none⟩])
 (.seq (.seq (.reg [⟨(some 3), .pur (.mv (.t 0)), none⟩])
 (.cond (.t 3)
  (.seq (.reg [⟨(some 2), .pur (.mv (.k (.int .i64 1))), none⟩])
  (.ret))
  (.skip)))
 (.seq (.reg [⟨(some 2), .pur (.mv (.k (.int .i64 0))), none⟩])
 (.ret))),
 [.tmp 2]⟩
theorem isU27 : IsFn Tryz.prog 27 u27 := by unfold IsFn; kernel_rfl
/-- pinball/pinballref35.truth -/
noncomputable def u28 : IFn := ⟨4, .seq (.reg [⟨(some 2), .pur (.mv (.k (.int .i64 0))), none⟩])
 (.seq (.seq (.reg [⟨(some 3), .pur (.mv (.t 0)), none⟩])
 (.cond (.t 3)
  (.seq (.reg [⟨(some 2), .pur (.mv (.k (.int .i64 1))), none⟩])
  (.ret))
  (.skip)))
 (.seq (.reg [⟨(some 2), .pur (.mv (.k (.int .i64 0))), none⟩])
 (.ret))),
 [.tmp 2]⟩
theorem isU28 : IsFn Tryz.prog 28 u28 := by unfold IsFn; kernel_rfl
theorem mixedU : Tryz.prog.follows .mixedOrders = true := by kernel_rfl
end Go.Proofs.YtniclakgfgmhhaaGreat
