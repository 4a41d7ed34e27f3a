/-
  FUNCTIONS IN THE ENGINE's FORM, part 3; each is what the translation gives.
-/
import Derived.Test.YtniclakgfgmhhaaGreatEngS
import Derived.Test.YtniclakgfgmhhaaGreatProg
import Derived.KernelRfl
set_option maxRecDepth 100000
namespace Go.Proofs.YtniclakgfgmhhaaGreat
open Go.Eng
/-- pinball/pinballref31.stmtTokens -/
noncomputable def ir156 : IFn := ⟨148, .seq (.reg [⟨(some 1), .new (.box (.t 0)), none⟩,
   ⟨(some 2), .pur (.mv (.k (.slice none 0 0))), none⟩])
 (.seq (.seq (.reg [⟨(some 4), .pur (.fad 0 (.t 1)), none⟩,
   ⟨(some 5), .pur (.ld 1 false (.t 4)), none⟩,
   ⟨(some 6), .pur (.bin .eql (.t 5) (.k (.int .i64 1))), none⟩])
 (.cond (.t 6)
  (.seq (.drw 13 ⟨[⟨(some 7), .pur (.fad 1 (.t 1)), none⟩,
    ⟨(some 8), .pur (.ld 1 false (.t 7)), none⟩,
    ⟨(some 9), .call 145 [(.t 8)], none⟩,
    ⟨(some 10), .new (.bsl 1 1 #[.string ⟨#[]⟩] [(0, (.k (.string ⟨#[61]⟩)))]), none⟩,
    ⟨(some 11), .call 144 [(.t 10)], none⟩,
    ⟨(some 12), .pur (.fad 3 (.t 1)), none⟩,
    ⟨(some 13), .pur (.ld 1 false (.t 12)), none⟩,
    ⟨(some 14), .call 160 [(.t 13), (.k (.int .i64 0))], none⟩,
    ⟨(some 15), .new (.bsl 1 1 #[.string ⟨#[]⟩] [(0, (.k (.string ⟨#[59]⟩)))]), none⟩,
    ⟨(some 16), .call 144 [(.t 15)], none⟩,
    ⟨(some 17), .new (.bsl 1 4 #[.slice none 0 0] [(0, (.t 9)), (1, (.t 11)), (2, (.t 14)), (3, (.t 16))]), none⟩,
    ⟨(some 18), .call 143 [(.t 17)], none⟩,
    ⟨(some 2), .pur (.mv (.t 18)), none⟩],
    [[], [0], [1, 0], [], [3, 2, 1, 0], [], [5], [6, 4, 5, 3, 2, 1, 0], [], [8, 7, 6, 4, 5, 3, 2, 1, 0], [2, 4, 7, 9, 1, 0, 3, 6, 5, 8], [10, 9, 2, 4, 7, 1, 0, 3, 6, 5, 8], [11, 0, 1, 2, 3, 4, 5, 6, 7, 8, 9, 10]],
    [(0, none), (1, none), (3, none), (5, none), (6, none), (8, none), (2, some [3, 5, 6, 8]), (4, some [5, 6, 8]), (7, some [8]), (9, some []), (10, none), (11, some []), (12, some [])]⟩)
  (.ret))
  (.skip)))
 (.seq (.seq (.reg [⟨(some 19), .pur (.fad 0 (.t 1)), none⟩,
   ⟨(some 20), .pur (.ld 1 false (.t 19)), none⟩,
   ⟨(some 21), .pur (.bin .lss (.t 20) (.k (.int .i64 2))), none⟩,
   ⟨(some 23), .pur (.fad 0 (.t 1)), some (21, false)⟩,
   ⟨(some 24), .pur (.ld 1 false (.t 23)), some (21, false)⟩,
   ⟨(some 25), .pur (.bin .gtr (.t 24) (.k (.int .i64 19))), some (21, false)⟩,
   ⟨(some 26), .pur (.pick (.t 21) (.k (.bool true)) (.t 25)), none⟩])
 (.cond (.t 26)
  (.seq (.reg [⟨(some 27), .pur (.bld #[.int .i64 0, .string ⟨#[]⟩, .int .i64 0, .int .i64 0] [(0, 1), (1, 1), (2, 1), (3, 1)] []), none⟩,
    ⟨(some 28), .new (.bsl 4 1 #[.int .i64 0, .string ⟨#[]⟩, .int .i64 0, .int .i64 0] [(0, (.t 27))]), none⟩,
    ⟨(some 2), .pur (.mv (.t 28)), none⟩])
  (.ret))
  (.skip)))
 (.seq (.drw 9 ⟨[⟨(some 29), .call 140 [], none⟩,
   ⟨(some 30), .pur (.fad 0 (.t 1)), none⟩,
   ⟨(some 31), .pur (.ld 1 false (.t 30)), none⟩,
   ⟨(some 32), .pur (.bin .sub (.t 31) (.k (.int .i64 2))), none⟩,
   ⟨(some 33), .pur (.iad 1 (.t 29) (.t 32)), none⟩,
   ⟨(some 34), .pur (.ld 1 false (.t 33)), none⟩,
   ⟨(some 35), .new (.bsl 1 1 #[.string ⟨#[]⟩] [(0, (.t 34))]), none⟩,
   ⟨(some 36), .call 144 [(.t 35)], none⟩,
   ⟨(some 3), .pur (.mv (.t 36)), none⟩],
   [[], [], [1], [2, 1], [0, 3, 2, 1], [4, 0, 3, 2, 1], [5, 4, 0, 3, 2, 1], [6, 0, 5, 4, 3, 2, 1], [7, 0, 1, 2, 3, 4, 5, 6]],
   [(1, none), (2, none), (3, none), (0, some [1, 2, 3]), (4, none), (5, none), (6, none), (7, some []), (8, some [])]⟩)
 (.seq (.seq (.reg [⟨(some 37), .pur (.fad 0 (.t 1)), none⟩,
   ⟨(some 38), .pur (.ld 1 false (.t 37)), none⟩])
 (.blk 0 (.seq (.seq (.reg [⟨(some 46), .pur (.bin .eql (.t 38) (.k (.int .i64 2))), none⟩,
    ⟨(some 45), .pur (.mv (.t 46)), none⟩])
  (.cond (.t 45)
   (.skip)
   (.reg [⟨(some 47), .pur (.bin .eql (.t 38) (.k (.int .i64 3))), none⟩,
     ⟨(some 45), .pur (.mv (.t 47)), none⟩])))
  (.cond (.t 45)
   (.seq (.drw 10 ⟨[⟨(some 48), .pur (.mv (.t 3)), none⟩,
     ⟨(some 49), .pur (.fad 3 (.t 1)), none⟩,
     ⟨(some 50), .pur (.ld 1 false (.t 49)), none⟩,
     ⟨(some 51), .call 160 [(.t 50), (.k (.int .i64 0))], none⟩,
     ⟨(some 52), .pur (.fad 4 (.t 1)), none⟩,
     ⟨(some 53), .pur (.ld 1 false (.t 52)), none⟩,
     ⟨(some 54), .call 147 [(.t 53)], none⟩,
     ⟨(some 55), .new (.bsl 1 3 #[.slice none 0 0] [(0, (.t 48)), (1, (.t 51)), (2, (.t 54))]), none⟩,
     ⟨(some 56), .call 143 [(.t 55)], none⟩,
     ⟨(some 3), .pur (.mv (.t 56)), none⟩],
     [[], [], [1], [2, 1], [], [4], [5, 3, 4, 2, 1], [0, 3, 6, 2, 1, 5, 4], [7, 6, 0, 3, 2, 1, 5, 4], [8, 0, 1, 2, 3, 4, 5, 6, 7]],
     [(0, none), (1, none), (2, none), (4, none), (5, none), (3, some [0, 4, 5]), (6, some [0]), (7, none), (8, some []), (9, some [])]⟩)
   (.seq (.seq (.reg [⟨(some 57), .pur (.fad 5 (.t 1)), none⟩,
     ⟨(some 58), .pur (.ld 1 false (.t 57)), none⟩,
     ⟨(some 59), .pur (.len (.t 58)), none⟩,
     ⟨(some 60), .pur (.bin .eql (.t 59) (.k (.int .i64 1))), none⟩,
     ⟨(some 62), .pur (.fad 5 (.t 1)), some (60, true)⟩,
     ⟨(some 63), .pur (.ld 1 false (.t 62)), some (60, true)⟩,
     ⟨(some 64), .pur (.iad 7 (.t 63) (.k (.int .i64 0))), some (60, true)⟩,
     ⟨(some 65), .pur (.fad 0 (.t 64)), some (60, true)⟩,
     ⟨(some 66), .pur (.ld 1 false (.t 65)), some (60, true)⟩,
     ⟨(some 67), .pur (.bin .eql (.t 66) (.k (.int .i64 2))), some (60, true)⟩,
     ⟨(some 68), .pur (.pick (.t 60) (.t 67) (.k (.bool false))), none⟩])
   (.cond (.t 68)
    (.seq (.drw 11 ⟨[⟨(some 69), .pur (.mv (.t 3)), none⟩,
      ⟨(some 70), .new (.bsl 1 1 #[.string ⟨#[]⟩] [(0, (.k (.string ⟨#[101, 108, 115, 101]⟩)))]), none⟩,
      ⟨(some 71), .call 144 [(.t 70)], none⟩,
      ⟨(some 72), .pur (.fad 5 (.t 1)), none⟩,
      ⟨(some 73), .pur (.ld 1 false (.t 72)), none⟩,
      ⟨(some 74), .pur (.iad 7 (.t 73) (.k (.int .i64 0))), none⟩,
      ⟨(some 75), .pur (.ld 7 true (.t 74)), none⟩,
      ⟨(some 76), .call 156 [(.t 75)], none⟩,
      ⟨(some 77), .new (.bsl 1 3 #[.slice none 0 0] [(0, (.t 69)), (1, (.t 71)), (2, (.t 76))]), none⟩,
      ⟨(some 78), .call 143 [(.t 77)], none⟩,
      ⟨(some 2), .pur (.mv (.t 78)), none⟩],
      [[], [], [1], [], [3], [4, 3], [5, 4, 3], [6, 2, 5, 4, 3, 1], [0, 2, 7, 1, 6, 5, 4, 3], [8, 7, 0, 2, 1, 6, 5, 4, 3], [9, 0, 1, 2, 3, 4, 5, 6, 7, 8]],
      [(0, none), (1, none), (3, none), (4, none), (5, none), (6, none), (2, some [0, 3, 4, 5, 6]), (7, some [0]), (8, none), (9, some []), (10, some [])]⟩)
    (.ret))
    (.skip)))
   (.seq (.seq (.reg [⟨(some 79), .pur (.fad 5 (.t 1)), none⟩,
     ⟨(some 80), .pur (.ld 1 false (.t 79)), none⟩,
     ⟨(some 81), .pur (.len (.t 80)), none⟩,
     ⟨(some 82), .pur (.bin .gtr (.t 81) (.k (.int .i64 0))), none⟩])
   (.cond (.t 82)
    (.seq (.drw 9 ⟨[⟨(some 83), .pur (.mv (.t 3)), none⟩,
      ⟨(some 84), .new (.bsl 1 1 #[.string ⟨#[]⟩] [(0, (.k (.string ⟨#[101, 108, 115, 101]⟩)))]), none⟩,
      ⟨(some 85), .call 144 [(.t 84)], none⟩,
      ⟨(some 86), .pur (.fad 5 (.t 1)), none⟩,
      ⟨(some 87), .pur (.ld 1 false (.t 86)), none⟩,
      ⟨(some 88), .call 147 [(.t 87)], none⟩,
      ⟨(some 89), .new (.bsl 1 3 #[.slice none 0 0] [(0, (.t 83)), (1, (.t 85)), (2, (.t 88))]), none⟩,
      ⟨(some 90), .call 143 [(.t 89)], none⟩,
      ⟨(some 2), .pur (.mv (.t 90)), none⟩],
      [[], [], [1], [], [3], [4, 2, 3, 1], [0, 2, 5, 1, 4, 3], [6, 5, 0, 2, 1, 4, 3], [7, 0, 1, 2, 3, 4, 5, 6]],
      [(0, none), (1, none), (3, none), (4, none), (2, some [0, 3, 4]), (5, some [0]), (6, none), (7, some []), (8, some [])]⟩)
    (.ret))
    (.skip)))
   (.seq (.reg [⟨(some 2), .pur (.mv (.t 3)), none⟩])
   (.ret)))))
   (.seq (.reg [⟨(some 93), .pur (.bin .eql (.t 38) (.k (.int .i64 4))), none⟩,
     ⟨(some 92), .pur (.mv (.t 93)), none⟩])
   (.cond (.t 92)
    (.reg [⟨(some 95), .pur (.fad 3 (.t 1)), none⟩,
      ⟨(some 96), .pur (.ld 1 false (.t 95)), none⟩,
      ⟨(some 97), .call 160 [(.t 96), (.k (.int .i64 0))], none⟩,
      ⟨(some 98), .new (.bsl 1 2 #[.slice none 0 0] [(0, (.t 3)), (1, (.t 97))]), none⟩,
      ⟨(some 99), .call 143 [(.t 98)], none⟩,
      ⟨(some 3), .pur (.mv (.t 99)), none⟩])
    (.seq (.reg [⟨(some 101), .pur (.bin .eql (.t 38) (.k (.int .i64 18))), none⟩,
      ⟨(some 100), .pur (.mv (.t 101)), none⟩])
    (.cond (.t 100)
     (.drw 12 ⟨[⟨(some 102), .pur (.mv (.t 3)), none⟩,
       ⟨(some 103), .pur (.fad 2 (.t 1)), none⟩,
       ⟨(some 104), .pur (.ld 1 false (.t 103)), none⟩,
       ⟨(some 105), .call 161 [(.t 104)], none⟩,
       ⟨(some 106), .new (.bsl 1 1 #[.string ⟨#[]⟩] [(0, (.k (.string ⟨#[44]⟩)))]), none⟩,
       ⟨(some 107), .call 144 [(.t 106)], none⟩,
       ⟨(some 108), .pur (.fad 3 (.t 1)), none⟩,
       ⟨(some 109), .pur (.ld 1 false (.t 108)), none⟩,
       ⟨(some 110), .call 160 [(.t 109), (.k (.int .i64 0))], none⟩,
       ⟨(some 111), .new (.bsl 1 4 #[.slice none 0 0] [(0, (.t 102)), (1, (.t 105)), (2, (.t 107)), (3, (.t 110))]), none⟩,
       ⟨(some 112), .call 143 [(.t 111)], none⟩,
       ⟨(some 3), .pur (.mv (.t 112)), none⟩],
       [[], [], [1], [2, 1], [], [4, 3, 2, 1], [], [6], [7, 5, 6, 4, 3, 2, 1], [0, 3, 5, 8, 2, 1, 4, 7, 6], [9, 8, 0, 3, 5, 2, 1, 4, 7, 6], [10, 0, 1, 2, 3, 4, 5, 6, 7, 8, 9]],
       [(0, none), (1, none), (2, none), (4, none), (6, none), (7, none), (3, some [0, 4, 6, 7]), (5, some [0, 6, 7]), (8, some [0]), (9, none), (10, some []), (11, some [])]⟩)
     (.seq (.seq (.reg [⟨(some 114), .pur (.bin .eql (.t 38) (.k (.int .i64 8))), none⟩,
       ⟨(some 113), .pur (.mv (.t 114)), none⟩])
     (.cond (.t 113)
      (.skip)
      (.reg [⟨(some 115), .pur (.bin .eql (.t 38) (.k (.int .i64 10))), none⟩,
        ⟨(some 113), .pur (.mv (.t 115)), none⟩])))
     (.cond (.t 113)
      (.drw 10 ⟨[⟨(some 116), .pur (.mv (.t 3)), none⟩,
        ⟨(some 117), .pur (.fad 1 (.t 1)), none⟩,
        ⟨(some 118), .pur (.ld 1 false (.t 117)), none⟩,
        ⟨(some 119), .call 145 [(.t 118)], none⟩,
        ⟨(some 120), .pur (.fad 3 (.t 1)), none⟩,
        ⟨(some 121), .pur (.ld 1 false (.t 120)), none⟩,
        ⟨(some 122), .call 160 [(.t 121), (.k (.int .i64 0))], none⟩,
        ⟨(some 123), .new (.bsl 1 3 #[.slice none 0 0] [(0, (.t 116)), (1, (.t 119)), (2, (.t 122))]), none⟩,
        ⟨(some 124), .call 143 [(.t 123)], none⟩,
        ⟨(some 3), .pur (.mv (.t 124)), none⟩],
        [[], [], [1], [2, 1], [], [4], [5, 3, 4, 2, 1], [0, 3, 6, 2, 1, 5, 4], [7, 6, 0, 3, 2, 1, 5, 4], [8, 0, 1, 2, 3, 4, 5, 6, 7]],
        [(0, none), (1, none), (2, none), (4, none), (5, none), (3, some [0, 4, 5]), (6, some [0]), (7, none), (8, some []), (9, some [])]⟩)
      (.seq (.reg [⟨(some 126), .pur (.bin .eql (.t 38) (.k (.int .i64 9))), none⟩,
        ⟨(some 125), .pur (.mv (.t 126)), none⟩])
      (.cond (.t 125)
       (.drw 15 ⟨[⟨(some 127), .pur (.mv (.t 3)), none⟩,
         ⟨(some 128), .pur (.fad 1 (.t 1)), none⟩,
         ⟨(some 129), .pur (.ld 1 false (.t 128)), none⟩,
         ⟨(some 130), .call 145 [(.t 129)], none⟩,
         ⟨(some 131), .pur (.fad 3 (.t 1)), none⟩,
         ⟨(some 132), .pur (.ld 1 false (.t 131)), none⟩,
         ⟨(some 133), .call 160 [(.t 132), (.k (.int .i64 0))], none⟩,
         ⟨(some 134), .new (.bsl 1 1 #[.string ⟨#[]⟩] [(0, (.k (.string ⟨#[44]⟩)))]), none⟩,
         ⟨(some 135), .call 144 [(.t 134)], none⟩,
         ⟨(some 136), .pur (.fad 3 (.t 1)), none⟩,
         ⟨(some 137), .pur (.ld 1 false (.t 136)), none⟩,
         ⟨(some 138), .call 160 [(.t 137), (.k (.int .i64 1))], none⟩,
         ⟨(some 139), .new (.bsl 1 5 #[.slice none 0 0] [(0, (.t 127)), (1, (.t 130)), (2, (.t 133)), (3, (.t 135)), (4, (.t 138))]), none⟩,
         ⟨(some 140), .call 143 [(.t 139)], none⟩,
         ⟨(some 3), .pur (.mv (.t 140)), none⟩],
         [[], [], [1], [2, 1], [], [4], [5, 3, 4, 2, 1], [], [7, 6, 5, 3, 4, 2, 1], [], [9], [10, 8, 9, 7, 6, 5, 3, 4, 2, 1], [0, 3, 6, 8, 11, 2, 1, 5, 4, 7, 10, 9], [12, 11, 0, 3, 6, 8, 2, 1, 5, 4, 7, 10, 9], [13, 0, 1, 2, 3, 4, 5, 6, 7, 8, 9, 10, 11, 12]],
         [(0, none), (1, none), (2, none), (4, none), (5, none), (7, none), (9, none), (10, none), (3, some [0, 4, 5, 7, 9, 10]), (6, some [0, 7, 9, 10]), (8, some [0, 9, 10]), (11, some [0]), (12, none), (13, some []), (14, some [])]⟩)
       (.seq (.reg [⟨(some 142), .pur (.bin .eql (.t 38) (.k (.int .i64 19))), none⟩,
         ⟨(some 141), .pur (.mv (.t 142)), none⟩])
       (.cond (.t 141)
        (.skip)
        (.reg [⟨(some 40), .pur (.fad 1 (.t 1)), none⟩,
          ⟨(some 41), .pur (.ld 1 false (.t 40)), none⟩,
          ⟨(some 42), .call 145 [(.t 41)], none⟩,
          ⟨(some 43), .new (.bsl 1 2 #[.slice none 0 0] [(0, (.t 3)), (1, (.t 42))]), none⟩,
          ⟨(some 44), .call 143 [(.t 43)], none⟩,
          ⟨(some 3), .pur (.mv (.t 44)), none⟩])))))))))))))))
 (.seq (.reg [⟨(some 144), .new (.bsl 1 1 #[.string ⟨#[]⟩] [(0, (.k (.string ⟨#[59]⟩)))]), none⟩,
   ⟨(some 145), .call 144 [(.t 144)], none⟩,
   ⟨(some 146), .new (.bsl 1 2 #[.slice none 0 0] [(0, (.t 3)), (1, (.t 145))]), none⟩,
   ⟨(some 147), .call 143 [(.t 146)], none⟩,
   ⟨(some 2), .pur (.mv (.t 147)), none⟩])
 (.ret)))))),
 [.tmp 2]⟩
theorem is156 : IsFnO Tryz.prog 156 ir156 := .of 11150372599265333853688568579012687910928384 (by kernel_rfl)
/-- pinball/pinballref31.sameExprs -/
noncomputable def ir157 : IFn := ⟨30, .seq (.reg [⟨(some 6), .pur (.mv (.k (.bool false))), none⟩])
 (.seq (.seq (.reg [⟨(some 9), .pur (.len (.t 0)), none⟩,
   ⟨(some 11), .pur (.len (.t 1)), none⟩,
   ⟨(some 12), .pur (.bin .neq (.t 9) (.t 11)), none⟩])
 (.cond (.t 12)
  (.seq (.reg [⟨(some 6), .pur (.mv (.k (.bool false))), none⟩])
  (.ret))
  (.skip)))
 (.seq (.seq (.reg [⟨(some 7), .pur (.mv (.k (.int .i64 0))), none⟩])
 (.blk 0 (.loop (.seq (.seq (.reg [⟨(some 15), .pur (.len (.t 0)), none⟩,
     ⟨(some 16), .pur (.bin .lss (.t 7) (.t 15)), none⟩])
   (.cond (.t 16)
    (.skip)
    (.exit 0)))
   (.seq (.blk 1 (.seq (.drw 11 ⟨[⟨(some 19), .pur (.mv (.t 0)), none⟩,
      ⟨(some 20), .pur (.mv (.t 7)), none⟩,
      ⟨(some 21), .pur (.iad 5 (.t 19) (.t 20)), none⟩,
      ⟨(some 22), .pur (.ld 5 true (.t 21)), none⟩,
      ⟨(some 23), .pur (.mv (.t 1)), none⟩,
      ⟨(some 24), .pur (.mv (.t 7)), none⟩,
      ⟨(some 25), .pur (.iad 5 (.t 23) (.t 24)), none⟩,
      ⟨(some 26), .pur (.ld 5 true (.t 25)), none⟩,
      ⟨(some 27), .pur (.mv (.t 2)), none⟩,
      ⟨(some 28), .call 162 [(.t 22), (.t 26), (.t 27)], none⟩,
      ⟨(some 29), .pur (.un .not (.t 28)), none⟩],
      [[], [], [0, 1], [2, 0, 1], [], [], [4, 5], [6, 4, 5], [], [3, 7, 8, 2, 0, 1, 6, 4, 5], [9, 3, 7, 8, 2, 0, 1, 6, 4, 5]],
      [(0, none), (1, none), (2, none), (3, none), (4, none), (5, none), (6, none), (7, none), (8, none), (9, some []), (10, none)]⟩)
    (.cond (.t 29)
     (.seq (.reg [⟨(some 6), .pur (.mv (.k (.bool false))), none⟩])
     (.ret))
     (.skip))))
   (.reg [⟨(some 18), .pur (.bin .add (.t 7) (.k (.int .i64 1))), none⟩,
     ⟨(some 7), .pur (.mv (.t 18)), none⟩]))))))
 (.seq (.reg [⟨(some 6), .pur (.mv (.k (.bool true))), none⟩])
 (.ret)))),
 [.tmp 6]⟩
theorem is157 : IsFnO Tryz.prog 157 ir157 := .of 156984 (by kernel_rfl)
/-- pinball/pinballref31.plainExprs -/
noncomputable def ir158 : IFn := ⟨26, .seq (.reg [⟨(some 2), .pur (.mv (.k (.slice none 0 0))), none⟩])
 (.seq (.reg [⟨(some 3), .pur (.mv (.k (.slice none 0 0))), none⟩])
 (.seq (.seq (.reg [⟨(some 4), .pur (.mv (.k (.int .i64 0))), none⟩])
 (.blk 0 (.loop (.seq (.seq (.reg [⟨(some 8), .pur (.len (.t 0)), none⟩,
     ⟨(some 9), .pur (.bin .lss (.t 4) (.t 8)), none⟩])
   (.cond (.t 9)
    (.skip)
    (.exit 0)))
   (.seq (.blk 1 (.seq (.reg [⟨(some 14), .pur (.iad 5 (.t 0) (.t 4)), none⟩,
      ⟨(some 15), .pur (.ld 5 true (.t 14)), none⟩,
      ⟨(some 5), .new (.box (.k (.agg #[.int .i64 0, .int .i64 0, .string ⟨#[]⟩, .slice none 0 0, .int .i64 0]))), none⟩,
      ⟨none, .eff (.st 5 (.t 5) (.t 15)), none⟩])
    (.seq (.reg [⟨(some 16), .pur (.fad 3 (.t 5)), none⟩,
      ⟨(some 17), .pur (.ld 1 false (.t 16)), none⟩,
      ⟨(some 18), .call 158 [(.t 17)], none⟩,
      ⟨(some 19), .pur (.fad 4 (.t 5)), none⟩,
      ⟨none, .eff (.st 1 (.t 19) (.k (.int .i64 0))), none⟩,
      ⟨(some 20), .pur (.fad 3 (.t 5)), none⟩,
      ⟨none, .eff (.st 1 (.t 20) (.t 18)), none⟩])
    (.reg [⟨(some 22), .pur (.ld 5 true (.t 5)), none⟩,
      ⟨(some 23), .new (.bsl 5 1 #[.int .i64 0, .int .i64 0, .string ⟨#[]⟩, .slice none 0 0, .int .i64 0] [(0, (.t 22))]), none⟩,
      ⟨(some 24), .eff (.app 5 64 (.t 3) (.t 23)), none⟩,
      ⟨(some 3), .pur (.mv (.t 24)), none⟩]))))
   (.reg [⟨(some 11), .pur (.bin .add (.t 4) (.k (.int .i64 1))), none⟩,
     ⟨(some 4), .pur (.mv (.t 11)), none⟩]))))))
 (.seq (.reg [⟨(some 2), .pur (.mv (.t 3)), none⟩])
 (.ret)))),
 [.tmp 2]⟩
theorem is158 : IsFnO Tryz.prog 158 ir158 := .of 35665090 (by kernel_rfl)
/-- (*pinball/pinballref31.reader).binary -/
noncomputable def ir159 : IFn := ⟨52, .seq (.reg [⟨(some 4), .new (.box (.k (.agg #[.int .i64 0, .int .i64 0, .string ⟨#[]⟩, .slice none 0 0, .int .i64 0]))), none⟩])
 (.seq (.seq (.reg [⟨(some 9), .pur (.bin .gtr (.t 1) (.k (.int .i64 5))), none⟩])
 (.cond (.t 9)
  (.seq (.reg [⟨(some 11), .call 163 [(.t 0)], none⟩,
    ⟨none, .eff (.st 5 (.t 4) (.t 11)), none⟩])
  (.ret))
  (.skip)))
 (.seq (.reg [⟨(some 14), .pur (.bin .add (.t 1) (.k (.int .i64 1))), none⟩,
   ⟨(some 15), .call 159 [(.t 0), (.t 14)], none⟩,
   ⟨(some 5), .new (.box (.k (.agg #[.int .i64 0, .int .i64 0, .string ⟨#[]⟩, .slice none 0 0, .int .i64 0]))), none⟩,
   ⟨none, .eff (.st 5 (.t 5) (.t 15)), none⟩])
 (.blk 0 (.loop (.blk 1 (.seq (.reg [⟨(some 17), .call 164 [], none⟩,
      ⟨(some 18), .call 85 [(.t 0), (.t 17)], none⟩,
      ⟨(some 6), .pur (.mv (.t 18)), none⟩])
    (.seq (.seq (.reg [⟨(some 20), .pur (.bin .lss (.t 6) (.k (.int .i64 0))), none⟩,
      ⟨(some 22), .pur (.mv (.t 6)), some (20, false)⟩,
      ⟨(some 23), .pur (.bin .add (.k (.int .i64 12)) (.t 22)), some (20, false)⟩,
      ⟨(some 24), .call 165 [(.t 23)], some (20, false)⟩,
      ⟨(some 25), .pur (.mv (.t 1)), some (20, false)⟩,
      ⟨(some 26), .pur (.bin .neq (.t 24) (.t 25)), some (20, false)⟩,
      ⟨(some 27), .pur (.pick (.t 20) (.k (.bool true)) (.t 26)), none⟩])
    (.cond (.t 27)
     (.seq (.reg [⟨(some 28), .pur (.ld 5 true (.t 5)), none⟩,
       ⟨none, .eff (.st 5 (.t 4) (.t 28)), none⟩])
     (.ret))
     (.skip)))
    (.seq (.reg [⟨(some 30), .call 120 [(.t 0)], none⟩,
      ⟨(some 31), .pur (.fld 3 1 false (.t 30)), none⟩,
      ⟨(some 7), .pur (.mv (.t 31)), none⟩])
    (.seq (.reg [⟨(some 33), .pur (.nck (.t 0)), none⟩,
      ⟨(some 34), .pur (.fad 2 (.t 33)), none⟩,
      ⟨(some 35), .pur (.ld 1 false (.t 34)), none⟩,
      ⟨(some 36), .pur (.bin .add (.t 35) (.k (.int .i64 1))), none⟩,
      ⟨(some 37), .pur (.nck (.t 0)), none⟩,
      ⟨(some 38), .pur (.fad 2 (.t 37)), none⟩,
      ⟨none, .eff (.st 1 (.t 38) (.t 36)), none⟩])
    (.seq (.drw 11 ⟨[⟨(some 39), .pur (.mv (.t 6)), none⟩,
      ⟨(some 40), .pur (.bin .add (.k (.int .i64 12)) (.t 39)), none⟩,
      ⟨(some 41), .pur (.ld 5 true (.t 5)), none⟩,
      ⟨(some 42), .pur (.mv (.t 0)), none⟩,
      ⟨(some 43), .pur (.mv (.t 1)), none⟩,
      ⟨(some 44), .pur (.bin .add (.t 43) (.k (.int .i64 1))), none⟩,
      ⟨(some 45), .call 159 [(.t 42), (.t 44)], none⟩,
      ⟨(some 46), .new (.bsl 5 2 #[.int .i64 0, .int .i64 0, .string ⟨#[]⟩, .slice none 0 0, .int .i64 0] [(0, (.t 41)), (1, (.t 45))]), none⟩,
      ⟨(some 47), .pur (.mv (.t 7)), none⟩,
      ⟨(some 48), .pur (.bld #[.int .i64 0, .int .i64 0, .string ⟨#[]⟩, .slice none 0 0, .int .i64 0] [(0, 1), (1, 1), (2, 1), (3, 1), (4, 1)] [(0, (.t 40)), (3, (.t 46)), (4, (.t 47))]), none⟩,
      ⟨none, .eff (.st 5 (.t 5) (.t 48)), none⟩],
      [[], [0], [], [], [], [4], [3, 5, 4], [2, 6, 3, 5, 4], [], [1, 7, 8, 0, 2, 6, 3, 5, 4], [9, 6, 0, 1, 2, 3, 4, 5, 7, 8]],
      [(0, none), (1, none), (2, none), (3, none), (4, none), (5, none), (8, none), (6, some [0, 1, 2, 8]), (7, none), (9, none), (10, some [])]⟩)
    (.seq (.reg [⟨(some 50), .pur (.bin .eql (.t 1) (.k (.int .i64 3))), none⟩])
    (.cond (.t 50)
     (.seq (.reg [⟨(some 51), .pur (.ld 5 true (.t 5)), none⟩,
       ⟨none, .eff (.st 5 (.t 4) (.t 51)), none⟩])
     (.ret))
     (.skip))))))))))))),
 [.cell 4 5 true]⟩
theorem is159 : IsFnO Tryz.prog 159 ir159 := .of 562954787960076 (by kernel_rfl)
/-- pinball/pinballref31.arg -/
noncomputable def ir160 : IFn := ⟨16, .seq (.reg [⟨(some 4), .pur (.mv (.k (.slice none 0 0))), none⟩])
 (.seq (.seq (.reg [⟨(some 7), .pur (.len (.t 0)), none⟩,
   ⟨(some 8), .pur (.bin .geq (.t 1) (.t 7)), none⟩])
 (.cond (.t 8)
  (.seq (.reg [⟨(some 9), .pur (.bld #[.int .i64 0, .string ⟨#[]⟩, .int .i64 0, .int .i64 0] [(0, 1), (1, 1), (2, 1), (3, 1)] []), none⟩,
    ⟨(some 10), .new (.bsl 4 1 #[.int .i64 0, .string ⟨#[]⟩, .int .i64 0, .int .i64 0] [(0, (.t 9))]), none⟩,
    ⟨(some 4), .pur (.mv (.t 10)), none⟩])
  (.ret))
  (.skip)))
 (.seq (.reg [⟨(some 13), .pur (.iad 5 (.t 0) (.t 1)), none⟩,
   ⟨(some 14), .pur (.ld 5 true (.t 13)), none⟩,
   ⟨(some 15), .call 166 [(.t 14)], none⟩,
   ⟨(some 4), .pur (.mv (.t 15)), none⟩])
 (.ret))),
 [.tmp 4]⟩
theorem is160 : IsFnO Tryz.prog 160 ir160 := .of 6252 (by kernel_rfl)
/-- pinball/pinballref31.text -/
noncomputable def ir161 : IFn := ⟨30, .seq (.reg [⟨(some 2), .pur (.mv (.k (.slice none 0 0))), none⟩])
 (.seq (.seq (.reg [⟨(some 3), .pur (.mv (.k (.int .i64 0))), none⟩])
 (.blk 0 (.loop (.seq (.seq (.reg [⟨(some 6), .pur (.lens (.t 0)), none⟩,
     ⟨(some 7), .pur (.bin .lss (.t 3) (.t 6)), none⟩])
   (.cond (.t 7)
    (.skip)
    (.exit 0)))
   (.seq (.blk 1 (.seq (.reg [⟨(some 12), .pur (.idx (.t 0) (.t 3)), none⟩,
      ⟨(some 13), .pur (.bin .lss (.t 12) (.k (.int .u8 32))), none⟩,
      ⟨(some 15), .pur (.mv (.t 0)), some (13, false)⟩,
      ⟨(some 16), .pur (.mv (.t 3)), some (13, false)⟩,
      ⟨(some 17), .pur (.idx (.t 15) (.t 16)), some (13, false)⟩,
      ⟨(some 18), .pur (.bin .gtr (.t 17) (.k (.int .u8 126))), some (13, false)⟩,
      ⟨(some 19), .pur (.pick (.t 13) (.k (.bool true)) (.t 18)), none⟩])
    (.cond (.t 19)
     (.seq (.reg [⟨(some 20), .pur (.bld #[.int .i64 0, .string ⟨#[]⟩, .int .i64 0, .int .i64 0] [(0, 1), (1, 1), (2, 1), (3, 1)] []), none⟩,
       ⟨(some 21), .new (.bsl 4 1 #[.int .i64 0, .string ⟨#[]⟩, .int .i64 0, .int .i64 0] [(0, (.t 20))]), none⟩,
       ⟨(some 2), .pur (.mv (.t 21)), none⟩])
     (.ret))
     (.skip))))
   (.reg [⟨(some 9), .pur (.bin .add (.t 3) (.k (.int .i64 1))), none⟩,
     ⟨(some 3), .pur (.mv (.t 9)), none⟩]))))))
 (.seq (.seq (.reg [⟨(some 23), .pur (.lens (.t 0)), none⟩,
   ⟨(some 24), .pur (.bin .gtr (.t 23) (.k (.int .i64 32))), none⟩])
 (.cond (.t 24)
  (.seq (.reg [⟨(some 25), .pur (.bld #[.int .i64 0, .string ⟨#[]⟩, .int .i64 0, .int .i64 0] [(0, 1), (1, 1), (2, 1), (3, 1)] []), none⟩,
    ⟨(some 26), .new (.bsl 4 1 #[.int .i64 0, .string ⟨#[]⟩, .int .i64 0, .int .i64 0] [(0, (.t 25))]), none⟩,
    ⟨(some 2), .pur (.mv (.t 26)), none⟩])
  (.ret))
  (.skip)))
 (.seq (.reg [⟨(some 28), .pur (.bld #[.int .i64 0, .string ⟨#[]⟩, .int .i64 0, .int .i64 0] [(0, 1), (1, 1), (2, 1), (3, 1)] [(0, (.k (.int .i64 4))), (1, (.t 0))]), none⟩,
   ⟨(some 29), .new (.bsl 4 1 #[.int .i64 0, .string ⟨#[]⟩, .int .i64 0, .int .i64 0] [(0, (.t 28))]), none⟩,
   ⟨(some 2), .pur (.mv (.t 29)), none⟩])
 (.ret)))),
 [.tmp 2]⟩
theorem is161 : IsFnO Tryz.prog 161 ir161 := .of 138431794 (by kernel_rfl)
/-- pinball/pinballref31.SameExpr -/
noncomputable def ir162 : IFn := ⟨44, .seq (.reg [⟨(some 3), .new (.box (.t 0)), none⟩,
   ⟨(some 4), .new (.box (.t 1)), none⟩,
   ⟨(some 6), .pur (.mv (.k (.bool false))), none⟩])
 (.seq (.reg [⟨(some 7), .pur (.fad 0 (.t 3)), none⟩,
   ⟨(some 8), .pur (.ld 1 false (.t 7)), none⟩,
   ⟨(some 9), .pur (.fad 0 (.t 4)), none⟩,
   ⟨(some 10), .pur (.ld 1 false (.t 9)), none⟩,
   ⟨(some 11), .pur (.bin .eql (.t 8) (.t 10)), none⟩,
   ⟨(some 13), .pur (.fad 1 (.t 3)), some (11, true)⟩,
   ⟨(some 14), .pur (.ld 1 false (.t 13)), some (11, true)⟩,
   ⟨(some 15), .pur (.fad 1 (.t 4)), some (11, true)⟩,
   ⟨(some 16), .pur (.ld 1 false (.t 15)), some (11, true)⟩,
   ⟨(some 17), .pur (.bin .eql (.t 14) (.t 16)), some (11, true)⟩,
   ⟨(some 18), .pur (.pick (.t 11) (.t 17) (.k (.bool false))), none⟩,
   ⟨(some 20), .pur (.fad 2 (.t 3)), some (18, true)⟩,
   ⟨(some 21), .pur (.ld 1 false (.t 20)), some (18, true)⟩,
   ⟨(some 22), .pur (.fad 2 (.t 4)), some (18, true)⟩,
   ⟨(some 23), .pur (.ld 1 false (.t 22)), some (18, true)⟩,
   ⟨(some 24), .pur (.bin .eql (.t 21) (.t 23)), some (18, true)⟩,
   ⟨(some 25), .pur (.pick (.t 18) (.t 24) (.k (.bool false))), none⟩,
   ⟨(some 27), .pur (.mv (.t 2)), some (25, true)⟩,
   ⟨(some 28), .pur (.mv (.t 27)), some (25, true)⟩,
   ⟨(some 29), .pur (.fad 4 (.t 3)), some (28, false)⟩,
   ⟨(some 30), .pur (.ld 1 false (.t 29)), some (28, false)⟩,
   ⟨(some 31), .pur (.fad 4 (.t 4)), some (28, false)⟩,
   ⟨(some 32), .pur (.ld 1 false (.t 31)), some (28, false)⟩,
   ⟨(some 33), .pur (.bin .eql (.t 30) (.t 32)), some (28, false)⟩,
   ⟨(some 34), .pur (.pick (.t 28) (.k (.bool true)) (.t 33)), some (25, true)⟩,
   ⟨(some 35), .pur (.pick (.t 25) (.t 34) (.k (.bool false))), none⟩,
   ⟨(some 37), .pur (.fad 3 (.t 3)), some (35, true)⟩,
   ⟨(some 38), .pur (.ld 1 false (.t 37)), some (35, true)⟩,
   ⟨(some 39), .pur (.fad 3 (.t 4)), some (35, true)⟩,
   ⟨(some 40), .pur (.ld 1 false (.t 39)), some (35, true)⟩,
   ⟨(some 41), .pur (.mv (.t 2)), some (35, true)⟩,
   ⟨(some 42), .call 157 [(.t 38), (.t 40), (.t 41)], some (35, true)⟩,
   ⟨(some 43), .pur (.pick (.t 35) (.t 42) (.k (.bool false))), none⟩,
   ⟨(some 6), .pur (.mv (.t 43)), none⟩])
 (.ret)),
 [.tmp 6]⟩
theorem is162 : IsFnO Tryz.prog 162 ir162 := .of 68787114016 (by kernel_rfl)
/-- (*pinball/pinballref31.reader).unary -/
noncomputable def ir163 : IFn := ⟨62, .seq (.reg [⟨(some 2), .new (.box (.k (.agg #[.int .i64 0, .int .i64 0, .string ⟨#[]⟩, .slice none 0 0, .int .i64 0]))), none⟩])
 (.seq (.reg [⟨(some 7), .call 120 [(.t 0)], none⟩,
   ⟨(some 3), .new (.box (.k (.agg #[.int .i64 0, .string ⟨#[]⟩, .int .i64 0, .int .i64 0]))), none⟩,
   ⟨none, .eff (.st 4 (.t 3) (.t 7)), none⟩])
 (.seq (.reg [⟨(some 9), .new (.bsl 1 3 #[.string ⟨#[]⟩] [(0, (.k (.string ⟨#[45]⟩))), (1, (.k (.string ⟨#[33]⟩))), (2, (.k (.string ⟨#[40]⟩)))]), none⟩,
   ⟨(some 10), .call 85 [(.t 0), (.t 9)], none⟩,
   ⟨(some 4), .pur (.mv (.t 10)), none⟩])
 (.seq (.seq (.reg [⟨(some 12), .pur (.bin .lss (.t 4) (.k (.int .i64 0))), none⟩])
 (.cond (.t 12)
  (.seq (.reg [⟨(some 14), .call 167 [(.t 0)], none⟩,
    ⟨none, .eff (.st 5 (.t 2) (.t 14)), none⟩])
  (.ret))
  (.skip)))
 (.seq (.reg [⟨(some 17), .pur (.nck (.t 0)), none⟩,
   ⟨(some 18), .pur (.fad 6 (.t 17)), none⟩,
   ⟨(some 19), .pur (.ld 1 false (.t 18)), none⟩,
   ⟨(some 20), .pur (.bin .add (.t 19) (.k (.int .i64 1))), none⟩,
   ⟨(some 21), .call 87 [(.t 0), (.t 20), (.k (.int .i64 16)), (.k (.int .i64 50))], none⟩])
 (.seq (.seq (.reg [⟨(some 23), .call 63 [(.t 0)], none⟩,
   ⟨(some 24), .pur (.un .not (.t 23)), none⟩])
 (.cond (.t 24)
  (.seq (.reg [⟨(some 25), .pur (.bld #[.int .i64 0, .int .i64 0, .string ⟨#[]⟩, .slice none 0 0, .int .i64 0] [(0, 1), (1, 1), (2, 1), (3, 1), (4, 1)] []), none⟩,
    ⟨none, .eff (.st 5 (.t 2) (.t 25)), none⟩])
  (.ret))
  (.skip)))
 (.seq (.reg [⟨(some 27), .pur (.nck (.t 0)), none⟩,
   ⟨(some 28), .pur (.fad 2 (.t 27)), none⟩,
   ⟨(some 29), .pur (.ld 1 false (.t 28)), none⟩,
   ⟨(some 30), .pur (.bin .add (.t 29) (.k (.int .i64 1))), none⟩,
   ⟨(some 31), .pur (.nck (.t 0)), none⟩,
   ⟨(some 32), .pur (.fad 2 (.t 31)), none⟩,
   ⟨none, .eff (.st 1 (.t 32) (.t 30)), none⟩])
 (.seq (.reg [⟨(some 34), .pur (.nck (.t 0)), none⟩,
   ⟨(some 35), .pur (.fad 6 (.t 34)), none⟩,
   ⟨(some 36), .pur (.ld 1 false (.t 35)), none⟩,
   ⟨(some 37), .pur (.bin .add (.t 36) (.k (.int .i64 1))), none⟩,
   ⟨(some 38), .pur (.nck (.t 0)), none⟩,
   ⟨(some 39), .pur (.fad 6 (.t 38)), none⟩,
   ⟨none, .eff (.st 1 (.t 39) (.t 37)), none⟩])
 (.seq (.reg [⟨(some 5), .new (.box (.k (.agg #[.int .i64 0, .int .i64 0, .string ⟨#[]⟩, .slice none 0 0, .int .i64 0]))), none⟩])
 (.seq (.seq (.reg [⟨(some 41), .pur (.bin .eql (.t 4) (.k (.int .i64 2))), none⟩])
 (.cond (.t 41)
  (.seq (.reg [⟨(some 43), .call 159 [(.t 0), (.k (.int .i64 1))], none⟩,
    ⟨none, .eff (.st 5 (.t 5) (.t 43)), none⟩])
  (.reg [⟨(some 45), .call 123 [(.t 0), (.k (.string ⟨#[41]⟩))], none⟩]))
  (.drw 9 ⟨[⟨(some 46), .pur (.mv (.t 4)), none⟩,
    ⟨(some 47), .pur (.bin .add (.k (.int .i64 10)) (.t 46)), none⟩,
    ⟨(some 48), .pur (.mv (.t 0)), none⟩,
    ⟨(some 49), .call 163 [(.t 48)], none⟩,
    ⟨(some 50), .new (.bsl 5 1 #[.int .i64 0, .int .i64 0, .string ⟨#[]⟩, .slice none 0 0, .int .i64 0] [(0, (.t 49))]), none⟩,
    ⟨(some 51), .pur (.fad 3 (.t 3)), none⟩,
    ⟨(some 52), .pur (.ld 1 false (.t 51)), none⟩,
    ⟨(some 53), .pur (.bld #[.int .i64 0, .int .i64 0, .string ⟨#[]⟩, .slice none 0 0, .int .i64 0] [(0, 1), (1, 1), (2, 1), (3, 1), (4, 1)] [(0, (.t 47)), (3, (.t 50)), (4, (.t 52))]), none⟩,
    ⟨none, .eff (.st 5 (.t 5) (.t 53)), none⟩],
    [[], [0], [], [2], [3, 2], [], [5], [1, 4, 6, 0, 3, 2, 5], [7, 3, 0, 1, 2, 4, 5, 6]],
    [(0, none), (1, none), (2, none), (5, none), (6, none), (3, some [0, 1, 5, 6]), (4, none), (7, none), (8, some [])]⟩)))
 (.seq (.reg [⟨(some 55), .pur (.nck (.t 0)), none⟩,
   ⟨(some 56), .pur (.fad 6 (.t 55)), none⟩,
   ⟨(some 57), .pur (.ld 1 false (.t 56)), none⟩,
   ⟨(some 58), .pur (.bin .sub (.t 57) (.k (.int .i64 1))), none⟩,
   ⟨(some 59), .pur (.nck (.t 0)), none⟩,
   ⟨(some 60), .pur (.fad 6 (.t 59)), none⟩,
   ⟨none, .eff (.st 1 (.t 60) (.t 58)), none⟩])
 (.seq (.reg [⟨(some 61), .pur (.ld 5 true (.t 5)), none⟩,
   ⟨none, .eff (.st 5 (.t 2) (.t 61)), none⟩])
 (.ret)))))))))))),
 [.cell 2 5 true]⟩
theorem is163 : IsFnO Tryz.prog 163 ir163 := .of 18037496915011906 (by kernel_rfl)
/-- pinball/pinballref31.signs -/
noncomputable def ir164 : IFn := ⟨2, .seq (.reg [⟨(some 0), .pur (.mv (.k (.slice none 0 0))), none⟩])
 (.seq (.reg [⟨(some 1), .new (.bsl 1 13 #[.string ⟨#[]⟩] [(0, (.k (.string ⟨#[42]⟩))), (1, (.k (.string ⟨#[47]⟩))), (2, (.k (.string ⟨#[37]⟩))), (3, (.k (.string ⟨#[43]⟩))), (4, (.k (.string ⟨#[45]⟩))), (5, (.k (.string ⟨#[60]⟩))), (6, (.k (.string ⟨#[60, 61]⟩))), (7, (.k (.string ⟨#[62]⟩))), (8, (.k (.string ⟨#[62, 61]⟩))), (9, (.k (.string ⟨#[61, 61]⟩))), (10, (.k (.string ⟨#[33, 61]⟩))), (11, (.k (.string ⟨#[38, 38]⟩))), (12, (.k (.string ⟨#[124, 124]⟩)))]), none⟩,
   ⟨(some 0), .pur (.mv (.t 1)), none⟩])
 (.ret)),
 [.tmp 0]⟩
theorem is164 : IsFnO Tryz.prog 164 ir164 := .of 0 (by kernel_rfl)
/-- pinball/pinballref31.level -/
noncomputable def ir165 : IFn := ⟨37, .seq (.reg [⟨(some 2), .pur (.mv (.k (.int .i64 0))), none⟩])
 (.seq (.blk 0 (.seq (.reg [⟨(some 5), .pur (.bin .eql (.t 0) (.k (.int .i64 24))), none⟩,
    ⟨(some 3), .pur (.mv (.t 5)), none⟩])
  (.cond (.t 3)
   (.seq (.reg [⟨(some 2), .pur (.mv (.k (.int .i64 1))), none⟩])
   (.ret))
   (.seq (.reg [⟨(some 8), .pur (.bin .eql (.t 0) (.k (.int .i64 23))), none⟩,
     ⟨(some 6), .pur (.mv (.t 8)), none⟩])
   (.cond (.t 6)
    (.seq (.reg [⟨(some 2), .pur (.mv (.k (.int .i64 2))), none⟩])
    (.ret))
    (.seq (.reg [⟨(some 11), .pur (.bin .geq (.t 0) (.k (.int .i64 17))), none⟩,
      ⟨(some 13), .pur (.mv (.t 0)), some (11, true)⟩,
      ⟨(some 14), .pur (.bin .leq (.t 13) (.k (.int .i64 22))), some (11, true)⟩,
      ⟨(some 15), .pur (.pick (.t 11) (.t 14) (.k (.bool false))), none⟩,
      ⟨(some 9), .pur (.mv (.t 15)), none⟩])
    (.cond (.t 9)
     (.seq (.reg [⟨(some 2), .pur (.mv (.k (.int .i64 3))), none⟩])
     (.ret))
     (.seq (.reg [⟨(some 18), .pur (.bin .eql (.t 0) (.k (.int .i64 15))), none⟩,
       ⟨(some 20), .pur (.mv (.t 0)), some (18, false)⟩,
       ⟨(some 21), .pur (.bin .eql (.t 20) (.k (.int .i64 16))), some (18, false)⟩,
       ⟨(some 22), .pur (.pick (.t 18) (.k (.bool true)) (.t 21)), none⟩,
       ⟨(some 16), .pur (.mv (.t 22)), none⟩])
     (.cond (.t 16)
      (.seq (.reg [⟨(some 2), .pur (.mv (.k (.int .i64 4))), none⟩])
      (.ret))
      (.seq (.reg [⟨(some 25), .pur (.bin .geq (.t 0) (.k (.int .i64 12))), none⟩,
        ⟨(some 27), .pur (.mv (.t 0)), some (25, true)⟩,
        ⟨(some 28), .pur (.bin .leq (.t 27) (.k (.int .i64 14))), some (25, true)⟩,
        ⟨(some 29), .pur (.pick (.t 25) (.t 28) (.k (.bool false))), none⟩,
        ⟨(some 23), .pur (.mv (.t 29)), none⟩])
      (.cond (.t 23)
       (.seq (.reg [⟨(some 2), .pur (.mv (.k (.int .i64 5))), none⟩])
       (.ret))
       (.seq (.reg [⟨(some 32), .pur (.bin .eql (.t 0) (.k (.int .i64 10))), none⟩,
         ⟨(some 34), .pur (.mv (.t 0)), some (32, false)⟩,
         ⟨(some 35), .pur (.bin .eql (.t 34) (.k (.int .i64 11))), some (32, false)⟩,
         ⟨(some 36), .pur (.pick (.t 32) (.k (.bool true)) (.t 35)), none⟩,
         ⟨(some 30), .pur (.mv (.t 36)), none⟩])
       (.cond (.t 30)
        (.seq (.reg [⟨(some 2), .pur (.mv (.k (.int .i64 6))), none⟩])
        (.ret))
        (.skip))))))))))))))
 (.seq (.reg [⟨(some 2), .pur (.mv (.k (.int .i64 7))), none⟩])
 (.ret))),
 [.tmp 2]⟩
theorem is165 : IsFnO Tryz.prog 165 ir165 := .of 10821964946 (by kernel_rfl)
/-- pinball/pinballref31.exprTokens -/
noncomputable def ir166 : IFn := ⟨140, .seq (.reg [⟨(some 1), .new (.box (.t 0)), none⟩,
   ⟨(some 2), .pur (.mv (.k (.slice none 0 0))), none⟩])
 (.seq (.reg [⟨(some 5), .pur (.fad 0 (.t 1)), none⟩,
   ⟨(some 6), .pur (.ld 1 false (.t 5)), none⟩,
   ⟨(some 7), .call 165 [(.t 6)], none⟩,
   ⟨(some 3), .pur (.mv (.t 7)), none⟩])
 (.seq (.blk 0 (.seq (.reg [⟨(some 9), .pur (.fad 0 (.t 1)), none⟩,
    ⟨(some 10), .pur (.ld 1 false (.t 9)), none⟩,
    ⟨(some 11), .pur (.bin .eql (.t 10) (.k (.int .i64 1))), none⟩,
    ⟨(some 8), .pur (.mv (.t 11)), none⟩])
  (.cond (.t 8)
   (.seq (.reg [⟨(some 12), .pur (.fad 1 (.t 1)), none⟩,
     ⟨(some 13), .pur (.ld 1 false (.t 12)), none⟩,
     ⟨(some 14), .call 146 [(.t 13)], none⟩,
     ⟨(some 2), .pur (.mv (.t 14)), none⟩])
   (.ret))
   (.seq (.reg [⟨(some 16), .pur (.fad 0 (.t 1)), none⟩,
     ⟨(some 17), .pur (.ld 1 false (.t 16)), none⟩,
     ⟨(some 18), .pur (.bin .eql (.t 17) (.k (.int .i64 2))), none⟩,
     ⟨(some 15), .pur (.mv (.t 18)), none⟩])
   (.cond (.t 15)
    (.seq (.reg [⟨(some 19), .pur (.fad 2 (.t 1)), none⟩,
      ⟨(some 20), .pur (.ld 1 false (.t 19)), none⟩,
      ⟨(some 21), .call 145 [(.t 20)], none⟩,
      ⟨(some 2), .pur (.mv (.t 21)), none⟩])
    (.ret))
    (.seq (.reg [⟨(some 23), .pur (.fad 0 (.t 1)), none⟩,
      ⟨(some 24), .pur (.ld 1 false (.t 23)), none⟩,
      ⟨(some 25), .pur (.bin .eql (.t 24) (.k (.int .i64 3))), none⟩,
      ⟨(some 22), .pur (.mv (.t 25)), none⟩])
    (.cond (.t 22)
     (.seq (.reg [⟨(some 26), .new (.bsl 1 1 #[.string ⟨#[]⟩] [(0, (.k (.string ⟨#[116, 114, 117, 101]⟩)))]), none⟩,
       ⟨(some 27), .call 144 [(.t 26)], none⟩,
       ⟨(some 2), .pur (.mv (.t 27)), none⟩])
     (.ret))
     (.seq (.reg [⟨(some 29), .pur (.fad 0 (.t 1)), none⟩,
       ⟨(some 30), .pur (.ld 1 false (.t 29)), none⟩,
       ⟨(some 31), .pur (.bin .eql (.t 30) (.k (.int .i64 4))), none⟩,
       ⟨(some 28), .pur (.mv (.t 31)), none⟩])
     (.cond (.t 28)
      (.seq (.reg [⟨(some 32), .new (.bsl 1 1 #[.string ⟨#[]⟩] [(0, (.k (.string ⟨#[102, 97, 108, 115, 101]⟩)))]), none⟩,
        ⟨(some 33), .call 144 [(.t 32)], none⟩,
        ⟨(some 2), .pur (.mv (.t 33)), none⟩])
      (.ret))
      (.seq (.reg [⟨(some 35), .pur (.fad 0 (.t 1)), none⟩,
        ⟨(some 36), .pur (.ld 1 false (.t 35)), none⟩,
        ⟨(some 37), .pur (.bin .eql (.t 36) (.k (.int .i64 8))), none⟩,
        ⟨(some 34), .pur (.mv (.t 37)), none⟩])
      (.cond (.t 34)
       (.seq (.reg [⟨(some 38), .new (.bsl 1 1 #[.string ⟨#[]⟩] [(0, (.k (.string ⟨#[112, 108, 97, 121, 101, 114]⟩)))]), none⟩,
         ⟨(some 39), .call 144 [(.t 38)], none⟩,
         ⟨(some 2), .pur (.mv (.t 39)), none⟩])
       (.ret))
       (.seq (.reg [⟨(some 41), .pur (.fad 0 (.t 1)), none⟩,
         ⟨(some 42), .pur (.ld 1 false (.t 41)), none⟩,
         ⟨(some 43), .pur (.bin .eql (.t 42) (.k (.int .i64 9))), none⟩,
         ⟨(some 40), .pur (.mv (.t 43)), none⟩])
       (.cond (.t 40)
        (.seq (.reg [⟨(some 44), .new (.bsl 1 1 #[.string ⟨#[]⟩] [(0, (.k (.string ⟨#[98, 97, 108, 108]⟩)))]), none⟩,
          ⟨(some 45), .call 144 [(.t 44)], none⟩,
          ⟨(some 2), .pur (.mv (.t 45)), none⟩])
        (.ret))
        (.seq (.reg [⟨(some 47), .pur (.fad 0 (.t 1)), none⟩,
          ⟨(some 48), .pur (.ld 1 false (.t 47)), none⟩,
          ⟨(some 49), .pur (.bin .eql (.t 48) (.k (.int .i64 5))), none⟩,
          ⟨(some 46), .pur (.mv (.t 49)), none⟩])
        (.cond (.t 46)
         (.seq (.drw 8 ⟨[⟨(some 50), .new (.bsl 1 1 #[.string ⟨#[]⟩] [(0, (.k (.string ⟨#[99, 108, 111, 115, 101, 100]⟩)))]), none⟩,
           ⟨(some 51), .call 144 [(.t 50)], none⟩,
           ⟨(some 52), .pur (.fad 2 (.t 1)), none⟩,
           ⟨(some 53), .pur (.ld 1 false (.t 52)), none⟩,
           ⟨(some 54), .call 145 [(.t 53)], none⟩,
           ⟨(some 55), .new (.bsl 1 2 #[.slice none 0 0] [(0, (.t 51)), (1, (.t 54))]), none⟩,
           ⟨(some 56), .call 143 [(.t 55)], none⟩,
           ⟨(some 2), .pur (.mv (.t 56)), none⟩],
           [[], [0], [], [2], [3, 1, 2, 0], [1, 4, 0, 3, 2], [5, 4, 1, 0, 3, 2], [6, 0, 1, 2, 3, 4, 5]],
           [(0, none), (2, none), (3, none), (1, some [2, 3]), (4, some []), (5, none), (6, some []), (7, some [])]⟩)
         (.ret))
         (.seq (.reg [⟨(some 58), .pur (.fad 0 (.t 1)), none⟩,
           ⟨(some 59), .pur (.ld 1 false (.t 58)), none⟩,
           ⟨(some 60), .pur (.bin .eql (.t 59) (.k (.int .i64 6))), none⟩,
           ⟨(some 57), .pur (.mv (.t 60)), none⟩])
         (.cond (.t 57)
          (.seq (.drw 8 ⟨[⟨(some 61), .new (.bsl 1 1 #[.string ⟨#[]⟩] [(0, (.k (.string ⟨#[97, 99, 116, 105, 118, 101]⟩)))]), none⟩,
            ⟨(some 62), .call 144 [(.t 61)], none⟩,
            ⟨(some 63), .pur (.fad 2 (.t 1)), none⟩,
            ⟨(some 64), .pur (.ld 1 false (.t 63)), none⟩,
            ⟨(some 65), .call 145 [(.t 64)], none⟩,
            ⟨(some 66), .new (.bsl 1 2 #[.slice none 0 0] [(0, (.t 62)), (1, (.t 65))]), none⟩,
            ⟨(some 67), .call 143 [(.t 66)], none⟩,
            ⟨(some 2), .pur (.mv (.t 67)), none⟩],
            [[], [0], [], [2], [3, 1, 2, 0], [1, 4, 0, 3, 2], [5, 4, 1, 0, 3, 2], [6, 0, 1, 2, 3, 4, 5]],
            [(0, none), (2, none), (3, none), (1, some [2, 3]), (4, some []), (5, none), (6, some []), (7, some [])]⟩)
          (.ret))
          (.seq (.reg [⟨(some 69), .pur (.fad 0 (.t 1)), none⟩,
            ⟨(some 70), .pur (.ld 1 false (.t 69)), none⟩,
            ⟨(some 71), .pur (.bin .eql (.t 70) (.k (.int .i64 7))), none⟩,
            ⟨(some 68), .pur (.mv (.t 71)), none⟩])
          (.cond (.t 68)
           (.seq (.drw 8 ⟨[⟨(some 72), .new (.bsl 1 1 #[.string ⟨#[]⟩] [(0, (.k (.string ⟨#[108, 101, 102, 116]⟩)))]), none⟩,
             ⟨(some 73), .call 144 [(.t 72)], none⟩,
             ⟨(some 74), .pur (.fad 2 (.t 1)), none⟩,
             ⟨(some 75), .pur (.ld 1 false (.t 74)), none⟩,
             ⟨(some 76), .call 145 [(.t 75)], none⟩,
             ⟨(some 77), .new (.bsl 1 2 #[.slice none 0 0] [(0, (.t 73)), (1, (.t 76))]), none⟩,
             ⟨(some 78), .call 143 [(.t 77)], none⟩,
             ⟨(some 2), .pur (.mv (.t 78)), none⟩],
             [[], [0], [], [2], [3, 1, 2, 0], [1, 4, 0, 3, 2], [5, 4, 1, 0, 3, 2], [6, 0, 1, 2, 3, 4, 5]],
             [(0, none), (2, none), (3, none), (1, some [2, 3]), (4, some []), (5, none), (6, some []), (7, some [])]⟩)
           (.ret))
           (.seq (.reg [⟨(some 81), .pur (.bin .eql (.t 3) (.k (.int .i64 6))), none⟩,
             ⟨(some 83), .pur (.fad 3 (.t 1)), some (81, true)⟩,
             ⟨(some 84), .pur (.ld 1 false (.t 83)), some (81, true)⟩,
             ⟨(some 85), .pur (.len (.t 84)), some (81, true)⟩,
             ⟨(some 86), .pur (.bin .eql (.t 85) (.k (.int .i64 1))), some (81, true)⟩,
             ⟨(some 87), .pur (.pick (.t 81) (.t 86) (.k (.bool false))), none⟩,
             ⟨(some 79), .pur (.mv (.t 87)), none⟩])
           (.cond (.t 79)
            (.seq (.drw 16 ⟨[⟨(some 88), .new (.bsl 1 2 #[.string ⟨#[]⟩] [(0, (.k (.string ⟨#[45]⟩))), (1, (.k (.string ⟨#[33]⟩)))]), none⟩,
              ⟨(some 89), .pur (.fad 0 (.t 1)), none⟩,
              ⟨(some 90), .pur (.ld 1 false (.t 89)), none⟩,
              ⟨(some 91), .pur (.bin .sub (.t 90) (.k (.int .i64 10))), none⟩,
              ⟨(some 92), .pur (.iad 1 (.t 88) (.t 91)), none⟩,
              ⟨(some 93), .pur (.ld 1 false (.t 92)), none⟩,
              ⟨(some 94), .new (.bsl 1 1 #[.string ⟨#[]⟩] [(0, (.t 93))]), none⟩,
              ⟨(some 95), .call 144 [(.t 94)], none⟩,
              ⟨(some 96), .pur (.fad 3 (.t 1)), none⟩,
              ⟨(some 97), .pur (.ld 1 false (.t 96)), none⟩,
              ⟨(some 98), .pur (.iad 5 (.t 97) (.k (.int .i64 0))), none⟩,
              ⟨(some 99), .pur (.ld 5 true (.t 98)), none⟩,
              ⟨(some 100), .call 168 [(.t 99), (.k (.int .i64 6))], none⟩,
              ⟨(some 101), .new (.bsl 1 2 #[.slice none 0 0] [(0, (.t 95)), (1, (.t 100))]), none⟩,
              ⟨(some 102), .call 143 [(.t 101)], none⟩,
              ⟨(some 2), .pur (.mv (.t 102)), none⟩],
              [[], [], [1], [2, 1], [0, 3, 2, 1], [4, 0, 3, 2, 1], [5, 4, 0, 3, 2, 1], [6, 5, 4, 0, 3, 2, 1], [], [8], [9, 8], [10, 9, 8], [11, 7, 10, 9, 8, 6, 5, 4, 0, 3, 2, 1], [7, 12, 6, 5, 4, 0, 3, 2, 1, 11, 10, 9, 8], [13, 12, 7, 6, 5, 4, 0, 3, 2, 1, 11, 10, 9, 8], [14, 0, 1, 2, 3, 4, 5, 6, 7, 8, 9, 10, 11, 12, 13]],
              [(0, none), (1, none), (2, none), (3, none), (4, none), (5, none), (6, none), (8, none), (9, none), (10, none), (11, none), (7, some [8, 9, 10, 11]), (12, some []), (13, none), (14, some []), (15, some [])]⟩)
            (.ret))
            (.seq (.reg [⟨(some 105), .pur (.bin .lss (.t 3) (.k (.int .i64 6))), none⟩,
              ⟨(some 107), .pur (.fad 3 (.t 1)), some (105, true)⟩,
              ⟨(some 108), .pur (.ld 1 false (.t 107)), some (105, true)⟩,
              ⟨(some 109), .pur (.len (.t 108)), some (105, true)⟩,
              ⟨(some 110), .pur (.bin .eql (.t 109) (.k (.int .i64 2))), some (105, true)⟩,
              ⟨(some 111), .pur (.pick (.t 105) (.t 110) (.k (.bool false))), none⟩,
              ⟨(some 103), .pur (.mv (.t 111)), none⟩])
            (.cond (.t 103)
             (.seq (.reg [⟨(some 4), .pur (.mv (.t 3)), none⟩])
             (.seq (.seq (.reg [⟨(some 114), .pur (.bin .eql (.t 3) (.k (.int .i64 3))), none⟩])
             (.cond (.t 114)
              (.reg [⟨(some 4), .pur (.mv (.k (.int .i64 4))), none⟩])
              (.skip)))
             (.seq (.drw 24 ⟨[⟨(some 115), .pur (.fad 3 (.t 1)), none⟩,
               ⟨(some 116), .pur (.ld 1 false (.t 115)), none⟩,
               ⟨(some 117), .pur (.iad 5 (.t 116) (.k (.int .i64 0))), none⟩,
               ⟨(some 118), .pur (.ld 5 true (.t 117)), none⟩,
               ⟨(some 119), .pur (.mv (.t 4)), none⟩,
               ⟨(some 120), .call 168 [(.t 118), (.t 119)], none⟩,
               ⟨(some 121), .call 164 [], none⟩,
               ⟨(some 122), .pur (.fad 0 (.t 1)), none⟩,
               ⟨(some 123), .pur (.ld 1 false (.t 122)), none⟩,
               ⟨(some 124), .pur (.bin .sub (.t 123) (.k (.int .i64 12))), none⟩,
               ⟨(some 125), .pur (.iad 1 (.t 121) (.t 124)), none⟩,
               ⟨(some 126), .pur (.ld 1 false (.t 125)), none⟩,
               ⟨(some 127), .new (.bsl 1 1 #[.string ⟨#[]⟩] [(0, (.t 126))]), none⟩,
               ⟨(some 128), .call 144 [(.t 127)], none⟩,
               ⟨(some 129), .pur (.fad 3 (.t 1)), none⟩,
               ⟨(some 130), .pur (.ld 1 false (.t 129)), none⟩,
               ⟨(some 131), .pur (.iad 5 (.t 130) (.k (.int .i64 1))), none⟩,
               ⟨(some 132), .pur (.ld 5 true (.t 131)), none⟩,
               ⟨(some 133), .pur (.mv (.t 3)), none⟩,
               ⟨(some 134), .pur (.bin .add (.t 133) (.k (.int .i64 1))), none⟩,
               ⟨(some 135), .call 168 [(.t 132), (.t 134)], none⟩,
               ⟨(some 136), .new (.bsl 1 3 #[.slice none 0 0] [(0, (.t 120)), (1, (.t 128)), (2, (.t 135))]), none⟩,
               ⟨(some 137), .call 143 [(.t 136)], none⟩,
               ⟨(some 2), .pur (.mv (.t 137)), none⟩],
               [[], [0], [1, 0], [2, 1, 0], [], [3, 4, 2, 1, 0], [5, 3, 4, 2, 1, 0], [], [7], [8, 7], [6, 9, 5, 3, 4, 2, 1, 0, 8, 7], [10, 6, 9, 5, 3, 4, 2, 1, 0, 8, 7], [11, 10, 6, 9, 5, 3, 4, 2, 1, 0, 8, 7], [12, 6, 11, 10, 9, 5, 3, 4, 2, 1, 0, 8, 7], [], [14], [15, 14], [16, 15, 14], [], [18], [17, 19, 13, 16, 15, 14, 18, 12, 6, 11, 10, 9, 5, 3, 4, 2, 1, 0, 8, 7], [5, 13, 20, 3, 4, 2, 1, 0, 12, 6, 11, 10, 9, 8, 7, 17, 19, 16, 15, 14, 18], [21, 20, 5, 13, 3, 4, 2, 1, 0, 12, 6, 11, 10, 9, 8, 7, 17, 19, 16, 15, 14, 18], [22, 0, 1, 2, 3, 4, 5, 6, 7, 8, 9, 10, 11, 12, 13, 14, 15, 16, 17, 18, 19, 20, 21]],
               [(0, none), (1, none), (2, none), (3, none), (4, none), (7, none), (8, none), (9, none), (14, none), (15, none), (16, none), (17, none), (18, none), (19, none), (5, some [7, 8, 9, 14, 15, 16, 17, 18, 19]), (6, some [7, 8, 9, 14, 15, 16, 17, 18, 19]), (10, none), (11, none), (12, none), (13, some [14, 15, 16, 17, 18, 19]), (20, some []), (21, none), (22, some []), (23, some [])]⟩)
             (.ret))))
             (.skip))))))))))))))))))))))))
 (.seq (.reg [⟨(some 138), .pur (.bld #[.int .i64 0, .string ⟨#[]⟩, .int .i64 0, .int .i64 0] [(0, 1), (1, 1), (2, 1), (3, 1)] []), none⟩,
   ⟨(some 139), .new (.bsl 4 1 #[.int .i64 0, .string ⟨#[]⟩, .int .i64 0, .int .i64 0] [(0, (.t 138))]), none⟩,
   ⟨(some 2), .pur (.mv (.t 139)), none⟩])
 (.ret)))),
 [.tmp 2]⟩
theorem is166 : IsFnO Tryz.prog 166 ir166 := .of 15678302629667370335784371117621248 (by kernel_rfl)
/-- (*pinball/pinballref31.reader).primary -/
noncomputable def ir167 : IFn := ⟨78, .seq (.reg [⟨(some 2), .new (.box (.k (.agg #[.int .i64 0, .int .i64 0, .string ⟨#[]⟩, .slice none 0 0, .int .i64 0]))), none⟩])
 (.seq (.reg [⟨(some 7), .call 120 [(.t 0)], none⟩,
   ⟨(some 3), .new (.box (.k (.agg #[.int .i64 0, .string ⟨#[]⟩, .int .i64 0, .int .i64 0]))), none⟩,
   ⟨none, .eff (.st 4 (.t 3) (.t 7)), none⟩])
 (.seq (.reg [⟨(some 9), .new (.bsl 1 7 #[.string ⟨#[]⟩] [(0, (.k (.string ⟨#[116, 114, 117, 101]⟩))), (1, (.k (.string ⟨#[102, 97, 108, 115, 101]⟩))), (2, (.k (.string ⟨#[112, 108, 97, 121, 101, 114]⟩))), (3, (.k (.string ⟨#[98, 97, 108, 108]⟩))), (4, (.k (.string ⟨#[99, 108, 111, 115, 101, 100]⟩))), (5, (.k (.string ⟨#[97, 99, 116, 105, 118, 101]⟩))), (6, (.k (.string ⟨#[108, 101, 102, 116]⟩)))]), none⟩,
   ⟨(some 10), .call 85 [(.t 0), (.t 9)], none⟩,
   ⟨(some 4), .pur (.mv (.t 10)), none⟩])
 (.seq (.seq (.reg [⟨(some 12), .pur (.bin .lss (.t 4) (.k (.int .i64 0))), none⟩,
   ⟨(some 14), .pur (.mv (.t 0)), some (12, true)⟩,
   ⟨(some 15), .call 139 [(.t 14), (.k (.int .i64 3))], some (12, true)⟩,
   ⟨(some 16), .pur (.un .not (.t 15)), some (12, true)⟩,
   ⟨(some 17), .pur (.pick (.t 12) (.t 16) (.k (.bool false))), none⟩,
   ⟨(some 19), .pur (.mv (.t 0)), some (17, true)⟩,
   ⟨(some 20), .call 139 [(.t 19), (.k (.int .i64 1))], some (17, true)⟩,
   ⟨(some 21), .pur (.un .not (.t 20)), some (17, true)⟩,
   ⟨(some 22), .pur (.pick (.t 17) (.t 21) (.k (.bool false))), none⟩])
 (.cond (.t 22)
  (.seq (.reg [⟨(some 24), .call 90 [(.t 0)], none⟩])
  (.seq (.reg [⟨(some 25), .pur (.bld #[.int .i64 0, .int .i64 0, .string ⟨#[]⟩, .slice none 0 0, .int .i64 0] [(0, 1), (1, 1), (2, 1), (3, 1), (4, 1)] []), none⟩,
    ⟨none, .eff (.st 5 (.t 2) (.t 25)), none⟩])
  (.ret)))
  (.skip)))
 (.seq (.reg [⟨(some 27), .pur (.nck (.t 0)), none⟩,
   ⟨(some 28), .pur (.fad 5 (.t 27)), none⟩,
   ⟨(some 29), .pur (.ld 1 false (.t 28)), none⟩,
   ⟨(some 30), .pur (.bin .add (.t 29) (.k (.int .i64 1))), none⟩,
   ⟨(some 31), .pur (.nck (.t 0)), none⟩,
   ⟨(some 32), .pur (.fad 5 (.t 31)), none⟩,
   ⟨none, .eff (.st 1 (.t 32) (.t 30)), none⟩])
 (.seq (.reg [⟨(some 35), .pur (.nck (.t 0)), none⟩,
   ⟨(some 36), .pur (.fad 5 (.t 35)), none⟩,
   ⟨(some 37), .pur (.ld 1 false (.t 36)), none⟩,
   ⟨(some 38), .call 87 [(.t 0), (.t 37), (.k (.int .i64 32)), (.k (.int .i64 9))], none⟩])
 (.seq (.seq (.reg [⟨(some 40), .call 63 [(.t 0)], none⟩,
   ⟨(some 41), .pur (.un .not (.t 40)), none⟩])
 (.cond (.t 41)
  (.seq (.reg [⟨(some 42), .pur (.bld #[.int .i64 0, .int .i64 0, .string ⟨#[]⟩, .slice none 0 0, .int .i64 0] [(0, 1), (1, 1), (2, 1), (3, 1), (4, 1)] []), none⟩,
    ⟨none, .eff (.st 5 (.t 2) (.t 42)), none⟩])
  (.ret))
  (.skip)))
 (.seq (.reg [⟨(some 44), .pur (.nck (.t 0)), none⟩,
   ⟨(some 45), .pur (.fad 2 (.t 44)), none⟩,
   ⟨(some 46), .pur (.ld 1 false (.t 45)), none⟩,
   ⟨(some 47), .pur (.bin .add (.t 46) (.k (.int .i64 1))), none⟩,
   ⟨(some 48), .pur (.nck (.t 0)), none⟩,
   ⟨(some 49), .pur (.fad 2 (.t 48)), none⟩,
   ⟨none, .eff (.st 1 (.t 49) (.t 47)), none⟩])
 (.seq (.seq (.reg [⟨(some 51), .pur (.bin .geq (.t 4) (.k (.int .i64 0))), none⟩])
 (.cond (.t 51)
  (.seq (.drw 9 ⟨[⟨(some 52), .new (.bsl 1 7 #[.int .i64 0] [(0, (.k (.int .i64 3))), (1, (.k (.int .i64 4))), (2, (.k (.int .i64 8))), (3, (.k (.int .i64 9))), (4, (.k (.int .i64 5))), (5, (.k (.int .i64 6))), (6, (.k (.int .i64 7)))]), none⟩,
    ⟨(some 53), .pur (.mv (.t 4)), none⟩,
    ⟨(some 54), .pur (.iad 1 (.t 52) (.t 53)), none⟩,
    ⟨(some 55), .pur (.ld 1 false (.t 54)), none⟩,
    ⟨(some 56), .pur (.fad 3 (.t 3)), none⟩,
    ⟨(some 57), .pur (.ld 1 false (.t 56)), none⟩,
    ⟨(some 58), .pur (.bld #[.int .i64 0, .int .i64 0, .string ⟨#[]⟩, .slice none 0 0, .int .i64 0] [(0, 1), (1, 1), (2, 1), (3, 1), (4, 1)] [(0, (.t 55)), (4, (.t 57))]), none⟩,
    ⟨(some 5), .new (.box (.k (.agg #[.int .i64 0, .int .i64 0, .string ⟨#[]⟩, .slice none 0 0, .int .i64 0]))), none⟩,
    ⟨none, .eff (.st 5 (.t 5) (.t 58)), none⟩],
    [[], [], [0, 1], [2, 0, 1], [], [4], [3, 5, 2, 0, 1, 4], [], [7, 6, 0, 1, 2, 3, 4, 5]],
    [(0, none), (1, none), (2, none), (3, none), (4, none), (5, none), (6, none), (7, none), (8, some [])]⟩)
  (.seq (.seq (.reg [⟨(some 60), .pur (.bin .geq (.t 4) (.k (.int .i64 4))), none⟩])
  (.cond (.t 60)
   (.reg [⟨(some 62), .call 121 [(.t 0)], none⟩,
     ⟨(some 63), .pur (.fad 2 (.t 5)), none⟩,
     ⟨none, .eff (.st 1 (.t 63) (.t 62)), none⟩])
   (.skip)))
  (.seq (.reg [⟨(some 64), .pur (.ld 5 true (.t 5)), none⟩,
    ⟨none, .eff (.st 5 (.t 2) (.t 64)), none⟩])
  (.ret))))
  (.skip)))
 (.seq (.seq (.reg [⟨(some 65), .pur (.fad 0 (.t 3)), none⟩,
   ⟨(some 66), .pur (.ld 1 false (.t 65)), none⟩,
   ⟨(some 67), .pur (.bin .eql (.t 66) (.k (.int .i64 3))), none⟩])
 (.cond (.t 67)
  (.seq (.reg [⟨(some 68), .pur (.fad 2 (.t 3)), none⟩,
    ⟨(some 69), .pur (.ld 1 false (.t 68)), none⟩,
    ⟨(some 70), .pur (.fad 3 (.t 3)), none⟩,
    ⟨(some 71), .pur (.ld 1 false (.t 70)), none⟩,
    ⟨(some 72), .pur (.bld #[.int .i64 0, .int .i64 0, .string ⟨#[]⟩, .slice none 0 0, .int .i64 0] [(0, 1), (1, 1), (2, 1), (3, 1), (4, 1)] [(0, (.k (.int .i64 1))), (1, (.t 69)), (4, (.t 71))]), none⟩,
    ⟨none, .eff (.st 5 (.t 2) (.t 72)), none⟩])
  (.ret))
  (.skip)))
 (.seq (.reg [⟨(some 73), .pur (.fad 1 (.t 3)), none⟩,
   ⟨(some 74), .pur (.ld 1 false (.t 73)), none⟩,
   ⟨(some 75), .pur (.fad 3 (.t 3)), none⟩,
   ⟨(some 76), .pur (.ld 1 false (.t 75)), none⟩,
   ⟨(some 77), .pur (.bld #[.int .i64 0, .int .i64 0, .string ⟨#[]⟩, .slice none 0 0, .int .i64 0] [(0, 1), (1, 1), (2, 1), (3, 1), (4, 1)] [(0, (.k (.int .i64 2))), (2, (.t 74)), (4, (.t 76))]), none⟩,
   ⟨none, .eff (.st 5 (.t 2) (.t 77)), none⟩])
 (.ret))))))))))),
 [.cell 2 5 true]⟩
theorem is167 : IsFnO Tryz.prog 167 ir167 := .of 2883439033118370114 (by kernel_rfl)
/-- pinball/pinballref31.operand -/
noncomputable def ir168 : IFn := ⟨20, .seq (.reg [⟨(some 2), .new (.box (.t 0)), none⟩,
   ⟨(some 4), .pur (.mv (.k (.slice none 0 0))), none⟩])
 (.seq (.seq (.reg [⟨(some 5), .pur (.fad 0 (.t 2)), none⟩,
   ⟨(some 6), .pur (.ld 1 false (.t 5)), none⟩,
   ⟨(some 7), .call 165 [(.t 6)], none⟩,
   ⟨(some 9), .pur (.bin .lss (.t 7) (.t 1)), none⟩])
 (.cond (.t 9)
  (.seq (.drw 9 ⟨[⟨(some 10), .new (.bsl 1 1 #[.string ⟨#[]⟩] [(0, (.k (.string ⟨#[40]⟩)))]), none⟩,
    ⟨(some 11), .call 144 [(.t 10)], none⟩,
    ⟨(some 12), .pur (.ld 5 true (.t 2)), none⟩,
    ⟨(some 13), .call 166 [(.t 12)], none⟩,
    ⟨(some 14), .new (.bsl 1 1 #[.string ⟨#[]⟩] [(0, (.k (.string ⟨#[41]⟩)))]), none⟩,
    ⟨(some 15), .call 144 [(.t 14)], none⟩,
    ⟨(some 16), .new (.bsl 1 3 #[.slice none 0 0] [(0, (.t 11)), (1, (.t 13)), (2, (.t 15))]), none⟩,
    ⟨(some 17), .call 143 [(.t 16)], none⟩,
    ⟨(some 4), .pur (.mv (.t 17)), none⟩],
    [[], [0], [], [2, 1, 0], [], [4, 3, 2, 1, 0], [1, 3, 5, 0, 2, 4], [6, 5, 1, 3, 0, 2, 4], [7, 0, 1, 2, 3, 4, 5, 6]],
    [(0, none), (2, none), (4, none), (1, some [2, 4]), (3, some [4]), (5, some []), (6, none), (7, some []), (8, some [])]⟩)
  (.ret))
  (.skip)))
 (.seq (.reg [⟨(some 18), .pur (.ld 5 true (.t 2)), none⟩,
   ⟨(some 19), .call 166 [(.t 18)], none⟩,
   ⟨(some 4), .pur (.mv (.t 19)), none⟩])
 (.ret))),
 [.tmp 4]⟩
theorem is168 : IsFnO Tryz.prog 168 ir168 := .of 264 (by kernel_rfl)
end Go.Proofs.YtniclakgfgmhhaaGreat
