/-
  FUNCTIONS IN THE ENGINE's FORM, part 1; each is what the translation gives.
-/
import Derived.Test.YtniclakgfgmhhaaGreatEngS
import Derived.Test.YtniclakgfgmhhaaGreatProg
import Derived.KernelRfl
set_option maxRecDepth 100000
namespace Go.Proofs.YtniclakgfgmhhaaGreat
open Go.Eng
/-- pinball/pinballref32.Check -/
noncomputable def ir64 : IFn := ⟨113, .seq (.reg [⟨(some 1), .new (.box (.t 0)), none⟩,
   ⟨(some 2), .pur (.mv (.k (.int .i64 0))), none⟩,
   ⟨(some 3), .pur (.mv (.k (.int .i64 0))), none⟩])
 (.seq (.seq (.reg [⟨(some 13), .pur (.ld 2 true (.t 1)), none⟩,
   ⟨(some 14), .call 92 [(.t 13)], none⟩,
   ⟨(some 15), .pur (.un .not (.t 14)), none⟩])
 (.cond (.t 15)
  (.seq (.reg [⟨(some 2), .pur (.mv (.k (.int .i64 0))), none⟩,
    ⟨(some 3), .pur (.mv (.k (.int .i64 1))), none⟩])
  (.ret))
  (.skip)))
 (.seq (.seq (.reg [⟨(some 17), .pur (.ld 2 true (.t 1)), none⟩,
   ⟨(some 18), .call 93 [(.t 17)], none⟩,
   ⟨(some 19), .pur (.ext (.t 18) 0), none⟩,
   ⟨(some 20), .pur (.ext (.t 18) 1), none⟩,
   ⟨(some 4), .pur (.mv (.t 19)), none⟩,
   ⟨(some 5), .pur (.mv (.t 20)), none⟩])
 (.seq (.reg [⟨(some 22), .pur (.bin .neq (.t 5) (.k (.int .i64 0))), none⟩])
 (.cond (.t 22)
  (.seq (.reg [⟨(some 2), .pur (.mv (.t 4)), none⟩,
    ⟨(some 3), .pur (.mv (.t 5)), none⟩])
  (.ret))
  (.skip))))
 (.seq (.seq (.reg [⟨(some 6), .pur (.mv (.k (.int .i64 0))), none⟩])
 (.blk 0 (.loop (.seq (.seq (.reg [⟨(some 26), .pur (.fad 1 (.t 1)), none⟩,
     ⟨(some 27), .pur (.ld 1 false (.t 26)), none⟩,
     ⟨(some 28), .pur (.len (.t 27)), none⟩,
     ⟨(some 29), .pur (.bin .lss (.t 6) (.t 28)), none⟩])
   (.cond (.t 29)
    (.skip)
    (.exit 0)))
   (.seq (.blk 1 (.seq (.reg [⟨(some 32), .pur (.fad 1 (.t 1)), none⟩,
      ⟨(some 33), .pur (.ld 1 false (.t 32)), none⟩,
      ⟨(some 35), .pur (.iad 4 (.t 33) (.t 6)), none⟩,
      ⟨(some 36), .pur (.fad 2 (.t 35)), none⟩,
      ⟨(some 37), .pur (.ld 1 false (.t 36)), none⟩,
      ⟨(some 7), .pur (.mv (.t 37)), none⟩])
    (.seq (.reg [⟨(some 8), .pur (.mv (.k (.int .i64 0))), none⟩])
    (.blk 2 (.loop (.seq (.seq (.reg [⟨(some 40), .pur (.len (.t 7)), none⟩,
        ⟨(some 41), .pur (.bin .lss (.t 8) (.t 40)), none⟩])
      (.cond (.t 41)
       (.skip)
       (.exit 2)))
      (.seq (.blk 3 (.seq (.seq (.drw 14 ⟨[⟨(some 44), .pur (.ld 2 true (.t 1)), none⟩,
         ⟨(some 45), .pur (.mv (.t 7)), none⟩,
         ⟨(some 46), .pur (.mv (.t 8)), none⟩,
         ⟨(some 47), .pur (.iad 4 (.t 45) (.t 46)), none⟩,
         ⟨(some 48), .pur (.fad 1 (.t 47)), none⟩,
         ⟨(some 49), .pur (.ld 1 false (.t 48)), none⟩,
         ⟨(some 50), .pur (.mv (.t 7)), none⟩,
         ⟨(some 51), .pur (.mv (.t 8)), none⟩,
         ⟨(some 52), .pur (.iad 4 (.t 50) (.t 51)), none⟩,
         ⟨(some 53), .pur (.fad 0 (.t 52)), none⟩,
         ⟨(some 54), .pur (.ld 1 false (.t 53)), none⟩,
         ⟨(some 55), .call 95 [(.t 54)], none⟩,
         ⟨(some 56), .call 94 [(.t 44), (.t 49), (.t 55)], none⟩,
         ⟨(some 9), .pur (.mv (.t 56)), none⟩],
         [[], [], [], [1, 2], [3, 1, 2], [4, 3, 1, 2], [], [], [6, 7], [8, 6, 7], [9, 8, 6, 7], [10, 9, 8, 6, 7], [0, 5, 11, 4, 3, 1, 2, 10, 9, 8, 6, 7], [12, 0, 1, 2, 3, 4, 5, 6, 7, 8, 9, 10, 11]],
         [(0, none), (1, none), (2, none), (3, none), (4, none), (5, none), (6, none), (7, none), (8, none), (9, none), (10, none), (11, some [0, 1, 2, 3, 4, 5]), (12, some []), (13, some [])]⟩)
       (.seq (.reg [⟨(some 58), .pur (.bin .neq (.t 9) (.k (.int .i64 0))), none⟩])
       (.cond (.t 58)
        (.seq (.reg [⟨(some 61), .pur (.iad 4 (.t 7) (.t 8)), none⟩,
          ⟨(some 62), .pur (.fad 3 (.t 61)), none⟩,
          ⟨(some 63), .pur (.ld 1 false (.t 62)), none⟩,
          ⟨(some 2), .pur (.mv (.t 63)), none⟩,
          ⟨(some 3), .pur (.mv (.t 9)), none⟩])
        (.ret))
        (.skip))))
       (.seq (.seq (.reg [⟨(some 10), .pur (.mv (.k (.int .i64 0))), none⟩])
       (.blk 4 (.loop (.seq (.seq (.reg [⟨(some 67), .pur (.bin .lss (.t 10) (.t 8)), none⟩])
         (.cond (.t 67)
          (.skip)
          (.exit 4)))
         (.seq (.blk 5 (.seq (.drw 24 ⟨[⟨(some 70), .pur (.mv (.t 7)), none⟩,
            ⟨(some 71), .pur (.mv (.t 10)), none⟩,
            ⟨(some 72), .pur (.iad 4 (.t 70) (.t 71)), none⟩,
            ⟨(some 73), .pur (.fad 0 (.t 72)), none⟩,
            ⟨(some 74), .pur (.ld 1 false (.t 73)), none⟩,
            ⟨(some 75), .pur (.mv (.t 7)), none⟩,
            ⟨(some 76), .pur (.mv (.t 8)), none⟩,
            ⟨(some 77), .pur (.iad 4 (.t 75) (.t 76)), none⟩,
            ⟨(some 78), .pur (.fad 0 (.t 77)), none⟩,
            ⟨(some 79), .pur (.ld 1 false (.t 78)), none⟩,
            ⟨(some 80), .pur (.bin .eql (.t 74) (.t 79)), none⟩,
            ⟨(some 81), .pur (.mv (.t 80)), none⟩,
            ⟨(some 82), .pur (.mv (.t 7)), some (81, true)⟩,
            ⟨(some 83), .pur (.mv (.t 10)), some (81, true)⟩,
            ⟨(some 84), .pur (.iad 4 (.t 82) (.t 83)), some (81, true)⟩,
            ⟨(some 85), .pur (.fad 1 (.t 84)), some (81, true)⟩,
            ⟨(some 86), .pur (.ld 1 false (.t 85)), some (81, true)⟩,
            ⟨(some 87), .pur (.mv (.t 7)), some (81, true)⟩,
            ⟨(some 88), .pur (.mv (.t 8)), some (81, true)⟩,
            ⟨(some 89), .pur (.iad 4 (.t 87) (.t 88)), some (81, true)⟩,
            ⟨(some 90), .pur (.fad 1 (.t 89)), some (81, true)⟩,
            ⟨(some 91), .pur (.ld 1 false (.t 90)), some (81, true)⟩,
            ⟨(some 92), .pur (.bin .eql (.t 86) (.t 91)), some (81, true)⟩,
            ⟨(some 93), .pur (.pick (.t 81) (.t 92) (.k (.bool false))), none⟩],
            [[], [], [0, 1], [2, 0, 1], [3, 2, 0, 1], [], [], [5, 6], [7, 5, 6], [8, 7, 5, 6], [4, 9, 3, 2, 0, 1, 8, 7, 5, 6], [10, 4, 9, 3, 2, 0, 1, 8, 7, 5, 6], [11, 10, 4, 9, 3, 2, 0, 1, 8, 7, 5, 6], [11, 10, 4, 9, 3, 2, 0, 1, 8, 7, 5, 6], [12, 13, 11, 10, 4, 9, 3, 2, 0, 1, 8, 7, 5, 6], [14, 11, 12, 13, 10, 4, 9, 3, 2, 0, 1, 8, 7, 5, 6], [15, 11, 14, 12, 13, 10, 4, 9, 3, 2, 0, 1, 8, 7, 5, 6], [11, 10, 4, 9, 3, 2, 0, 1, 8, 7, 5, 6], [11, 10, 4, 9, 3, 2, 0, 1, 8, 7, 5, 6], [17, 18, 11, 10, 4, 9, 3, 2, 0, 1, 8, 7, 5, 6], [19, 11, 17, 18, 10, 4, 9, 3, 2, 0, 1, 8, 7, 5, 6], [20, 11, 19, 17, 18, 10, 4, 9, 3, 2, 0, 1, 8, 7, 5, 6], [16, 21, 11, 15, 14, 12, 13, 10, 4, 9, 3, 2, 0, 1, 8, 7, 5, 6, 20, 19, 17, 18], [11, 22, 10, 4, 9, 3, 2, 0, 1, 8, 7, 5, 6, 16, 21, 15, 14, 12, 13, 20, 19, 17, 18]],
            [(0, none), (1, none), (2, none), (3, none), (4, none), (5, none), (6, none), (7, none), (8, none), (9, none), (10, none), (11, none), (12, none), (13, none), (14, none), (15, none), (16, none), (17, none), (18, none), (19, none), (20, none), (21, none), (22, none), (23, none)]⟩)
          (.cond (.t 93)
           (.seq (.reg [⟨(some 96), .pur (.iad 4 (.t 7) (.t 8)), none⟩,
             ⟨(some 97), .pur (.fad 3 (.t 96)), none⟩,
             ⟨(some 98), .pur (.ld 1 false (.t 97)), none⟩,
             ⟨(some 2), .pur (.mv (.t 98)), none⟩,
             ⟨(some 3), .pur (.mv (.k (.int .i64 7))), none⟩])
           (.ret))
           (.skip))))
         (.reg [⟨(some 69), .pur (.bin .add (.t 10) (.k (.int .i64 1))), none⟩,
           ⟨(some 10), .pur (.mv (.t 69)), none⟩]))))))
       (.seq (.drw 12 ⟨[⟨(some 100), .pur (.ld 2 true (.t 1)), none⟩,
         ⟨(some 101), .pur (.mv (.t 7)), none⟩,
         ⟨(some 102), .pur (.mv (.t 8)), none⟩,
         ⟨(some 103), .pur (.iad 4 (.t 101) (.t 102)), none⟩,
         ⟨(some 104), .pur (.fad 2 (.t 103)), none⟩,
         ⟨(some 105), .pur (.ld 1 false (.t 104)), none⟩,
         ⟨(some 106), .call 96 [(.t 100), (.t 105)], none⟩,
         ⟨(some 99), .pur (.mv (.t 106)), none⟩,
         ⟨(some 107), .pur (.ext (.t 99) 0), none⟩,
         ⟨(some 108), .pur (.ext (.t 99) 1), none⟩,
         ⟨(some 11), .pur (.mv (.t 107)), none⟩,
         ⟨(some 12), .pur (.mv (.t 108)), none⟩],
         [[], [], [], [1, 2], [3, 1, 2], [4, 3, 1, 2], [0, 5, 4, 3, 1, 2], [6, 0, 5, 4, 3, 1, 2], [7, 6, 0, 5, 4, 3, 1, 2], [7, 6, 0, 5, 4, 3, 1, 2], [8, 6, 0, 1, 2, 3, 4, 5, 7], [9, 10, 0, 1, 2, 3, 4, 5, 6, 7, 8]],
         [(0, none), (1, none), (2, none), (3, none), (4, none), (5, none), (6, some []), (7, none), (8, none), (9, none), (10, some [9]), (11, some [])]⟩)
       (.seq (.reg [⟨(some 110), .pur (.bin .neq (.t 12) (.k (.int .i64 0))), none⟩])
       (.cond (.t 110)
        (.seq (.reg [⟨(some 2), .pur (.mv (.t 11)), none⟩,
          ⟨(some 3), .pur (.mv (.t 12)), none⟩])
        (.ret))
        (.skip)))))))
      (.reg [⟨(some 43), .pur (.bin .add (.t 8) (.k (.int .i64 1))), none⟩,
        ⟨(some 8), .pur (.mv (.t 43)), none⟩]))))))))
   (.reg [⟨(some 31), .pur (.bin .add (.t 6) (.k (.int .i64 1))), none⟩,
     ⟨(some 6), .pur (.mv (.t 31)), none⟩]))))))
 (.seq (.reg [⟨(some 2), .pur (.mv (.k (.int .i64 0))), none⟩,
   ⟨(some 3), .pur (.mv (.k (.int .i64 0))), none⟩])
 (.ret))))),
 [.tmp 2, .tmp 3]⟩
theorem is64 : IsFnO Tryz.prog 64 ir64 := .of 8437541816241406743231632993484800 (by kernel_rfl)
/-- pinball/pinballref32.Count -/
noncomputable def ir65 : IFn := ⟨11, .seq (.reg [⟨(some 2), .new (.box (.t 0)), none⟩,
   ⟨(some 4), .pur (.mv (.k (.int .i64 0))), none⟩])
 (.seq (.seq (.reg [⟨(some 5), .pur (.ld 2 true (.t 2)), none⟩,
   ⟨(some 6), .call 92 [(.t 5)], none⟩,
   ⟨(some 7), .pur (.un .not (.t 6)), none⟩])
 (.cond (.t 7)
  (.seq (.reg [⟨(some 4), .pur (.mv (.k (.int .i64 0))), none⟩])
  (.ret))
  (.skip)))
 (.seq (.reg [⟨(some 8), .pur (.ld 2 true (.t 2)), none⟩,
   ⟨(some 10), .call 97 [(.t 8), (.t 1)], none⟩,
   ⟨(some 4), .pur (.mv (.t 10)), none⟩])
 (.ret))),
 [.tmp 4]⟩
theorem is65 : IsFnO Tryz.prog 65 ir65 := .of 520 (by kernel_rfl)
/-- (*pinball/pinballref34.compiler).index -/
noncomputable def ir66 : IFn := ⟨17, .seq (.reg [⟨(some 3), .new (.box (.t 1)), none⟩,
   ⟨(some 4), .pur (.mv (.k (.int .i64 0))), none⟩])
 (.seq (.seq (.reg [⟨(some 5), .pur (.fad 0 (.t 3)), none⟩,
   ⟨(some 6), .pur (.ld 1 false (.t 5)), none⟩,
   ⟨(some 7), .pur (.bin .eql (.t 6) (.k (.int .i64 1))), none⟩,
   ⟨(some 9), .pur (.fad 0 (.t 3)), some (7, false)⟩,
   ⟨(some 10), .pur (.ld 1 false (.t 9)), some (7, false)⟩,
   ⟨(some 11), .pur (.bin .eql (.t 10) (.k (.int .i64 2))), some (7, false)⟩,
   ⟨(some 12), .pur (.pick (.t 7) (.k (.bool true)) (.t 11)), none⟩])
 (.cond (.t 12)
  (.seq (.reg [⟨(some 4), .pur (.mv (.k (.int .i64 0))), none⟩])
  (.ret))
  (.skip)))
 (.seq (.reg [⟨(some 14), .pur (.fad 1 (.t 3)), none⟩,
   ⟨(some 15), .pur (.ld 1 false (.t 14)), none⟩,
   ⟨(some 16), .call 98 [(.t 0), (.t 15)], none⟩,
   ⟨(some 4), .pur (.mv (.t 16)), none⟩])
 (.ret))),
 [.tmp 4]⟩
theorem is66 : IsFnO Tryz.prog 66 ir66 := .of 8452 (by kernel_rfl)
/-- (*pinball/pinballref34.compiler).body -/
noncomputable def ir67 : IFn := ⟨17, .seq (.reg [⟨(some 4), .pur (.mv (.k (.int .i64 0))), none⟩])
 (.blk 0 (.loop (.seq (.seq (.reg [⟨(some 7), .pur (.len (.t 1)), none⟩,
     ⟨(some 8), .pur (.bin .lss (.t 4) (.t 7)), none⟩])
   (.cond (.t 8)
    (.skip)
    (.exit 0)))
   (.seq (.blk 1 (.reg [⟨(some 14), .pur (.iad 7 (.t 1) (.t 4)), none⟩,
      ⟨(some 15), .pur (.ld 7 true (.t 14)), none⟩,
      ⟨(some 16), .call 99 [(.t 0), (.t 15)], none⟩]))
   (.reg [⟨(some 10), .pur (.bin .add (.t 4) (.k (.int .i64 1))), none⟩,
     ⟨(some 4), .pur (.mv (.t 10)), none⟩]))))),
 []⟩
theorem is67 : IsFnO Tryz.prog 67 ir67 := .of 14956 (by kernel_rfl)
/-- (*pinball/pinballref34.compiler).emit -/
noncomputable def ir68 : IFn := ⟨25, .seq (.reg [⟨(some 6), .pur (.mv (.k (.int .i64 0))), none⟩])
 (.seq (.reg [⟨(some 9), .pur (.nck (.t 0)), none⟩,
   ⟨(some 10), .pur (.fad 2 (.t 9)), none⟩,
   ⟨(some 11), .pur (.ld 1 false (.t 10)), none⟩,
   ⟨(some 14), .pur (.bld #[.int .i64 0, .int .i64 0] [(0, 1), (1, 1)] [(0, (.t 1)), (1, (.t 2))]), none⟩,
   ⟨(some 15), .new (.bsl 2 1 #[.int .i64 0, .int .i64 0] [(0, (.t 14))]), none⟩,
   ⟨(some 16), .eff (.app 2 16 (.t 11) (.t 15)), none⟩,
   ⟨(some 17), .pur (.nck (.t 0)), none⟩,
   ⟨(some 18), .pur (.fad 2 (.t 17)), none⟩,
   ⟨none, .eff (.st 1 (.t 18) (.t 16)), none⟩])
 (.seq (.reg [⟨(some 20), .pur (.nck (.t 0)), none⟩,
   ⟨(some 21), .pur (.fad 2 (.t 20)), none⟩,
   ⟨(some 22), .pur (.ld 1 false (.t 21)), none⟩,
   ⟨(some 23), .pur (.len (.t 22)), none⟩,
   ⟨(some 24), .pur (.bin .sub (.t 23) (.k (.int .i64 1))), none⟩,
   ⟨(some 6), .pur (.mv (.t 24)), none⟩])
 (.ret))),
 [.tmp 6]⟩
theorem is68 : IsFnO Tryz.prog 68 ir68 := .of 537016 (by kernel_rfl)
/-- slices.IndexFunc[[]pinball/api.Entry,pinball/api.Entry] -/
noncomputable def ir69 : IFn := ⟨19, .seq (.reg [⟨(some 4), .pur (.mv (.k (.int .i64 0))), none⟩])
 (.seq (.seq (.reg [⟨(some 7), .pur (.len (.t 0)), none⟩,
   ⟨(some 8), .pur (.mv (.k (.int .i64 0))), none⟩])
 (.blk 0 (.loop (.seq (.reg [⟨(some 9), .pur (.bin .lss (.t 8) (.t 7)), none⟩])
   (.seq (.cond (.t 9)
    (.skip)
    (.exit 0))
   (.seq (.blk 1 (.seq (.reg [⟨(some 5), .pur (.mv (.t 8)), none⟩])
    (.seq (.reg [⟨(some 14), .pur (.iad 4 (.t 0) (.t 5)), none⟩,
      ⟨(some 15), .pur (.ld 4 true (.t 14)), none⟩,
      ⟨(some 16), .callv (.t 1) [(.t 15)], none⟩])
    (.cond (.t 16)
     (.seq (.reg [⟨(some 4), .pur (.mv (.t 5)), none⟩])
     (.ret))
     (.skip)))))
   (.reg [⟨(some 18), .pur (.bin .add (.t 8) (.k (.int .i64 1))), none⟩,
     ⟨(some 8), .pur (.mv (.t 18)), none⟩])))))))
 (.seq (.reg [⟨(some 4), .pur (.mv (.k (.int .i64 (-1)))), none⟩])
 (.ret))),
 [.tmp 4]⟩
theorem is69 : IsFnO Tryz.prog 69 ir69 := .of 146508 (by kernel_rfl)
/-- pinball/bytecode.limits -/
noncomputable def ir73 : IFn := ⟨41, .seq (.reg [⟨(some 1), .new (.box (.t 0)), none⟩,
   ⟨(some 2), .pur (.mv (.k (.bool false))), none⟩])
 (.seq (.reg [⟨(some 3), .pur (.fad 0 (.t 1)), none⟩,
   ⟨(some 4), .pur (.ld 1 false (.t 3)), none⟩,
   ⟨(some 5), .pur (.len (.t 4)), none⟩,
   ⟨(some 6), .pur (.bin .leq (.t 5) (.k (.int .i64 4000))), none⟩,
   ⟨(some 8), .pur (.fad 1 (.t 1)), some (6, true)⟩,
   ⟨(some 9), .pur (.ld 1 false (.t 8)), some (6, true)⟩,
   ⟨(some 10), .pur (.len (.t 9)), some (6, true)⟩,
   ⟨(some 11), .pur (.bin .leq (.t 10) (.k (.int .i64 200))), some (6, true)⟩,
   ⟨(some 12), .pur (.pick (.t 6) (.t 11) (.k (.bool false))), none⟩,
   ⟨(some 14), .pur (.fad 2 (.t 1)), some (12, true)⟩,
   ⟨(some 15), .pur (.ld 1 false (.t 14)), some (12, true)⟩,
   ⟨(some 16), .pur (.len (.t 15)), some (12, true)⟩,
   ⟨(some 17), .pur (.bin .leq (.t 16) (.k (.int .i64 512))), some (12, true)⟩,
   ⟨(some 18), .pur (.pick (.t 12) (.t 17) (.k (.bool false))), none⟩,
   ⟨(some 20), .pur (.fad 3 (.t 1)), some (18, true)⟩,
   ⟨(some 21), .pur (.ld 1 false (.t 20)), some (18, true)⟩,
   ⟨(some 22), .pur (.len (.t 21)), some (18, true)⟩,
   ⟨(some 23), .pur (.bin .leq (.t 22) (.k (.int .i64 16))), some (18, true)⟩,
   ⟨(some 24), .pur (.pick (.t 18) (.t 23) (.k (.bool false))), none⟩,
   ⟨(some 26), .pur (.fad 4 (.t 1)), some (24, true)⟩,
   ⟨(some 27), .pur (.ld 1 false (.t 26)), some (24, true)⟩,
   ⟨(some 28), .pur (.len (.t 27)), some (24, true)⟩,
   ⟨(some 29), .pur (.bin .leq (.t 28) (.k (.int .i64 128))), some (24, true)⟩,
   ⟨(some 30), .pur (.pick (.t 24) (.t 29) (.k (.bool false))), none⟩,
   ⟨(some 32), .pur (.fad 5 (.t 1)), some (30, true)⟩,
   ⟨(some 33), .pur (.ld 1 false (.t 32)), some (30, true)⟩,
   ⟨(some 34), .call 100 [(.t 33), (.k (.int .i64 0)), (.k (.int .i64 128))], some (30, true)⟩,
   ⟨(some 35), .pur (.pick (.t 30) (.t 34) (.k (.bool false))), none⟩,
   ⟨(some 37), .pur (.fad 6 (.t 1)), some (35, true)⟩,
   ⟨(some 38), .pur (.ld 1 false (.t 37)), some (35, true)⟩,
   ⟨(some 39), .call 100 [(.t 38), (.k (.int .i64 0)), (.k (.int .i64 128))], some (35, true)⟩,
   ⟨(some 40), .pur (.pick (.t 35) (.t 39) (.k (.bool false))), none⟩,
   ⟨(some 2), .pur (.mv (.t 40)), none⟩])
 (.ret)),
 [.tmp 2]⟩
theorem is73 : IsFnO Tryz.prog 73 ir73 := .of 70901047424 (by kernel_rfl)
/-- pinball/bytecode.parts -/
noncomputable def ir74 : IFn := ⟨59, .seq (.reg [⟨(some 1), .new (.box (.t 0)), none⟩,
   ⟨(some 2), .pur (.mv (.k (.bool false))), none⟩])
 (.seq (.reg [⟨(some 8), .pur (.fad 1 (.t 1)), none⟩,
   ⟨(some 9), .pur (.ld 1 false (.t 8)), none⟩,
   ⟨(some 10), .call 101 [(.t 9), (.f 102)], none⟩,
   ⟨(some 12), .pur (.fad 3 (.t 1)), some (10, false)⟩,
   ⟨(some 13), .pur (.ld 1 false (.t 12)), some (10, false)⟩,
   ⟨(some 14), .call 41 [(.t 13), (.f 104)], some (10, false)⟩,
   ⟨(some 15), .pur (.pick (.t 10) (.k (.bool true)) (.t 14)), none⟩,
   ⟨(some 17), .pur (.fad 4 (.t 1)), some (15, false)⟩,
   ⟨(some 18), .pur (.ld 1 false (.t 17)), some (15, false)⟩,
   ⟨(some 19), .call 41 [(.t 18), (.f 105)], some (15, false)⟩,
   ⟨(some 20), .pur (.pick (.t 15) (.k (.bool true)) (.t 19)), none⟩,
   ⟨(some 22), .pur (.fad 2 (.t 1)), some (20, false)⟩,
   ⟨(some 23), .pur (.ld 1 false (.t 22)), some (20, false)⟩,
   ⟨(some 24), .pur (.mkf 106 [] [(.t 1)]), some (20, false)⟩,
   ⟨(some 25), .call 46 [(.t 23), (.t 24)], some (20, false)⟩,
   ⟨(some 26), .pur (.pick (.t 20) (.k (.bool true)) (.t 25)), none⟩,
   ⟨(some 3), .pur (.mv (.t 26)), none⟩])
 (.seq (.seq (.reg [⟨(some 27), .pur (.fad 0 (.t 1)), none⟩,
   ⟨(some 28), .pur (.ld 1 false (.t 27)), none⟩,
   ⟨(some 29), .pur (.len (.t 28)), none⟩,
   ⟨(some 30), .pur (.mv (.k (.int .i64 0))), none⟩])
 (.blk 0 (.loop (.seq (.reg [⟨(some 31), .pur (.bin .lss (.t 30) (.t 29)), none⟩])
   (.seq (.cond (.t 31)
    (.skip)
    (.exit 0))
   (.seq (.blk 1 (.seq (.reg [⟨(some 32), .pur (.iad 2 (.t 28) (.t 30)), none⟩,
      ⟨(some 33), .pur (.ld 2 true (.t 32)), none⟩,
      ⟨(some 5), .new (.box (.k (.agg #[.int .i64 0, .int .i64 0]))), none⟩,
      ⟨none, .eff (.st 2 (.t 5) (.t 33)), none⟩])
    (.seq (.reg [⟨(some 35), .pur (.ld 7 true (.t 1)), none⟩,
      ⟨(some 36), .pur (.fad 0 (.t 5)), none⟩,
      ⟨(some 37), .pur (.ld 1 false (.t 36)), none⟩,
      ⟨(some 38), .call 108 [(.t 35), (.t 37)], none⟩,
      ⟨(some 39), .pur (.ext (.t 38) 0), none⟩,
      ⟨(some 40), .pur (.ext (.t 38) 1), none⟩,
      ⟨(some 6), .pur (.mv (.t 39)), none⟩,
      ⟨(some 7), .pur (.mv (.t 40)), none⟩])
    (.reg [⟨(some 43), .pur (.fad 0 (.t 5)), some (3, false)⟩,
      ⟨(some 44), .pur (.ld 1 false (.t 43)), some (3, false)⟩,
      ⟨(some 45), .call 109 [(.t 44)], some (3, false)⟩,
      ⟨(some 46), .pur (.un .not (.t 45)), some (3, false)⟩,
      ⟨(some 47), .pur (.mv (.t 46)), some (3, false)⟩,
      ⟨(some 48), .pur (.fad 1 (.t 5)), some (47, true)⟩,
      ⟨(some 49), .pur (.ld 1 false (.t 48)), some (47, true)⟩,
      ⟨(some 50), .pur (.mv (.t 6)), some (47, true)⟩,
      ⟨(some 51), .pur (.mv (.t 7)), some (47, true)⟩,
      ⟨(some 52), .call 100 [(.t 49), (.t 50), (.t 51)], some (47, true)⟩,
      ⟨(some 53), .pur (.un .not (.t 52)), some (47, true)⟩,
      ⟨(some 54), .pur (.pick (.t 47) (.t 53) (.k (.bool false))), some (3, false)⟩,
      ⟨(some 55), .pur (.pick (.t 3) (.k (.bool true)) (.t 54)), none⟩,
      ⟨(some 3), .pur (.mv (.t 55)), none⟩]))))
   (.reg [⟨(some 56), .pur (.bin .add (.t 30) (.k (.int .i64 1))), none⟩,
     ⟨(some 30), .pur (.mv (.t 56)), none⟩])))))))
 (.seq (.reg [⟨(some 58), .pur (.un .not (.t 3)), none⟩,
   ⟨(some 2), .pur (.mv (.t 58)), none⟩])
 (.ret)))),
 [.tmp 2]⟩
theorem is74 : IsFnO Tryz.prog 74 ir74 := .of 144121802327656464 (by kernel_rfl)
/-- pinball/bytecode.targets -/
noncomputable def ir75 : IFn := ⟨31, .seq (.reg [⟨(some 1), .new (.box (.t 0)), none⟩,
   ⟨(some 2), .pur (.mv (.k (.bool false))), none⟩])
 (.seq (.seq (.reg [⟨(some 5), .pur (.fad 0 (.t 1)), none⟩,
   ⟨(some 6), .pur (.ld 1 false (.t 5)), none⟩,
   ⟨(some 7), .pur (.len (.t 6)), none⟩,
   ⟨(some 8), .pur (.mv (.k (.int .i64 0))), none⟩])
 (.blk 0 (.loop (.seq (.reg [⟨(some 9), .pur (.bin .lss (.t 8) (.t 7)), none⟩])
   (.seq (.cond (.t 9)
    (.skip)
    (.exit 0))
   (.seq (.blk 1 (.seq (.reg [⟨(some 10), .pur (.iad 2 (.t 6) (.t 8)), none⟩,
      ⟨(some 11), .pur (.ld 2 true (.t 10)), none⟩,
      ⟨(some 4), .new (.box (.k (.agg #[.int .i64 0, .int .i64 0]))), none⟩,
      ⟨none, .eff (.st 2 (.t 4) (.t 11)), none⟩])
    (.seq (.reg [⟨(some 12), .pur (.fad 0 (.t 4)), none⟩,
      ⟨(some 13), .pur (.ld 1 false (.t 12)), none⟩,
      ⟨(some 14), .call 109 [(.t 13)], none⟩,
      ⟨(some 16), .pur (.fad 1 (.t 4)), some (14, true)⟩,
      ⟨(some 17), .pur (.ld 1 false (.t 16)), some (14, true)⟩,
      ⟨(some 18), .pur (.fad 0 (.t 1)), some (14, true)⟩,
      ⟨(some 19), .pur (.ld 1 false (.t 18)), some (14, true)⟩,
      ⟨(some 20), .pur (.len (.t 19)), some (14, true)⟩,
      ⟨(some 21), .pur (.bin .sub (.t 20) (.k (.int .i64 1))), some (14, true)⟩,
      ⟨(some 22), .call 100 [(.t 17), (.k (.int .i64 0)), (.t 21)], some (14, true)⟩,
      ⟨(some 23), .pur (.un .not (.t 22)), some (14, true)⟩,
      ⟨(some 24), .pur (.pick (.t 14) (.t 23) (.k (.bool false))), none⟩])
    (.cond (.t 24)
     (.seq (.reg [⟨(some 2), .pur (.mv (.k (.bool false))), none⟩])
     (.ret))
     (.skip)))))
   (.reg [⟨(some 25), .pur (.bin .add (.t 8) (.k (.int .i64 1))), none⟩,
     ⟨(some 8), .pur (.mv (.t 25)), none⟩])))))))
 (.seq (.reg [⟨(some 26), .pur (.fad 2 (.t 1)), none⟩,
   ⟨(some 27), .pur (.ld 1 false (.t 26)), none⟩,
   ⟨(some 28), .pur (.mkf 110 [] [(.t 1)]), none⟩,
   ⟨(some 29), .call 46 [(.t 27), (.t 28)], none⟩,
   ⟨(some 30), .pur (.un .not (.t 29)), none⟩,
   ⟨(some 2), .pur (.mv (.t 30)), none⟩])
 (.ret))),
 [.tmp 2]⟩
theorem is75 : IsFnO Tryz.prog 75 ir75 := .of 32776 (by kernel_rfl)
/-- pinball/bytecode.less -/
noncomputable def ir76 : IFn := ⟨30, .seq (.reg [⟨(some 2), .new (.box (.t 0)), none⟩,
   ⟨(some 3), .new (.box (.t 1)), none⟩,
   ⟨(some 4), .pur (.mv (.k (.bool false))), none⟩])
 (.seq (.seq (.reg [⟨(some 5), .pur (.fad 0 (.t 2)), none⟩,
   ⟨(some 6), .pur (.ld 1 false (.t 5)), none⟩,
   ⟨(some 7), .pur (.fad 0 (.t 3)), none⟩,
   ⟨(some 8), .pur (.ld 1 false (.t 7)), none⟩,
   ⟨(some 9), .pur (.bin .neq (.t 6) (.t 8)), none⟩])
 (.cond (.t 9)
  (.seq (.reg [⟨(some 10), .pur (.fad 0 (.t 2)), none⟩,
    ⟨(some 11), .pur (.ld 1 false (.t 10)), none⟩,
    ⟨(some 12), .pur (.fad 0 (.t 3)), none⟩,
    ⟨(some 13), .pur (.ld 1 false (.t 12)), none⟩,
    ⟨(some 14), .pur (.bin .lss (.t 11) (.t 13)), none⟩,
    ⟨(some 4), .pur (.mv (.t 14)), none⟩])
  (.ret))
  (.skip)))
 (.seq (.seq (.reg [⟨(some 15), .pur (.fad 1 (.t 2)), none⟩,
   ⟨(some 16), .pur (.ld 1 false (.t 15)), none⟩,
   ⟨(some 17), .pur (.fad 1 (.t 3)), none⟩,
   ⟨(some 18), .pur (.ld 1 false (.t 17)), none⟩,
   ⟨(some 19), .pur (.bin .neq (.t 16) (.t 18)), none⟩])
 (.cond (.t 19)
  (.seq (.reg [⟨(some 20), .pur (.fad 1 (.t 2)), none⟩,
    ⟨(some 21), .pur (.ld 1 false (.t 20)), none⟩,
    ⟨(some 22), .pur (.fad 1 (.t 3)), none⟩,
    ⟨(some 23), .pur (.ld 1 false (.t 22)), none⟩,
    ⟨(some 24), .pur (.bin .lss (.t 21) (.t 23)), none⟩,
    ⟨(some 4), .pur (.mv (.t 24)), none⟩])
  (.ret))
  (.skip)))
 (.seq (.reg [⟨(some 25), .pur (.fad 2 (.t 2)), none⟩,
   ⟨(some 26), .pur (.ld 1 false (.t 25)), none⟩,
   ⟨(some 27), .pur (.fad 2 (.t 3)), none⟩,
   ⟨(some 28), .pur (.ld 1 false (.t 27)), none⟩,
   ⟨(some 29), .pur (.bin .lss (.t 26) (.t 28)), none⟩,
   ⟨(some 4), .pur (.mv (.t 29)), none⟩])
 (.ret)))),
 [.tmp 4]⟩
theorem is76 : IsFnO Tryz.prog 76 ir76 := .of 0 (by kernel_rfl)
/-- pinball/bytecode.heights -/
noncomputable def ir77 : IFn := ⟨150, .seq (.reg [⟨(some 1), .new (.box (.t 0)), none⟩,
   ⟨(some 2), .pur (.mv (.k (.slice none 0 0))), none⟩,
   ⟨(some 3), .pur (.mv (.k (.bool false))), none⟩])
 (.seq (.reg [⟨(some 16), .pur (.fad 0 (.t 1)), none⟩,
   ⟨(some 17), .pur (.ld 1 false (.t 16)), none⟩,
   ⟨(some 18), .pur (.len (.t 17)), none⟩,
   ⟨(some 19), .new (.msl 1 8 #[.int .i64 0] (.t 18) (.t 18)), none⟩,
   ⟨(some 4), .new (.box (.k (.slice none 0 0))), none⟩,
   ⟨none, .eff (.st 1 (.t 4) (.t 19)), none⟩])
 (.seq (.seq (.reg [⟨(some 20), .pur (.ld 1 false (.t 4)), none⟩,
   ⟨(some 21), .pur (.len (.t 20)), none⟩,
   ⟨(some 22), .pur (.mv (.k (.int .i64 0))), none⟩])
 (.blk 0 (.loop (.seq (.reg [⟨(some 23), .pur (.bin .lss (.t 22) (.t 21)), none⟩])
   (.seq (.cond (.t 23)
    (.skip)
    (.exit 0))
   (.seq (.blk 1 (.seq (.reg [⟨(some 5), .pur (.mv (.t 22)), none⟩])
    (.reg [⟨(some 25), .pur (.ld 1 false (.t 4)), none⟩,
      ⟨(some 27), .pur (.iad 1 (.t 25) (.t 5)), none⟩,
      ⟨none, .eff (.st 1 (.t 27) (.k (.int .i64 (-1)))), none⟩])))
   (.reg [⟨(some 28), .pur (.bin .add (.t 22) (.k (.int .i64 1))), none⟩,
     ⟨(some 22), .pur (.mv (.t 28)), none⟩])))))))
 (.seq (.reg [⟨(some 6), .new (.box (.k (.slice none 0 0))), none⟩])
 (.seq (.reg [⟨(some 29), .pur (.mkf 111 [] [(.t 4), (.t 6)]), none⟩,
   ⟨(some 7), .pur (.mv (.t 29)), none⟩])
 (.seq (.seq (.reg [⟨(some 30), .pur (.fad 2 (.t 1)), none⟩,
   ⟨(some 31), .pur (.ld 1 false (.t 30)), none⟩,
   ⟨(some 32), .pur (.len (.t 31)), none⟩,
   ⟨(some 33), .pur (.mv (.k (.int .i64 0))), none⟩])
 (.blk 2 (.loop (.seq (.reg [⟨(some 34), .pur (.bin .lss (.t 33) (.t 32)), none⟩])
   (.seq (.cond (.t 34)
    (.skip)
    (.exit 2))
   (.seq (.blk 3 (.seq (.reg [⟨(some 35), .pur (.iad 4 (.t 31) (.t 33)), none⟩,
      ⟨(some 36), .pur (.ld 4 true (.t 35)), none⟩,
      ⟨(some 9), .new (.box (.k (.agg #[.int .i64 0, .int .i64 0, .int .i64 0, .int .i64 0]))), none⟩,
      ⟨none, .eff (.st 4 (.t 9) (.t 36)), none⟩])
    (.seq (.reg [⟨(some 38), .pur (.fad 3 (.t 9)), none⟩,
      ⟨(some 39), .pur (.ld 1 false (.t 38)), none⟩,
      ⟨(some 40), .callv (.t 7) [(.t 39), (.k (.int .i64 0))], none⟩,
      ⟨(some 41), .pur (.un .not (.t 40)), none⟩])
    (.cond (.t 41)
     (.seq (.reg [⟨(some 2), .pur (.mv (.k (.slice none 0 0))), none⟩,
       ⟨(some 3), .pur (.mv (.k (.bool false))), none⟩])
     (.ret))
     (.skip)))))
   (.reg [⟨(some 42), .pur (.bin .add (.t 33) (.k (.int .i64 1))), none⟩,
     ⟨(some 33), .pur (.mv (.t 42)), none⟩])))))))
 (.seq (.blk 4 (.loop (.seq (.seq (.reg [⟨(some 43), .pur (.ld 1 false (.t 6)), none⟩,
     ⟨(some 44), .pur (.len (.t 43)), none⟩,
     ⟨(some 45), .pur (.bin .gtr (.t 44) (.k (.int .i64 0))), none⟩])
   (.cond (.t 45)
    (.skip)
    (.exit 4)))
   (.blk 5 (.seq (.reg [⟨(some 46), .pur (.ld 1 false (.t 6)), none⟩,
      ⟨(some 47), .pur (.ld 1 false (.t 6)), none⟩,
      ⟨(some 48), .pur (.len (.t 47)), none⟩,
      ⟨(some 49), .pur (.bin .sub (.t 48) (.k (.int .i64 1))), none⟩,
      ⟨(some 50), .pur (.iad 1 (.t 46) (.t 49)), none⟩,
      ⟨(some 51), .pur (.ld 1 false (.t 50)), none⟩,
      ⟨(some 10), .pur (.mv (.t 51)), none⟩])
    (.seq (.reg [⟨(some 52), .pur (.ld 1 false (.t 6)), none⟩,
      ⟨(some 53), .pur (.ld 1 false (.t 6)), none⟩,
      ⟨(some 54), .pur (.len (.t 53)), none⟩,
      ⟨(some 55), .pur (.bin .sub (.t 54) (.k (.int .i64 1))), none⟩,
      ⟨(some 56), .pur (.slc 1 (.t 52) none (some (.t 55))), none⟩,
      ⟨none, .eff (.st 1 (.t 6) (.t 56)), none⟩])
    (.seq (.reg [⟨(some 57), .pur (.fad 0 (.t 1)), none⟩,
      ⟨(some 58), .pur (.ld 1 false (.t 57)), none⟩,
      ⟨(some 60), .pur (.iad 2 (.t 58) (.t 10)), none⟩,
      ⟨(some 61), .pur (.ld 2 true (.t 60)), none⟩,
      ⟨(some 11), .new (.box (.k (.agg #[.int .i64 0, .int .i64 0]))), none⟩,
      ⟨none, .eff (.st 2 (.t 11) (.t 61)), none⟩])
    (.seq (.reg [⟨(some 63), .pur (.fad 0 (.t 11)), none⟩,
      ⟨(some 64), .pur (.ld 1 false (.t 63)), none⟩,
      ⟨(some 65), .call 112 [(.t 64)], none⟩,
      ⟨(some 66), .pur (.ext (.t 65) 0), none⟩,
      ⟨(some 67), .pur (.ext (.t 65) 1), none⟩,
      ⟨(some 12), .pur (.mv (.t 66)), none⟩,
      ⟨(some 13), .pur (.mv (.t 67)), none⟩])
    (.seq (.reg [⟨(some 68), .pur (.ld 1 false (.t 4)), none⟩,
      ⟨(some 70), .pur (.iad 1 (.t 68) (.t 10)), none⟩,
      ⟨(some 71), .pur (.ld 1 false (.t 70)), none⟩,
      ⟨(some 73), .pur (.bin .sub (.t 71) (.t 12)), none⟩,
      ⟨(some 75), .pur (.bin .add (.t 73) (.t 13)), none⟩,
      ⟨(some 14), .pur (.mv (.t 75)), none⟩])
    (.seq (.reg [⟨(some 76), .pur (.ld 1 false (.t 4)), none⟩,
      ⟨(some 78), .pur (.iad 1 (.t 76) (.t 10)), none⟩,
      ⟨(some 79), .pur (.ld 1 false (.t 78)), none⟩,
      ⟨(some 81), .pur (.bin .geq (.t 79) (.t 12)), none⟩,
      ⟨(some 15), .pur (.mv (.t 81)), none⟩])
    (.seq (.seq (.reg [⟨(some 82), .pur (.fad 0 (.t 11)), none⟩,
      ⟨(some 83), .pur (.ld 1 false (.t 82)), none⟩])
    (.blk 6 (.seq (.reg [⟨(some 93), .pur (.bin .eql (.t 83) (.k (.int .i64 31))), none⟩,
       ⟨(some 92), .pur (.mv (.t 93)), none⟩])
     (.cond (.t 92)
      (.reg [⟨(some 96), .pur (.ld 1 false (.t 4)), some (15, true)⟩,
        ⟨(some 97), .pur (.mv (.t 10)), some (15, true)⟩,
        ⟨(some 98), .pur (.iad 1 (.t 96) (.t 97)), some (15, true)⟩,
        ⟨(some 99), .pur (.ld 1 false (.t 98)), some (15, true)⟩,
        ⟨(some 100), .pur (.bin .eql (.t 99) (.k (.int .i64 0))), some (15, true)⟩,
        ⟨(some 101), .pur (.pick (.t 15) (.t 100) (.k (.bool false))), none⟩,
        ⟨(some 15), .pur (.mv (.t 101)), none⟩])
      (.seq (.reg [⟨(some 103), .pur (.bin .eql (.t 83) (.k (.int .i64 12))), none⟩,
        ⟨(some 102), .pur (.mv (.t 103)), none⟩])
      (.cond (.t 102)
       (.reg [⟨(some 106), .pur (.mv (.t 7)), some (15, true)⟩,
         ⟨(some 107), .pur (.fad 1 (.t 11)), some (15, true)⟩,
         ⟨(some 108), .pur (.ld 1 false (.t 107)), some (15, true)⟩,
         ⟨(some 109), .pur (.mv (.t 14)), some (15, true)⟩,
         ⟨(some 110), .callv (.t 106) [(.t 108), (.t 109)], some (15, true)⟩,
         ⟨(some 111), .pur (.pick (.t 15) (.t 110) (.k (.bool false))), none⟩,
         ⟨(some 15), .pur (.mv (.t 111)), none⟩])
       (.seq (.reg [⟨(some 113), .pur (.bin .eql (.t 83) (.k (.int .i64 13))), none⟩,
         ⟨(some 112), .pur (.mv (.t 113)), none⟩])
       (.cond (.t 112)
        (.reg [⟨(some 116), .pur (.mv (.t 7)), some (15, true)⟩,
          ⟨(some 117), .pur (.mv (.t 10)), some (15, true)⟩,
          ⟨(some 118), .pur (.bin .add (.t 117) (.k (.int .i64 1))), some (15, true)⟩,
          ⟨(some 119), .pur (.mv (.t 14)), some (15, true)⟩,
          ⟨(some 120), .callv (.t 116) [(.t 118), (.t 119)], some (15, true)⟩,
          ⟨(some 121), .pur (.pick (.t 15) (.t 120) (.k (.bool false))), none⟩,
          ⟨(some 123), .pur (.mv (.t 7)), some (121, true)⟩,
          ⟨(some 124), .pur (.fad 1 (.t 11)), some (121, true)⟩,
          ⟨(some 125), .pur (.ld 1 false (.t 124)), some (121, true)⟩,
          ⟨(some 126), .pur (.mv (.t 14)), some (121, true)⟩,
          ⟨(some 127), .callv (.t 123) [(.t 125), (.t 126)], some (121, true)⟩,
          ⟨(some 128), .pur (.pick (.t 121) (.t 127) (.k (.bool false))), none⟩,
          ⟨(some 15), .pur (.mv (.t 128)), none⟩])
        (.seq (.reg [⟨(some 130), .pur (.bin .eql (.t 83) (.k (.int .i64 14))), none⟩,
          ⟨(some 129), .pur (.mv (.t 130)), none⟩])
        (.cond (.t 129)
         (.reg [⟨(some 133), .pur (.mv (.t 7)), some (15, true)⟩,
           ⟨(some 134), .pur (.mv (.t 10)), some (15, true)⟩,
           ⟨(some 135), .pur (.bin .add (.t 134) (.k (.int .i64 1))), some (15, true)⟩,
           ⟨(some 136), .pur (.mv (.t 14)), some (15, true)⟩,
           ⟨(some 137), .callv (.t 133) [(.t 135), (.t 136)], some (15, true)⟩,
           ⟨(some 138), .pur (.pick (.t 15) (.t 137) (.k (.bool false))), none⟩,
           ⟨(some 140), .pur (.mv (.t 7)), some (138, true)⟩,
           ⟨(some 141), .pur (.fad 1 (.t 11)), some (138, true)⟩,
           ⟨(some 142), .pur (.ld 1 false (.t 141)), some (138, true)⟩,
           ⟨(some 143), .pur (.mv (.t 14)), some (138, true)⟩,
           ⟨(some 144), .pur (.bin .sub (.t 143) (.k (.int .i64 1))), some (138, true)⟩,
           ⟨(some 145), .callv (.t 140) [(.t 142), (.t 144)], some (138, true)⟩,
           ⟨(some 146), .pur (.pick (.t 138) (.t 145) (.k (.bool false))), none⟩,
           ⟨(some 15), .pur (.mv (.t 146)), none⟩])
         (.reg [⟨(some 86), .pur (.mv (.t 7)), some (15, true)⟩,
           ⟨(some 87), .pur (.mv (.t 10)), some (15, true)⟩,
           ⟨(some 88), .pur (.bin .add (.t 87) (.k (.int .i64 1))), some (15, true)⟩,
           ⟨(some 89), .pur (.mv (.t 14)), some (15, true)⟩,
           ⟨(some 90), .callv (.t 86) [(.t 88), (.t 89)], some (15, true)⟩,
           ⟨(some 91), .pur (.pick (.t 15) (.t 90) (.k (.bool false))), none⟩,
           ⟨(some 15), .pur (.mv (.t 91)), none⟩])))))))))))
    (.seq (.reg [⟨(some 148), .pur (.un .not (.t 15)), none⟩])
    (.cond (.t 148)
     (.seq (.reg [⟨(some 2), .pur (.mv (.k (.slice none 0 0))), none⟩,
       ⟨(some 3), .pur (.mv (.k (.bool false))), none⟩])
     (.ret))
     (.skip))))))))))))))
 (.seq (.reg [⟨(some 149), .pur (.ld 1 false (.t 4)), none⟩,
   ⟨(some 2), .pur (.mv (.t 149)), none⟩,
   ⟨(some 3), .pur (.mv (.k (.bool true))), none⟩])
 (.ret)))))))),
 [.tmp 2, .tmp 3]⟩
theorem is77 : IsFnO Tryz.prog 77 ir77 := .of 179111032031785621780008810439845023158632704 (by kernel_rfl)
/-- pinball/pinballref30.skip -/
noncomputable def ir83 : IFn := ⟨45, .seq (.reg [⟨(some 4), .pur (.mv (.k (.int .i64 0))), none⟩])
 (.seq (.blk 0 (.loop (.seq (.seq (.reg [⟨(some 8), .pur (.lens (.t 0)), none⟩,
     ⟨(some 9), .pur (.bin .lss (.t 1) (.t 8)), none⟩])
   (.cond (.t 9)
    (.skip)
    (.exit 0)))
   (.blk 1 (.seq (.reg [⟨(some 12), .pur (.idx (.t 0) (.t 1)), none⟩,
      ⟨(some 5), .pur (.mv (.t 12)), none⟩])
    (.seq (.reg [⟨(some 14), .pur (.bin .eql (.t 5) (.k (.int .u8 35))), none⟩])
    (.cond (.t 14)
     (.blk 2 (.loop (.seq (.seq (.reg [⟨(some 17), .pur (.lens (.t 0)), none⟩,
         ⟨(some 18), .pur (.bin .lss (.t 1) (.t 17)), none⟩,
         ⟨(some 20), .pur (.mv (.t 0)), some (18, true)⟩,
         ⟨(some 21), .pur (.mv (.t 1)), some (18, true)⟩,
         ⟨(some 22), .pur (.idx (.t 20) (.t 21)), some (18, true)⟩,
         ⟨(some 23), .pur (.bin .neq (.t 22) (.k (.int .u8 10))), some (18, true)⟩,
         ⟨(some 24), .pur (.pick (.t 18) (.t 23) (.k (.bool false))), none⟩])
       (.cond (.t 24)
        (.skip)
        (.exit 2)))
       (.blk 3 (.reg [⟨(some 26), .pur (.bin .add (.t 1) (.k (.int .i64 1))), none⟩,
          ⟨(some 1), .pur (.mv (.t 26)), none⟩])))))
     (.seq (.reg [⟨(some 28), .pur (.bin .eql (.t 5) (.k (.int .u8 9))), none⟩,
       ⟨(some 30), .pur (.mv (.t 5)), some (28, false)⟩,
       ⟨(some 31), .pur (.bin .eql (.t 30) (.k (.int .u8 10))), some (28, false)⟩,
       ⟨(some 32), .pur (.pick (.t 28) (.k (.bool true)) (.t 31)), none⟩,
       ⟨(some 34), .pur (.mv (.t 5)), some (32, false)⟩,
       ⟨(some 35), .pur (.bin .eql (.t 34) (.k (.int .u8 13))), some (32, false)⟩,
       ⟨(some 36), .pur (.pick (.t 32) (.k (.bool true)) (.t 35)), none⟩,
       ⟨(some 38), .pur (.mv (.t 5)), some (36, false)⟩,
       ⟨(some 39), .pur (.bin .eql (.t 38) (.k (.int .u8 32))), some (36, false)⟩,
       ⟨(some 40), .pur (.pick (.t 36) (.k (.bool true)) (.t 39)), none⟩])
     (.cond (.t 40)
      (.reg [⟨(some 42), .pur (.bin .add (.t 1) (.k (.int .i64 1))), none⟩,
        ⟨(some 1), .pur (.mv (.t 42)), none⟩])
      (.seq (.reg [⟨(some 4), .pur (.mv (.t 1)), none⟩])
      (.ret)))))))))))
 (.seq (.reg [⟨(some 4), .pur (.mv (.t 1)), none⟩])
 (.ret))),
 [.tmp 4]⟩
theorem is83 : IsFnO Tryz.prog 83 ir83 := .of 28734036487372 (by kernel_rfl)
/-- pinball/pinballref30.one -/
noncomputable def ir84 : IFn := ⟨83, .seq (.reg [⟨(some 4), .new (.box (.k (.agg #[.int .i64 0, .string ⟨#[]⟩, .int .i64 0, .int .i64 0]))), none⟩,
   ⟨(some 5), .pur (.mv (.k (.int .i64 0))), none⟩,
   ⟨(some 6), .pur (.mv (.k (.int .i64 0))), none⟩])
 (.seq (.seq (.reg [⟨(some 13), .pur (.idx (.t 0) (.t 1)), none⟩,
   ⟨(some 7), .pur (.mv (.t 13)), none⟩])
 (.blk 0 (.seq (.reg [⟨(some 16), .call 113 [(.t 7)], none⟩,
    ⟨(some 14), .pur (.mv (.t 16)), none⟩])
  (.cond (.t 14)
   (.seq (.reg [⟨(some 19), .call 114 [(.t 0), (.t 1)], none⟩,
     ⟨(some 20), .pur (.ext (.t 19) 0), none⟩,
     ⟨(some 21), .pur (.ext (.t 19) 1), none⟩,
     ⟨(some 22), .pur (.ext (.t 19) 2), none⟩,
     ⟨none, .eff (.st 4 (.t 4) (.t 20)), none⟩,
     ⟨(some 5), .pur (.mv (.t 21)), none⟩,
     ⟨(some 6), .pur (.mv (.t 22)), none⟩])
   (.ret))
   (.seq (.reg [⟨(some 25), .call 115 [(.t 7)], none⟩,
     ⟨(some 23), .pur (.mv (.t 25)), none⟩])
   (.cond (.t 23)
    (.seq (.reg [⟨(some 28), .call 116 [(.t 0), (.t 1)], none⟩,
      ⟨(some 29), .pur (.ext (.t 28) 0), none⟩,
      ⟨(some 30), .pur (.ext (.t 28) 1), none⟩,
      ⟨(some 31), .pur (.ext (.t 28) 2), none⟩,
      ⟨none, .eff (.st 4 (.t 4) (.t 29)), none⟩,
      ⟨(some 5), .pur (.mv (.t 30)), none⟩,
      ⟨(some 6), .pur (.mv (.t 31)), none⟩])
    (.ret))
    (.seq (.reg [⟨(some 34), .pur (.bin .eql (.t 7) (.k (.int .u8 34))), none⟩,
      ⟨(some 32), .pur (.mv (.t 34)), none⟩])
    (.cond (.t 32)
     (.seq (.reg [⟨(some 37), .call 117 [(.t 0), (.t 1)], none⟩,
       ⟨(some 38), .pur (.ext (.t 37) 0), none⟩,
       ⟨(some 39), .pur (.ext (.t 37) 1), none⟩,
       ⟨(some 40), .pur (.ext (.t 37) 2), none⟩,
       ⟨none, .eff (.st 4 (.t 4) (.t 38)), none⟩,
       ⟨(some 5), .pur (.mv (.t 39)), none⟩,
       ⟨(some 6), .pur (.mv (.t 40)), none⟩])
     (.ret))
     (.skip)))))))))
 (.seq (.reg [⟨(some 41), .call 118 [], none⟩,
   ⟨(some 8), .pur (.mv (.t 41)), none⟩])
 (.seq (.seq (.reg [⟨(some 9), .pur (.mv (.k (.int .i64 0))), none⟩])
 (.blk 1 (.loop (.seq (.seq (.reg [⟨(some 44), .pur (.len (.t 8)), none⟩,
     ⟨(some 45), .pur (.bin .lss (.t 9) (.t 44)), none⟩])
   (.cond (.t 45)
    (.skip)
    (.exit 1)))
   (.seq (.blk 2 (.seq (.reg [⟨(some 50), .pur (.iad 1 (.t 8) (.t 9)), none⟩,
      ⟨(some 51), .pur (.ld 1 false (.t 50)), none⟩,
      ⟨(some 52), .pur (.lens (.t 51)), none⟩,
      ⟨(some 10), .pur (.mv (.t 52)), none⟩])
    (.seq (.drw 19 ⟨[⟨(some 53), .pur (.mv (.t 0)), none⟩,
      ⟨(some 54), .pur (.lens (.t 53)), none⟩,
      ⟨(some 55), .pur (.mv (.t 1)), none⟩,
      ⟨(some 56), .pur (.bin .sub (.t 54) (.t 55)), none⟩,
      ⟨(some 57), .pur (.mv (.t 10)), none⟩,
      ⟨(some 58), .pur (.bin .geq (.t 56) (.t 57)), none⟩,
      ⟨(some 59), .pur (.mv (.t 58)), none⟩,
      ⟨(some 60), .pur (.mv (.t 0)), some (59, true)⟩,
      ⟨(some 61), .pur (.mv (.t 1)), some (59, true)⟩,
      ⟨(some 62), .pur (.mv (.t 1)), some (59, true)⟩,
      ⟨(some 63), .pur (.mv (.t 10)), some (59, true)⟩,
      ⟨(some 64), .pur (.bin .add (.t 62) (.t 63)), some (59, true)⟩,
      ⟨(some 65), .pur (.sls (.t 60) (some (.t 61)) (some (.t 64))), some (59, true)⟩,
      ⟨(some 66), .pur (.mv (.t 8)), some (59, true)⟩,
      ⟨(some 67), .pur (.mv (.t 9)), some (59, true)⟩,
      ⟨(some 68), .pur (.iad 1 (.t 66) (.t 67)), some (59, true)⟩,
      ⟨(some 69), .pur (.ld 1 false (.t 68)), some (59, true)⟩,
      ⟨(some 70), .pur (.bin .eql (.t 65) (.t 69)), some (59, true)⟩,
      ⟨(some 71), .pur (.pick (.t 59) (.t 70) (.k (.bool false))), none⟩],
      [[], [0], [], [1, 2, 0], [], [3, 4, 1, 2, 0], [5, 3, 4, 1, 2, 0], [6, 5, 3, 4, 1, 2, 0], [6, 5, 3, 4, 1, 2, 0], [6, 5, 3, 4, 1, 2, 0], [6, 5, 3, 4, 1, 2, 0], [9, 10, 6, 5, 3, 4, 1, 2, 0], [7, 8, 11, 6, 5, 3, 4, 1, 2, 0, 9, 10], [6, 5, 3, 4, 1, 2, 0], [6, 5, 3, 4, 1, 2, 0], [13, 14, 6, 5, 3, 4, 1, 2, 0], [15, 6, 13, 14, 5, 3, 4, 1, 2, 0], [12, 16, 6, 7, 8, 11, 5, 3, 4, 1, 2, 0, 9, 10, 15, 13, 14], [6, 17, 5, 3, 4, 1, 2, 0, 12, 16, 7, 8, 11, 9, 10, 15, 13, 14]],
      [(0, none), (1, none), (2, none), (3, none), (4, none), (5, none), (6, none), (7, none), (8, none), (9, none), (10, none), (11, none), (12, none), (13, none), (14, none), (15, none), (16, none), (17, none), (18, none)]⟩)
    (.cond (.t 71)
     (.seq (.reg [⟨(some 74), .pur (.iad 1 (.t 8) (.t 9)), none⟩,
       ⟨(some 75), .pur (.ld 1 false (.t 74)), none⟩,
       ⟨(some 77), .pur (.bld #[.int .i64 0, .string ⟨#[]⟩, .int .i64 0, .int .i64 0] [(0, 1), (1, 1), (2, 1), (3, 1)] [(0, (.k (.int .i64 5))), (1, (.t 75)), (3, (.t 1))]), none⟩,
       ⟨(some 80), .pur (.bin .add (.t 1) (.t 10)), none⟩,
       ⟨none, .eff (.st 4 (.t 4) (.t 77)), none⟩,
       ⟨(some 5), .pur (.mv (.t 80)), none⟩,
       ⟨(some 6), .pur (.mv (.k (.int .i64 0))), none⟩])
     (.ret))
     (.skip)))))
   (.reg [⟨(some 47), .pur (.bin .add (.t 9) (.k (.int .i64 1))), none⟩,
     ⟨(some 9), .pur (.mv (.t 47)), none⟩]))))))
 (.seq (.reg [⟨(some 81), .pur (.bld #[.int .i64 0, .string ⟨#[]⟩, .int .i64 0, .int .i64 0] [(0, 1), (1, 1), (2, 1), (3, 1)] []), none⟩,
   ⟨none, .eff (.st 4 (.t 4) (.t 81)), none⟩,
   ⟨(some 5), .pur (.mv (.t 1)), none⟩,
   ⟨(some 6), .pur (.mv (.k (.int .i64 47))), none⟩])
 (.ret))))),
 [.cell 4 4 true, .tmp 5, .tmp 6]⟩
theorem is84 : IsFnO Tryz.prog 84 ir84 := .of 5832122607272111540443148 (by kernel_rfl)
/-- (*pinball/pinballref31.reader).among -/
noncomputable def ir85 : IFn := ⟨19, .seq (.reg [⟨(some 4), .pur (.mv (.k (.int .i64 0))), none⟩])
 (.seq (.seq (.reg [⟨(some 5), .pur (.mv (.k (.int .i64 0))), none⟩])
 (.blk 0 (.loop (.seq (.seq (.reg [⟨(some 8), .pur (.len (.t 1)), none⟩,
     ⟨(some 9), .pur (.bin .lss (.t 5) (.t 8)), none⟩])
   (.cond (.t 9)
    (.skip)
    (.exit 0)))
   (.seq (.blk 1 (.seq (.reg [⟨(some 15), .pur (.iad 1 (.t 1) (.t 5)), none⟩,
      ⟨(some 16), .pur (.ld 1 false (.t 15)), none⟩,
      ⟨(some 17), .call 89 [(.t 0), (.t 16)], none⟩])
    (.cond (.t 17)
     (.seq (.reg [⟨(some 4), .pur (.mv (.t 5)), none⟩])
     (.ret))
     (.skip))))
   (.reg [⟨(some 11), .pur (.bin .add (.t 5) (.k (.int .i64 1))), none⟩,
     ⟨(some 5), .pur (.mv (.t 11)), none⟩]))))))
 (.seq (.reg [⟨(some 4), .pur (.mv (.k (.int .i64 (-1)))), none⟩])
 (.ret))),
 [.tmp 4]⟩
theorem is85 : IsFnO Tryz.prog 85 ir85 := .of 292044 (by kernel_rfl)
/-- pinball/pinballref31.decls -/
noncomputable def ir86 : IFn := ⟨2, .seq (.reg [⟨(some 0), .pur (.mv (.k (.slice none 0 0))), none⟩])
 (.seq (.reg [⟨(some 1), .new (.bsl 1 8 #[.string ⟨#[]⟩] [(0, (.k (.string ⟨#[115, 119, 105, 116, 99, 104]⟩))), (1, (.k (.string ⟨#[99, 111, 105, 108]⟩))), (2, (.k (.string ⟨#[108, 97, 109, 112]⟩))), (3, (.k (.string ⟨#[115, 111, 117, 110, 100]⟩))), (4, (.k (.string ⟨#[115, 104, 111, 119]⟩))), (5, (.k (.string ⟨#[118, 97, 114]⟩))), (6, (.k (.string ⟨#[116, 105, 109, 101, 114]⟩))), (7, (.k (.string ⟨#[101, 118, 101, 110, 116]⟩)))]), none⟩,
   ⟨(some 0), .pur (.mv (.t 1)), none⟩])
 (.ret)),
 [.tmp 0]⟩
theorem is86 : IsFnO Tryz.prog 86 ir86 := .of 0 (by kernel_rfl)
/-- (*pinball/pinballref31.reader).limit -/
noncomputable def ir87 : IFn := ⟨17, .seq (.reg [⟨(some 10), .pur (.bin .gtr (.t 1) (.t 2)), none⟩])
 (.cond (.t 10)
  (.reg [⟨(some 13), .call 120 [(.t 0)], none⟩,
    ⟨(some 14), .pur (.fld 3 1 false (.t 13)), none⟩,
    ⟨(some 16), .call 119 [(.t 0), (.t 14), (.t 3)], none⟩])
  (.skip)),
 []⟩
theorem is87 : IsFnO Tryz.prog 87 ir87 := .of 39920 (by kernel_rfl)
/-- (*pinball/pinballref31.reader).declaration -/
noncomputable def ir88 : IFn := ⟨53, .seq (.reg [⟨(some 4), .new (.box (.k (.agg #[.int .i64 0, .string ⟨#[]⟩, .int .i64 0, .int .i64 0]))), none⟩])
 (.seq (.reg [⟨(some 8), .pur (.bin .add (.k (.int .i64 1)) (.t 1)), none⟩,
   ⟨(some 10), .call 120 [(.t 0)], none⟩,
   ⟨(some 11), .pur (.fld 3 1 false (.t 10)), none⟩,
   ⟨(some 12), .pur (.bld #[.int .i64 0, .string ⟨#[]⟩, .int .i64 0, .int .i64 0] [(0, 1), (1, 1), (2, 1), (3, 1)] [(0, (.t 8)), (3, (.t 11))]), none⟩,
   ⟨(some 5), .new (.box (.k (.agg #[.int .i64 0, .string ⟨#[]⟩, .int .i64 0, .int .i64 0]))), none⟩,
   ⟨none, .eff (.st 4 (.t 5) (.t 12)), none⟩])
 (.seq (.reg [⟨(some 14), .pur (.nck (.t 0)), none⟩,
   ⟨(some 15), .pur (.fad 2 (.t 14)), none⟩,
   ⟨(some 16), .pur (.ld 1 false (.t 15)), none⟩,
   ⟨(some 17), .pur (.bin .add (.t 16) (.k (.int .i64 1))), none⟩,
   ⟨(some 18), .pur (.nck (.t 0)), none⟩,
   ⟨(some 19), .pur (.fad 2 (.t 18)), none⟩,
   ⟨none, .eff (.st 1 (.t 19) (.t 17)), none⟩])
 (.seq (.reg [⟨(some 21), .call 121 [(.t 0)], none⟩,
   ⟨(some 22), .pur (.fad 1 (.t 5)), none⟩,
   ⟨none, .eff (.st 1 (.t 22) (.t 21)), none⟩])
 (.seq (.seq (.reg [⟨(some 23), .pur (.fad 0 (.t 5)), none⟩,
   ⟨(some 24), .pur (.ld 1 false (.t 23)), none⟩,
   ⟨(some 25), .pur (.bin .leq (.t 24) (.k (.int .i64 6))), none⟩])
 (.cond (.t 25)
  (.seq (.reg [⟨(some 26), .pur (.fad 0 (.t 5)), none⟩,
    ⟨(some 27), .pur (.ld 1 false (.t 26)), none⟩,
    ⟨(some 28), .pur (.bin .eql (.t 27) (.k (.int .i64 6))), none⟩,
    ⟨(some 30), .pur (.mv (.t 0)), some (28, true)⟩,
    ⟨(some 31), .call 89 [(.t 30), (.k (.string ⟨#[45]⟩))], some (28, true)⟩,
    ⟨(some 32), .pur (.pick (.t 28) (.t 31) (.k (.bool false))), none⟩,
    ⟨(some 6), .pur (.mv (.t 32)), none⟩])
  (.seq (.seq (.reg [⟨(some 33), .pur (.mv (.t 6)), none⟩])
  (.cond (.t 33)
   (.reg [⟨(some 35), .pur (.nck (.t 0)), none⟩,
     ⟨(some 36), .pur (.fad 2 (.t 35)), none⟩,
     ⟨(some 37), .pur (.ld 1 false (.t 36)), none⟩,
     ⟨(some 38), .pur (.bin .add (.t 37) (.k (.int .i64 1))), none⟩,
     ⟨(some 39), .pur (.nck (.t 0)), none⟩,
     ⟨(some 40), .pur (.fad 2 (.t 39)), none⟩,
     ⟨none, .eff (.st 1 (.t 40) (.t 38)), none⟩])
   (.skip)))
  (.seq (.reg [⟨(some 42), .call 122 [(.t 0), (.k (.int .i64 3))], none⟩,
    ⟨(some 43), .pur (.fld 2 1 false (.t 42)), none⟩,
    ⟨(some 44), .pur (.fad 2 (.t 5)), none⟩,
    ⟨none, .eff (.st 1 (.t 44) (.t 43)), none⟩])
  (.seq (.reg [⟨(some 45), .pur (.mv (.t 6)), none⟩])
  (.cond (.t 45)
   (.reg [⟨(some 46), .pur (.fad 2 (.t 5)), none⟩,
     ⟨(some 47), .pur (.ld 1 false (.t 46)), none⟩,
     ⟨(some 48), .pur (.un .neg (.t 47)), none⟩,
     ⟨(some 49), .pur (.fad 2 (.t 5)), none⟩,
     ⟨none, .eff (.st 1 (.t 49) (.t 48)), none⟩])
   (.skip))))))
  (.skip)))
 (.seq (.reg [⟨(some 51), .call 123 [(.t 0), (.k (.string ⟨#[59]⟩))], none⟩])
 (.seq (.reg [⟨(some 52), .pur (.ld 4 true (.t 5)), none⟩,
   ⟨none, .eff (.st 4 (.t 4) (.t 52)), none⟩])
 (.ret))))))),
 [.cell 4 4 true]⟩
theorem is88 : IsFnO Tryz.prog 88 ir88 := .of 1128116647895692 (by kernel_rfl)
/-- (*pinball/pinballref31.reader).is -/
noncomputable def ir89 : IFn := ⟨26, .seq (.reg [⟨(some 4), .pur (.mv (.k (.bool false))), none⟩])
 (.seq (.reg [⟨(some 7), .call 120 [(.t 0)], none⟩,
   ⟨(some 5), .new (.box (.k (.agg #[.int .i64 0, .string ⟨#[]⟩, .int .i64 0, .int .i64 0]))), none⟩,
   ⟨none, .eff (.st 4 (.t 5) (.t 7)), none⟩])
 (.seq (.reg [⟨(some 9), .call 63 [(.t 0)], none⟩,
   ⟨(some 11), .pur (.fad 0 (.t 5)), some (9, true)⟩,
   ⟨(some 12), .pur (.ld 1 false (.t 11)), some (9, true)⟩,
   ⟨(some 13), .pur (.bin .eql (.t 12) (.k (.int .i64 5))), some (9, true)⟩,
   ⟨(some 14), .pur (.mv (.t 13)), some (9, true)⟩,
   ⟨(some 15), .pur (.fad 0 (.t 5)), some (14, false)⟩,
   ⟨(some 16), .pur (.ld 1 false (.t 15)), some (14, false)⟩,
   ⟨(some 17), .pur (.bin .eql (.t 16) (.k (.int .i64 2))), some (14, false)⟩,
   ⟨(some 18), .pur (.pick (.t 14) (.k (.bool true)) (.t 17)), some (9, true)⟩,
   ⟨(some 19), .pur (.pick (.t 9) (.t 18) (.k (.bool false))), none⟩,
   ⟨(some 21), .pur (.fad 1 (.t 5)), some (19, true)⟩,
   ⟨(some 22), .pur (.ld 1 false (.t 21)), some (19, true)⟩,
   ⟨(some 23), .pur (.mv (.t 1)), some (19, true)⟩,
   ⟨(some 24), .pur (.bin .eql (.t 22) (.t 23)), some (19, true)⟩,
   ⟨(some 25), .pur (.pick (.t 19) (.t 24) (.k (.bool false))), none⟩,
   ⟨(some 4), .pur (.mv (.t 25)), none⟩])
 (.ret))),
 [.tmp 4]⟩
theorem is89 : IsFnO Tryz.prog 89 ir89 := .of 1049932 (by kernel_rfl)
/-- (*pinball/pinballref31.reader).syntax -/
noncomputable def ir90 : IFn := ⟨7, .reg [⟨(some 4), .call 120 [(.t 0)], none⟩,
   ⟨(some 5), .pur (.fld 3 1 false (.t 4)), none⟩,
   ⟨(some 6), .call 119 [(.t 0), (.t 5), (.k (.int .i64 4))], none⟩],
 []⟩
theorem is90 : IsFnO Tryz.prog 90 ir90 := .of 14 (by kernel_rfl)
/-- (*pinball/pinballref31.reader).mode -/
noncomputable def ir91 : IFn := ⟨81, .seq (.reg [⟨(some 2), .new (.box (.k (.agg #[.string ⟨#[]⟩, .int .i64 0, .slice none 0 0, .int .i64 0]))), none⟩])
 (.seq (.reg [⟨(some 7), .call 120 [(.t 0)], none⟩,
   ⟨(some 8), .pur (.fld 3 1 false (.t 7)), none⟩,
   ⟨(some 9), .pur (.bld #[.string ⟨#[]⟩, .int .i64 0, .slice none 0 0, .int .i64 0] [(0, 1), (1, 1), (2, 1), (3, 1)] [(3, (.t 8))]), none⟩,
   ⟨(some 3), .new (.box (.k (.agg #[.string ⟨#[]⟩, .int .i64 0, .slice none 0 0, .int .i64 0]))), none⟩,
   ⟨none, .eff (.st 4 (.t 3) (.t 9)), none⟩])
 (.seq (.reg [⟨(some 11), .call 123 [(.t 0), (.k (.string ⟨#[109, 111, 100, 101]⟩))], none⟩])
 (.seq (.reg [⟨(some 13), .call 121 [(.t 0)], none⟩,
   ⟨(some 14), .pur (.fad 0 (.t 3)), none⟩,
   ⟨none, .eff (.st 1 (.t 14) (.t 13)), none⟩])
 (.seq (.reg [⟨(some 16), .call 122 [(.t 0), (.k (.int .i64 3))], none⟩,
   ⟨(some 17), .pur (.fld 2 1 false (.t 16)), none⟩,
   ⟨(some 18), .pur (.fad 1 (.t 3)), none⟩,
   ⟨none, .eff (.st 1 (.t 18) (.t 17)), none⟩])
 (.seq (.reg [⟨(some 20), .call 123 [(.t 0), (.k (.string ⟨#[123]⟩))], none⟩])
 (.seq (.blk 0 (.loop (.seq (.seq (.reg [⟨(some 22), .call 63 [(.t 0)], none⟩,
     ⟨(some 24), .pur (.mv (.t 0)), some (22, true)⟩,
     ⟨(some 25), .call 89 [(.t 24), (.k (.string ⟨#[125]⟩))], some (22, true)⟩,
     ⟨(some 26), .pur (.un .not (.t 25)), some (22, true)⟩,
     ⟨(some 27), .pur (.pick (.t 22) (.t 26) (.k (.bool false))), none⟩])
   (.cond (.t 27)
    (.skip)
    (.exit 0)))
   (.blk 1 (.seq (.seq (.reg [⟨(some 29), .call 89 [(.t 0), (.k (.string ⟨#[111, 110]⟩))], none⟩,
      ⟨(some 30), .pur (.un .not (.t 29)), none⟩])
    (.cond (.t 30)
     (.seq (.reg [⟨(some 32), .call 90 [(.t 0)], none⟩])
     (.seq (.reg [⟨(some 33), .pur (.ld 4 true (.t 3)), none⟩,
       ⟨none, .eff (.st 4 (.t 2) (.t 33)), none⟩])
     (.ret)))
     (.skip)))
    (.seq (.reg [⟨(some 35), .pur (.fad 2 (.t 3)), none⟩,
      ⟨(some 36), .pur (.ld 1 false (.t 35)), none⟩,
      ⟨(some 37), .pur (.len (.t 36)), none⟩,
      ⟨(some 38), .pur (.bin .add (.t 37) (.k (.int .i64 1))), none⟩,
      ⟨(some 39), .call 87 [(.t 0), (.t 38), (.k (.int .i64 32)), (.k (.int .i64 9))], none⟩])
    (.seq (.reg [⟨(some 41), .call 120 [(.t 0)], none⟩,
      ⟨(some 42), .pur (.fld 3 1 false (.t 41)), none⟩,
      ⟨(some 43), .pur (.bld #[.int .i64 0, .string ⟨#[]⟩, .slice none 0 0, .int .i64 0] [(0, 1), (1, 1), (2, 1), (3, 1)] [(3, (.t 42))]), none⟩,
      ⟨(some 4), .new (.box (.k (.agg #[.int .i64 0, .string ⟨#[]⟩, .slice none 0 0, .int .i64 0]))), none⟩,
      ⟨none, .eff (.st 4 (.t 4) (.t 43)), none⟩])
    (.seq (.reg [⟨(some 45), .call 123 [(.t 0), (.k (.string ⟨#[111, 110]⟩))], none⟩])
    (.seq (.reg [⟨(some 47), .call 124 [], none⟩,
      ⟨(some 48), .call 85 [(.t 0), (.t 47)], none⟩,
      ⟨(some 5), .pur (.mv (.t 48)), none⟩])
    (.seq (.seq (.reg [⟨(some 50), .pur (.bin .lss (.t 5) (.k (.int .i64 0))), none⟩])
    (.cond (.t 50)
     (.seq (.reg [⟨(some 52), .call 90 [(.t 0)], none⟩])
     (.seq (.reg [⟨(some 53), .pur (.ld 4 true (.t 3)), none⟩,
       ⟨none, .eff (.st 4 (.t 2) (.t 53)), none⟩])
     (.ret)))
     (.skip)))
    (.seq (.reg [⟨(some 55), .pur (.nck (.t 0)), none⟩,
      ⟨(some 56), .pur (.fad 2 (.t 55)), none⟩,
      ⟨(some 57), .pur (.ld 1 false (.t 56)), none⟩,
      ⟨(some 58), .pur (.bin .add (.t 57) (.k (.int .i64 1))), none⟩,
      ⟨(some 59), .pur (.nck (.t 0)), none⟩,
      ⟨(some 60), .pur (.fad 2 (.t 59)), none⟩,
      ⟨none, .eff (.st 1 (.t 60) (.t 58)), none⟩])
    (.seq (.reg [⟨(some 62), .pur (.bin .add (.k (.int .i64 1)) (.t 5)), none⟩,
      ⟨(some 63), .pur (.fad 0 (.t 4)), none⟩,
      ⟨none, .eff (.st 1 (.t 63) (.t 62)), none⟩])
    (.seq (.seq (.reg [⟨(some 65), .pur (.bin .geq (.t 5) (.k (.int .i64 2))), none⟩])
    (.cond (.t 65)
     (.reg [⟨(some 67), .call 121 [(.t 0)], none⟩,
       ⟨(some 68), .pur (.fad 1 (.t 4)), none⟩,
       ⟨none, .eff (.st 1 (.t 68) (.t 67)), none⟩])
     (.skip)))
    (.seq (.reg [⟨(some 70), .call 125 [(.t 0), (.k (.int .i64 1))], none⟩,
      ⟨(some 71), .pur (.fad 2 (.t 4)), none⟩,
      ⟨none, .eff (.st 1 (.t 71) (.t 70)), none⟩])
    (.reg [⟨(some 72), .pur (.fad 2 (.t 3)), none⟩,
      ⟨(some 73), .pur (.ld 1 false (.t 72)), none⟩,
      ⟨(some 74), .pur (.ld 4 true (.t 4)), none⟩,
      ⟨(some 75), .new (.bsl 4 1 #[.int .i64 0, .string ⟨#[]⟩, .slice none 0 0, .int .i64 0] [(0, (.t 74))]), none⟩,
      ⟨(some 76), .eff (.app 4 56 (.t 73) (.t 75)), none⟩,
      ⟨(some 77), .pur (.fad 2 (.t 3)), none⟩,
      ⟨none, .eff (.st 1 (.t 77) (.t 76)), none⟩])))))))))))))))
 (.seq (.reg [⟨(some 79), .call 123 [(.t 0), (.k (.string ⟨#[125]⟩))], none⟩])
 (.seq (.reg [⟨(some 80), .pur (.ld 4 true (.t 3)), none⟩,
   ⟨none, .eff (.st 4 (.t 2) (.t 80)), none⟩])
 (.ret))))))))),
 [.cell 2 4 true]⟩
theorem is91 : IsFnO Tryz.prog 91 ir91 := .of 302916311195622086054978 (by kernel_rfl)
/-- pinball/pinballref31.Valid -/
noncomputable def ir92 : IFn := ⟨20, .seq (.reg [⟨(some 1), .new (.box (.t 0)), none⟩,
   ⟨(some 2), .pur (.mv (.k (.bool false))), none⟩])
 (.seq (.reg [⟨(some 5), .pur (.ld 2 true (.t 1)), none⟩,
   ⟨(some 6), .call 126 [(.t 5)], none⟩,
   ⟨(some 7), .pur (.bld #[.slice none 0 0, .int .i64 0, .int .i64 0, .int .i64 0, .int .i64 0, .int .i64 0, .int .i64 0] [(0, 1), (1, 1), (2, 1), (3, 1), (4, 1), (5, 1), (6, 1)] [(0, (.t 6))]), none⟩,
   ⟨(some 8), .new (.box (.t 7)), none⟩,
   ⟨(some 3), .pur (.mv (.t 8)), none⟩])
 (.seq (.reg [⟨(some 10), .call 62 [(.t 3)], none⟩,
   ⟨(some 4), .new (.box (.k (.agg #[.slice none 0 0, .slice none 0 0]))), none⟩,
   ⟨none, .eff (.st 2 (.t 4) (.t 10)), none⟩])
 (.seq (.drw 10 ⟨[⟨(some 11), .pur (.mv (.t 3)), none⟩,
   ⟨(some 12), .call 63 [(.t 11)], none⟩,
   ⟨(some 13), .pur (.mv (.t 12)), none⟩,
   ⟨(some 14), .pur (.ld 2 true (.t 4)), some (13, true)⟩,
   ⟨(some 15), .call 128 [(.t 14)], some (13, true)⟩,
   ⟨(some 16), .pur (.ld 2 true (.t 1)), some (13, true)⟩,
   ⟨(some 17), .call 128 [(.t 16)], some (13, true)⟩,
   ⟨(some 18), .call 127 [(.t 15), (.t 17)], some (13, true)⟩,
   ⟨(some 19), .pur (.pick (.t 13) (.t 18) (.k (.bool false))), none⟩,
   ⟨(some 2), .pur (.mv (.t 19)), none⟩],
   [[], [0], [1, 0], [2, 1, 0], [3, 2, 1, 0], [2, 1, 0], [5, 4, 2, 1, 0, 3], [4, 6, 2, 3, 1, 0, 5], [2, 7, 1, 0, 4, 6, 3, 5], [8, 7, 0, 1, 2, 3, 4, 5, 6]],
   [(0, none), (1, some []), (2, none), (3, none), (5, none), (4, some [5]), (6, some []), (7, some []), (8, none), (9, some [])]⟩)
 (.ret)))),
 [.tmp 2]⟩
theorem is92 : IsFnO Tryz.prog 92 ir92 := .of 512 (by kernel_rfl)
/-- pinball/pinballref32.heads -/
noncomputable def ir93 : IFn := ⟨81, .seq (.reg [⟨(some 1), .new (.box (.t 0)), none⟩,
   ⟨(some 2), .pur (.mv (.k (.int .i64 0))), none⟩,
   ⟨(some 3), .pur (.mv (.k (.int .i64 0))), none⟩])
 (.seq (.seq (.reg [⟨(some 4), .pur (.mv (.k (.int .i64 0))), none⟩])
 (.blk 0 (.loop (.seq (.seq (.reg [⟨(some 13), .pur (.fad 0 (.t 1)), none⟩,
     ⟨(some 14), .pur (.ld 1 false (.t 13)), none⟩,
     ⟨(some 15), .pur (.len (.t 14)), none⟩,
     ⟨(some 16), .pur (.bin .lss (.t 4) (.t 15)), none⟩])
   (.cond (.t 16)
    (.skip)
    (.exit 0)))
   (.seq (.blk 1 (.seq (.reg [⟨(some 19), .pur (.fad 0 (.t 1)), none⟩,
      ⟨(some 20), .pur (.ld 1 false (.t 19)), none⟩,
      ⟨(some 22), .pur (.iad 4 (.t 20) (.t 4)), none⟩,
      ⟨(some 23), .pur (.ld 4 true (.t 22)), none⟩,
      ⟨(some 5), .new (.box (.k (.agg #[.int .i64 0, .string ⟨#[]⟩, .int .i64 0, .int .i64 0]))), none⟩,
      ⟨none, .eff (.st 4 (.t 5) (.t 23)), none⟩])
    (.seq (.seq (.drw 6 ⟨[⟨(some 24), .pur (.fad 2 (.t 5)), none⟩,
      ⟨(some 25), .pur (.ld 1 false (.t 24)), none⟩,
      ⟨(some 26), .pur (.fad 0 (.t 5)), none⟩,
      ⟨(some 27), .pur (.ld 1 false (.t 26)), none⟩,
      ⟨(some 28), .call 129 [(.t 27)], none⟩,
      ⟨(some 29), .pur (.bin .gtr (.t 25) (.t 28)), none⟩],
      [[], [0], [], [2], [3, 2], [1, 4, 0, 3, 2]],
      [(0, none), (1, none), (2, none), (3, none), (4, some [0, 1]), (5, none)]⟩)
    (.cond (.t 29)
     (.seq (.reg [⟨(some 30), .pur (.fad 3 (.t 5)), none⟩,
       ⟨(some 31), .pur (.ld 1 false (.t 30)), none⟩,
       ⟨(some 2), .pur (.mv (.t 31)), none⟩,
       ⟨(some 3), .pur (.mv (.k (.int .i64 5))), none⟩])
     (.ret))
     (.skip)))
    (.seq (.drw 13 ⟨[⟨(some 33), .pur (.fad 0 (.t 1)), none⟩,
      ⟨(some 34), .pur (.ld 1 false (.t 33)), none⟩,
      ⟨(some 35), .pur (.mv (.t 4)), none⟩,
      ⟨(some 36), .pur (.slc 4 (.t 34) none (some (.t 35))), none⟩,
      ⟨(some 37), .pur (.bld #[.slice none 0 0, .slice none 0 0] [(0, 1), (1, 1)] [(0, (.t 36))]), none⟩,
      ⟨(some 38), .pur (.fad 1 (.t 5)), none⟩,
      ⟨(some 39), .pur (.ld 1 false (.t 38)), none⟩,
      ⟨(some 40), .call 130 [(.t 37), (.t 39)], none⟩,
      ⟨(some 32), .pur (.mv (.t 40)), none⟩,
      ⟨(some 41), .pur (.ext (.t 32) 0), none⟩,
      ⟨(some 42), .pur (.ext (.t 32) 1), none⟩,
      ⟨(some 6), .pur (.mv (.t 41)), none⟩,
      ⟨(some 7), .pur (.mv (.t 42)), none⟩],
      [[], [0], [], [1, 2, 0], [3, 1, 2, 0], [], [5], [4, 6, 3, 1, 2, 0, 5], [7, 4, 6, 3, 1, 2, 0, 5], [8, 7, 4, 6, 3, 1, 2, 0, 5], [8, 7, 4, 6, 3, 1, 2, 0, 5], [9, 7, 0, 1, 2, 3, 4, 5, 6, 8], [10, 11, 0, 1, 2, 3, 4, 5, 6, 7, 8, 9]],
      [(0, none), (1, none), (2, none), (3, none), (4, none), (5, none), (6, none), (7, some []), (8, none), (9, none), (10, none), (11, some [10]), (12, some [])]⟩)
    (.seq (.reg [⟨(some 44), .pur (.bin .neq (.t 6) (.k (.int .i64 0))), none⟩])
    (.cond (.t 44)
     (.seq (.reg [⟨(some 45), .pur (.fad 3 (.t 5)), none⟩,
       ⟨(some 46), .pur (.ld 1 false (.t 45)), none⟩,
       ⟨(some 2), .pur (.mv (.t 46)), none⟩,
       ⟨(some 3), .pur (.mv (.k (.int .i64 7))), none⟩])
     (.ret))
     (.skip)))))))
   (.reg [⟨(some 18), .pur (.bin .add (.t 4) (.k (.int .i64 1))), none⟩,
     ⟨(some 4), .pur (.mv (.t 18)), none⟩]))))))
 (.seq (.seq (.reg [⟨(some 8), .pur (.mv (.k (.int .i64 0))), none⟩])
 (.blk 2 (.loop (.seq (.seq (.reg [⟨(some 48), .pur (.fad 1 (.t 1)), none⟩,
     ⟨(some 49), .pur (.ld 1 false (.t 48)), none⟩,
     ⟨(some 50), .pur (.len (.t 49)), none⟩,
     ⟨(some 51), .pur (.bin .lss (.t 8) (.t 50)), none⟩])
   (.cond (.t 51)
    (.skip)
    (.exit 2)))
   (.seq (.blk 3 (.seq (.reg [⟨(some 54), .pur (.fad 1 (.t 1)), none⟩,
      ⟨(some 55), .pur (.ld 1 false (.t 54)), none⟩,
      ⟨(some 57), .pur (.iad 4 (.t 55) (.t 8)), none⟩,
      ⟨(some 58), .pur (.ld 4 true (.t 57)), none⟩,
      ⟨(some 9), .new (.box (.k (.agg #[.string ⟨#[]⟩, .int .i64 0, .slice none 0 0, .int .i64 0]))), none⟩,
      ⟨none, .eff (.st 4 (.t 9) (.t 58)), none⟩])
    (.seq (.seq (.reg [⟨(some 59), .pur (.fad 1 (.t 9)), none⟩,
      ⟨(some 60), .pur (.ld 1 false (.t 59)), none⟩,
      ⟨(some 61), .pur (.bin .gtr (.t 60) (.k (.int .i64 99))), none⟩])
    (.cond (.t 61)
     (.seq (.reg [⟨(some 62), .pur (.fad 3 (.t 9)), none⟩,
       ⟨(some 63), .pur (.ld 1 false (.t 62)), none⟩,
       ⟨(some 2), .pur (.mv (.t 63)), none⟩,
       ⟨(some 3), .pur (.mv (.k (.int .i64 5))), none⟩])
     (.ret))
     (.skip)))
    (.seq (.drw 15 ⟨[⟨(some 65), .pur (.fad 0 (.t 1)), none⟩,
      ⟨(some 66), .pur (.ld 1 false (.t 65)), none⟩,
      ⟨(some 67), .pur (.fad 1 (.t 1)), none⟩,
      ⟨(some 68), .pur (.ld 1 false (.t 67)), none⟩,
      ⟨(some 69), .pur (.mv (.t 8)), none⟩,
      ⟨(some 70), .pur (.slc 4 (.t 68) none (some (.t 69))), none⟩,
      ⟨(some 71), .pur (.bld #[.slice none 0 0, .slice none 0 0] [(0, 1), (1, 1)] [(0, (.t 66)), (1, (.t 70))]), none⟩,
      ⟨(some 72), .pur (.fad 0 (.t 9)), none⟩,
      ⟨(some 73), .pur (.ld 1 false (.t 72)), none⟩,
      ⟨(some 74), .call 130 [(.t 71), (.t 73)], none⟩,
      ⟨(some 64), .pur (.mv (.t 74)), none⟩,
      ⟨(some 75), .pur (.ext (.t 64) 0), none⟩,
      ⟨(some 76), .pur (.ext (.t 64) 1), none⟩,
      ⟨(some 10), .pur (.mv (.t 75)), none⟩,
      ⟨(some 11), .pur (.mv (.t 76)), none⟩],
      [[], [0], [], [2], [], [3, 4, 2], [1, 5, 0, 3, 4, 2], [], [7], [6, 8, 1, 5, 0, 3, 4, 2, 7], [9, 6, 8, 1, 5, 0, 3, 4, 2, 7], [10, 9, 6, 8, 1, 5, 0, 3, 4, 2, 7], [10, 9, 6, 8, 1, 5, 0, 3, 4, 2, 7], [11, 9, 0, 1, 2, 3, 4, 5, 6, 7, 8, 10], [12, 13, 0, 1, 2, 3, 4, 5, 6, 7, 8, 9, 10, 11]],
      [(0, none), (1, none), (2, none), (3, none), (4, none), (5, none), (6, none), (7, none), (8, none), (9, some []), (10, none), (11, none), (12, none), (13, some [12]), (14, some [])]⟩)
    (.seq (.reg [⟨(some 78), .pur (.bin .neq (.t 10) (.k (.int .i64 0))), none⟩])
    (.cond (.t 78)
     (.seq (.reg [⟨(some 79), .pur (.fad 3 (.t 9)), none⟩,
       ⟨(some 80), .pur (.ld 1 false (.t 79)), none⟩,
       ⟨(some 2), .pur (.mv (.t 80)), none⟩,
       ⟨(some 3), .pur (.mv (.k (.int .i64 7))), none⟩])
     (.ret))
     (.skip)))))))
   (.reg [⟨(some 53), .pur (.bin .add (.t 8) (.k (.int .i64 1))), none⟩,
     ⟨(some 8), .pur (.mv (.t 53)), none⟩]))))))
 (.seq (.reg [⟨(some 2), .pur (.mv (.k (.int .i64 0))), none⟩,
   ⟨(some 3), .pur (.mv (.k (.int .i64 0))), none⟩])
 (.ret)))),
 [.tmp 2, .tmp 3]⟩
theorem is93 : IsFnO Tryz.prog 93 ir93 := .of 151115804162555895746560 (by kernel_rfl)
/-- pinball/pinballref32.denotes -/
noncomputable def ir94 : IFn := ⟨26, .seq (.reg [⟨(some 3), .new (.box (.t 0)), none⟩,
   ⟨(some 6), .pur (.mv (.k (.int .i64 0))), none⟩])
 (.seq (.reg [⟨(some 10), .pur (.ld 2 true (.t 3)), none⟩,
   ⟨(some 12), .call 130 [(.t 10), (.t 1)], none⟩,
   ⟨(some 13), .pur (.ext (.t 12) 0), none⟩,
   ⟨(some 14), .pur (.ext (.t 12) 1), none⟩,
   ⟨(some 7), .pur (.mv (.t 13)), none⟩])
 (.seq (.blk 0 (.seq (.reg [⟨(some 17), .pur (.bin .eql (.t 2) (.k (.int .i64 0))), none⟩,
    ⟨(some 19), .pur (.mv (.t 7)), some (17, false)⟩,
    ⟨(some 20), .pur (.mv (.t 2)), some (17, false)⟩,
    ⟨(some 21), .pur (.bin .eql (.t 19) (.t 20)), some (17, false)⟩,
    ⟨(some 22), .pur (.pick (.t 17) (.k (.bool true)) (.t 21)), none⟩,
    ⟨(some 15), .pur (.mv (.t 22)), none⟩])
  (.cond (.t 15)
   (.seq (.reg [⟨(some 6), .pur (.mv (.k (.int .i64 0))), none⟩])
   (.ret))
   (.seq (.reg [⟨(some 25), .pur (.bin .eql (.t 7) (.k (.int .i64 0))), none⟩,
     ⟨(some 23), .pur (.mv (.t 25)), none⟩])
   (.cond (.t 23)
    (.seq (.reg [⟨(some 6), .pur (.mv (.k (.int .i64 8))), none⟩])
    (.ret))
    (.skip))))))
 (.seq (.reg [⟨(some 6), .pur (.mv (.k (.int .i64 44))), none⟩])
 (.ret)))),
 [.tmp 6]⟩
theorem is94 : IsFnO Tryz.prog 94 ir94 := .of 17107760 (by kernel_rfl)
/-- pinball/pinballref32.triggerKind -/
noncomputable def ir95 : IFn := ⟨11, .seq (.reg [⟨(some 2), .pur (.mv (.k (.int .i64 0))), none⟩])
 (.seq (.seq (.reg [⟨(some 3), .pur (.mv (.t 0)), none⟩])
 (.blk 0 (.seq (.seq (.reg [⟨(some 5), .pur (.bin .eql (.t 3) (.k (.int .i64 3))), none⟩,
    ⟨(some 4), .pur (.mv (.t 5)), none⟩])
  (.cond (.t 4)
   (.skip)
   (.reg [⟨(some 6), .pur (.bin .eql (.t 3) (.k (.int .i64 4))), none⟩,
     ⟨(some 4), .pur (.mv (.t 6)), none⟩])))
  (.cond (.t 4)
   (.seq (.reg [⟨(some 2), .pur (.mv (.k (.int .i64 1))), none⟩])
   (.ret))
   (.seq (.reg [⟨(some 8), .pur (.bin .eql (.t 3) (.k (.int .i64 5))), none⟩,
     ⟨(some 7), .pur (.mv (.t 8)), none⟩])
   (.cond (.t 7)
    (.seq (.reg [⟨(some 2), .pur (.mv (.k (.int .i64 7))), none⟩])
    (.ret))
    (.seq (.reg [⟨(some 10), .pur (.bin .eql (.t 3) (.k (.int .i64 6))), none⟩,
      ⟨(some 9), .pur (.mv (.t 10)), none⟩])
    (.cond (.t 9)
     (.seq (.reg [⟨(some 2), .pur (.mv (.k (.int .i64 8))), none⟩])
     (.ret))
     (.skip)))))))))
 (.seq (.reg [⟨(some 2), .pur (.mv (.k (.int .i64 0))), none⟩])
 (.ret))),
 [.tmp 2]⟩
theorem is95 : IsFnO Tryz.prog 95 ir95 := .of 2 (by kernel_rfl)
/-- pinball/pinballref32.stmts -/
noncomputable def ir96 : IFn := ⟨95, .seq (.reg [⟨(some 2), .new (.box (.t 0)), none⟩,
   ⟨(some 4), .pur (.mv (.k (.int .i64 0))), none⟩,
   ⟨(some 5), .pur (.mv (.k (.int .i64 0))), none⟩])
 (.seq (.seq (.reg [⟨(some 6), .pur (.mv (.k (.int .i64 0))), none⟩])
 (.blk 0 (.loop (.seq (.seq (.reg [⟨(some 19), .pur (.len (.t 1)), none⟩,
     ⟨(some 20), .pur (.bin .lss (.t 6) (.t 19)), none⟩])
   (.cond (.t 20)
    (.skip)
    (.exit 0)))
   (.seq (.blk 1 (.seq (.reg [⟨(some 25), .pur (.iad 7 (.t 1) (.t 6)), none⟩,
      ⟨(some 26), .pur (.ld 7 true (.t 25)), none⟩,
      ⟨(some 7), .new (.box (.k (.agg #[.int .i64 0, .string ⟨#[]⟩, .string ⟨#[]⟩, .slice none 0 0, .slice none 0 0, .slice none 0 0, .int .i64 0]))), none⟩,
      ⟨none, .eff (.st 7 (.t 7) (.t 26)), none⟩])
    (.seq (.seq (.drw 8 ⟨[⟨(some 27), .pur (.ld 2 true (.t 2)), none⟩,
      ⟨(some 28), .pur (.fad 1 (.t 7)), none⟩,
      ⟨(some 29), .pur (.ld 1 false (.t 28)), none⟩,
      ⟨(some 30), .pur (.fad 0 (.t 7)), none⟩,
      ⟨(some 31), .pur (.ld 1 false (.t 30)), none⟩,
      ⟨(some 32), .call 131 [(.t 31)], none⟩,
      ⟨(some 33), .call 94 [(.t 27), (.t 29), (.t 32)], none⟩,
      ⟨(some 8), .pur (.mv (.t 33)), none⟩],
      [[], [], [1], [], [3], [4, 3], [0, 2, 5, 1, 4, 3], [6, 0, 1, 2, 3, 4, 5]],
      [(0, none), (1, none), (2, none), (3, none), (4, none), (5, some [0, 1, 2]), (6, some []), (7, some [])]⟩)
    (.seq (.reg [⟨(some 35), .pur (.bin .neq (.t 8) (.k (.int .i64 0))), none⟩])
    (.cond (.t 35)
     (.seq (.reg [⟨(some 36), .pur (.fad 6 (.t 7)), none⟩,
       ⟨(some 37), .pur (.ld 1 false (.t 36)), none⟩,
       ⟨(some 4), .pur (.mv (.t 37)), none⟩,
       ⟨(some 5), .pur (.mv (.t 8)), none⟩])
     (.ret))
     (.skip))))
    (.seq (.seq (.reg [⟨(some 9), .pur (.mv (.k (.int .i64 0))), none⟩])
    (.blk 2 (.loop (.seq (.seq (.reg [⟨(some 40), .pur (.fad 3 (.t 7)), none⟩,
        ⟨(some 41), .pur (.ld 1 false (.t 40)), none⟩,
        ⟨(some 42), .pur (.len (.t 41)), none⟩,
        ⟨(some 43), .pur (.bin .lss (.t 9) (.t 42)), none⟩])
      (.cond (.t 43)
       (.skip)
       (.exit 2)))
      (.seq (.blk 3 (.seq (.drw 14 ⟨[⟨(some 47), .pur (.ld 2 true (.t 2)), none⟩,
         ⟨(some 48), .pur (.fad 3 (.t 7)), none⟩,
         ⟨(some 49), .pur (.ld 1 false (.t 48)), none⟩,
         ⟨(some 50), .pur (.mv (.t 9)), none⟩,
         ⟨(some 51), .pur (.iad 5 (.t 49) (.t 50)), none⟩,
         ⟨(some 52), .pur (.ld 5 true (.t 51)), none⟩,
         ⟨(some 53), .call 132 [(.t 47), (.t 52)], none⟩,
         ⟨(some 46), .pur (.mv (.t 53)), none⟩,
         ⟨(some 54), .pur (.ext (.t 46) 0), none⟩,
         ⟨(some 55), .pur (.ext (.t 46) 1), none⟩,
         ⟨(some 56), .pur (.ext (.t 46) 2), none⟩,
         ⟨(some 10), .pur (.mv (.t 54)), none⟩,
         ⟨(some 11), .pur (.mv (.t 55)), none⟩,
         ⟨(some 12), .pur (.mv (.t 56)), none⟩],
         [[], [], [1], [], [2, 3, 1], [4, 2, 3, 1], [0, 5, 4, 2, 3, 1], [6, 0, 5, 4, 2, 3, 1], [7, 6, 0, 5, 4, 2, 3, 1], [7, 6, 0, 5, 4, 2, 3, 1], [7, 6, 0, 5, 4, 2, 3, 1], [8, 6, 0, 1, 2, 3, 4, 5, 7], [9, 11, 0, 1, 2, 3, 4, 5, 6, 7, 8], [10, 12, 0, 1, 2, 3, 4, 5, 6, 7, 8, 9, 11]],
         [(0, none), (1, none), (2, none), (3, none), (4, none), (5, none), (6, some []), (7, none), (8, none), (9, none), (10, none), (11, some [9, 10]), (12, some [10]), (13, some [])]⟩)
       (.seq (.seq (.reg [⟨(some 58), .pur (.bin .neq (.t 12) (.k (.int .i64 0))), none⟩])
       (.cond (.t 58)
        (.seq (.reg [⟨(some 4), .pur (.mv (.t 11)), none⟩,
          ⟨(some 5), .pur (.mv (.t 12)), none⟩])
        (.ret))
        (.skip)))
       (.seq (.reg [⟨(some 62), .pur (.bin .eql (.t 10) (.k (.int .i64 2))), none⟩,
         ⟨(some 63), .pur (.fad 0 (.t 7)), none⟩,
         ⟨(some 64), .pur (.ld 1 false (.t 63)), none⟩,
         ⟨(some 65), .pur (.bin .eql (.t 64) (.k (.int .i64 2))), none⟩,
         ⟨(some 66), .pur (.eqb true (.t 62) (.t 65)), none⟩])
       (.cond (.t 66)
        (.seq (.reg [⟨(some 67), .pur (.fad 3 (.t 7)), none⟩,
          ⟨(some 68), .pur (.ld 1 false (.t 67)), none⟩,
          ⟨(some 70), .pur (.iad 5 (.t 68) (.t 9)), none⟩,
          ⟨(some 71), .pur (.fad 4 (.t 70)), none⟩,
          ⟨(some 72), .pur (.ld 1 false (.t 71)), none⟩,
          ⟨(some 4), .pur (.mv (.t 72)), none⟩,
          ⟨(some 5), .pur (.mv (.k (.int .i64 49))), none⟩])
        (.ret))
        (.skip))))))
      (.reg [⟨(some 45), .pur (.bin .add (.t 9) (.k (.int .i64 1))), none⟩,
        ⟨(some 9), .pur (.mv (.t 45)), none⟩]))))))
    (.seq (.seq (.reg [⟨(some 74), .pur (.ld 2 true (.t 2)), none⟩,
      ⟨(some 75), .pur (.fad 4 (.t 7)), none⟩,
      ⟨(some 76), .pur (.ld 1 false (.t 75)), none⟩,
      ⟨(some 77), .call 96 [(.t 74), (.t 76)], none⟩,
      ⟨(some 78), .pur (.ext (.t 77) 0), none⟩,
      ⟨(some 79), .pur (.ext (.t 77) 1), none⟩,
      ⟨(some 13), .pur (.mv (.t 78)), none⟩,
      ⟨(some 14), .pur (.mv (.t 79)), none⟩])
    (.seq (.reg [⟨(some 81), .pur (.bin .neq (.t 14) (.k (.int .i64 0))), none⟩])
    (.cond (.t 81)
     (.seq (.reg [⟨(some 4), .pur (.mv (.t 13)), none⟩,
       ⟨(some 5), .pur (.mv (.t 14)), none⟩])
     (.ret))
     (.skip))))
    (.seq (.reg [⟨(some 85), .pur (.ld 2 true (.t 2)), none⟩,
      ⟨(some 86), .pur (.fad 5 (.t 7)), none⟩,
      ⟨(some 87), .pur (.ld 1 false (.t 86)), none⟩,
      ⟨(some 88), .call 96 [(.t 85), (.t 87)], none⟩,
      ⟨(some 89), .pur (.ext (.t 88) 0), none⟩,
      ⟨(some 90), .pur (.ext (.t 88) 1), none⟩,
      ⟨(some 15), .pur (.mv (.t 89)), none⟩,
      ⟨(some 16), .pur (.mv (.t 90)), none⟩])
    (.seq (.reg [⟨(some 92), .pur (.bin .neq (.t 16) (.k (.int .i64 0))), none⟩])
    (.cond (.t 92)
     (.seq (.reg [⟨(some 4), .pur (.mv (.t 15)), none⟩,
       ⟨(some 5), .pur (.mv (.t 16)), none⟩])
     (.ret))
     (.skip)))))))))
   (.reg [⟨(some 22), .pur (.bin .add (.t 6) (.k (.int .i64 1))), none⟩,
     ⟨(some 6), .pur (.mv (.t 22)), none⟩]))))))
 (.seq (.reg [⟨(some 4), .pur (.mv (.k (.int .i64 0))), none⟩,
   ⟨(some 5), .pur (.mv (.k (.int .i64 0))), none⟩])
 (.ret))),
 [.tmp 4, .tmp 5]⟩
theorem is96 : IsFnO Tryz.prog 96 ir96 := .of 32221509909396846379666898952 (by kernel_rfl)
/-- pinball/pinballref32.count -/
noncomputable def ir97 : IFn := ⟨30, .seq (.reg [⟨(some 2), .new (.box (.t 0)), none⟩,
   ⟨(some 4), .pur (.mv (.k (.int .i64 0))), none⟩])
 (.seq (.seq (.reg [⟨(some 8), .pur (.bin .eql (.t 1) (.k (.int .i64 9))), none⟩])
 (.cond (.t 8)
  (.seq (.reg [⟨(some 9), .pur (.fad 1 (.t 2)), none⟩,
    ⟨(some 10), .pur (.ld 1 false (.t 9)), none⟩,
    ⟨(some 11), .pur (.len (.t 10)), none⟩,
    ⟨(some 4), .pur (.mv (.t 11)), none⟩])
  (.ret))
  (.skip)))
 (.seq (.reg [⟨(some 5), .pur (.mv (.k (.int .i64 0))), none⟩])
 (.seq (.seq (.reg [⟨(some 6), .pur (.mv (.k (.int .i64 0))), none⟩])
 (.blk 0 (.loop (.seq (.seq (.reg [⟨(some 13), .pur (.fad 0 (.t 2)), none⟩,
     ⟨(some 14), .pur (.ld 1 false (.t 13)), none⟩,
     ⟨(some 15), .pur (.len (.t 14)), none⟩,
     ⟨(some 16), .pur (.bin .lss (.t 6) (.t 15)), none⟩])
   (.cond (.t 16)
    (.skip)
    (.exit 0)))
   (.seq (.blk 1 (.seq (.reg [⟨(some 19), .pur (.fad 0 (.t 2)), none⟩,
      ⟨(some 20), .pur (.ld 1 false (.t 19)), none⟩,
      ⟨(some 22), .pur (.iad 4 (.t 20) (.t 6)), none⟩,
      ⟨(some 23), .pur (.fad 0 (.t 22)), none⟩,
      ⟨(some 24), .pur (.ld 1 false (.t 23)), none⟩,
      ⟨(some 26), .pur (.bin .eql (.t 24) (.t 1)), none⟩])
    (.cond (.t 26)
     (.reg [⟨(some 28), .pur (.bin .add (.t 5) (.k (.int .i64 1))), none⟩,
       ⟨(some 5), .pur (.mv (.t 28)), none⟩])
     (.skip))))
   (.reg [⟨(some 18), .pur (.bin .add (.t 6) (.k (.int .i64 1))), none⟩,
     ⟨(some 6), .pur (.mv (.t 18)), none⟩]))))))
 (.seq (.reg [⟨(some 4), .pur (.mv (.t 5)), none⟩])
 (.ret))))),
 [.tmp 4]⟩
theorem is97 : IsFnO Tryz.prog 97 ir97 := .of 706875528 (by kernel_rfl)
/-- (*pinball/pinballref34.compiler).number -/
noncomputable def ir98 : IFn := ⟨17, .seq (.reg [⟨(some 4), .pur (.mv (.k (.int .i64 0))), none⟩])
 (.seq (.reg [⟨(some 9), .pur (.nck (.t 0)), none⟩,
   ⟨(some 10), .pur (.fad 0 (.t 9)), none⟩,
   ⟨(some 11), .pur (.ld 2 true (.t 10)), none⟩,
   ⟨(some 13), .call 133 [(.t 11), (.t 1)], none⟩,
   ⟨(some 14), .pur (.ext (.t 13) 0), none⟩,
   ⟨(some 15), .pur (.ext (.t 13) 1), none⟩,
   ⟨(some 6), .pur (.mv (.t 15)), none⟩])
 (.seq (.reg [⟨(some 4), .pur (.mv (.t 6)), none⟩])
 (.ret))),
 [.tmp 4]⟩
theorem is98 : IsFnO Tryz.prog 98 ir98 := .of 70060 (by kernel_rfl)
/-- (*pinball/pinballref34.compiler).stmt -/
noncomputable def ir99 : IFn := ⟨126, .seq (.reg [⟨(some 3), .new (.box (.t 1)), none⟩])
 (.seq (.seq (.reg [⟨(some 4), .pur (.mv (.k (.int .i64 0))), none⟩])
 (.blk 0 (.loop (.seq (.seq (.reg [⟨(some 9), .pur (.fad 3 (.t 3)), none⟩,
     ⟨(some 10), .pur (.ld 1 false (.t 9)), none⟩,
     ⟨(some 11), .pur (.len (.t 10)), none⟩,
     ⟨(some 12), .pur (.bin .lss (.t 4) (.t 11)), none⟩])
   (.cond (.t 12)
    (.skip)
    (.exit 0)))
   (.seq (.blk 1 (.reg [⟨(some 16), .pur (.fad 3 (.t 3)), none⟩,
      ⟨(some 17), .pur (.ld 1 false (.t 16)), none⟩,
      ⟨(some 19), .pur (.iad 5 (.t 17) (.t 4)), none⟩,
      ⟨(some 20), .pur (.ld 5 true (.t 19)), none⟩,
      ⟨(some 21), .call 134 [(.t 0), (.t 20)], none⟩]))
   (.reg [⟨(some 14), .pur (.bin .add (.t 4) (.k (.int .i64 1))), none⟩,
     ⟨(some 4), .pur (.mv (.t 14)), none⟩]))))))
 (.seq (.reg [⟨(some 22), .pur (.fad 0 (.t 3)), none⟩,
   ⟨(some 23), .pur (.ld 1 false (.t 22)), none⟩])
 (.blk 2 (.seq (.reg [⟨(some 34), .pur (.bin .eql (.t 23) (.k (.int .i64 2))), none⟩,
    ⟨(some 33), .pur (.mv (.t 34)), none⟩])
  (.cond (.t 33)
   (.seq (.reg [⟨(some 36), .call 68 [(.t 0), (.k (.int .i64 13)), (.k (.int .i64 0))], none⟩,
     ⟨(some 5), .pur (.mv (.t 36)), none⟩])
   (.seq (.reg [⟨(some 38), .pur (.fad 4 (.t 3)), none⟩,
     ⟨(some 39), .pur (.ld 1 false (.t 38)), none⟩,
     ⟨(some 40), .call 67 [(.t 0), (.t 39)], none⟩])
   (.seq (.seq (.reg [⟨(some 41), .pur (.fad 5 (.t 3)), none⟩,
     ⟨(some 42), .pur (.ld 1 false (.t 41)), none⟩,
     ⟨(some 43), .pur (.len (.t 42)), none⟩,
     ⟨(some 44), .pur (.bin .gtr (.t 43) (.k (.int .i64 0))), none⟩])
   (.cond (.t 44)
    (.seq (.reg [⟨(some 46), .call 68 [(.t 0), (.k (.int .i64 12)), (.k (.int .i64 0))], none⟩,
      ⟨(some 6), .pur (.mv (.t 46)), none⟩])
    (.seq (.drw 13 ⟨[⟨(some 47), .pur (.mv (.t 0)), none⟩,
      ⟨(some 48), .pur (.nck (.t 47)), none⟩,
      ⟨(some 49), .pur (.fad 2 (.t 48)), none⟩,
      ⟨(some 50), .pur (.ld 1 false (.t 49)), none⟩,
      ⟨(some 51), .pur (.mv (.t 5)), none⟩,
      ⟨(some 52), .pur (.mv (.t 0)), none⟩,
      ⟨(some 53), .pur (.nck (.t 52)), none⟩,
      ⟨(some 54), .pur (.fad 2 (.t 53)), none⟩,
      ⟨(some 55), .pur (.ld 1 false (.t 54)), none⟩,
      ⟨(some 56), .pur (.len (.t 55)), none⟩,
      ⟨(some 57), .pur (.iad 2 (.t 50) (.t 51)), none⟩,
      ⟨(some 58), .pur (.fad 1 (.t 57)), none⟩,
      ⟨none, .eff (.st 1 (.t 58) (.t 56)), none⟩],
      [[], [0], [1, 0], [2, 1, 0], [], [], [5], [6, 5], [7, 6, 5], [8, 7, 6, 5], [3, 4, 0, 1, 2, 5, 6, 7, 8, 9], [10, 0, 1, 2, 3, 4, 5, 6, 7, 8, 9], [11, 9, 0, 1, 2, 3, 4, 5, 6, 7, 8, 10]],
      [(0, none), (1, none), (2, none), (3, none), (4, none), (5, none), (6, none), (7, none), (8, none), (9, none), (10, none), (11, none), (12, some [])]⟩)
    (.seq (.reg [⟨(some 60), .pur (.fad 5 (.t 3)), none⟩,
      ⟨(some 61), .pur (.ld 1 false (.t 60)), none⟩,
      ⟨(some 62), .call 67 [(.t 0), (.t 61)], none⟩])
    (.seq (.drw 13 ⟨[⟨(some 63), .pur (.mv (.t 0)), none⟩,
      ⟨(some 64), .pur (.nck (.t 63)), none⟩,
      ⟨(some 65), .pur (.fad 2 (.t 64)), none⟩,
      ⟨(some 66), .pur (.ld 1 false (.t 65)), none⟩,
      ⟨(some 67), .pur (.mv (.t 6)), none⟩,
      ⟨(some 68), .pur (.mv (.t 0)), none⟩,
      ⟨(some 69), .pur (.nck (.t 68)), none⟩,
      ⟨(some 70), .pur (.fad 2 (.t 69)), none⟩,
      ⟨(some 71), .pur (.ld 1 false (.t 70)), none⟩,
      ⟨(some 72), .pur (.len (.t 71)), none⟩,
      ⟨(some 73), .pur (.iad 2 (.t 66) (.t 67)), none⟩,
      ⟨(some 74), .pur (.fad 1 (.t 73)), none⟩,
      ⟨none, .eff (.st 1 (.t 74) (.t 72)), none⟩],
      [[], [0], [1, 0], [2, 1, 0], [], [], [5], [6, 5], [7, 6, 5], [8, 7, 6, 5], [3, 4, 0, 1, 2, 5, 6, 7, 8, 9], [10, 0, 1, 2, 3, 4, 5, 6, 7, 8, 9], [11, 9, 0, 1, 2, 3, 4, 5, 6, 7, 8, 10]],
      [(0, none), (1, none), (2, none), (3, none), (4, none), (5, none), (6, none), (7, none), (8, none), (9, none), (10, none), (11, none), (12, some [])]⟩)
    (.ret)))))
    (.skip)))
   (.drw 13 ⟨[⟨(some 75), .pur (.mv (.t 0)), none⟩,
     ⟨(some 76), .pur (.nck (.t 75)), none⟩,
     ⟨(some 77), .pur (.fad 2 (.t 76)), none⟩,
     ⟨(some 78), .pur (.ld 1 false (.t 77)), none⟩,
     ⟨(some 79), .pur (.mv (.t 5)), none⟩,
     ⟨(some 80), .pur (.mv (.t 0)), none⟩,
     ⟨(some 81), .pur (.nck (.t 80)), none⟩,
     ⟨(some 82), .pur (.fad 2 (.t 81)), none⟩,
     ⟨(some 83), .pur (.ld 1 false (.t 82)), none⟩,
     ⟨(some 84), .pur (.len (.t 83)), none⟩,
     ⟨(some 85), .pur (.iad 2 (.t 78) (.t 79)), none⟩,
     ⟨(some 86), .pur (.fad 1 (.t 85)), none⟩,
     ⟨none, .eff (.st 1 (.t 86) (.t 84)), none⟩],
     [[], [0], [1, 0], [2, 1, 0], [], [], [5], [6, 5], [7, 6, 5], [8, 7, 6, 5], [3, 4, 0, 1, 2, 5, 6, 7, 8, 9], [10, 0, 1, 2, 3, 4, 5, 6, 7, 8, 9], [11, 9, 0, 1, 2, 3, 4, 5, 6, 7, 8, 10]],
     [(0, none), (1, none), (2, none), (3, none), (4, none), (5, none), (6, none), (7, none), (8, none), (9, none), (10, none), (11, none), (12, some [])]⟩))))
   (.seq (.reg [⟨(some 88), .pur (.bin .eql (.t 23) (.k (.int .i64 3))), none⟩,
     ⟨(some 87), .pur (.mv (.t 88)), none⟩])
   (.cond (.t 87)
    (.seq (.reg [⟨(some 90), .call 68 [(.t 0), (.k (.int .i64 14)), (.k (.int .i64 0))], none⟩,
      ⟨(some 7), .pur (.mv (.t 90)), none⟩])
    (.seq (.reg [⟨(some 92), .pur (.fad 4 (.t 3)), none⟩,
      ⟨(some 93), .pur (.ld 1 false (.t 92)), none⟩,
      ⟨(some 94), .call 67 [(.t 0), (.t 93)], none⟩])
    (.seq (.reg [⟨(some 97), .call 68 [(.t 0), (.k (.int .i64 12)), (.t 7)], none⟩])
    (.drw 13 ⟨[⟨(some 98), .pur (.mv (.t 0)), none⟩,
      ⟨(some 99), .pur (.nck (.t 98)), none⟩,
      ⟨(some 100), .pur (.fad 2 (.t 99)), none⟩,
      ⟨(some 101), .pur (.ld 1 false (.t 100)), none⟩,
      ⟨(some 102), .pur (.mv (.t 7)), none⟩,
      ⟨(some 103), .pur (.mv (.t 0)), none⟩,
      ⟨(some 104), .pur (.nck (.t 103)), none⟩,
      ⟨(some 105), .pur (.fad 2 (.t 104)), none⟩,
      ⟨(some 106), .pur (.ld 1 false (.t 105)), none⟩,
      ⟨(some 107), .pur (.len (.t 106)), none⟩,
      ⟨(some 108), .pur (.iad 2 (.t 101) (.t 102)), none⟩,
      ⟨(some 109), .pur (.fad 1 (.t 108)), none⟩,
      ⟨none, .eff (.st 1 (.t 109) (.t 107)), none⟩],
      [[], [0], [1, 0], [2, 1, 0], [], [], [5], [6, 5], [7, 6, 5], [8, 7, 6, 5], [3, 4, 0, 1, 2, 5, 6, 7, 8, 9], [10, 0, 1, 2, 3, 4, 5, 6, 7, 8, 9], [11, 9, 0, 1, 2, 3, 4, 5, 6, 7, 8, 10]],
      [(0, none), (1, none), (2, none), (3, none), (4, none), (5, none), (6, none), (7, none), (8, none), (9, none), (10, none), (11, none), (12, some [])]⟩))))
    (.seq (.reg [⟨(some 111), .pur (.bin .eql (.t 23) (.k (.int .i64 18))), none⟩,
      ⟨(some 110), .pur (.mv (.t 111)), none⟩])
    (.cond (.t 110)
     (.reg [⟨(some 114), .pur (.fad 2 (.t 3)), none⟩,
       ⟨(some 115), .pur (.ld 1 false (.t 114)), none⟩,
       ⟨(some 116), .call 135 [(.t 0), (.t 115)], none⟩,
       ⟨(some 117), .call 68 [(.t 0), (.k (.int .i64 29)), (.t 116)], none⟩])
     (.seq (.seq (.reg [⟨(some 119), .pur (.bin .eql (.t 23) (.k (.int .i64 4))), none⟩,
       ⟨(some 118), .pur (.mv (.t 119)), none⟩])
     (.cond (.t 118)
      (.skip)
      (.reg [⟨(some 120), .pur (.bin .eql (.t 23) (.k (.int .i64 19))), none⟩,
        ⟨(some 118), .pur (.mv (.t 120)), none⟩])))
     (.cond (.t 118)
      (.reg [⟨(some 122), .pur (.fad 0 (.t 3)), none⟩,
        ⟨(some 123), .pur (.ld 1 false (.t 122)), none⟩,
        ⟨(some 124), .call 136 [(.t 123)], none⟩,
        ⟨(some 125), .call 68 [(.t 0), (.t 124), (.k (.int .i64 0))], none⟩])
      (.drw 9 ⟨[⟨(some 24), .pur (.mv (.t 0)), none⟩,
        ⟨(some 25), .pur (.fad 0 (.t 3)), none⟩,
        ⟨(some 26), .pur (.ld 1 false (.t 25)), none⟩,
        ⟨(some 27), .call 136 [(.t 26)], none⟩,
        ⟨(some 28), .pur (.mv (.t 0)), none⟩,
        ⟨(some 29), .pur (.fad 1 (.t 3)), none⟩,
        ⟨(some 30), .pur (.ld 1 false (.t 29)), none⟩,
        ⟨(some 31), .call 98 [(.t 28), (.t 30)], none⟩,
        ⟨(some 32), .call 68 [(.t 24), (.t 27), (.t 31)], none⟩],
        [[], [], [1], [2, 1], [], [], [5], [4, 6, 3, 5, 2, 1], [0, 3, 7, 2, 1, 4, 6, 5]],
        [(0, none), (1, none), (2, none), (4, none), (5, none), (6, none), (3, some [0, 4, 5, 6]), (7, some [0]), (8, some [])]⟩)))))))))))),
 []⟩
theorem is99 : IsFnO Tryz.prog 99 ir99 := .of 2674033004082530098879658795586593028 (by kernel_rfl)
/-- pinball/bytecode.within -/
noncomputable def ir100 : IFn := ⟨15, .seq (.reg [⟨(some 6), .pur (.mv (.k (.bool false))), none⟩])
 (.seq (.reg [⟨(some 9), .pur (.bin .geq (.t 0) (.t 1)), none⟩,
   ⟨(some 11), .pur (.mv (.t 0)), some (9, true)⟩,
   ⟨(some 12), .pur (.mv (.t 2)), some (9, true)⟩,
   ⟨(some 13), .pur (.bin .leq (.t 11) (.t 12)), some (9, true)⟩,
   ⟨(some 14), .pur (.pick (.t 9) (.t 13) (.k (.bool false))), none⟩,
   ⟨(some 6), .pur (.mv (.t 14)), none⟩])
 (.ret)),
 [.tmp 6]⟩
theorem is100 : IsFnO Tryz.prog 100 ir100 := .of 1464 (by kernel_rfl)
/-- slices.ContainsFunc[[]string,string] -/
noncomputable def ir101 : IFn := ⟨9, .seq (.reg [⟨(some 4), .pur (.mv (.k (.bool false))), none⟩])
 (.seq (.reg [⟨(some 7), .call 137 [(.t 0), (.t 1)], none⟩,
   ⟨(some 8), .pur (.bin .geq (.t 7) (.k (.int .i64 0))), none⟩,
   ⟨(some 4), .pur (.mv (.t 8)), none⟩])
 (.ret)),
 [.tmp 4]⟩
theorem is101 : IsFnO Tryz.prog 101 ir101 := .of 108 (by kernel_rfl)
/-- pinball/bytecode.parts$1 -/
noncomputable def ir102 : IFn := ⟨6, .seq (.reg [⟨(some 2), .pur (.mv (.k (.bool false))), none⟩])
 (.seq (.reg [⟨(some 4), .call 103 [(.t 0)], none⟩,
   ⟨(some 5), .pur (.un .not (.t 4)), none⟩,
   ⟨(some 2), .pur (.mv (.t 5)), none⟩])
 (.ret)),
 [.tmp 2]⟩
theorem is102 : IsFnO Tryz.prog 102 ir102 := .of 10 (by kernel_rfl)
/-- pinball/bytecode.isText -/
noncomputable def ir103 : IFn := ⟨23, .seq (.reg [⟨(some 2), .pur (.mv (.k (.bool false))), none⟩])
 (.seq (.seq (.reg [⟨(some 3), .pur (.mv (.k (.int .i64 0))), none⟩])
 (.blk 0 (.loop (.seq (.seq (.reg [⟨(some 6), .pur (.lens (.t 0)), none⟩,
     ⟨(some 7), .pur (.bin .lss (.t 3) (.t 6)), none⟩])
   (.cond (.t 7)
    (.skip)
    (.exit 0)))
   (.seq (.blk 1 (.seq (.reg [⟨(some 12), .pur (.idx (.t 0) (.t 3)), none⟩,
      ⟨(some 13), .pur (.bin .lss (.t 12) (.k (.int .u8 32))), none⟩,
      ⟨(some 15), .pur (.mv (.t 0)), some (13, false)⟩,
      ⟨(some 16), .pur (.mv (.t 3)), some (13, false)⟩,
      ⟨(some 17), .pur (.idx (.t 15) (.t 16)), some (13, false)⟩,
      ⟨(some 18), .pur (.bin .gtr (.t 17) (.k (.int .u8 126))), some (13, false)⟩,
      ⟨(some 19), .pur (.pick (.t 13) (.k (.bool true)) (.t 18)), none⟩])
    (.cond (.t 19)
     (.seq (.reg [⟨(some 2), .pur (.mv (.k (.bool false))), none⟩])
     (.ret))
     (.skip))))
   (.reg [⟨(some 9), .pur (.bin .add (.t 3) (.k (.int .i64 1))), none⟩,
     ⟨(some 3), .pur (.mv (.t 9)), none⟩]))))))
 (.seq (.reg [⟨(some 21), .pur (.lens (.t 0)), none⟩,
   ⟨(some 22), .pur (.bin .leq (.t 21) (.k (.int .i64 32))), none⟩,
   ⟨(some 2), .pur (.mv (.t 22)), none⟩])
 (.ret))),
 [.tmp 2]⟩
theorem is103 : IsFnO Tryz.prog 103 ir103 := .of 1068338 (by kernel_rfl)
/-- pinball/bytecode.parts$2 -/
noncomputable def ir104 : IFn := ⟨6, .seq (.reg [⟨(some 2), .pur (.mv (.k (.bool false))), none⟩])
 (.seq (.reg [⟨(some 4), .call 100 [(.t 0), (.k (.int .i64 0)), (.k (.int .i64 99))], none⟩,
   ⟨(some 5), .pur (.un .not (.t 4)), none⟩,
   ⟨(some 2), .pur (.mv (.t 5)), none⟩])
 (.ret)),
 [.tmp 2]⟩
theorem is104 : IsFnO Tryz.prog 104 ir104 := .of 10 (by kernel_rfl)
/-- pinball/bytecode.parts$3 -/
noncomputable def ir105 : IFn := ⟨6, .seq (.reg [⟨(some 2), .pur (.mv (.k (.bool false))), none⟩])
 (.seq (.reg [⟨(some 4), .call 100 [(.t 0), (.k (.int .i64 (-2147483647))), (.k (.int .i64 2147483647))], none⟩,
   ⟨(some 5), .pur (.un .not (.t 4)), none⟩,
   ⟨(some 2), .pur (.mv (.t 5)), none⟩])
 (.ret)),
 [.tmp 2]⟩
theorem is105 : IsFnO Tryz.prog 105 ir105 := .of 10 (by kernel_rfl)
/-- pinball/bytecode.parts$4 -/
noncomputable def ir106 : IFn := ⟨8, .seq (.reg [⟨(some 2), .new (.box (.t 0)), none⟩,
   ⟨(some 3), .pur (.mv (.k (.bool false))), none⟩])
 (.seq (.reg [⟨(some 4), .pur (.ld 7 true (.t 1)), none⟩,
   ⟨(some 5), .pur (.ld 4 true (.t 2)), none⟩,
   ⟨(some 6), .call 107 [(.t 4), (.t 5)], none⟩,
   ⟨(some 7), .pur (.un .not (.t 6)), none⟩,
   ⟨(some 3), .pur (.mv (.t 7)), none⟩])
 (.ret)),
 [.tmp 3]⟩
theorem is106 : IsFnO Tryz.prog 106 ir106 := .of 0 (by kernel_rfl)
/-- pinball/bytecode.goodEntry -/
noncomputable def ir107 : IFn := ⟨43, .seq (.reg [⟨(some 2), .new (.box (.t 0)), none⟩,
   ⟨(some 3), .new (.box (.t 1)), none⟩,
   ⟨(some 4), .pur (.mv (.k (.bool false))), none⟩])
 (.seq (.seq (.reg [⟨(some 5), .pur (.fad 0 (.t 3)), none⟩,
   ⟨(some 6), .pur (.ld 1 false (.t 5)), none⟩,
   ⟨(some 7), .pur (.fad 3 (.t 2)), none⟩,
   ⟨(some 8), .pur (.ld 1 false (.t 7)), none⟩,
   ⟨(some 9), .pur (.len (.t 8)), none⟩,
   ⟨(some 10), .pur (.bin .sub (.t 9) (.k (.int .i64 1))), none⟩,
   ⟨(some 11), .call 100 [(.t 6), (.k (.int .i64 0)), (.t 10)], none⟩,
   ⟨(some 12), .pur (.un .not (.t 11)), none⟩])
 (.cond (.t 12)
  (.seq (.reg [⟨(some 4), .pur (.mv (.k (.bool false))), none⟩])
  (.ret))
  (.skip)))
 (.seq (.seq (.reg [⟨(some 13), .pur (.fad 1 (.t 3)), none⟩,
   ⟨(some 14), .pur (.ld 1 false (.t 13)), none⟩])
 (.blk 0 (.seq (.seq (.reg [⟨(some 16), .pur (.bin .eql (.t 14) (.k (.int .i64 1))), none⟩,
    ⟨(some 15), .pur (.mv (.t 16)), none⟩])
  (.cond (.t 15)
   (.skip)
   (.reg [⟨(some 17), .pur (.bin .eql (.t 14) (.k (.int .i64 2))), none⟩,
     ⟨(some 15), .pur (.mv (.t 17)), none⟩])))
  (.cond (.t 15)
   (.seq (.reg [⟨(some 18), .pur (.fad 2 (.t 3)), none⟩,
     ⟨(some 19), .pur (.ld 1 false (.t 18)), none⟩,
     ⟨(some 20), .pur (.bin .eql (.t 19) (.k (.int .i64 0))), none⟩,
     ⟨(some 4), .pur (.mv (.t 20)), none⟩])
   (.ret))
   (.seq (.seq (.reg [⟨(some 22), .pur (.bin .eql (.t 14) (.k (.int .i64 3))), none⟩,
     ⟨(some 21), .pur (.mv (.t 22)), none⟩])
   (.cond (.t 21)
    (.skip)
    (.reg [⟨(some 23), .pur (.bin .eql (.t 14) (.k (.int .i64 4))), none⟩,
      ⟨(some 21), .pur (.mv (.t 23)), none⟩])))
   (.cond (.t 21)
    (.seq (.reg [⟨(some 24), .pur (.fad 2 (.t 3)), none⟩,
      ⟨(some 25), .pur (.ld 1 false (.t 24)), none⟩,
      ⟨(some 26), .call 100 [(.t 25), (.k (.int .i64 0)), (.k (.int .i64 63))], none⟩,
      ⟨(some 4), .pur (.mv (.t 26)), none⟩])
    (.ret))
    (.seq (.reg [⟨(some 28), .pur (.bin .eql (.t 14) (.k (.int .i64 5))), none⟩,
      ⟨(some 27), .pur (.mv (.t 28)), none⟩])
    (.cond (.t 27)
     (.seq (.reg [⟨(some 29), .pur (.fad 2 (.t 3)), none⟩,
       ⟨(some 30), .pur (.ld 1 false (.t 29)), none⟩,
       ⟨(some 31), .pur (.fad 5 (.t 2)), none⟩,
       ⟨(some 32), .pur (.ld 1 false (.t 31)), none⟩,
       ⟨(some 33), .pur (.bin .sub (.t 32) (.k (.int .i64 1))), none⟩,
       ⟨(some 34), .call 100 [(.t 30), (.k (.int .i64 0)), (.t 33)], none⟩,
       ⟨(some 4), .pur (.mv (.t 34)), none⟩])
     (.ret))
     (.seq (.reg [⟨(some 36), .pur (.bin .eql (.t 14) (.k (.int .i64 6))), none⟩,
       ⟨(some 35), .pur (.mv (.t 36)), none⟩])
     (.cond (.t 35)
      (.seq (.reg [⟨(some 37), .pur (.fad 2 (.t 3)), none⟩,
        ⟨(some 38), .pur (.ld 1 false (.t 37)), none⟩,
        ⟨(some 39), .pur (.fad 6 (.t 2)), none⟩,
        ⟨(some 40), .pur (.ld 1 false (.t 39)), none⟩,
        ⟨(some 41), .pur (.bin .sub (.t 40) (.k (.int .i64 1))), none⟩,
        ⟨(some 42), .call 100 [(.t 38), (.k (.int .i64 0)), (.t 41)], none⟩,
        ⟨(some 4), .pur (.mv (.t 42)), none⟩])
      (.ret))
      (.skip)))))))))))
 (.seq (.reg [⟨(some 4), .pur (.mv (.k (.bool false))), none⟩])
 (.ret)))),
 [.tmp 4]⟩
theorem is107 : IsFnO Tryz.prog 107 ir107 := .of 0 (by kernel_rfl)
/-- pinball/bytecode.span -/
noncomputable def ir108 : IFn := ⟨64, .seq (.reg [⟨(some 2), .new (.box (.t 0)), none⟩,
   ⟨(some 4), .pur (.mv (.k (.int .i64 0))), none⟩,
   ⟨(some 5), .pur (.mv (.k (.int .i64 0))), none⟩])
 (.seq (.seq (.reg [⟨(some 6), .pur (.mv (.t 1)), none⟩])
 (.blk 0 (.seq (.reg [⟨(some 8), .pur (.bin .eql (.t 6) (.k (.int .i64 1))), none⟩,
    ⟨(some 7), .pur (.mv (.t 8)), none⟩])
  (.cond (.t 7)
   (.seq (.reg [⟨(some 4), .pur (.mv (.k (.int .i64 (-2147483647)))), none⟩,
     ⟨(some 5), .pur (.mv (.k (.int .i64 2147483647))), none⟩])
   (.ret))
   (.seq (.seq (.reg [⟨(some 10), .pur (.bin .eql (.t 6) (.k (.int .i64 2))), none⟩,
     ⟨(some 9), .pur (.mv (.t 10)), none⟩])
   (.cond (.t 9)
    (.skip)
    (.reg [⟨(some 11), .pur (.bin .eql (.t 6) (.k (.int .i64 3))), none⟩,
      ⟨(some 9), .pur (.mv (.t 11)), none⟩])))
   (.cond (.t 9)
    (.seq (.drw 6 ⟨[⟨(some 12), .pur (.fad 4 (.t 2)), none⟩,
      ⟨(some 13), .pur (.ld 1 false (.t 12)), none⟩,
      ⟨(some 14), .pur (.len (.t 13)), none⟩,
      ⟨(some 15), .pur (.bin .sub (.t 14) (.k (.int .i64 1))), none⟩,
      ⟨(some 4), .pur (.mv (.k (.int .i64 0))), none⟩,
      ⟨(some 5), .pur (.mv (.t 15)), none⟩],
      [[], [0], [1, 0], [2, 1, 0], [], [3, 4, 0, 1, 2]],
      [(0, none), (1, none), (2, none), (3, none), (4, some [0, 1, 2, 3]), (5, some [])]⟩)
    (.ret))
    (.seq (.reg [⟨(some 17), .pur (.bin .eql (.t 6) (.k (.int .i64 4))), none⟩,
      ⟨(some 16), .pur (.mv (.t 17)), none⟩])
    (.cond (.t 16)
     (.seq (.reg [⟨(some 4), .pur (.mv (.k (.int .i64 0))), none⟩,
       ⟨(some 5), .pur (.mv (.k (.int .i64 63))), none⟩])
     (.ret))
     (.seq (.seq (.reg [⟨(some 19), .pur (.bin .eql (.t 6) (.k (.int .i64 5))), none⟩,
       ⟨(some 18), .pur (.mv (.t 19)), none⟩])
     (.cond (.t 18)
      (.skip)
      (.seq (.reg [⟨(some 20), .pur (.bin .eql (.t 6) (.k (.int .i64 23))), none⟩,
        ⟨(some 18), .pur (.mv (.t 20)), none⟩])
      (.cond (.t 18)
       (.skip)
       (.reg [⟨(some 21), .pur (.bin .eql (.t 6) (.k (.int .i64 24))), none⟩,
         ⟨(some 18), .pur (.mv (.t 21)), none⟩])))))
     (.cond (.t 18)
      (.seq (.drw 6 ⟨[⟨(some 22), .pur (.fad 3 (.t 2)), none⟩,
        ⟨(some 23), .pur (.ld 1 false (.t 22)), none⟩,
        ⟨(some 24), .pur (.len (.t 23)), none⟩,
        ⟨(some 25), .pur (.bin .sub (.t 24) (.k (.int .i64 1))), none⟩,
        ⟨(some 4), .pur (.mv (.k (.int .i64 0))), none⟩,
        ⟨(some 5), .pur (.mv (.t 25)), none⟩],
        [[], [0], [1, 0], [2, 1, 0], [], [3, 4, 0, 1, 2]],
        [(0, none), (1, none), (2, none), (3, none), (4, some [0, 1, 2, 3]), (5, some [])]⟩)
      (.ret))
      (.seq (.seq (.reg [⟨(some 27), .pur (.bin .eql (.t 6) (.k (.int .i64 6))), none⟩,
        ⟨(some 26), .pur (.mv (.t 27)), none⟩])
      (.cond (.t 26)
       (.skip)
       (.seq (.reg [⟨(some 28), .pur (.bin .eql (.t 6) (.k (.int .i64 21))), none⟩,
         ⟨(some 26), .pur (.mv (.t 28)), none⟩])
       (.cond (.t 26)
        (.skip)
        (.reg [⟨(some 29), .pur (.bin .eql (.t 6) (.k (.int .i64 22))), none⟩,
          ⟨(some 26), .pur (.mv (.t 29)), none⟩])))))
      (.cond (.t 26)
       (.seq (.drw 5 ⟨[⟨(some 30), .pur (.fad 5 (.t 2)), none⟩,
         ⟨(some 31), .pur (.ld 1 false (.t 30)), none⟩,
         ⟨(some 32), .pur (.bin .sub (.t 31) (.k (.int .i64 1))), none⟩,
         ⟨(some 4), .pur (.mv (.k (.int .i64 0))), none⟩,
         ⟨(some 5), .pur (.mv (.t 32)), none⟩],
         [[], [0], [1, 0], [], [2, 3, 0, 1]],
         [(0, none), (1, none), (2, none), (3, some [0, 1, 2]), (4, some [])]⟩)
       (.ret))
       (.seq (.reg [⟨(some 34), .pur (.bin .eql (.t 6) (.k (.int .i64 11))), none⟩,
         ⟨(some 33), .pur (.mv (.t 34)), none⟩])
       (.cond (.t 33)
        (.seq (.reg [⟨(some 4), .pur (.mv (.k (.int .i64 12))), none⟩,
          ⟨(some 5), .pur (.mv (.k (.int .i64 24))), none⟩])
        (.ret))
        (.seq (.seq (.reg [⟨(some 36), .pur (.bin .eql (.t 6) (.k (.int .i64 16))), none⟩,
          ⟨(some 35), .pur (.mv (.t 36)), none⟩])
        (.cond (.t 35)
         (.skip)
         (.seq (.reg [⟨(some 37), .pur (.bin .eql (.t 6) (.k (.int .i64 17))), none⟩,
           ⟨(some 35), .pur (.mv (.t 37)), none⟩])
         (.cond (.t 35)
          (.skip)
          (.reg [⟨(some 38), .pur (.bin .eql (.t 6) (.k (.int .i64 18))), none⟩,
            ⟨(some 35), .pur (.mv (.t 38)), none⟩])))))
        (.cond (.t 35)
         (.seq (.reg [⟨(some 4), .pur (.mv (.k (.int .i64 0))), none⟩,
           ⟨(some 5), .pur (.mv (.k (.int .i64 31))), none⟩])
         (.ret))
         (.seq (.seq (.reg [⟨(some 40), .pur (.bin .eql (.t 6) (.k (.int .i64 19))), none⟩,
           ⟨(some 39), .pur (.mv (.t 40)), none⟩])
         (.cond (.t 39)
          (.skip)
          (.seq (.reg [⟨(some 41), .pur (.bin .eql (.t 6) (.k (.int .i64 20))), none⟩,
            ⟨(some 39), .pur (.mv (.t 41)), none⟩])
          (.cond (.t 39)
           (.skip)
           (.seq (.reg [⟨(some 42), .pur (.bin .eql (.t 6) (.k (.int .i64 26))), none⟩,
             ⟨(some 39), .pur (.mv (.t 42)), none⟩])
           (.cond (.t 39)
            (.skip)
            (.seq (.reg [⟨(some 43), .pur (.bin .eql (.t 6) (.k (.int .i64 27))), none⟩,
              ⟨(some 39), .pur (.mv (.t 43)), none⟩])
            (.cond (.t 39)
             (.skip)
             (.reg [⟨(some 44), .pur (.bin .eql (.t 6) (.k (.int .i64 28))), none⟩,
               ⟨(some 39), .pur (.mv (.t 44)), none⟩])))))))))
         (.cond (.t 39)
          (.seq (.reg [⟨(some 4), .pur (.mv (.k (.int .i64 0))), none⟩,
            ⟨(some 5), .pur (.mv (.k (.int .i64 63))), none⟩])
          (.ret))
          (.seq (.reg [⟨(some 46), .pur (.bin .eql (.t 6) (.k (.int .i64 25))), none⟩,
            ⟨(some 45), .pur (.mv (.t 46)), none⟩])
          (.cond (.t 45)
           (.seq (.drw 5 ⟨[⟨(some 47), .pur (.fad 6 (.t 2)), none⟩,
             ⟨(some 48), .pur (.ld 1 false (.t 47)), none⟩,
             ⟨(some 49), .pur (.bin .sub (.t 48) (.k (.int .i64 1))), none⟩,
             ⟨(some 4), .pur (.mv (.k (.int .i64 0))), none⟩,
             ⟨(some 5), .pur (.mv (.t 49)), none⟩],
             [[], [0], [1, 0], [], [2, 3, 0, 1]],
             [(0, none), (1, none), (2, none), (3, some [0, 1, 2]), (4, some [])]⟩)
           (.ret))
           (.seq (.reg [⟨(some 51), .pur (.bin .eql (.t 6) (.k (.int .i64 29))), none⟩,
             ⟨(some 50), .pur (.mv (.t 51)), none⟩])
           (.cond (.t 50)
            (.seq (.drw 6 ⟨[⟨(some 52), .pur (.fad 1 (.t 2)), none⟩,
              ⟨(some 53), .pur (.ld 1 false (.t 52)), none⟩,
              ⟨(some 54), .pur (.len (.t 53)), none⟩,
              ⟨(some 55), .pur (.bin .sub (.t 54) (.k (.int .i64 1))), none⟩,
              ⟨(some 4), .pur (.mv (.k (.int .i64 0))), none⟩,
              ⟨(some 5), .pur (.mv (.t 55)), none⟩],
              [[], [0], [1, 0], [2, 1, 0], [], [3, 4, 0, 1, 2]],
              [(0, none), (1, none), (2, none), (3, none), (4, some [0, 1, 2, 3]), (5, some [])]⟩)
            (.ret))
            (.seq (.seq (.reg [⟨(some 57), .pur (.bin .eql (.t 6) (.k (.int .i64 7))), none⟩,
              ⟨(some 56), .pur (.mv (.t 57)), none⟩])
            (.cond (.t 56)
             (.skip)
             (.seq (.reg [⟨(some 58), .pur (.bin .eql (.t 6) (.k (.int .i64 8))), none⟩,
               ⟨(some 56), .pur (.mv (.t 58)), none⟩])
             (.cond (.t 56)
              (.skip)
              (.seq (.reg [⟨(some 59), .pur (.bin .eql (.t 6) (.k (.int .i64 9))), none⟩,
                ⟨(some 56), .pur (.mv (.t 59)), none⟩])
              (.cond (.t 56)
               (.skip)
               (.seq (.reg [⟨(some 60), .pur (.bin .eql (.t 6) (.k (.int .i64 10))), none⟩,
                 ⟨(some 56), .pur (.mv (.t 60)), none⟩])
               (.cond (.t 56)
                (.skip)
                (.seq (.reg [⟨(some 61), .pur (.bin .eql (.t 6) (.k (.int .i64 15))), none⟩,
                  ⟨(some 56), .pur (.mv (.t 61)), none⟩])
                (.cond (.t 56)
                 (.skip)
                 (.seq (.reg [⟨(some 62), .pur (.bin .eql (.t 6) (.k (.int .i64 30))), none⟩,
                   ⟨(some 56), .pur (.mv (.t 62)), none⟩])
                 (.cond (.t 56)
                  (.skip)
                  (.reg [⟨(some 63), .pur (.bin .eql (.t 6) (.k (.int .i64 31))), none⟩,
                    ⟨(some 56), .pur (.mv (.t 63)), none⟩])))))))))))))
            (.cond (.t 56)
             (.seq (.reg [⟨(some 4), .pur (.mv (.k (.int .i64 0))), none⟩,
               ⟨(some 5), .pur (.mv (.k (.int .i64 0))), none⟩])
             (.ret))
             (.skip)))))))))))))))))))))))))
 (.seq (.reg [⟨(some 4), .pur (.mv (.k (.int .i64 1))), none⟩,
   ⟨(some 5), .pur (.mv (.k (.int .i64 0))), none⟩])
 (.ret))),
 [.tmp 4, .tmp 5]⟩
theorem is108 : IsFnO Tryz.prog 108 ir108 := .of 8 (by kernel_rfl)
/-- pinball/bytecode.jumps -/
noncomputable def ir109 : IFn := ⟨13, .seq (.reg [⟨(some 2), .pur (.mv (.k (.bool false))), none⟩])
 (.seq (.reg [⟨(some 4), .pur (.bin .eql (.t 0) (.k (.int .i64 12))), none⟩,
   ⟨(some 6), .pur (.mv (.t 0)), some (4, false)⟩,
   ⟨(some 7), .pur (.bin .eql (.t 6) (.k (.int .i64 13))), some (4, false)⟩,
   ⟨(some 8), .pur (.pick (.t 4) (.k (.bool true)) (.t 7)), none⟩,
   ⟨(some 10), .pur (.mv (.t 0)), some (8, false)⟩,
   ⟨(some 11), .pur (.bin .eql (.t 10) (.k (.int .i64 14))), some (8, false)⟩,
   ⟨(some 12), .pur (.pick (.t 8) (.k (.bool true)) (.t 11)), none⟩,
   ⟨(some 2), .pur (.mv (.t 12)), none⟩])
 (.ret)),
 [.tmp 2]⟩
theorem is109 : IsFnO Tryz.prog 109 ir109 := .of 554 (by kernel_rfl)
/-- pinball/bytecode.targets$1 -/
noncomputable def ir110 : IFn := ⟨12, .seq (.reg [⟨(some 2), .new (.box (.t 0)), none⟩,
   ⟨(some 3), .pur (.mv (.k (.bool false))), none⟩])
 (.seq (.reg [⟨(some 4), .pur (.fad 3 (.t 2)), none⟩,
   ⟨(some 5), .pur (.ld 1 false (.t 4)), none⟩,
   ⟨(some 6), .pur (.fad 0 (.t 1)), none⟩,
   ⟨(some 7), .pur (.ld 1 false (.t 6)), none⟩,
   ⟨(some 8), .pur (.len (.t 7)), none⟩,
   ⟨(some 9), .pur (.bin .sub (.t 8) (.k (.int .i64 1))), none⟩,
   ⟨(some 10), .call 100 [(.t 5), (.k (.int .i64 0)), (.t 9)], none⟩,
   ⟨(some 11), .pur (.un .not (.t 10)), none⟩,
   ⟨(some 3), .pur (.mv (.t 11)), none⟩])
 (.ret)),
 [.tmp 3]⟩
theorem is110 : IsFnO Tryz.prog 110 ir110 := .of 0 (by kernel_rfl)
/-- pinball/bytecode.heights$1 -/
noncomputable def ir111 : IFn := ⟨43, .seq (.reg [⟨(some 6), .pur (.mv (.k (.bool false))), none⟩])
 (.seq (.seq (.reg [⟨(some 8), .pur (.ld 1 false (.t 2)), none⟩,
   ⟨(some 9), .pur (.len (.t 8)), none⟩,
   ⟨(some 10), .pur (.bin .geq (.t 0) (.t 9)), none⟩,
   ⟨(some 12), .pur (.mv (.t 1)), some (10, false)⟩,
   ⟨(some 13), .pur (.bin .gtr (.t 12) (.k (.int .i64 48))), some (10, false)⟩,
   ⟨(some 14), .pur (.pick (.t 10) (.k (.bool true)) (.t 13)), none⟩,
   ⟨(some 16), .pur (.ld 1 false (.t 2)), some (14, false)⟩,
   ⟨(some 17), .pur (.mv (.t 0)), some (14, false)⟩,
   ⟨(some 18), .pur (.iad 1 (.t 16) (.t 17)), some (14, false)⟩,
   ⟨(some 19), .pur (.ld 1 false (.t 18)), some (14, false)⟩,
   ⟨(some 20), .pur (.bin .geq (.t 19) (.k (.int .i64 0))), some (14, false)⟩,
   ⟨(some 21), .pur (.mv (.t 20)), some (14, false)⟩,
   ⟨(some 22), .pur (.ld 1 false (.t 2)), some (21, true)⟩,
   ⟨(some 23), .pur (.mv (.t 0)), some (21, true)⟩,
   ⟨(some 24), .pur (.iad 1 (.t 22) (.t 23)), some (21, true)⟩,
   ⟨(some 25), .pur (.ld 1 false (.t 24)), some (21, true)⟩,
   ⟨(some 26), .pur (.mv (.t 1)), some (21, true)⟩,
   ⟨(some 27), .pur (.bin .neq (.t 25) (.t 26)), some (21, true)⟩,
   ⟨(some 28), .pur (.pick (.t 21) (.t 27) (.k (.bool false))), some (14, false)⟩,
   ⟨(some 29), .pur (.pick (.t 14) (.k (.bool true)) (.t 28)), none⟩])
 (.cond (.t 29)
  (.seq (.reg [⟨(some 6), .pur (.mv (.k (.bool false))), none⟩])
  (.ret))
  (.skip)))
 (.seq (.seq (.reg [⟨(some 30), .pur (.ld 1 false (.t 2)), none⟩,
   ⟨(some 32), .pur (.iad 1 (.t 30) (.t 0)), none⟩,
   ⟨(some 33), .pur (.ld 1 false (.t 32)), none⟩,
   ⟨(some 34), .pur (.bin .lss (.t 33) (.k (.int .i64 0))), none⟩])
 (.cond (.t 34)
  (.seq (.reg [⟨(some 35), .pur (.ld 1 false (.t 2)), none⟩,
    ⟨(some 38), .pur (.iad 1 (.t 35) (.t 0)), none⟩,
    ⟨none, .eff (.st 1 (.t 38) (.t 1)), none⟩])
  (.reg [⟨(some 39), .pur (.ld 1 false (.t 3)), none⟩,
    ⟨(some 41), .new (.bsl 1 1 #[.int .i64 0] [(0, (.t 0))]), none⟩,
    ⟨(some 42), .eff (.app 1 8 (.t 39) (.t 41)), none⟩,
    ⟨none, .eff (.st 1 (.t 3) (.t 42)), none⟩]))
  (.skip)))
 (.seq (.reg [⟨(some 6), .pur (.mv (.k (.bool true))), none⟩])
 (.ret)))),
 [.tmp 6]⟩
theorem is111 : IsFnO Tryz.prog 111 ir111 := .of 1307817576624 (by kernel_rfl)
/-- pinball/bytecode.stack -/
noncomputable def ir112 : IFn := ⟨28, .seq (.reg [⟨(some 2), .pur (.mv (.k (.int .i64 0))), none⟩,
   ⟨(some 3), .pur (.mv (.k (.int .i64 0))), none⟩])
 (.seq (.seq (.reg [⟨(some 4), .pur (.mv (.t 0)), none⟩])
 (.blk 0 (.seq (.seq (.reg [⟨(some 6), .pur (.bin .eql (.t 4) (.k (.int .i64 1))), none⟩,
    ⟨(some 5), .pur (.mv (.t 6)), none⟩])
  (.cond (.t 5)
   (.skip)
   (.seq (.reg [⟨(some 7), .pur (.bin .eql (.t 4) (.k (.int .i64 2))), none⟩,
     ⟨(some 5), .pur (.mv (.t 7)), none⟩])
   (.cond (.t 5)
    (.skip)
    (.seq (.reg [⟨(some 8), .pur (.bin .eql (.t 4) (.k (.int .i64 4))), none⟩,
      ⟨(some 5), .pur (.mv (.t 8)), none⟩])
    (.cond (.t 5)
     (.skip)
     (.seq (.reg [⟨(some 9), .pur (.bin .eql (.t 4) (.k (.int .i64 5))), none⟩,
       ⟨(some 5), .pur (.mv (.t 9)), none⟩])
     (.cond (.t 5)
      (.skip)
      (.seq (.reg [⟨(some 10), .pur (.bin .eql (.t 4) (.k (.int .i64 6))), none⟩,
        ⟨(some 5), .pur (.mv (.t 10)), none⟩])
      (.cond (.t 5)
       (.skip)
       (.seq (.reg [⟨(some 11), .pur (.bin .eql (.t 4) (.k (.int .i64 7))), none⟩,
         ⟨(some 5), .pur (.mv (.t 11)), none⟩])
       (.cond (.t 5)
        (.skip)
        (.reg [⟨(some 12), .pur (.bin .eql (.t 4) (.k (.int .i64 8))), none⟩,
          ⟨(some 5), .pur (.mv (.t 12)), none⟩])))))))))))))
  (.cond (.t 5)
   (.seq (.reg [⟨(some 2), .pur (.mv (.k (.int .i64 0))), none⟩,
     ⟨(some 3), .pur (.mv (.k (.int .i64 1))), none⟩])
   (.ret))
   (.seq (.seq (.reg [⟨(some 14), .pur (.bin .eql (.t 4) (.k (.int .i64 9))), none⟩,
     ⟨(some 13), .pur (.mv (.t 14)), none⟩])
   (.cond (.t 13)
    (.skip)
    (.seq (.reg [⟨(some 15), .pur (.bin .eql (.t 4) (.k (.int .i64 10))), none⟩,
      ⟨(some 13), .pur (.mv (.t 15)), none⟩])
    (.cond (.t 13)
     (.skip)
     (.reg [⟨(some 16), .pur (.bin .eql (.t 4) (.k (.int .i64 14))), none⟩,
       ⟨(some 13), .pur (.mv (.t 16)), none⟩])))))
   (.cond (.t 13)
    (.seq (.reg [⟨(some 2), .pur (.mv (.k (.int .i64 1))), none⟩,
      ⟨(some 3), .pur (.mv (.k (.int .i64 1))), none⟩])
    (.ret))
    (.seq (.reg [⟨(some 18), .pur (.bin .eql (.t 4) (.k (.int .i64 11))), none⟩,
      ⟨(some 17), .pur (.mv (.t 18)), none⟩])
    (.cond (.t 17)
     (.seq (.reg [⟨(some 2), .pur (.mv (.k (.int .i64 2))), none⟩,
       ⟨(some 3), .pur (.mv (.k (.int .i64 1))), none⟩])
     (.ret))
     (.seq (.reg [⟨(some 20), .pur (.bin .eql (.t 4) (.k (.int .i64 20))), none⟩,
       ⟨(some 19), .pur (.mv (.t 20)), none⟩])
     (.cond (.t 19)
      (.seq (.reg [⟨(some 2), .pur (.mv (.k (.int .i64 2))), none⟩,
        ⟨(some 3), .pur (.mv (.k (.int .i64 0))), none⟩])
      (.ret))
      (.seq (.seq (.reg [⟨(some 22), .pur (.bin .eql (.t 4) (.k (.int .i64 3))), none⟩,
        ⟨(some 21), .pur (.mv (.t 22)), none⟩])
      (.cond (.t 21)
       (.skip)
       (.seq (.reg [⟨(some 23), .pur (.bin .eql (.t 4) (.k (.int .i64 13))), none⟩,
         ⟨(some 21), .pur (.mv (.t 23)), none⟩])
       (.cond (.t 21)
        (.skip)
        (.seq (.reg [⟨(some 24), .pur (.bin .eql (.t 4) (.k (.int .i64 15))), none⟩,
          ⟨(some 21), .pur (.mv (.t 24)), none⟩])
        (.cond (.t 21)
         (.skip)
         (.seq (.reg [⟨(some 25), .pur (.bin .eql (.t 4) (.k (.int .i64 19))), none⟩,
           ⟨(some 21), .pur (.mv (.t 25)), none⟩])
         (.cond (.t 21)
          (.skip)
          (.seq (.reg [⟨(some 26), .pur (.bin .eql (.t 4) (.k (.int .i64 21))), none⟩,
            ⟨(some 21), .pur (.mv (.t 26)), none⟩])
          (.cond (.t 21)
           (.skip)
           (.reg [⟨(some 27), .pur (.bin .eql (.t 4) (.k (.int .i64 29))), none⟩,
             ⟨(some 21), .pur (.mv (.t 27)), none⟩])))))))))))
      (.cond (.t 21)
       (.seq (.reg [⟨(some 2), .pur (.mv (.k (.int .i64 1))), none⟩,
         ⟨(some 3), .pur (.mv (.k (.int .i64 0))), none⟩])
       (.ret))
       (.skip)))))))))))))
 (.seq (.reg [⟨(some 2), .pur (.mv (.k (.int .i64 0))), none⟩,
   ⟨(some 3), .pur (.mv (.k (.int .i64 0))), none⟩])
 (.ret))),
 [.tmp 2, .tmp 3]⟩
theorem is112 : IsFnO Tryz.prog 112 ir112 := .of 2 (by kernel_rfl)
/-- pinball/pinballref30.letter -/
noncomputable def ir113 : IFn := ⟨17, .seq (.reg [⟨(some 2), .pur (.mv (.k (.bool false))), none⟩])
 (.seq (.reg [⟨(some 4), .pur (.bin .geq (.t 0) (.k (.int .u8 97))), none⟩,
   ⟨(some 6), .pur (.mv (.t 0)), some (4, true)⟩,
   ⟨(some 7), .pur (.bin .leq (.t 6) (.k (.int .u8 122))), some (4, true)⟩,
   ⟨(some 8), .pur (.pick (.t 4) (.t 7) (.k (.bool false))), none⟩,
   ⟨(some 10), .pur (.mv (.t 0)), some (8, false)⟩,
   ⟨(some 11), .pur (.bin .geq (.t 10) (.k (.int .u8 65))), some (8, false)⟩,
   ⟨(some 12), .pur (.mv (.t 11)), some (8, false)⟩,
   ⟨(some 13), .pur (.mv (.t 0)), some (12, true)⟩,
   ⟨(some 14), .pur (.bin .leq (.t 13) (.k (.int .u8 90))), some (12, true)⟩,
   ⟨(some 15), .pur (.pick (.t 12) (.t 14) (.k (.bool false))), some (8, false)⟩,
   ⟨(some 16), .pur (.pick (.t 8) (.k (.bool true)) (.t 15)), none⟩,
   ⟨(some 2), .pur (.mv (.t 16)), none⟩])
 (.ret)),
 [.tmp 2]⟩
theorem is113 : IsFnO Tryz.prog 113 ir113 := .of 554 (by kernel_rfl)
/-- pinball/pinballref30.word -/
noncomputable def ir114 : IFn := ⟨52, .seq (.reg [⟨(some 4), .new (.box (.k (.agg #[.int .i64 0, .string ⟨#[]⟩, .int .i64 0, .int .i64 0]))), none⟩,
   ⟨(some 5), .pur (.mv (.k (.int .i64 0))), none⟩,
   ⟨(some 6), .pur (.mv (.k (.int .i64 0))), none⟩])
 (.seq (.reg [⟨(some 7), .pur (.mv (.t 1)), none⟩])
 (.seq (.blk 0 (.loop (.seq (.seq (.reg [⟨(some 12), .pur (.lens (.t 0)), none⟩,
     ⟨(some 13), .pur (.bin .lss (.t 7) (.t 12)), none⟩,
     ⟨(some 15), .pur (.mv (.t 0)), some (13, true)⟩,
     ⟨(some 16), .pur (.mv (.t 7)), some (13, true)⟩,
     ⟨(some 17), .pur (.idx (.t 15) (.t 16)), some (13, true)⟩,
     ⟨(some 18), .call 113 [(.t 17)], some (13, true)⟩,
     ⟨(some 19), .pur (.mv (.t 18)), some (13, true)⟩,
     ⟨(some 20), .pur (.mv (.t 0)), some (19, false)⟩,
     ⟨(some 21), .pur (.mv (.t 7)), some (19, false)⟩,
     ⟨(some 22), .pur (.idx (.t 20) (.t 21)), some (19, false)⟩,
     ⟨(some 23), .call 115 [(.t 22)], some (19, false)⟩,
     ⟨(some 24), .pur (.pick (.t 19) (.k (.bool true)) (.t 23)), some (13, true)⟩,
     ⟨(some 25), .pur (.mv (.t 24)), some (13, true)⟩,
     ⟨(some 26), .pur (.mv (.t 0)), some (25, false)⟩,
     ⟨(some 27), .pur (.mv (.t 7)), some (25, false)⟩,
     ⟨(some 28), .pur (.idx (.t 26) (.t 27)), some (25, false)⟩,
     ⟨(some 29), .pur (.bin .eql (.t 28) (.k (.int .u8 95))), some (25, false)⟩,
     ⟨(some 30), .pur (.pick (.t 25) (.k (.bool true)) (.t 29)), some (13, true)⟩,
     ⟨(some 31), .pur (.pick (.t 13) (.t 30) (.k (.bool false))), none⟩])
   (.cond (.t 31)
    (.skip)
    (.exit 0)))
   (.blk 1 (.reg [⟨(some 33), .pur (.bin .add (.t 7) (.k (.int .i64 1))), none⟩,
      ⟨(some 7), .pur (.mv (.t 33)), none⟩])))))
 (.seq (.seq (.reg [⟨(some 36), .pur (.bin .sub (.t 7) (.t 1)), none⟩,
   ⟨(some 37), .pur (.bin .gtr (.t 36) (.k (.int .i64 12))), none⟩])
 (.cond (.t 37)
  (.seq (.reg [⟨(some 38), .pur (.bld #[.int .i64 0, .string ⟨#[]⟩, .int .i64 0, .int .i64 0] [(0, 1), (1, 1), (2, 1), (3, 1)] []), none⟩,
    ⟨none, .eff (.st 4 (.t 4) (.t 38)), none⟩,
    ⟨(some 5), .pur (.mv (.t 1)), none⟩,
    ⟨(some 6), .pur (.mv (.k (.int .i64 9))), none⟩])
  (.ret))
  (.skip)))
 (.seq (.reg [⟨(some 43), .pur (.sls (.t 0) (some (.t 1)) (some (.t 7))), none⟩,
   ⟨(some 45), .pur (.bld #[.int .i64 0, .string ⟨#[]⟩, .int .i64 0, .int .i64 0] [(0, 1), (1, 1), (2, 1), (3, 1)] [(0, (.k (.int .i64 1))), (1, (.t 43)), (3, (.t 1))]), none⟩,
   ⟨(some 8), .new (.box (.k (.agg #[.int .i64 0, .string ⟨#[]⟩, .int .i64 0, .int .i64 0]))), none⟩,
   ⟨none, .eff (.st 4 (.t 8) (.t 45)), none⟩])
 (.seq (.seq (.reg [⟨(some 46), .pur (.fad 1 (.t 8)), none⟩,
   ⟨(some 47), .pur (.ld 1 false (.t 46)), none⟩,
   ⟨(some 48), .call 138 [(.t 47)], none⟩])
 (.cond (.t 48)
  (.reg [⟨(some 49), .pur (.fad 0 (.t 8)), none⟩,
    ⟨none, .eff (.st 1 (.t 49) (.k (.int .i64 2))), none⟩])
  (.skip)))
 (.seq (.reg [⟨(some 50), .pur (.ld 4 true (.t 8)), none⟩,
   ⟨none, .eff (.st 4 (.t 4) (.t 50)), none⟩,
   ⟨(some 5), .pur (.mv (.t 7)), none⟩,
   ⟨(some 6), .pur (.mv (.k (.int .i64 0))), none⟩])
 (.ret))))))),
 [.cell 4 4 true, .tmp 5, .tmp 6]⟩
theorem is114 : IsFnO Tryz.prog 114 ir114 := .of 2277694171532812 (by kernel_rfl)
/-- pinball/pinballref30.digit -/
noncomputable def ir115 : IFn := ⟨9, .seq (.reg [⟨(some 2), .pur (.mv (.k (.bool false))), none⟩])
 (.seq (.reg [⟨(some 4), .pur (.bin .geq (.t 0) (.k (.int .u8 48))), none⟩,
   ⟨(some 6), .pur (.mv (.t 0)), some (4, true)⟩,
   ⟨(some 7), .pur (.bin .leq (.t 6) (.k (.int .u8 57))), some (4, true)⟩,
   ⟨(some 8), .pur (.pick (.t 4) (.t 7) (.k (.bool false))), none⟩,
   ⟨(some 2), .pur (.mv (.t 8)), none⟩])
 (.ret)),
 [.tmp 2]⟩
theorem is115 : IsFnO Tryz.prog 115 ir115 := .of 42 (by kernel_rfl)
/-- pinball/pinballref30.number -/
noncomputable def ir116 : IFn := ⟨58, .seq (.reg [⟨(some 4), .new (.box (.k (.agg #[.int .i64 0, .string ⟨#[]⟩, .int .i64 0, .int .i64 0]))), none⟩,
   ⟨(some 5), .pur (.mv (.k (.int .i64 0))), none⟩,
   ⟨(some 6), .pur (.mv (.k (.int .i64 0))), none⟩])
 (.seq (.reg [⟨(some 7), .pur (.mv (.t 1)), none⟩,
   ⟨(some 8), .pur (.mv (.k (.int .i64 0))), none⟩,
   ⟨(some 9), .pur (.mv (.k (.bool false))), none⟩])
 (.seq (.blk 0 (.loop (.seq (.seq (.reg [⟨(some 13), .pur (.lens (.t 0)), none⟩,
     ⟨(some 14), .pur (.bin .lss (.t 7) (.t 13)), none⟩,
     ⟨(some 16), .pur (.mv (.t 0)), some (14, true)⟩,
     ⟨(some 17), .pur (.mv (.t 7)), some (14, true)⟩,
     ⟨(some 18), .pur (.idx (.t 16) (.t 17)), some (14, true)⟩,
     ⟨(some 19), .call 115 [(.t 18)], some (14, true)⟩,
     ⟨(some 20), .pur (.pick (.t 14) (.t 19) (.k (.bool false))), none⟩])
   (.cond (.t 20)
    (.skip)
    (.exit 0)))
   (.blk 1 (.seq (.reg [⟨(some 22), .pur (.bin .mul (.k (.int .i64 10)) (.t 8)), none⟩,
      ⟨(some 25), .pur (.idx (.t 0) (.t 7)), none⟩,
      ⟨(some 26), .pur (.bin .sub (.t 25) (.k (.int .u8 48))), none⟩,
      ⟨(some 27), .pur (.cvi .i64 (.t 26)), none⟩,
      ⟨(some 28), .pur (.bin .add (.t 22) (.t 27)), none⟩,
      ⟨(some 8), .pur (.mv (.t 28)), none⟩])
    (.seq (.reg [⟨(some 31), .pur (.mv (.t 8)), some (9, false)⟩,
      ⟨(some 32), .pur (.bin .gtr (.t 31) (.k (.int .i64 2147483647))), some (9, false)⟩,
      ⟨(some 33), .pur (.pick (.t 9) (.k (.bool true)) (.t 32)), none⟩,
      ⟨(some 9), .pur (.mv (.t 33)), none⟩])
    (.seq (.seq (.reg [⟨(some 34), .pur (.mv (.t 9)), none⟩])
    (.cond (.t 34)
     (.reg [⟨(some 8), .pur (.mv (.k (.int .i64 0))), none⟩])
     (.skip)))
    (.reg [⟨(some 36), .pur (.bin .add (.t 7) (.k (.int .i64 1))), none⟩,
      ⟨(some 7), .pur (.mv (.t 36)), none⟩]))))))))
 (.seq (.blk 2 (.seq (.reg [⟨(some 40), .pur (.idx (.t 0) (.t 1)), none⟩,
    ⟨(some 41), .pur (.bin .eql (.t 40) (.k (.int .u8 48))), none⟩,
    ⟨(some 43), .pur (.mv (.t 7)), some (41, true)⟩,
    ⟨(some 44), .pur (.mv (.t 1)), some (41, true)⟩,
    ⟨(some 45), .pur (.bin .sub (.t 43) (.t 44)), some (41, true)⟩,
    ⟨(some 46), .pur (.bin .gtr (.t 45) (.k (.int .i64 1))), some (41, true)⟩,
    ⟨(some 47), .pur (.pick (.t 41) (.t 46) (.k (.bool false))), none⟩,
    ⟨(some 37), .pur (.mv (.t 47)), none⟩])
  (.cond (.t 37)
   (.seq (.reg [⟨(some 48), .pur (.bld #[.int .i64 0, .string ⟨#[]⟩, .int .i64 0, .int .i64 0] [(0, 1), (1, 1), (2, 1), (3, 1)] []), none⟩,
     ⟨none, .eff (.st 4 (.t 4) (.t 48)), none⟩,
     ⟨(some 5), .pur (.mv (.t 1)), none⟩,
     ⟨(some 6), .pur (.mv (.k (.int .i64 47))), none⟩])
   (.ret))
   (.seq (.reg [⟨(some 50), .pur (.mv (.t 9)), none⟩])
   (.cond (.t 50)
    (.seq (.reg [⟨(some 52), .pur (.bld #[.int .i64 0, .string ⟨#[]⟩, .int .i64 0, .int .i64 0] [(0, 1), (1, 1), (2, 1), (3, 1)] []), none⟩,
      ⟨none, .eff (.st 4 (.t 4) (.t 52)), none⟩,
      ⟨(some 5), .pur (.mv (.t 1)), none⟩,
      ⟨(some 6), .pur (.mv (.k (.int .i64 5))), none⟩])
    (.ret))
    (.skip))))))
 (.seq (.reg [⟨(some 56), .pur (.bld #[.int .i64 0, .string ⟨#[]⟩, .int .i64 0, .int .i64 0] [(0, 1), (1, 1), (2, 1), (3, 1)] [(0, (.k (.int .i64 3))), (2, (.t 8)), (3, (.t 1))]), none⟩,
   ⟨none, .eff (.st 4 (.t 4) (.t 56)), none⟩,
   ⟨(some 5), .pur (.mv (.t 7)), none⟩,
   ⟨(some 6), .pur (.mv (.k (.int .i64 0))), none⟩])
 (.ret))))),
 [.cell 4 4 true, .tmp 5, .tmp 6]⟩
theorem is116 : IsFnO Tryz.prog 116 ir116 := .of 209985591304035340 (by kernel_rfl)
end Go.Proofs.YtniclakgfgmhhaaGreat
