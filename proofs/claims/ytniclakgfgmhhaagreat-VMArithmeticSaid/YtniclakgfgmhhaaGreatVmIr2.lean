/-
  FUNCTIONS IN THE ENGINE's FORM, part 2; each is what the translation gives.
-/
import Derived.Test.YtniclakgfgmhhaaGreatEngS
import Derived.Test.YtniclakgfgmhhaaGreatProg
import Derived.KernelRfl
set_option maxRecDepth 100000
namespace Go.Proofs.YtniclakgfgmhhaaGreat
open Go.Eng
/-- pinball/pinballref30.quoted -/
noncomputable def ir117 : IFn := ⟨76, .seq (.reg [⟨(some 4), .new (.box (.k (.agg #[.int .i64 0, .string ⟨#[]⟩, .int .i64 0, .int .i64 0]))), none⟩,
   ⟨(some 5), .pur (.mv (.k (.int .i64 0))), none⟩,
   ⟨(some 6), .pur (.mv (.k (.int .i64 0))), none⟩])
 (.seq (.reg [⟨(some 7), .pur (.mv (.k (.slice none 0 0))), none⟩])
 (.seq (.seq (.reg [⟨(some 11), .pur (.bin .add (.t 1) (.k (.int .i64 1))), none⟩,
   ⟨(some 8), .pur (.mv (.t 11)), none⟩])
 (.blk 0 (.loop (.seq (.seq (.reg [⟨(some 14), .pur (.lens (.t 0)), none⟩,
     ⟨(some 15), .pur (.bin .lss (.t 8) (.t 14)), none⟩])
   (.cond (.t 15)
    (.skip)
    (.exit 0)))
   (.seq (.blk 1 (.seq (.reg [⟨(some 20), .pur (.idx (.t 0) (.t 8)), none⟩,
      ⟨(some 9), .pur (.mv (.t 20)), none⟩])
    (.seq (.blk 2 (.seq (.reg [⟨(some 23), .pur (.bin .eql (.t 9) (.k (.int .u8 34))), none⟩,
       ⟨(some 21), .pur (.mv (.t 23)), none⟩])
     (.cond (.t 21)
      (.seq (.seq (.reg [⟨(some 25), .pur (.len (.t 7)), none⟩,
        ⟨(some 26), .pur (.bin .gtr (.t 25) (.k (.int .i64 32))), none⟩])
      (.cond (.t 26)
       (.seq (.reg [⟨(some 27), .pur (.bld #[.int .i64 0, .string ⟨#[]⟩, .int .i64 0, .int .i64 0] [(0, 1), (1, 1), (2, 1), (3, 1)] []), none⟩,
         ⟨none, .eff (.st 4 (.t 4) (.t 27)), none⟩,
         ⟨(some 5), .pur (.mv (.t 1)), none⟩,
         ⟨(some 6), .pur (.mv (.k (.int .i64 9))), none⟩])
       (.ret))
       (.skip)))
      (.seq (.reg [⟨(some 30), .pur (.cvbs (.t 7)), none⟩,
        ⟨(some 32), .pur (.bld #[.int .i64 0, .string ⟨#[]⟩, .int .i64 0, .int .i64 0] [(0, 1), (1, 1), (2, 1), (3, 1)] [(0, (.k (.int .i64 4))), (1, (.t 30)), (3, (.t 1))]), none⟩,
        ⟨(some 34), .pur (.bin .add (.t 8) (.k (.int .i64 1))), none⟩,
        ⟨none, .eff (.st 4 (.t 4) (.t 32)), none⟩,
        ⟨(some 5), .pur (.mv (.t 34)), none⟩,
        ⟨(some 6), .pur (.mv (.k (.int .i64 0))), none⟩])
      (.ret)))
      (.seq (.reg [⟨(some 37), .pur (.bin .lss (.t 9) (.k (.int .u8 32))), none⟩,
        ⟨(some 39), .pur (.mv (.t 9)), some (37, false)⟩,
        ⟨(some 40), .pur (.bin .gtr (.t 39) (.k (.int .u8 126))), some (37, false)⟩,
        ⟨(some 41), .pur (.pick (.t 37) (.k (.bool true)) (.t 40)), none⟩,
        ⟨(some 35), .pur (.mv (.t 41)), none⟩])
      (.cond (.t 35)
       (.seq (.reg [⟨(some 42), .pur (.bld #[.int .i64 0, .string ⟨#[]⟩, .int .i64 0, .int .i64 0] [(0, 1), (1, 1), (2, 1), (3, 1)] []), none⟩,
         ⟨none, .eff (.st 4 (.t 4) (.t 42)), none⟩,
         ⟨(some 5), .pur (.mv (.t 1)), none⟩,
         ⟨(some 6), .pur (.mv (.k (.int .i64 48))), none⟩])
       (.ret))
       (.seq (.reg [⟨(some 46), .pur (.bin .eql (.t 9) (.k (.int .u8 92))), none⟩,
         ⟨(some 44), .pur (.mv (.t 46)), none⟩])
       (.cond (.t 44)
        (.seq (.reg [⟨(some 48), .pur (.bin .add (.t 8) (.k (.int .i64 1))), none⟩,
          ⟨(some 8), .pur (.mv (.t 48)), none⟩])
        (.seq (.seq (.reg [⟨(some 51), .pur (.lens (.t 0)), none⟩,
          ⟨(some 52), .pur (.bin .geq (.t 8) (.t 51)), none⟩,
          ⟨(some 54), .pur (.mv (.t 0)), some (52, false)⟩,
          ⟨(some 55), .pur (.mv (.t 8)), some (52, false)⟩,
          ⟨(some 56), .pur (.idx (.t 54) (.t 55)), some (52, false)⟩,
          ⟨(some 57), .pur (.bin .neq (.t 56) (.k (.int .u8 34))), some (52, false)⟩,
          ⟨(some 58), .pur (.mv (.t 57)), some (52, false)⟩,
          ⟨(some 59), .pur (.mv (.t 0)), some (58, true)⟩,
          ⟨(some 60), .pur (.mv (.t 8)), some (58, true)⟩,
          ⟨(some 61), .pur (.idx (.t 59) (.t 60)), some (58, true)⟩,
          ⟨(some 62), .pur (.bin .neq (.t 61) (.k (.int .u8 92))), some (58, true)⟩,
          ⟨(some 63), .pur (.pick (.t 58) (.t 62) (.k (.bool false))), some (52, false)⟩,
          ⟨(some 64), .pur (.pick (.t 52) (.k (.bool true)) (.t 63)), none⟩])
        (.cond (.t 64)
         (.seq (.reg [⟨(some 65), .pur (.bld #[.int .i64 0, .string ⟨#[]⟩, .int .i64 0, .int .i64 0] [(0, 1), (1, 1), (2, 1), (3, 1)] []), none⟩,
           ⟨none, .eff (.st 4 (.t 4) (.t 65)), none⟩,
           ⟨(some 5), .pur (.mv (.t 1)), none⟩,
           ⟨(some 6), .pur (.mv (.k (.int .i64 48))), none⟩])
         (.ret))
         (.skip)))
        (.reg [⟨(some 69), .pur (.idx (.t 0) (.t 8)), none⟩,
          ⟨(some 9), .pur (.mv (.t 69)), none⟩])))
        (.skip))))))))
    (.reg [⟨(some 72), .new (.bsl 1 1 #[.int .u8 0] [(0, (.t 9))]), none⟩,
      ⟨(some 73), .eff (.app 1 1 (.t 7) (.t 72)), none⟩,
      ⟨(some 7), .pur (.mv (.t 73)), none⟩]))))
   (.reg [⟨(some 17), .pur (.bin .add (.t 8) (.k (.int .i64 1))), none⟩,
     ⟨(some 8), .pur (.mv (.t 17)), none⟩]))))))
 (.seq (.reg [⟨(some 74), .pur (.bld #[.int .i64 0, .string ⟨#[]⟩, .int .i64 0, .int .i64 0] [(0, 1), (1, 1), (2, 1), (3, 1)] []), none⟩,
   ⟨none, .eff (.st 4 (.t 4) (.t 74)), none⟩,
   ⟨(some 5), .pur (.mv (.t 1)), none⟩,
   ⟨(some 6), .pur (.mv (.k (.int .i64 48))), none⟩])
 (.ret)))),
 [.cell 4 4 true, .tmp 5, .tmp 6]⟩
theorem is117 : IsFnO Tryz.prog 117 ir117 := .of 41837226440295493481484 (by kernel_rfl)
/-- pinball/pinballref30.signs -/
noncomputable def ir118 : IFn := ⟨2, .seq (.reg [⟨(some 0), .pur (.mv (.k (.slice none 0 0))), none⟩])
 (.seq (.reg [⟨(some 1), .new (.bsl 1 21 #[.string ⟨#[]⟩] [(0, (.k (.string ⟨#[60, 61]⟩))), (1, (.k (.string ⟨#[62, 61]⟩))), (2, (.k (.string ⟨#[61, 61]⟩))), (3, (.k (.string ⟨#[33, 61]⟩))), (4, (.k (.string ⟨#[38, 38]⟩))), (5, (.k (.string ⟨#[124, 124]⟩))), (6, (.k (.string ⟨#[123]⟩))), (7, (.k (.string ⟨#[125]⟩))), (8, (.k (.string ⟨#[40]⟩))), (9, (.k (.string ⟨#[41]⟩))), (10, (.k (.string ⟨#[59]⟩))), (11, (.k (.string ⟨#[44]⟩))), (12, (.k (.string ⟨#[61]⟩))), (13, (.k (.string ⟨#[43]⟩))), (14, (.k (.string ⟨#[45]⟩))), (15, (.k (.string ⟨#[42]⟩))), (16, (.k (.string ⟨#[47]⟩))), (17, (.k (.string ⟨#[37]⟩))), (18, (.k (.string ⟨#[33]⟩))), (19, (.k (.string ⟨#[60]⟩))), (20, (.k (.string ⟨#[62]⟩)))]), none⟩,
   ⟨(some 0), .pur (.mv (.t 1)), none⟩])
 (.ret)),
 [.tmp 0]⟩
theorem is118 : IsFnO Tryz.prog 118 ir118 := .of 0 (by kernel_rfl)
/-- (*pinball/pinballref31.reader).fail -/
noncomputable def ir119 : IFn := ⟨19, .seq (.reg [⟨(some 7), .pur (.nck (.t 0)), none⟩,
   ⟨(some 8), .pur (.fad 3 (.t 7)), none⟩,
   ⟨(some 9), .pur (.ld 1 false (.t 8)), none⟩,
   ⟨(some 10), .pur (.bin .eql (.t 9) (.k (.int .i64 0))), none⟩])
 (.cond (.t 10)
  (.reg [⟨(some 15), .pur (.nck (.t 0)), none⟩,
    ⟨(some 16), .pur (.fad 3 (.t 15)), none⟩,
    ⟨none, .eff (.st 1 (.t 16) (.t 2)), none⟩,
    ⟨(some 17), .pur (.nck (.t 0)), none⟩,
    ⟨(some 18), .pur (.fad 4 (.t 17)), none⟩,
    ⟨none, .eff (.st 1 (.t 18) (.t 1)), none⟩])
  (.skip)),
 []⟩
theorem is119 : IsFnO Tryz.prog 119 ir119 := .of 30840 (by kernel_rfl)
/-- (*pinball/pinballref31.reader).peek -/
noncomputable def ir120 : IFn := ⟨28, .seq (.reg [⟨(some 2), .new (.box (.k (.agg #[.int .i64 0, .string ⟨#[]⟩, .int .i64 0, .int .i64 0]))), none⟩])
 (.seq (.seq (.drw 10 ⟨[⟨(some 3), .pur (.mv (.t 0)), none⟩,
   ⟨(some 4), .pur (.nck (.t 3)), none⟩,
   ⟨(some 5), .pur (.fad 2 (.t 4)), none⟩,
   ⟨(some 6), .pur (.ld 1 false (.t 5)), none⟩,
   ⟨(some 7), .pur (.mv (.t 0)), none⟩,
   ⟨(some 8), .pur (.nck (.t 7)), none⟩,
   ⟨(some 9), .pur (.fad 0 (.t 8)), none⟩,
   ⟨(some 10), .pur (.ld 1 false (.t 9)), none⟩,
   ⟨(some 11), .pur (.len (.t 10)), none⟩,
   ⟨(some 12), .pur (.bin .lss (.t 6) (.t 11)), none⟩],
   [[], [0], [1, 0], [2, 1, 0], [], [4], [5, 4], [6, 5, 4], [7, 6, 5, 4], [3, 8, 2, 1, 0, 7, 6, 5, 4]],
   [(0, none), (1, none), (2, none), (3, none), (4, none), (5, none), (6, none), (7, none), (8, none), (9, none)]⟩)
 (.cond (.t 12)
  (.seq (.drw 11 ⟨[⟨(some 13), .pur (.mv (.t 0)), none⟩,
    ⟨(some 14), .pur (.nck (.t 13)), none⟩,
    ⟨(some 15), .pur (.fad 0 (.t 14)), none⟩,
    ⟨(some 16), .pur (.ld 1 false (.t 15)), none⟩,
    ⟨(some 17), .pur (.mv (.t 0)), none⟩,
    ⟨(some 18), .pur (.nck (.t 17)), none⟩,
    ⟨(some 19), .pur (.fad 2 (.t 18)), none⟩,
    ⟨(some 20), .pur (.ld 1 false (.t 19)), none⟩,
    ⟨(some 21), .pur (.iad 4 (.t 16) (.t 20)), none⟩,
    ⟨(some 22), .pur (.ld 4 true (.t 21)), none⟩,
    ⟨none, .eff (.st 4 (.t 2) (.t 22)), none⟩],
    [[], [0], [1, 0], [2, 1, 0], [], [4], [5, 4], [6, 5, 4], [3, 7, 2, 1, 0, 6, 5, 4], [8, 3, 7, 2, 1, 0, 6, 5, 4], [9, 0, 1, 2, 3, 4, 5, 6, 7, 8]],
    [(0, none), (1, none), (2, none), (3, none), (4, none), (5, none), (6, none), (7, none), (8, none), (9, none), (10, some [])]⟩)
  (.ret))
  (.skip)))
 (.seq (.reg [⟨(some 24), .pur (.nck (.t 0)), none⟩,
   ⟨(some 25), .pur (.fad 1 (.t 24)), none⟩,
   ⟨(some 26), .pur (.ld 1 false (.t 25)), none⟩,
   ⟨(some 27), .pur (.bld #[.int .i64 0, .string ⟨#[]⟩, .int .i64 0, .int .i64 0] [(0, 1), (1, 1), (2, 1), (3, 1)] [(3, (.t 26))]), none⟩,
   ⟨none, .eff (.st 4 (.t 2) (.t 27)), none⟩])
 (.ret))),
 [.cell 2 4 true]⟩
theorem is120 : IsFnO Tryz.prog 120 ir120 := .of 8388610 (by kernel_rfl)
/-- (*pinball/pinballref31.reader).name -/
noncomputable def ir121 : IFn := ⟨6, .seq (.reg [⟨(some 2), .pur (.mv (.k (.string ⟨#[]⟩))), none⟩])
 (.seq (.reg [⟨(some 4), .call 122 [(.t 0), (.k (.int .i64 1))], none⟩,
   ⟨(some 5), .pur (.fld 1 1 false (.t 4)), none⟩,
   ⟨(some 2), .pur (.mv (.t 5)), none⟩])
 (.ret)),
 [.tmp 2]⟩
theorem is121 : IsFnO Tryz.prog 121 ir121 := .of 10 (by kernel_rfl)
/-- (*pinball/pinballref31.reader).take -/
noncomputable def ir122 : IFn := ⟨23, .seq (.reg [⟨(some 4), .new (.box (.k (.agg #[.int .i64 0, .string ⟨#[]⟩, .int .i64 0, .int .i64 0]))), none⟩])
 (.seq (.reg [⟨(some 7), .call 120 [(.t 0)], none⟩,
   ⟨(some 5), .new (.box (.k (.agg #[.int .i64 0, .string ⟨#[]⟩, .int .i64 0, .int .i64 0]))), none⟩,
   ⟨none, .eff (.st 4 (.t 5) (.t 7)), none⟩])
 (.seq (.seq (.reg [⟨(some 10), .call 139 [(.t 0), (.t 1)], none⟩,
   ⟨(some 11), .pur (.un .not (.t 10)), none⟩])
 (.cond (.t 11)
  (.seq (.reg [⟨(some 13), .call 90 [(.t 0)], none⟩])
  (.seq (.reg [⟨(some 14), .pur (.bld #[.int .i64 0, .string ⟨#[]⟩, .int .i64 0, .int .i64 0] [(0, 1), (1, 1), (2, 1), (3, 1)] []), none⟩,
    ⟨none, .eff (.st 4 (.t 4) (.t 14)), none⟩])
  (.ret)))
  (.skip)))
 (.seq (.reg [⟨(some 16), .pur (.nck (.t 0)), none⟩,
   ⟨(some 17), .pur (.fad 2 (.t 16)), none⟩,
   ⟨(some 18), .pur (.ld 1 false (.t 17)), none⟩,
   ⟨(some 19), .pur (.bin .add (.t 18) (.k (.int .i64 1))), none⟩,
   ⟨(some 20), .pur (.nck (.t 0)), none⟩,
   ⟨(some 21), .pur (.fad 2 (.t 20)), none⟩,
   ⟨none, .eff (.st 1 (.t 21) (.t 19)), none⟩])
 (.seq (.reg [⟨(some 22), .pur (.ld 4 true (.t 5)), none⟩,
   ⟨none, .eff (.st 4 (.t 4) (.t 22)), none⟩])
 (.ret))))),
 [.cell 4 4 true]⟩
theorem is122 : IsFnO Tryz.prog 122 ir122 := .of 37708 (by kernel_rfl)
/-- (*pinball/pinballref31.reader).expect -/
noncomputable def ir123 : IFn := ⟨17, .seq (.seq (.reg [⟨(some 6), .call 89 [(.t 0), (.t 1)], none⟩,
   ⟨(some 7), .pur (.un .not (.t 6)), none⟩])
 (.cond (.t 7)
  (.seq (.reg [⟨(some 9), .call 90 [(.t 0)], none⟩])
  (.ret))
  (.skip)))
 (.reg [⟨(some 11), .pur (.nck (.t 0)), none⟩,
   ⟨(some 12), .pur (.fad 2 (.t 11)), none⟩,
   ⟨(some 13), .pur (.ld 1 false (.t 12)), none⟩,
   ⟨(some 14), .pur (.bin .add (.t 13) (.k (.int .i64 1))), none⟩,
   ⟨(some 15), .pur (.nck (.t 0)), none⟩,
   ⟨(some 16), .pur (.fad 2 (.t 15)), none⟩,
   ⟨none, .eff (.st 1 (.t 16) (.t 14)), none⟩]),
 []⟩
theorem is123 : IsFnO Tryz.prog 123 ir123 := .of 1340 (by kernel_rfl)
/-- pinball/pinballref31.triggers -/
noncomputable def ir124 : IFn := ⟨2, .seq (.reg [⟨(some 0), .pur (.mv (.k (.slice none 0 0))), none⟩])
 (.seq (.reg [⟨(some 1), .new (.bsl 1 6 #[.string ⟨#[]⟩] [(0, (.k (.string ⟨#[115, 116, 97, 114, 116]⟩))), (1, (.k (.string ⟨#[115, 116, 111, 112]⟩))), (2, (.k (.string ⟨#[99, 108, 111, 115, 101]⟩))), (3, (.k (.string ⟨#[111, 112, 101, 110]⟩))), (4, (.k (.string ⟨#[116, 105, 109, 101, 114]⟩))), (5, (.k (.string ⟨#[101, 118, 101, 110, 116]⟩)))]), none⟩,
   ⟨(some 0), .pur (.mv (.t 1)), none⟩])
 (.ret)),
 [.tmp 0]⟩
theorem is124 : IsFnO Tryz.prog 124 ir124 := .of 0 (by kernel_rfl)
/-- (*pinball/pinballref31.reader).block -/
noncomputable def ir125 : IFn := ⟨40, .seq (.reg [⟨(some 4), .pur (.mv (.k (.slice none 0 0))), none⟩])
 (.seq (.reg [⟨(some 5), .pur (.mv (.k (.slice none 0 0))), none⟩])
 (.seq (.reg [⟨(some 7), .call 123 [(.t 0), (.k (.string ⟨#[123]⟩))], none⟩])
 (.seq (.blk 0 (.loop (.seq (.seq (.reg [⟨(some 9), .call 63 [(.t 0)], none⟩,
     ⟨(some 11), .pur (.mv (.t 0)), some (9, true)⟩,
     ⟨(some 12), .call 89 [(.t 11), (.k (.string ⟨#[125]⟩))], some (9, true)⟩,
     ⟨(some 13), .pur (.un .not (.t 12)), some (9, true)⟩,
     ⟨(some 14), .pur (.pick (.t 9) (.t 13) (.k (.bool false))), none⟩])
   (.cond (.t 14)
    (.skip)
    (.exit 0)))
   (.blk 1 (.seq (.seq (.reg [⟨(some 16), .call 140 [], none⟩,
      ⟨(some 17), .call 85 [(.t 0), (.t 16)], none⟩,
      ⟨(some 18), .pur (.bin .lss (.t 17) (.k (.int .i64 0))), none⟩,
      ⟨(some 20), .pur (.mv (.t 0)), some (18, true)⟩,
      ⟨(some 21), .call 139 [(.t 20), (.k (.int .i64 1))], some (18, true)⟩,
      ⟨(some 22), .pur (.un .not (.t 21)), some (18, true)⟩,
      ⟨(some 23), .pur (.pick (.t 18) (.t 22) (.k (.bool false))), none⟩])
    (.cond (.t 23)
     (.seq (.reg [⟨(some 25), .call 90 [(.t 0)], none⟩])
     (.seq (.reg [⟨(some 4), .pur (.mv (.k (.slice none 0 0))), none⟩])
     (.ret)))
     (.skip)))
    (.seq (.reg [⟨(some 28), .pur (.len (.t 5)), none⟩,
      ⟨(some 29), .pur (.bin .add (.t 28) (.k (.int .i64 1))), none⟩,
      ⟨(some 30), .call 87 [(.t 0), (.t 29), (.k (.int .i64 64)), (.k (.int .i64 9))], none⟩])
    (.reg [⟨(some 34), .call 141 [(.t 0), (.t 1)], none⟩,
      ⟨(some 35), .new (.bsl 7 1 #[.int .i64 0, .string ⟨#[]⟩, .string ⟨#[]⟩, .slice none 0 0, .slice none 0 0, .slice none 0 0, .int .i64 0] [(0, (.t 34))]), none⟩,
      ⟨(some 36), .eff (.app 7 120 (.t 5) (.t 35)), none⟩,
      ⟨(some 5), .pur (.mv (.t 36)), none⟩])))))))
 (.seq (.reg [⟨(some 38), .call 123 [(.t 0), (.k (.string ⟨#[125]⟩))], none⟩])
 (.seq (.reg [⟨(some 4), .pur (.mv (.t 5)), none⟩])
 (.ret)))))),
 [.tmp 4]⟩
theorem is125 : IsFnO Tryz.prog 125 ir125 := .of 702445815116 (by kernel_rfl)
/-- pinball/pinballref31.tokens -/
noncomputable def ir126 : IFn := ⟨100, .seq (.reg [⟨(some 1), .new (.box (.t 0)), none⟩,
   ⟨(some 2), .pur (.mv (.k (.slice none 0 0))), none⟩])
 (.seq (.reg [⟨(some 3), .pur (.mv (.k (.slice none 0 0))), none⟩])
 (.seq (.seq (.reg [⟨(some 4), .pur (.mv (.k (.int .i64 0))), none⟩])
 (.blk 0 (.loop (.seq (.seq (.reg [⟨(some 10), .pur (.fad 0 (.t 1)), none⟩,
     ⟨(some 11), .pur (.ld 1 false (.t 10)), none⟩,
     ⟨(some 12), .pur (.len (.t 11)), none⟩,
     ⟨(some 13), .pur (.bin .lss (.t 4) (.t 12)), none⟩])
   (.cond (.t 13)
    (.skip)
    (.exit 0)))
   (.seq (.blk 1 (.reg [⟨(some 17), .pur (.fad 0 (.t 1)), none⟩,
      ⟨(some 18), .pur (.ld 1 false (.t 17)), none⟩,
      ⟨(some 20), .pur (.iad 4 (.t 18) (.t 4)), none⟩,
      ⟨(some 21), .pur (.ld 4 true (.t 20)), none⟩,
      ⟨(some 22), .call 142 [(.t 21)], none⟩,
      ⟨(some 23), .eff (.app 4 40 (.t 3) (.t 22)), none⟩,
      ⟨(some 3), .pur (.mv (.t 23)), none⟩]))
   (.reg [⟨(some 15), .pur (.bin .add (.t 4) (.k (.int .i64 1))), none⟩,
     ⟨(some 4), .pur (.mv (.t 15)), none⟩]))))))
 (.seq (.seq (.reg [⟨(some 5), .pur (.mv (.k (.int .i64 0))), none⟩])
 (.blk 2 (.loop (.seq (.seq (.reg [⟨(some 25), .pur (.fad 1 (.t 1)), none⟩,
     ⟨(some 26), .pur (.ld 1 false (.t 25)), none⟩,
     ⟨(some 27), .pur (.len (.t 26)), none⟩,
     ⟨(some 28), .pur (.bin .lss (.t 5) (.t 27)), none⟩])
   (.cond (.t 28)
    (.skip)
    (.exit 2)))
   (.seq (.blk 3 (.seq (.reg [⟨(some 31), .pur (.fad 1 (.t 1)), none⟩,
      ⟨(some 32), .pur (.ld 1 false (.t 31)), none⟩,
      ⟨(some 34), .pur (.iad 4 (.t 32) (.t 5)), none⟩,
      ⟨(some 35), .pur (.ld 4 true (.t 34)), none⟩,
      ⟨(some 6), .new (.box (.k (.agg #[.string ⟨#[]⟩, .int .i64 0, .slice none 0 0, .int .i64 0]))), none⟩,
      ⟨none, .eff (.st 4 (.t 6) (.t 35)), none⟩])
    (.seq (.drw 15 ⟨[⟨(some 36), .pur (.mv (.t 3)), none⟩,
      ⟨(some 37), .new (.bsl 1 1 #[.string ⟨#[]⟩] [(0, (.k (.string ⟨#[109, 111, 100, 101]⟩)))]), none⟩,
      ⟨(some 38), .call 144 [(.t 37)], none⟩,
      ⟨(some 39), .pur (.fad 0 (.t 6)), none⟩,
      ⟨(some 40), .pur (.ld 1 false (.t 39)), none⟩,
      ⟨(some 41), .call 145 [(.t 40)], none⟩,
      ⟨(some 42), .pur (.fad 1 (.t 6)), none⟩,
      ⟨(some 43), .pur (.ld 1 false (.t 42)), none⟩,
      ⟨(some 44), .call 146 [(.t 43)], none⟩,
      ⟨(some 45), .new (.bsl 1 1 #[.string ⟨#[]⟩] [(0, (.k (.string ⟨#[123]⟩)))]), none⟩,
      ⟨(some 46), .call 144 [(.t 45)], none⟩,
      ⟨(some 47), .new (.bsl 1 4 #[.slice none 0 0] [(0, (.t 38)), (1, (.t 41)), (2, (.t 44)), (3, (.t 46))]), none⟩,
      ⟨(some 48), .call 143 [(.t 47)], none⟩,
      ⟨(some 49), .eff (.app 4 40 (.t 36) (.t 48)), none⟩,
      ⟨(some 3), .pur (.mv (.t 49)), none⟩],
      [[], [], [1], [], [3], [4, 2, 3, 1], [], [6], [7, 5, 6, 4, 2, 3, 1], [], [9, 8, 7, 5, 6, 4, 2, 3, 1], [2, 5, 8, 10, 1, 4, 3, 7, 6, 9], [11, 10, 2, 5, 8, 1, 4, 3, 7, 6, 9], [0, 12, 11, 10, 2, 5, 8, 1, 4, 3, 7, 6, 9], [13, 0, 1, 2, 3, 4, 5, 6, 7, 8, 9, 10, 11, 12]],
      [(0, none), (1, none), (3, none), (4, none), (6, none), (7, none), (9, none), (2, some [0, 3, 4, 6, 7, 9]), (5, some [0, 6, 7, 9]), (8, some [0, 9]), (10, some [0]), (11, none), (12, some [0]), (13, some []), (14, some [])]⟩)
    (.seq (.seq (.reg [⟨(some 7), .pur (.mv (.k (.int .i64 0))), none⟩])
    (.blk 4 (.loop (.seq (.seq (.reg [⟨(some 51), .pur (.fad 2 (.t 6)), none⟩,
        ⟨(some 52), .pur (.ld 1 false (.t 51)), none⟩,
        ⟨(some 53), .pur (.len (.t 52)), none⟩,
        ⟨(some 54), .pur (.bin .lss (.t 7) (.t 53)), none⟩])
      (.cond (.t 54)
       (.skip)
       (.exit 4)))
      (.seq (.blk 5 (.seq (.reg [⟨(some 57), .pur (.fad 2 (.t 6)), none⟩,
         ⟨(some 58), .pur (.ld 1 false (.t 57)), none⟩,
         ⟨(some 60), .pur (.iad 4 (.t 58) (.t 7)), none⟩,
         ⟨(some 61), .pur (.ld 4 true (.t 60)), none⟩,
         ⟨(some 8), .new (.box (.k (.agg #[.int .i64 0, .string ⟨#[]⟩, .slice none 0 0, .int .i64 0]))), none⟩,
         ⟨none, .eff (.st 4 (.t 8) (.t 61)), none⟩])
       (.seq (.seq (.reg [⟨(some 62), .pur (.fad 0 (.t 8)), none⟩,
         ⟨(some 63), .pur (.ld 1 false (.t 62)), none⟩,
         ⟨(some 64), .pur (.bin .lss (.t 63) (.k (.int .i64 1))), none⟩,
         ⟨(some 66), .pur (.fad 0 (.t 8)), some (64, false)⟩,
         ⟨(some 67), .pur (.ld 1 false (.t 66)), some (64, false)⟩,
         ⟨(some 68), .pur (.bin .gtr (.t 67) (.k (.int .i64 6))), some (64, false)⟩,
         ⟨(some 69), .pur (.pick (.t 64) (.k (.bool true)) (.t 68)), none⟩])
       (.cond (.t 69)
        (.seq (.reg [⟨(some 70), .pur (.bld #[.int .i64 0, .string ⟨#[]⟩, .int .i64 0, .int .i64 0] [(0, 1), (1, 1), (2, 1), (3, 1)] []), none⟩,
          ⟨(some 71), .new (.bsl 4 1 #[.int .i64 0, .string ⟨#[]⟩, .int .i64 0, .int .i64 0] [(0, (.t 70))]), none⟩,
          ⟨(some 2), .pur (.mv (.t 71)), none⟩])
        (.ret))
        (.skip)))
       (.seq (.drw 11 ⟨[⟨(some 72), .pur (.mv (.t 3)), none⟩,
         ⟨(some 73), .call 124 [], none⟩,
         ⟨(some 74), .pur (.fad 0 (.t 8)), none⟩,
         ⟨(some 75), .pur (.ld 1 false (.t 74)), none⟩,
         ⟨(some 76), .pur (.bin .sub (.t 75) (.k (.int .i64 1))), none⟩,
         ⟨(some 77), .pur (.iad 1 (.t 73) (.t 76)), none⟩,
         ⟨(some 78), .pur (.ld 1 false (.t 77)), none⟩,
         ⟨(some 79), .new (.bsl 1 2 #[.string ⟨#[]⟩] [(0, (.k (.string ⟨#[111, 110]⟩))), (1, (.t 78))]), none⟩,
         ⟨(some 80), .call 144 [(.t 79)], none⟩,
         ⟨(some 81), .eff (.app 4 40 (.t 72) (.t 80)), none⟩,
         ⟨(some 3), .pur (.mv (.t 81)), none⟩],
         [[], [], [], [2], [3, 2], [1, 4, 3, 2], [5, 1, 4, 3, 2], [6, 5, 1, 4, 3, 2], [7, 1, 6, 5, 4, 3, 2], [0, 8, 7, 1, 6, 5, 4, 3, 2], [9, 0, 1, 2, 3, 4, 5, 6, 7, 8]],
         [(0, none), (2, none), (3, none), (4, none), (1, some [0, 2, 3, 4]), (5, none), (6, none), (7, none), (8, some [0]), (9, some []), (10, some [])]⟩)
       (.seq (.seq (.reg [⟨(some 82), .pur (.fad 0 (.t 8)), none⟩,
         ⟨(some 83), .pur (.ld 1 false (.t 82)), none⟩,
         ⟨(some 84), .pur (.bin .gtr (.t 83) (.k (.int .i64 2))), none⟩])
       (.cond (.t 84)
        (.reg [⟨(some 86), .pur (.fad 1 (.t 8)), none⟩,
          ⟨(some 87), .pur (.ld 1 false (.t 86)), none⟩,
          ⟨(some 88), .call 145 [(.t 87)], none⟩,
          ⟨(some 89), .eff (.app 4 40 (.t 3) (.t 88)), none⟩,
          ⟨(some 3), .pur (.mv (.t 89)), none⟩])
        (.skip)))
       (.reg [⟨(some 91), .pur (.fad 2 (.t 8)), none⟩,
         ⟨(some 92), .pur (.ld 1 false (.t 91)), none⟩,
         ⟨(some 93), .call 147 [(.t 92)], none⟩,
         ⟨(some 94), .eff (.app 4 40 (.t 3) (.t 93)), none⟩,
         ⟨(some 3), .pur (.mv (.t 94)), none⟩]))))))
      (.reg [⟨(some 56), .pur (.bin .add (.t 7) (.k (.int .i64 1))), none⟩,
        ⟨(some 7), .pur (.mv (.t 56)), none⟩]))))))
    (.reg [⟨(some 96), .new (.bsl 1 1 #[.string ⟨#[]⟩] [(0, (.k (.string ⟨#[125]⟩)))]), none⟩,
      ⟨(some 97), .call 144 [(.t 96)], none⟩,
      ⟨(some 98), .eff (.app 4 40 (.t 3) (.t 97)), none⟩,
      ⟨(some 3), .pur (.mv (.t 98)), none⟩])))))
   (.reg [⟨(some 30), .pur (.bin .add (.t 5) (.k (.int .i64 1))), none⟩,
     ⟨(some 5), .pur (.mv (.t 30)), none⟩]))))))
 (.seq (.reg [⟨(some 2), .pur (.mv (.t 3)), none⟩])
 (.ret))))),
 [.tmp 2]⟩
theorem is126 : IsFnO Tryz.prog 126 ir126 := .of 674716007074267021559405822464 (by kernel_rfl)
/-- pinball/pinballref31.Same -/
noncomputable def ir127 : IFn := ⟨135, .seq (.reg [⟨(some 2), .new (.box (.t 0)), none⟩,
   ⟨(some 3), .new (.box (.t 1)), none⟩,
   ⟨(some 4), .pur (.mv (.k (.bool false))), none⟩])
 (.seq (.seq (.reg [⟨(some 12), .pur (.fad 0 (.t 2)), none⟩,
   ⟨(some 13), .pur (.ld 1 false (.t 12)), none⟩,
   ⟨(some 14), .pur (.len (.t 13)), none⟩,
   ⟨(some 15), .pur (.fad 0 (.t 3)), none⟩,
   ⟨(some 16), .pur (.ld 1 false (.t 15)), none⟩,
   ⟨(some 17), .pur (.len (.t 16)), none⟩,
   ⟨(some 18), .pur (.bin .neq (.t 14) (.t 17)), none⟩,
   ⟨(some 20), .pur (.fad 1 (.t 2)), some (18, false)⟩,
   ⟨(some 21), .pur (.ld 1 false (.t 20)), some (18, false)⟩,
   ⟨(some 22), .pur (.len (.t 21)), some (18, false)⟩,
   ⟨(some 23), .pur (.fad 1 (.t 3)), some (18, false)⟩,
   ⟨(some 24), .pur (.ld 1 false (.t 23)), some (18, false)⟩,
   ⟨(some 25), .pur (.len (.t 24)), some (18, false)⟩,
   ⟨(some 26), .pur (.bin .neq (.t 22) (.t 25)), some (18, false)⟩,
   ⟨(some 27), .pur (.pick (.t 18) (.k (.bool true)) (.t 26)), none⟩])
 (.cond (.t 27)
  (.seq (.reg [⟨(some 4), .pur (.mv (.k (.bool false))), none⟩])
  (.ret))
  (.skip)))
 (.seq (.seq (.reg [⟨(some 5), .pur (.mv (.k (.int .i64 0))), none⟩])
 (.blk 0 (.loop (.seq (.seq (.reg [⟨(some 29), .pur (.fad 0 (.t 2)), none⟩,
     ⟨(some 30), .pur (.ld 1 false (.t 29)), none⟩,
     ⟨(some 31), .pur (.len (.t 30)), none⟩,
     ⟨(some 32), .pur (.bin .lss (.t 5) (.t 31)), none⟩])
   (.cond (.t 32)
    (.skip)
    (.exit 0)))
   (.seq (.blk 1 (.seq (.drw 11 ⟨[⟨(some 35), .pur (.fad 0 (.t 2)), none⟩,
      ⟨(some 36), .pur (.ld 1 false (.t 35)), none⟩,
      ⟨(some 37), .pur (.mv (.t 5)), none⟩,
      ⟨(some 38), .pur (.iad 4 (.t 36) (.t 37)), none⟩,
      ⟨(some 39), .pur (.ld 4 true (.t 38)), none⟩,
      ⟨(some 40), .pur (.fad 0 (.t 3)), none⟩,
      ⟨(some 41), .pur (.ld 1 false (.t 40)), none⟩,
      ⟨(some 42), .pur (.mv (.t 5)), none⟩,
      ⟨(some 43), .pur (.iad 4 (.t 41) (.t 42)), none⟩,
      ⟨(some 44), .pur (.ld 4 true (.t 43)), none⟩,
      ⟨(some 45), .pur (.eqa true [0, 2, 0, 0] (.t 39) (.t 44)), none⟩],
      [[], [0], [], [1, 2, 0], [3, 1, 2, 0], [], [5], [], [6, 7, 5], [8, 6, 7, 5], [4, 9, 3, 1, 2, 0, 8, 6, 7, 5]],
      [(0, none), (1, none), (2, none), (3, none), (4, none), (5, none), (6, none), (7, none), (8, none), (9, none), (10, none)]⟩)
    (.cond (.t 45)
     (.seq (.reg [⟨(some 4), .pur (.mv (.k (.bool false))), none⟩])
     (.ret))
     (.skip))))
   (.reg [⟨(some 34), .pur (.bin .add (.t 5) (.k (.int .i64 1))), none⟩,
     ⟨(some 5), .pur (.mv (.t 34)), none⟩]))))))
 (.seq (.seq (.reg [⟨(some 6), .pur (.mv (.k (.int .i64 0))), none⟩])
 (.blk 2 (.loop (.seq (.seq (.reg [⟨(some 47), .pur (.fad 1 (.t 2)), none⟩,
     ⟨(some 48), .pur (.ld 1 false (.t 47)), none⟩,
     ⟨(some 49), .pur (.len (.t 48)), none⟩,
     ⟨(some 50), .pur (.bin .lss (.t 6) (.t 49)), none⟩])
   (.cond (.t 50)
    (.skip)
    (.exit 2)))
   (.seq (.blk 3 (.seq (.drw 14 ⟨[⟨(some 53), .pur (.fad 1 (.t 2)), none⟩,
      ⟨(some 54), .pur (.ld 1 false (.t 53)), none⟩,
      ⟨(some 55), .pur (.mv (.t 6)), none⟩,
      ⟨(some 56), .pur (.iad 4 (.t 54) (.t 55)), none⟩,
      ⟨(some 57), .pur (.ld 4 true (.t 56)), none⟩,
      ⟨(some 58), .pur (.fad 1 (.t 3)), none⟩,
      ⟨(some 59), .pur (.ld 1 false (.t 58)), none⟩,
      ⟨(some 60), .pur (.mv (.t 6)), none⟩,
      ⟨(some 61), .pur (.iad 4 (.t 59) (.t 60)), none⟩,
      ⟨(some 62), .pur (.ld 4 true (.t 61)), none⟩,
      ⟨(some 7), .new (.box (.k (.agg #[.string ⟨#[]⟩, .int .i64 0, .slice none 0 0, .int .i64 0]))), none⟩,
      ⟨(some 8), .new (.box (.k (.agg #[.string ⟨#[]⟩, .int .i64 0, .slice none 0 0, .int .i64 0]))), none⟩,
      ⟨none, .eff (.st 4 (.t 7) (.t 57)), none⟩,
      ⟨none, .eff (.st 4 (.t 8) (.t 62)), none⟩],
      [[], [0], [], [1, 2, 0], [3, 1, 2, 0], [], [5], [], [6, 7, 5], [8, 6, 7, 5], [], [], [10, 4, 0, 1, 2, 3, 11], [11, 9, 12, 0, 1, 2, 3, 4, 5, 6, 7, 8, 10]],
      [(0, none), (1, none), (2, none), (3, none), (4, none), (5, none), (6, none), (7, none), (8, none), (9, none), (10, none), (11, none), (12, some [5, 6, 7, 8, 9]), (13, some [])]⟩)
    (.seq (.seq (.reg [⟨(some 63), .pur (.fad 0 (.t 7)), none⟩,
      ⟨(some 64), .pur (.ld 1 false (.t 63)), none⟩,
      ⟨(some 65), .pur (.fad 0 (.t 8)), none⟩,
      ⟨(some 66), .pur (.ld 1 false (.t 65)), none⟩,
      ⟨(some 67), .pur (.bin .neq (.t 64) (.t 66)), none⟩,
      ⟨(some 69), .pur (.fad 1 (.t 7)), some (67, false)⟩,
      ⟨(some 70), .pur (.ld 1 false (.t 69)), some (67, false)⟩,
      ⟨(some 71), .pur (.fad 1 (.t 8)), some (67, false)⟩,
      ⟨(some 72), .pur (.ld 1 false (.t 71)), some (67, false)⟩,
      ⟨(some 73), .pur (.bin .neq (.t 70) (.t 72)), some (67, false)⟩,
      ⟨(some 74), .pur (.pick (.t 67) (.k (.bool true)) (.t 73)), none⟩,
      ⟨(some 76), .pur (.fad 3 (.t 7)), some (74, false)⟩,
      ⟨(some 77), .pur (.ld 1 false (.t 76)), some (74, false)⟩,
      ⟨(some 78), .pur (.fad 3 (.t 8)), some (74, false)⟩,
      ⟨(some 79), .pur (.ld 1 false (.t 78)), some (74, false)⟩,
      ⟨(some 80), .pur (.bin .neq (.t 77) (.t 79)), some (74, false)⟩,
      ⟨(some 81), .pur (.pick (.t 74) (.k (.bool true)) (.t 80)), none⟩,
      ⟨(some 83), .pur (.fad 2 (.t 7)), some (81, false)⟩,
      ⟨(some 84), .pur (.ld 1 false (.t 83)), some (81, false)⟩,
      ⟨(some 85), .pur (.len (.t 84)), some (81, false)⟩,
      ⟨(some 86), .pur (.fad 2 (.t 8)), some (81, false)⟩,
      ⟨(some 87), .pur (.ld 1 false (.t 86)), some (81, false)⟩,
      ⟨(some 88), .pur (.len (.t 87)), some (81, false)⟩,
      ⟨(some 89), .pur (.bin .neq (.t 85) (.t 88)), some (81, false)⟩,
      ⟨(some 90), .pur (.pick (.t 81) (.k (.bool true)) (.t 89)), none⟩])
    (.cond (.t 90)
     (.seq (.reg [⟨(some 4), .pur (.mv (.k (.bool false))), none⟩])
     (.ret))
     (.skip)))
    (.seq (.reg [⟨(some 9), .pur (.mv (.k (.int .i64 0))), none⟩])
    (.blk 4 (.loop (.seq (.seq (.reg [⟨(some 92), .pur (.fad 2 (.t 7)), none⟩,
        ⟨(some 93), .pur (.ld 1 false (.t 92)), none⟩,
        ⟨(some 94), .pur (.len (.t 93)), none⟩,
        ⟨(some 95), .pur (.bin .lss (.t 9) (.t 94)), none⟩])
      (.cond (.t 95)
       (.skip)
       (.exit 4)))
      (.seq (.blk 5 (.seq (.drw 14 ⟨[⟨(some 98), .pur (.fad 2 (.t 7)), none⟩,
         ⟨(some 99), .pur (.ld 1 false (.t 98)), none⟩,
         ⟨(some 100), .pur (.mv (.t 9)), none⟩,
         ⟨(some 101), .pur (.iad 4 (.t 99) (.t 100)), none⟩,
         ⟨(some 102), .pur (.ld 4 true (.t 101)), none⟩,
         ⟨(some 103), .pur (.fad 2 (.t 8)), none⟩,
         ⟨(some 104), .pur (.ld 1 false (.t 103)), none⟩,
         ⟨(some 105), .pur (.mv (.t 9)), none⟩,
         ⟨(some 106), .pur (.iad 4 (.t 104) (.t 105)), none⟩,
         ⟨(some 107), .pur (.ld 4 true (.t 106)), none⟩,
         ⟨(some 10), .new (.box (.k (.agg #[.int .i64 0, .string ⟨#[]⟩, .slice none 0 0, .int .i64 0]))), none⟩,
         ⟨(some 11), .new (.box (.k (.agg #[.int .i64 0, .string ⟨#[]⟩, .slice none 0 0, .int .i64 0]))), none⟩,
         ⟨none, .eff (.st 4 (.t 10) (.t 102)), none⟩,
         ⟨none, .eff (.st 4 (.t 11) (.t 107)), none⟩],
         [[], [0], [], [1, 2, 0], [3, 1, 2, 0], [], [5], [], [6, 7, 5], [8, 6, 7, 5], [], [], [10, 4, 0, 1, 2, 3, 11], [11, 9, 12, 0, 1, 2, 3, 4, 5, 6, 7, 8, 10]],
         [(0, none), (1, none), (2, none), (3, none), (4, none), (5, none), (6, none), (7, none), (8, none), (9, none), (10, none), (11, none), (12, some [5, 6, 7, 8, 9]), (13, some [])]⟩)
       (.seq (.reg [⟨(some 108), .pur (.fad 0 (.t 10)), none⟩,
         ⟨(some 109), .pur (.ld 1 false (.t 108)), none⟩,
         ⟨(some 110), .pur (.fad 0 (.t 11)), none⟩,
         ⟨(some 111), .pur (.ld 1 false (.t 110)), none⟩,
         ⟨(some 112), .pur (.bin .neq (.t 109) (.t 111)), none⟩,
         ⟨(some 114), .pur (.fad 1 (.t 10)), some (112, false)⟩,
         ⟨(some 115), .pur (.ld 1 false (.t 114)), some (112, false)⟩,
         ⟨(some 116), .pur (.fad 1 (.t 11)), some (112, false)⟩,
         ⟨(some 117), .pur (.ld 1 false (.t 116)), some (112, false)⟩,
         ⟨(some 118), .pur (.bin .neq (.t 115) (.t 117)), some (112, false)⟩,
         ⟨(some 119), .pur (.pick (.t 112) (.k (.bool true)) (.t 118)), none⟩,
         ⟨(some 121), .pur (.fad 3 (.t 10)), some (119, false)⟩,
         ⟨(some 122), .pur (.ld 1 false (.t 121)), some (119, false)⟩,
         ⟨(some 123), .pur (.fad 3 (.t 11)), some (119, false)⟩,
         ⟨(some 124), .pur (.ld 1 false (.t 123)), some (119, false)⟩,
         ⟨(some 125), .pur (.bin .neq (.t 122) (.t 124)), some (119, false)⟩,
         ⟨(some 126), .pur (.pick (.t 119) (.k (.bool true)) (.t 125)), none⟩,
         ⟨(some 128), .pur (.fad 2 (.t 10)), some (126, false)⟩,
         ⟨(some 129), .pur (.ld 1 false (.t 128)), some (126, false)⟩,
         ⟨(some 130), .pur (.fad 2 (.t 11)), some (126, false)⟩,
         ⟨(some 131), .pur (.ld 1 false (.t 130)), some (126, false)⟩,
         ⟨(some 132), .call 148 [(.t 129), (.t 131)], some (126, false)⟩,
         ⟨(some 133), .pur (.un .not (.t 132)), some (126, false)⟩,
         ⟨(some 134), .pur (.pick (.t 126) (.k (.bool true)) (.t 133)), none⟩])
       (.cond (.t 134)
        (.seq (.reg [⟨(some 4), .pur (.mv (.k (.bool false))), none⟩])
        (.ret))
        (.skip)))))
      (.reg [⟨(some 97), .pur (.bin .add (.t 9) (.k (.int .i64 1))), none⟩,
        ⟨(some 9), .pur (.mv (.t 97)), none⟩])))))))))
   (.reg [⟨(some 52), .pur (.bin .add (.t 6) (.k (.int .i64 1))), none⟩,
     ⟨(some 6), .pur (.mv (.t 52)), none⟩]))))))
 (.seq (.reg [⟨(some 4), .pur (.mv (.k (.bool true))), none⟩])
 (.ret))))),
 [.tmp 4]⟩
theorem is127 : IsFnO Tryz.prog 127 ir127 := .of 171480796131680133630043818742795206656 (by kernel_rfl)
/-- pinball/pinballref31.Plain -/
noncomputable def ir128 : IFn := ⟨89, .seq (.reg [⟨(some 1), .new (.box (.t 0)), none⟩,
   ⟨(some 2), .new (.box (.k (.agg #[.slice none 0 0, .slice none 0 0]))), none⟩])
 (.seq (.reg [⟨(some 3), .new (.box (.k (.agg #[.slice none 0 0, .slice none 0 0]))), none⟩])
 (.seq (.seq (.reg [⟨(some 4), .pur (.mv (.k (.int .i64 0))), none⟩])
 (.blk 0 (.loop (.seq (.seq (.reg [⟨(some 11), .pur (.fad 0 (.t 1)), none⟩,
     ⟨(some 12), .pur (.ld 1 false (.t 11)), none⟩,
     ⟨(some 13), .pur (.len (.t 12)), none⟩,
     ⟨(some 14), .pur (.bin .lss (.t 4) (.t 13)), none⟩])
   (.cond (.t 14)
    (.skip)
    (.exit 0)))
   (.seq (.blk 1 (.seq (.reg [⟨(some 17), .pur (.fad 0 (.t 1)), none⟩,
      ⟨(some 18), .pur (.ld 1 false (.t 17)), none⟩,
      ⟨(some 20), .pur (.iad 4 (.t 18) (.t 4)), none⟩,
      ⟨(some 21), .pur (.ld 4 true (.t 20)), none⟩,
      ⟨(some 5), .new (.box (.k (.agg #[.int .i64 0, .string ⟨#[]⟩, .int .i64 0, .int .i64 0]))), none⟩,
      ⟨none, .eff (.st 4 (.t 5) (.t 21)), none⟩])
    (.seq (.reg [⟨(some 22), .pur (.fad 3 (.t 5)), none⟩,
      ⟨none, .eff (.st 1 (.t 22) (.k (.int .i64 0))), none⟩])
    (.reg [⟨(some 23), .pur (.fad 0 (.t 3)), none⟩,
      ⟨(some 24), .pur (.ld 1 false (.t 23)), none⟩,
      ⟨(some 25), .pur (.ld 4 true (.t 5)), none⟩,
      ⟨(some 26), .new (.bsl 4 1 #[.int .i64 0, .string ⟨#[]⟩, .int .i64 0, .int .i64 0] [(0, (.t 25))]), none⟩,
      ⟨(some 27), .eff (.app 4 40 (.t 24) (.t 26)), none⟩,
      ⟨(some 28), .pur (.fad 0 (.t 3)), none⟩,
      ⟨none, .eff (.st 1 (.t 28) (.t 27)), none⟩]))))
   (.reg [⟨(some 16), .pur (.bin .add (.t 4) (.k (.int .i64 1))), none⟩,
     ⟨(some 4), .pur (.mv (.t 16)), none⟩]))))))
 (.seq (.seq (.reg [⟨(some 6), .pur (.mv (.k (.int .i64 0))), none⟩])
 (.blk 2 (.loop (.seq (.seq (.reg [⟨(some 30), .pur (.fad 1 (.t 1)), none⟩,
     ⟨(some 31), .pur (.ld 1 false (.t 30)), none⟩,
     ⟨(some 32), .pur (.len (.t 31)), none⟩,
     ⟨(some 33), .pur (.bin .lss (.t 6) (.t 32)), none⟩])
   (.cond (.t 33)
    (.skip)
    (.exit 2)))
   (.seq (.blk 3 (.seq (.drw 15 ⟨[⟨(some 36), .pur (.fad 1 (.t 1)), none⟩,
      ⟨(some 37), .pur (.ld 1 false (.t 36)), none⟩,
      ⟨(some 38), .pur (.mv (.t 6)), none⟩,
      ⟨(some 39), .pur (.iad 4 (.t 37) (.t 38)), none⟩,
      ⟨(some 40), .pur (.fad 0 (.t 39)), none⟩,
      ⟨(some 41), .pur (.ld 1 false (.t 40)), none⟩,
      ⟨(some 42), .pur (.fad 1 (.t 1)), none⟩,
      ⟨(some 43), .pur (.ld 1 false (.t 42)), none⟩,
      ⟨(some 44), .pur (.mv (.t 6)), none⟩,
      ⟨(some 45), .pur (.iad 4 (.t 43) (.t 44)), none⟩,
      ⟨(some 46), .pur (.fad 1 (.t 45)), none⟩,
      ⟨(some 47), .pur (.ld 1 false (.t 46)), none⟩,
      ⟨(some 48), .pur (.bld #[.string ⟨#[]⟩, .int .i64 0, .slice none 0 0, .int .i64 0] [(0, 1), (1, 1), (2, 1), (3, 1)] [(0, (.t 41)), (1, (.t 47))]), none⟩,
      ⟨(some 7), .new (.box (.k (.agg #[.string ⟨#[]⟩, .int .i64 0, .slice none 0 0, .int .i64 0]))), none⟩,
      ⟨none, .eff (.st 4 (.t 7) (.t 48)), none⟩],
      [[], [0], [], [1, 2, 0], [3, 1, 2, 0], [4, 3, 1, 2, 0], [], [6], [], [7, 8, 6], [9, 7, 8, 6], [10, 9, 7, 8, 6], [5, 11, 4, 3, 1, 2, 0, 10, 9, 7, 8, 6], [], [13, 12, 0, 1, 2, 3, 4, 5, 6, 7, 8, 9, 10, 11]],
      [(0, none), (1, none), (2, none), (3, none), (4, none), (5, none), (6, none), (7, none), (8, none), (9, none), (10, none), (11, none), (12, none), (13, none), (14, some [])]⟩)
    (.seq (.seq (.reg [⟨(some 8), .pur (.mv (.k (.int .i64 0))), none⟩])
    (.blk 4 (.loop (.seq (.seq (.reg [⟨(some 50), .pur (.fad 1 (.t 1)), none⟩,
        ⟨(some 51), .pur (.ld 1 false (.t 50)), none⟩,
        ⟨(some 53), .pur (.iad 4 (.t 51) (.t 6)), none⟩,
        ⟨(some 54), .pur (.fad 2 (.t 53)), none⟩,
        ⟨(some 55), .pur (.ld 1 false (.t 54)), none⟩,
        ⟨(some 56), .pur (.len (.t 55)), none⟩,
        ⟨(some 57), .pur (.bin .lss (.t 8) (.t 56)), none⟩])
      (.cond (.t 57)
       (.skip)
       (.exit 4)))
      (.seq (.blk 5 (.seq (.reg [⟨(some 60), .pur (.fad 1 (.t 1)), none⟩,
         ⟨(some 61), .pur (.ld 1 false (.t 60)), none⟩,
         ⟨(some 63), .pur (.iad 4 (.t 61) (.t 6)), none⟩,
         ⟨(some 64), .pur (.fad 2 (.t 63)), none⟩,
         ⟨(some 65), .pur (.ld 1 false (.t 64)), none⟩,
         ⟨(some 67), .pur (.iad 4 (.t 65) (.t 8)), none⟩,
         ⟨(some 68), .pur (.ld 4 true (.t 67)), none⟩,
         ⟨(some 9), .new (.box (.k (.agg #[.int .i64 0, .string ⟨#[]⟩, .slice none 0 0, .int .i64 0]))), none⟩,
         ⟨none, .eff (.st 4 (.t 9) (.t 68)), none⟩])
       (.drw 14 ⟨[⟨(some 69), .pur (.fad 2 (.t 7)), none⟩,
         ⟨(some 70), .pur (.ld 1 false (.t 69)), none⟩,
         ⟨(some 71), .pur (.fad 0 (.t 9)), none⟩,
         ⟨(some 72), .pur (.ld 1 false (.t 71)), none⟩,
         ⟨(some 73), .pur (.fad 1 (.t 9)), none⟩,
         ⟨(some 74), .pur (.ld 1 false (.t 73)), none⟩,
         ⟨(some 75), .pur (.fad 2 (.t 9)), none⟩,
         ⟨(some 76), .pur (.ld 1 false (.t 75)), none⟩,
         ⟨(some 77), .call 149 [(.t 76)], none⟩,
         ⟨(some 78), .pur (.bld #[.int .i64 0, .string ⟨#[]⟩, .slice none 0 0, .int .i64 0] [(0, 1), (1, 1), (2, 1), (3, 1)] [(0, (.t 72)), (1, (.t 74)), (2, (.t 77))]), none⟩,
         ⟨(some 79), .new (.bsl 4 1 #[.int .i64 0, .string ⟨#[]⟩, .slice none 0 0, .int .i64 0] [(0, (.t 78))]), none⟩,
         ⟨(some 80), .eff (.app 4 56 (.t 70) (.t 79)), none⟩,
         ⟨(some 81), .pur (.fad 2 (.t 7)), none⟩,
         ⟨none, .eff (.st 1 (.t 81) (.t 80)), none⟩],
         [[], [0], [], [2], [], [4], [], [6], [7, 6], [3, 5, 8, 2, 4, 7, 6], [9, 3, 5, 8, 2, 4, 7, 6], [1, 10, 8, 0, 9, 3, 5, 2, 4, 7, 6], [0, 1, 2, 3, 4, 5, 6, 7, 8, 9, 10, 11], [12, 11, 0, 1, 2, 3, 4, 5, 6, 7, 8, 9, 10]],
         [(0, none), (1, none), (2, none), (3, none), (4, none), (5, none), (6, none), (7, none), (8, some [0, 1, 2, 3, 4, 5]), (9, none), (10, none), (11, some []), (12, none), (13, some [])]⟩)))
      (.reg [⟨(some 59), .pur (.bin .add (.t 8) (.k (.int .i64 1))), none⟩,
        ⟨(some 8), .pur (.mv (.t 59)), none⟩]))))))
    (.reg [⟨(some 82), .pur (.fad 1 (.t 3)), none⟩,
      ⟨(some 83), .pur (.ld 1 false (.t 82)), none⟩,
      ⟨(some 84), .pur (.ld 4 true (.t 7)), none⟩,
      ⟨(some 85), .new (.bsl 4 1 #[.string ⟨#[]⟩, .int .i64 0, .slice none 0 0, .int .i64 0] [(0, (.t 84))]), none⟩,
      ⟨(some 86), .eff (.app 4 56 (.t 83) (.t 85)), none⟩,
      ⟨(some 87), .pur (.fad 1 (.t 3)), none⟩,
      ⟨none, .eff (.st 1 (.t 87) (.t 86)), none⟩]))))
   (.reg [⟨(some 35), .pur (.bin .add (.t 6) (.k (.int .i64 1))), none⟩,
     ⟨(some 6), .pur (.mv (.t 35)), none⟩]))))))
 (.seq (.reg [⟨(some 88), .pur (.ld 2 true (.t 3)), none⟩,
   ⟨none, .eff (.st 2 (.t 2) (.t 88)), none⟩])
 (.ret))))),
 [.cell 2 2 true]⟩
theorem is128 : IsFnO Tryz.prog 128 ir128 := .of 78691959256715396096 (by kernel_rfl)
/-- pinball/pinballref32.most -/
noncomputable def ir129 : IFn := ⟨12, .seq (.reg [⟨(some 2), .pur (.mv (.k (.int .i64 0))), none⟩])
 (.seq (.seq (.reg [⟨(some 3), .pur (.mv (.t 0)), none⟩])
 (.blk 0 (.seq (.reg [⟨(some 5), .pur (.bin .eql (.t 3) (.k (.int .i64 1))), none⟩,
    ⟨(some 4), .pur (.mv (.t 5)), none⟩])
  (.cond (.t 4)
   (.seq (.reg [⟨(some 2), .pur (.mv (.k (.int .i64 63))), none⟩])
   (.ret))
   (.seq (.reg [⟨(some 7), .pur (.bin .eql (.t 3) (.k (.int .i64 2))), none⟩,
     ⟨(some 6), .pur (.mv (.t 7)), none⟩])
   (.cond (.t 6)
    (.seq (.reg [⟨(some 2), .pur (.mv (.k (.int .i64 31))), none⟩])
    (.ret))
    (.seq (.seq (.reg [⟨(some 9), .pur (.bin .eql (.t 3) (.k (.int .i64 3))), none⟩,
      ⟨(some 8), .pur (.mv (.t 9)), none⟩])
    (.cond (.t 8)
     (.skip)
     (.seq (.reg [⟨(some 10), .pur (.bin .eql (.t 3) (.k (.int .i64 4))), none⟩,
       ⟨(some 8), .pur (.mv (.t 10)), none⟩])
     (.cond (.t 8)
      (.skip)
      (.reg [⟨(some 11), .pur (.bin .eql (.t 3) (.k (.int .i64 5))), none⟩,
        ⟨(some 8), .pur (.mv (.t 11)), none⟩])))))
    (.cond (.t 8)
     (.seq (.reg [⟨(some 2), .pur (.mv (.k (.int .i64 63))), none⟩])
     (.ret))
     (.skip)))))))))
 (.seq (.reg [⟨(some 2), .pur (.mv (.k (.int .i64 2147483647))), none⟩])
 (.ret))),
 [.tmp 2]⟩
theorem is129 : IsFnO Tryz.prog 129 ir129 := .of 2 (by kernel_rfl)
/-- pinball/pinballref32.lookup -/
noncomputable def ir130 : IFn := ⟨58, .seq (.reg [⟨(some 2), .new (.box (.t 0)), none⟩,
   ⟨(some 4), .pur (.mv (.k (.int .i64 0))), none⟩,
   ⟨(some 5), .pur (.mv (.k (.int .i64 0))), none⟩])
 (.seq (.seq (.reg [⟨(some 6), .pur (.mv (.k (.int .i64 0))), none⟩])
 (.blk 0 (.loop (.seq (.seq (.reg [⟨(some 10), .pur (.fad 0 (.t 2)), none⟩,
     ⟨(some 11), .pur (.ld 1 false (.t 10)), none⟩,
     ⟨(some 12), .pur (.len (.t 11)), none⟩,
     ⟨(some 13), .pur (.bin .lss (.t 6) (.t 12)), none⟩])
   (.cond (.t 13)
    (.skip)
    (.exit 0)))
   (.seq (.blk 1 (.seq (.reg [⟨(some 16), .pur (.fad 0 (.t 2)), none⟩,
      ⟨(some 17), .pur (.ld 1 false (.t 16)), none⟩,
      ⟨(some 19), .pur (.iad 4 (.t 17) (.t 6)), none⟩,
      ⟨(some 20), .pur (.ld 4 true (.t 19)), none⟩,
      ⟨(some 7), .new (.box (.k (.agg #[.int .i64 0, .string ⟨#[]⟩, .int .i64 0, .int .i64 0]))), none⟩,
      ⟨none, .eff (.st 4 (.t 7) (.t 20)), none⟩])
    (.seq (.seq (.reg [⟨(some 21), .pur (.fad 1 (.t 7)), none⟩,
      ⟨(some 22), .pur (.ld 1 false (.t 21)), none⟩,
      ⟨(some 24), .pur (.bin .neq (.t 22) (.t 1)), none⟩])
    (.cond (.t 24)
     (.exit 1)
     (.skip)))
    (.seq (.seq (.reg [⟨(some 25), .pur (.fad 0 (.t 7)), none⟩,
      ⟨(some 26), .pur (.ld 1 false (.t 25)), none⟩,
      ⟨(some 27), .pur (.bin .lss (.t 26) (.k (.int .i64 6))), none⟩])
    (.cond (.t 27)
     (.seq (.drw 6 ⟨[⟨(some 28), .pur (.fad 0 (.t 7)), none⟩,
       ⟨(some 29), .pur (.ld 1 false (.t 28)), none⟩,
       ⟨(some 30), .pur (.fad 2 (.t 7)), none⟩,
       ⟨(some 31), .pur (.ld 1 false (.t 30)), none⟩,
       ⟨(some 4), .pur (.mv (.t 29)), none⟩,
       ⟨(some 5), .pur (.mv (.t 31)), none⟩],
       [[], [0], [], [2], [1, 0], [3, 4, 0, 1, 2]],
       [(0, none), (1, none), (2, none), (3, none), (4, some [2, 3]), (5, some [])]⟩)
     (.ret))
     (.skip)))
    (.seq (.drw 12 ⟨[⟨(some 32), .pur (.fad 0 (.t 7)), none⟩,
      ⟨(some 33), .pur (.ld 1 false (.t 32)), none⟩,
      ⟨(some 34), .pur (.fad 0 (.t 2)), none⟩,
      ⟨(some 35), .pur (.ld 1 false (.t 34)), none⟩,
      ⟨(some 36), .pur (.mv (.t 6)), none⟩,
      ⟨(some 37), .pur (.slc 4 (.t 35) none (some (.t 36))), none⟩,
      ⟨(some 38), .pur (.bld #[.slice none 0 0, .slice none 0 0] [(0, 1), (1, 1)] [(0, (.t 37))]), none⟩,
      ⟨(some 39), .pur (.fad 0 (.t 7)), none⟩,
      ⟨(some 40), .pur (.ld 1 false (.t 39)), none⟩,
      ⟨(some 41), .call 97 [(.t 38), (.t 40)], none⟩,
      ⟨(some 4), .pur (.mv (.t 33)), none⟩,
      ⟨(some 5), .pur (.mv (.t 41)), none⟩],
      [[], [0], [], [2], [], [3, 4, 2], [5, 3, 4, 2], [], [7], [6, 8, 5, 3, 4, 2, 7], [1, 9, 0, 6, 8, 5, 3, 4, 2, 7], [9, 10, 0, 1, 2, 3, 4, 5, 6, 7, 8]],
      [(0, none), (1, none), (2, none), (3, none), (4, none), (5, none), (6, none), (7, none), (8, none), (9, some [0, 1]), (10, some []), (11, some [])]⟩)
    (.ret))))))
   (.reg [⟨(some 15), .pur (.bin .add (.t 6) (.k (.int .i64 1))), none⟩,
     ⟨(some 6), .pur (.mv (.t 15)), none⟩]))))))
 (.seq (.seq (.reg [⟨(some 8), .pur (.mv (.k (.int .i64 0))), none⟩])
 (.blk 2 (.loop (.seq (.seq (.reg [⟨(some 43), .pur (.fad 1 (.t 2)), none⟩,
     ⟨(some 44), .pur (.ld 1 false (.t 43)), none⟩,
     ⟨(some 45), .pur (.len (.t 44)), none⟩,
     ⟨(some 46), .pur (.bin .lss (.t 8) (.t 45)), none⟩])
   (.cond (.t 46)
    (.skip)
    (.exit 2)))
   (.seq (.blk 3 (.seq (.reg [⟨(some 49), .pur (.fad 1 (.t 2)), none⟩,
      ⟨(some 50), .pur (.ld 1 false (.t 49)), none⟩,
      ⟨(some 52), .pur (.iad 4 (.t 50) (.t 8)), none⟩,
      ⟨(some 53), .pur (.fad 0 (.t 52)), none⟩,
      ⟨(some 54), .pur (.ld 1 false (.t 53)), none⟩,
      ⟨(some 56), .pur (.bin .eql (.t 54) (.t 1)), none⟩])
    (.cond (.t 56)
     (.seq (.reg [⟨(some 4), .pur (.mv (.k (.int .i64 9))), none⟩,
       ⟨(some 5), .pur (.mv (.t 8)), none⟩])
     (.ret))
     (.skip))))
   (.reg [⟨(some 48), .pur (.bin .add (.t 8) (.k (.int .i64 1))), none⟩,
     ⟨(some 8), .pur (.mv (.t 48)), none⟩]))))))
 (.seq (.reg [⟨(some 4), .pur (.mv (.k (.int .i64 0))), none⟩,
   ⟨(some 5), .pur (.mv (.k (.int .i64 0))), none⟩])
 (.ret)))),
 [.tmp 4, .tmp 5]⟩
theorem is130 : IsFnO Tryz.prog 130 ir130 := .of 182540920452039176 (by kernel_rfl)
/-- pinball/pinballref32.stmtKind -/
noncomputable def ir131 : IFn := ⟨26, .seq (.reg [⟨(some 2), .pur (.mv (.k (.int .i64 0))), none⟩])
 (.seq (.seq (.reg [⟨(some 3), .pur (.mv (.t 0)), none⟩])
 (.blk 0 (.seq (.reg [⟨(some 5), .pur (.bin .eql (.t 3) (.k (.int .i64 1))), none⟩,
    ⟨(some 4), .pur (.mv (.t 5)), none⟩])
  (.cond (.t 4)
   (.seq (.reg [⟨(some 2), .pur (.mv (.k (.int .i64 6))), none⟩])
   (.ret))
   (.seq (.seq (.reg [⟨(some 7), .pur (.bin .eql (.t 3) (.k (.int .i64 5))), none⟩,
     ⟨(some 6), .pur (.mv (.t 7)), none⟩])
   (.cond (.t 6)
    (.skip)
    (.seq (.reg [⟨(some 8), .pur (.bin .eql (.t 3) (.k (.int .i64 6))), none⟩,
      ⟨(some 6), .pur (.mv (.t 8)), none⟩])
    (.cond (.t 6)
     (.skip)
     (.reg [⟨(some 9), .pur (.bin .eql (.t 3) (.k (.int .i64 7))), none⟩,
       ⟨(some 6), .pur (.mv (.t 9)), none⟩])))))
   (.cond (.t 6)
    (.seq (.reg [⟨(some 2), .pur (.mv (.k (.int .i64 2))), none⟩])
    (.ret))
    (.seq (.seq (.reg [⟨(some 11), .pur (.bin .eql (.t 3) (.k (.int .i64 8))), none⟩,
      ⟨(some 10), .pur (.mv (.t 11)), none⟩])
    (.cond (.t 10)
     (.skip)
     (.reg [⟨(some 12), .pur (.bin .eql (.t 3) (.k (.int .i64 9))), none⟩,
       ⟨(some 10), .pur (.mv (.t 12)), none⟩])))
    (.cond (.t 10)
     (.seq (.reg [⟨(some 2), .pur (.mv (.k (.int .i64 3))), none⟩])
     (.ret))
     (.seq (.seq (.reg [⟨(some 14), .pur (.bin .eql (.t 3) (.k (.int .i64 10))), none⟩,
       ⟨(some 13), .pur (.mv (.t 14)), none⟩])
     (.cond (.t 13)
      (.skip)
      (.reg [⟨(some 15), .pur (.bin .eql (.t 3) (.k (.int .i64 11))), none⟩,
        ⟨(some 13), .pur (.mv (.t 15)), none⟩])))
     (.cond (.t 13)
      (.seq (.reg [⟨(some 2), .pur (.mv (.k (.int .i64 7))), none⟩])
      (.ret))
      (.seq (.seq (.reg [⟨(some 17), .pur (.bin .eql (.t 3) (.k (.int .i64 12))), none⟩,
        ⟨(some 16), .pur (.mv (.t 17)), none⟩])
      (.cond (.t 16)
       (.skip)
       (.reg [⟨(some 18), .pur (.bin .eql (.t 3) (.k (.int .i64 13))), none⟩,
         ⟨(some 16), .pur (.mv (.t 18)), none⟩])))
      (.cond (.t 16)
       (.seq (.reg [⟨(some 2), .pur (.mv (.k (.int .i64 9))), none⟩])
       (.ret))
       (.seq (.reg [⟨(some 20), .pur (.bin .eql (.t 3) (.k (.int .i64 14))), none⟩,
         ⟨(some 19), .pur (.mv (.t 20)), none⟩])
       (.cond (.t 19)
        (.seq (.reg [⟨(some 2), .pur (.mv (.k (.int .i64 8))), none⟩])
        (.ret))
        (.seq (.reg [⟨(some 22), .pur (.bin .eql (.t 3) (.k (.int .i64 15))), none⟩,
          ⟨(some 21), .pur (.mv (.t 22)), none⟩])
        (.cond (.t 21)
         (.seq (.reg [⟨(some 2), .pur (.mv (.k (.int .i64 4))), none⟩])
         (.ret))
         (.seq (.seq (.reg [⟨(some 24), .pur (.bin .eql (.t 3) (.k (.int .i64 16))), none⟩,
           ⟨(some 23), .pur (.mv (.t 24)), none⟩])
         (.cond (.t 23)
          (.skip)
          (.reg [⟨(some 25), .pur (.bin .eql (.t 3) (.k (.int .i64 17))), none⟩,
            ⟨(some 23), .pur (.mv (.t 25)), none⟩])))
         (.cond (.t 23)
          (.seq (.reg [⟨(some 2), .pur (.mv (.k (.int .i64 5))), none⟩])
          (.ret))
          (.skip)))))))))))))))))))
 (.seq (.reg [⟨(some 2), .pur (.mv (.k (.int .i64 0))), none⟩])
 (.ret))),
 [.tmp 2]⟩
theorem is131 : IsFnO Tryz.prog 131 ir131 := .of 2 (by kernel_rfl)
/-- pinball/pinballref32.typeOf -/
noncomputable def ir132 : IFn := ⟨94, .seq (.reg [⟨(some 2), .new (.box (.t 0)), none⟩,
   ⟨(some 3), .new (.box (.t 1)), none⟩,
   ⟨(some 4), .pur (.mv (.k (.int .i64 0))), none⟩,
   ⟨(some 5), .pur (.mv (.k (.int .i64 0))), none⟩,
   ⟨(some 6), .pur (.mv (.k (.int .i64 0))), none⟩])
 (.seq (.reg [⟨(some 7), .pur (.mv (.k (.slice none 0 0))), none⟩])
 (.seq (.seq (.reg [⟨(some 8), .pur (.mv (.k (.int .i64 0))), none⟩])
 (.blk 0 (.loop (.seq (.seq (.reg [⟨(some 16), .pur (.fad 3 (.t 3)), none⟩,
     ⟨(some 17), .pur (.ld 1 false (.t 16)), none⟩,
     ⟨(some 18), .pur (.len (.t 17)), none⟩,
     ⟨(some 19), .pur (.bin .lss (.t 8) (.t 18)), none⟩])
   (.cond (.t 19)
    (.skip)
    (.exit 0)))
   (.seq (.blk 1 (.seq (.drw 14 ⟨[⟨(some 23), .pur (.ld 2 true (.t 2)), none⟩,
      ⟨(some 24), .pur (.fad 3 (.t 3)), none⟩,
      ⟨(some 25), .pur (.ld 1 false (.t 24)), none⟩,
      ⟨(some 26), .pur (.mv (.t 8)), none⟩,
      ⟨(some 27), .pur (.iad 5 (.t 25) (.t 26)), none⟩,
      ⟨(some 28), .pur (.ld 5 true (.t 27)), none⟩,
      ⟨(some 29), .call 132 [(.t 23), (.t 28)], none⟩,
      ⟨(some 22), .pur (.mv (.t 29)), none⟩,
      ⟨(some 30), .pur (.ext (.t 22) 0), none⟩,
      ⟨(some 31), .pur (.ext (.t 22) 1), none⟩,
      ⟨(some 32), .pur (.ext (.t 22) 2), none⟩,
      ⟨(some 9), .pur (.mv (.t 30)), none⟩,
      ⟨(some 10), .pur (.mv (.t 31)), none⟩,
      ⟨(some 11), .pur (.mv (.t 32)), none⟩],
      [[], [], [1], [], [2, 3, 1], [4, 2, 3, 1], [0, 5, 4, 2, 3, 1], [6, 0, 5, 4, 2, 3, 1], [7, 6, 0, 5, 4, 2, 3, 1], [7, 6, 0, 5, 4, 2, 3, 1], [7, 6, 0, 5, 4, 2, 3, 1], [8, 6, 0, 1, 2, 3, 4, 5, 7], [9, 11, 0, 1, 2, 3, 4, 5, 6, 7, 8], [10, 12, 0, 1, 2, 3, 4, 5, 6, 7, 8, 9, 11]],
      [(0, none), (1, none), (2, none), (3, none), (4, none), (5, none), (6, some []), (7, none), (8, none), (9, none), (10, none), (11, some [9, 10]), (12, some [10]), (13, some [])]⟩)
    (.seq (.seq (.reg [⟨(some 34), .pur (.bin .neq (.t 11) (.k (.int .i64 0))), none⟩])
    (.cond (.t 34)
     (.seq (.reg [⟨(some 4), .pur (.mv (.k (.int .i64 0))), none⟩,
       ⟨(some 5), .pur (.mv (.t 10)), none⟩,
       ⟨(some 6), .pur (.mv (.t 11)), none⟩])
     (.ret))
     (.skip)))
    (.reg [⟨(some 39), .new (.bsl 1 1 #[.int .i64 0] [(0, (.t 9))]), none⟩,
      ⟨(some 40), .eff (.app 1 8 (.t 7) (.t 39)), none⟩,
      ⟨(some 7), .pur (.mv (.t 40)), none⟩]))))
   (.reg [⟨(some 21), .pur (.bin .add (.t 8) (.k (.int .i64 1))), none⟩,
     ⟨(some 8), .pur (.mv (.t 21)), none⟩]))))))
 (.seq (.seq (.drw 8 ⟨[⟨(some 41), .pur (.ld 2 true (.t 2)), none⟩,
   ⟨(some 42), .pur (.fad 2 (.t 3)), none⟩,
   ⟨(some 43), .pur (.ld 1 false (.t 42)), none⟩,
   ⟨(some 44), .pur (.fad 0 (.t 3)), none⟩,
   ⟨(some 45), .pur (.ld 1 false (.t 44)), none⟩,
   ⟨(some 46), .call 150 [(.t 45)], none⟩,
   ⟨(some 47), .call 94 [(.t 41), (.t 43), (.t 46)], none⟩,
   ⟨(some 12), .pur (.mv (.t 47)), none⟩],
   [[], [], [1], [], [3], [4, 3], [0, 2, 5, 1, 4, 3], [6, 0, 1, 2, 3, 4, 5]],
   [(0, none), (1, none), (2, none), (3, none), (4, none), (5, some [0, 1, 2]), (6, some []), (7, some [])]⟩)
 (.seq (.reg [⟨(some 49), .pur (.bin .neq (.t 12) (.k (.int .i64 0))), none⟩])
 (.cond (.t 49)
  (.seq (.drw 6 ⟨[⟨(some 50), .pur (.fad 4 (.t 3)), none⟩,
    ⟨(some 51), .pur (.ld 1 false (.t 50)), none⟩,
    ⟨(some 52), .pur (.mv (.t 12)), none⟩,
    ⟨(some 4), .pur (.mv (.k (.int .i64 0))), none⟩,
    ⟨(some 5), .pur (.mv (.t 51)), none⟩,
    ⟨(some 6), .pur (.mv (.t 52)), none⟩],
    [[], [0], [], [], [1, 3, 0], [2, 4, 0, 1, 3]],
    [(0, none), (1, none), (2, none), (3, some [0, 1, 2]), (4, some [2]), (5, some [])]⟩)
  (.ret))
  (.skip))))
 (.seq (.reg [⟨(some 13), .pur (.mv (.k (.int .i64 1))), none⟩])
 (.seq (.seq (.reg [⟨(some 53), .pur (.fad 0 (.t 3)), none⟩,
   ⟨(some 54), .pur (.ld 1 false (.t 53)), none⟩,
   ⟨(some 55), .pur (.bin .eql (.t 54) (.k (.int .i64 11))), none⟩,
   ⟨(some 57), .pur (.fad 0 (.t 3)), some (55, false)⟩,
   ⟨(some 58), .pur (.ld 1 false (.t 57)), some (55, false)⟩,
   ⟨(some 59), .pur (.bin .eql (.t 58) (.k (.int .i64 23))), some (55, false)⟩,
   ⟨(some 60), .pur (.pick (.t 55) (.k (.bool true)) (.t 59)), none⟩,
   ⟨(some 62), .pur (.fad 0 (.t 3)), some (60, false)⟩,
   ⟨(some 63), .pur (.ld 1 false (.t 62)), some (60, false)⟩,
   ⟨(some 64), .pur (.bin .eql (.t 63) (.k (.int .i64 24))), some (60, false)⟩,
   ⟨(some 65), .pur (.pick (.t 60) (.k (.bool true)) (.t 64)), none⟩])
 (.cond (.t 65)
  (.reg [⟨(some 13), .pur (.mv (.k (.int .i64 2))), none⟩])
  (.skip)))
 (.seq (.seq (.reg [⟨(some 66), .pur (.fad 0 (.t 3)), none⟩,
   ⟨(some 67), .pur (.ld 1 false (.t 66)), none⟩,
   ⟨(some 68), .pur (.bin .eql (.t 67) (.k (.int .i64 21))), none⟩,
   ⟨(some 70), .pur (.fad 0 (.t 3)), some (68, false)⟩,
   ⟨(some 71), .pur (.ld 1 false (.t 70)), some (68, false)⟩,
   ⟨(some 72), .pur (.bin .eql (.t 71) (.k (.int .i64 22))), some (68, false)⟩,
   ⟨(some 73), .pur (.pick (.t 68) (.k (.bool true)) (.t 72)), none⟩])
 (.cond (.t 73)
  (.reg [⟨(some 75), .pur (.iad 1 (.t 7) (.k (.int .i64 0))), none⟩,
    ⟨(some 76), .pur (.ld 1 false (.t 75)), none⟩,
    ⟨(some 13), .pur (.mv (.t 76)), none⟩])
  (.skip)))
 (.seq (.seq (.reg [⟨(some 14), .pur (.mv (.k (.int .i64 0))), none⟩])
 (.blk 2 (.loop (.seq (.seq (.reg [⟨(some 79), .pur (.len (.t 7)), none⟩,
     ⟨(some 80), .pur (.bin .lss (.t 14) (.t 79)), none⟩])
   (.cond (.t 80)
    (.skip)
    (.exit 2)))
   (.seq (.blk 3 (.seq (.reg [⟨(some 85), .pur (.iad 1 (.t 7) (.t 14)), none⟩,
      ⟨(some 86), .pur (.ld 1 false (.t 85)), none⟩,
      ⟨(some 88), .pur (.bin .neq (.t 86) (.t 13)), none⟩])
    (.cond (.t 88)
     (.seq (.drw 5 ⟨[⟨(some 89), .pur (.fad 4 (.t 3)), none⟩,
       ⟨(some 90), .pur (.ld 1 false (.t 89)), none⟩,
       ⟨(some 4), .pur (.mv (.k (.int .i64 0))), none⟩,
       ⟨(some 5), .pur (.mv (.t 90)), none⟩,
       ⟨(some 6), .pur (.mv (.k (.int .i64 49))), none⟩],
       [[], [0], [], [1, 2, 0], [3, 0, 1, 2]],
       [(0, none), (1, none), (2, some [0, 1]), (3, some []), (4, some [])]⟩)
     (.ret))
     (.skip))))
   (.reg [⟨(some 82), .pur (.bin .add (.t 14) (.k (.int .i64 1))), none⟩,
     ⟨(some 14), .pur (.mv (.t 82)), none⟩]))))))
 (.seq (.seq (.reg [⟨(some 91), .pur (.fad 0 (.t 3)), none⟩,
   ⟨(some 92), .pur (.ld 1 false (.t 91)), none⟩,
   ⟨(some 93), .call 151 [(.t 92)], none⟩])
 (.cond (.t 93)
  (.seq (.reg [⟨(some 4), .pur (.mv (.k (.int .i64 2))), none⟩,
    ⟨(some 5), .pur (.mv (.k (.int .i64 0))), none⟩,
    ⟨(some 6), .pur (.mv (.k (.int .i64 0))), none⟩])
  (.ret))
  (.skip)))
 (.seq (.reg [⟨(some 4), .pur (.mv (.k (.int .i64 1))), none⟩,
   ⟨(some 5), .pur (.mv (.k (.int .i64 0))), none⟩,
   ⟨(some 6), .pur (.mv (.k (.int .i64 0))), none⟩])
 (.ret)))))))))),
 [.tmp 4, .tmp 5, .tmp 6]⟩
theorem is132 : IsFnO Tryz.prog 132 ir132 := .of 186647405542932818347196416 (by kernel_rfl)
/-- pinball/pinballref32.Lookup -/
noncomputable def ir133 : IFn := ⟨14, .seq (.reg [⟨(some 2), .new (.box (.t 0)), none⟩,
   ⟨(some 4), .pur (.mv (.k (.int .i64 0))), none⟩,
   ⟨(some 5), .pur (.mv (.k (.int .i64 0))), none⟩])
 (.seq (.seq (.reg [⟨(some 6), .pur (.ld 2 true (.t 2)), none⟩,
   ⟨(some 7), .call 92 [(.t 6)], none⟩,
   ⟨(some 8), .pur (.un .not (.t 7)), none⟩])
 (.cond (.t 8)
  (.seq (.reg [⟨(some 4), .pur (.mv (.k (.int .i64 0))), none⟩,
    ⟨(some 5), .pur (.mv (.k (.int .i64 0))), none⟩])
  (.ret))
  (.skip)))
 (.seq (.reg [⟨(some 9), .pur (.ld 2 true (.t 2)), none⟩,
   ⟨(some 11), .call 130 [(.t 9), (.t 1)], none⟩,
   ⟨(some 12), .pur (.ext (.t 11) 0), none⟩,
   ⟨(some 13), .pur (.ext (.t 11) 1), none⟩,
   ⟨(some 4), .pur (.mv (.t 12)), none⟩,
   ⟨(some 5), .pur (.mv (.t 13)), none⟩])
 (.ret))),
 [.tmp 4, .tmp 5]⟩
theorem is133 : IsFnO Tryz.prog 133 ir133 := .of 1032 (by kernel_rfl)
/-- (*pinball/pinballref34.compiler).expr -/
noncomputable def ir134 : IFn := ⟨87, .seq (.reg [⟨(some 3), .new (.box (.t 1)), none⟩])
 (.seq (.seq (.reg [⟨(some 4), .pur (.mv (.k (.int .i64 0))), none⟩])
 (.blk 0 (.loop (.seq (.seq (.reg [⟨(some 6), .pur (.fad 3 (.t 3)), none⟩,
     ⟨(some 7), .pur (.ld 1 false (.t 6)), none⟩,
     ⟨(some 8), .pur (.len (.t 7)), none⟩,
     ⟨(some 9), .pur (.bin .lss (.t 4) (.t 8)), none⟩])
   (.cond (.t 9)
    (.skip)
    (.exit 0)))
   (.seq (.blk 1 (.reg [⟨(some 13), .pur (.fad 3 (.t 3)), none⟩,
      ⟨(some 14), .pur (.ld 1 false (.t 13)), none⟩,
      ⟨(some 16), .pur (.iad 5 (.t 14) (.t 4)), none⟩,
      ⟨(some 17), .pur (.ld 5 true (.t 16)), none⟩,
      ⟨(some 18), .call 134 [(.t 0), (.t 17)], none⟩]))
   (.reg [⟨(some 11), .pur (.bin .add (.t 4) (.k (.int .i64 1))), none⟩,
     ⟨(some 4), .pur (.mv (.t 11)), none⟩]))))))
 (.seq (.reg [⟨(some 19), .pur (.fad 0 (.t 3)), none⟩,
   ⟨(some 20), .pur (.ld 1 false (.t 19)), none⟩])
 (.blk 2 (.seq (.reg [⟨(some 26), .pur (.bin .eql (.t 20) (.k (.int .i64 1))), none⟩,
    ⟨(some 25), .pur (.mv (.t 26)), none⟩])
  (.cond (.t 25)
   (.reg [⟨(some 28), .pur (.fad 1 (.t 3)), none⟩,
     ⟨(some 29), .pur (.ld 1 false (.t 28)), none⟩,
     ⟨(some 30), .call 68 [(.t 0), (.k (.int .i64 1)), (.t 29)], none⟩])
   (.seq (.reg [⟨(some 32), .pur (.bin .eql (.t 20) (.k (.int .i64 3))), none⟩,
     ⟨(some 31), .pur (.mv (.t 32)), none⟩])
   (.cond (.t 31)
    (.reg [⟨(some 34), .call 68 [(.t 0), (.k (.int .i64 1)), (.k (.int .i64 1))], none⟩])
    (.seq (.reg [⟨(some 36), .pur (.bin .eql (.t 20) (.k (.int .i64 4))), none⟩,
      ⟨(some 35), .pur (.mv (.t 36)), none⟩])
    (.cond (.t 35)
     (.reg [⟨(some 38), .call 68 [(.t 0), (.k (.int .i64 1)), (.k (.int .i64 0))], none⟩])
     (.seq (.reg [⟨(some 40), .pur (.bin .eql (.t 20) (.k (.int .i64 2))), none⟩,
       ⟨(some 39), .pur (.mv (.t 40)), none⟩])
     (.cond (.t 39)
      (.reg [⟨(some 43), .pur (.fad 2 (.t 3)), none⟩,
        ⟨(some 44), .pur (.ld 1 false (.t 43)), none⟩,
        ⟨(some 45), .call 98 [(.t 0), (.t 44)], none⟩,
        ⟨(some 46), .call 68 [(.t 0), (.k (.int .i64 2)), (.t 45)], none⟩])
      (.seq (.reg [⟨(some 48), .pur (.bin .eql (.t 20) (.k (.int .i64 5))), none⟩,
        ⟨(some 47), .pur (.mv (.t 48)), none⟩])
      (.cond (.t 47)
       (.reg [⟨(some 51), .pur (.fad 2 (.t 3)), none⟩,
         ⟨(some 52), .pur (.ld 1 false (.t 51)), none⟩,
         ⟨(some 53), .call 98 [(.t 0), (.t 52)], none⟩,
         ⟨(some 54), .call 68 [(.t 0), (.k (.int .i64 4)), (.t 53)], none⟩])
       (.seq (.reg [⟨(some 56), .pur (.bin .eql (.t 20) (.k (.int .i64 6))), none⟩,
         ⟨(some 55), .pur (.mv (.t 56)), none⟩])
       (.cond (.t 55)
        (.reg [⟨(some 59), .pur (.fad 2 (.t 3)), none⟩,
          ⟨(some 60), .pur (.ld 1 false (.t 59)), none⟩,
          ⟨(some 61), .call 98 [(.t 0), (.t 60)], none⟩,
          ⟨(some 62), .call 68 [(.t 0), (.k (.int .i64 5)), (.t 61)], none⟩])
        (.seq (.reg [⟨(some 64), .pur (.bin .eql (.t 20) (.k (.int .i64 7))), none⟩,
          ⟨(some 63), .pur (.mv (.t 64)), none⟩])
        (.cond (.t 63)
         (.reg [⟨(some 67), .pur (.fad 2 (.t 3)), none⟩,
           ⟨(some 68), .pur (.ld 1 false (.t 67)), none⟩,
           ⟨(some 69), .call 98 [(.t 0), (.t 68)], none⟩,
           ⟨(some 70), .call 68 [(.t 0), (.k (.int .i64 6)), (.t 69)], none⟩])
         (.seq (.reg [⟨(some 72), .pur (.bin .eql (.t 20) (.k (.int .i64 8))), none⟩,
           ⟨(some 71), .pur (.mv (.t 72)), none⟩])
         (.cond (.t 71)
          (.reg [⟨(some 74), .call 68 [(.t 0), (.k (.int .i64 7)), (.k (.int .i64 0))], none⟩])
          (.seq (.reg [⟨(some 76), .pur (.bin .eql (.t 20) (.k (.int .i64 9))), none⟩,
            ⟨(some 75), .pur (.mv (.t 76)), none⟩])
          (.cond (.t 75)
           (.reg [⟨(some 78), .call 68 [(.t 0), (.k (.int .i64 8)), (.k (.int .i64 0))], none⟩])
           (.seq (.reg [⟨(some 80), .pur (.bin .eql (.t 20) (.k (.int .i64 10))), none⟩,
             ⟨(some 79), .pur (.mv (.t 80)), none⟩])
           (.cond (.t 79)
            (.reg [⟨(some 82), .call 68 [(.t 0), (.k (.int .i64 9)), (.k (.int .i64 0))], none⟩])
            (.seq (.reg [⟨(some 84), .pur (.bin .eql (.t 20) (.k (.int .i64 11))), none⟩,
              ⟨(some 83), .pur (.mv (.t 84)), none⟩])
            (.cond (.t 83)
             (.reg [⟨(some 86), .call 68 [(.t 0), (.k (.int .i64 10)), (.k (.int .i64 0))], none⟩])
             (.reg [⟨(some 22), .pur (.fad 0 (.t 3)), none⟩,
               ⟨(some 23), .pur (.ld 1 false (.t 22)), none⟩,
               ⟨(some 24), .call 68 [(.t 0), (.k (.int .i64 11)), (.t 23)], none⟩])))))))))))))))))))))))))),
 []⟩
theorem is134 : IsFnO Tryz.prog 134 ir134 := .of 41264149441820559457424420 (by kernel_rfl)
/-- (*pinball/pinballref34.compiler).text -/
noncomputable def ir135 : IFn := ⟨41, .seq (.reg [⟨(some 4), .pur (.mv (.k (.int .i64 0))), none⟩])
 (.seq (.seq (.reg [⟨(some 5), .pur (.mv (.k (.int .i64 0))), none⟩])
 (.blk 0 (.loop (.seq (.seq (.reg [⟨(some 8), .pur (.nck (.t 0)), none⟩,
     ⟨(some 9), .pur (.fad 3 (.t 8)), none⟩,
     ⟨(some 10), .pur (.ld 1 false (.t 9)), none⟩,
     ⟨(some 11), .pur (.len (.t 10)), none⟩,
     ⟨(some 12), .pur (.bin .lss (.t 5) (.t 11)), none⟩])
   (.cond (.t 12)
    (.skip)
    (.exit 0)))
   (.seq (.blk 1 (.seq (.reg [⟨(some 16), .pur (.nck (.t 0)), none⟩,
      ⟨(some 17), .pur (.fad 3 (.t 16)), none⟩,
      ⟨(some 18), .pur (.ld 1 false (.t 17)), none⟩,
      ⟨(some 20), .pur (.iad 1 (.t 18) (.t 5)), none⟩,
      ⟨(some 21), .pur (.ld 1 false (.t 20)), none⟩,
      ⟨(some 23), .pur (.bin .eql (.t 21) (.t 1)), none⟩])
    (.cond (.t 23)
     (.seq (.reg [⟨(some 4), .pur (.mv (.t 5)), none⟩])
     (.ret))
     (.skip))))
   (.reg [⟨(some 14), .pur (.bin .add (.t 5) (.k (.int .i64 1))), none⟩,
     ⟨(some 5), .pur (.mv (.t 14)), none⟩]))))))
 (.seq (.reg [⟨(some 27), .pur (.nck (.t 0)), none⟩,
   ⟨(some 28), .pur (.fad 3 (.t 27)), none⟩,
   ⟨(some 29), .pur (.ld 1 false (.t 28)), none⟩,
   ⟨(some 31), .new (.bsl 1 1 #[.string ⟨#[]⟩] [(0, (.t 1))]), none⟩,
   ⟨(some 32), .eff (.app 1 16 (.t 29) (.t 31)), none⟩,
   ⟨(some 33), .pur (.nck (.t 0)), none⟩,
   ⟨(some 34), .pur (.fad 3 (.t 33)), none⟩,
   ⟨none, .eff (.st 1 (.t 34) (.t 32)), none⟩])
 (.seq (.reg [⟨(some 36), .pur (.nck (.t 0)), none⟩,
   ⟨(some 37), .pur (.fad 3 (.t 36)), none⟩,
   ⟨(some 38), .pur (.ld 1 false (.t 37)), none⟩,
   ⟨(some 39), .pur (.len (.t 38)), none⟩,
   ⟨(some 40), .pur (.bin .sub (.t 39) (.k (.int .i64 1))), none⟩,
   ⟨(some 4), .pur (.mv (.t 40)), none⟩])
 (.ret)))),
 [.tmp 4]⟩
theorem is135 : IsFnO Tryz.prog 135 ir135 := .of 35555680460 (by kernel_rfl)
/-- pinball/pinballref34.op -/
noncomputable def ir136 : IFn := ⟨36, .seq (.reg [⟨(some 2), .pur (.mv (.k (.int .i64 0))), none⟩])
 (.seq (.seq (.reg [⟨(some 3), .pur (.mv (.t 0)), none⟩])
 (.blk 0 (.seq (.reg [⟨(some 5), .pur (.bin .eql (.t 3) (.k (.int .i64 1))), none⟩,
    ⟨(some 4), .pur (.mv (.t 5)), none⟩])
  (.cond (.t 4)
   (.seq (.reg [⟨(some 2), .pur (.mv (.k (.int .i64 3))), none⟩])
   (.ret))
   (.seq (.reg [⟨(some 7), .pur (.bin .eql (.t 3) (.k (.int .i64 4))), none⟩,
     ⟨(some 6), .pur (.mv (.t 7)), none⟩])
   (.cond (.t 6)
    (.seq (.reg [⟨(some 2), .pur (.mv (.k (.int .i64 15))), none⟩])
    (.ret))
    (.seq (.reg [⟨(some 9), .pur (.bin .eql (.t 3) (.k (.int .i64 5))), none⟩,
      ⟨(some 8), .pur (.mv (.t 9)), none⟩])
    (.cond (.t 8)
     (.seq (.reg [⟨(some 2), .pur (.mv (.k (.int .i64 16))), none⟩])
     (.ret))
     (.seq (.reg [⟨(some 11), .pur (.bin .eql (.t 3) (.k (.int .i64 6))), none⟩,
       ⟨(some 10), .pur (.mv (.t 11)), none⟩])
     (.cond (.t 10)
      (.seq (.reg [⟨(some 2), .pur (.mv (.k (.int .i64 17))), none⟩])
      (.ret))
      (.seq (.reg [⟨(some 13), .pur (.bin .eql (.t 3) (.k (.int .i64 7))), none⟩,
        ⟨(some 12), .pur (.mv (.t 13)), none⟩])
      (.cond (.t 12)
       (.seq (.reg [⟨(some 2), .pur (.mv (.k (.int .i64 18))), none⟩])
       (.ret))
       (.seq (.reg [⟨(some 15), .pur (.bin .eql (.t 3) (.k (.int .i64 8))), none⟩,
         ⟨(some 14), .pur (.mv (.t 15)), none⟩])
       (.cond (.t 14)
        (.seq (.reg [⟨(some 2), .pur (.mv (.k (.int .i64 19))), none⟩])
        (.ret))
        (.seq (.reg [⟨(some 17), .pur (.bin .eql (.t 3) (.k (.int .i64 9))), none⟩,
          ⟨(some 16), .pur (.mv (.t 17)), none⟩])
        (.cond (.t 16)
         (.seq (.reg [⟨(some 2), .pur (.mv (.k (.int .i64 20))), none⟩])
         (.ret))
         (.seq (.reg [⟨(some 19), .pur (.bin .eql (.t 3) (.k (.int .i64 10))), none⟩,
           ⟨(some 18), .pur (.mv (.t 19)), none⟩])
         (.cond (.t 18)
          (.seq (.reg [⟨(some 2), .pur (.mv (.k (.int .i64 21))), none⟩])
          (.ret))
          (.seq (.reg [⟨(some 21), .pur (.bin .eql (.t 3) (.k (.int .i64 11))), none⟩,
            ⟨(some 20), .pur (.mv (.t 21)), none⟩])
          (.cond (.t 20)
           (.seq (.reg [⟨(some 2), .pur (.mv (.k (.int .i64 22))), none⟩])
           (.ret))
           (.seq (.reg [⟨(some 23), .pur (.bin .eql (.t 3) (.k (.int .i64 12))), none⟩,
             ⟨(some 22), .pur (.mv (.t 23)), none⟩])
           (.cond (.t 22)
            (.seq (.reg [⟨(some 2), .pur (.mv (.k (.int .i64 23))), none⟩])
            (.ret))
            (.seq (.reg [⟨(some 25), .pur (.bin .eql (.t 3) (.k (.int .i64 13))), none⟩,
              ⟨(some 24), .pur (.mv (.t 25)), none⟩])
            (.cond (.t 24)
             (.seq (.reg [⟨(some 2), .pur (.mv (.k (.int .i64 24))), none⟩])
             (.ret))
             (.seq (.reg [⟨(some 27), .pur (.bin .eql (.t 3) (.k (.int .i64 14))), none⟩,
               ⟨(some 26), .pur (.mv (.t 27)), none⟩])
             (.cond (.t 26)
              (.seq (.reg [⟨(some 2), .pur (.mv (.k (.int .i64 25))), none⟩])
              (.ret))
              (.seq (.reg [⟨(some 29), .pur (.bin .eql (.t 3) (.k (.int .i64 15))), none⟩,
                ⟨(some 28), .pur (.mv (.t 29)), none⟩])
              (.cond (.t 28)
               (.seq (.reg [⟨(some 2), .pur (.mv (.k (.int .i64 26))), none⟩])
               (.ret))
               (.seq (.reg [⟨(some 31), .pur (.bin .eql (.t 3) (.k (.int .i64 16))), none⟩,
                 ⟨(some 30), .pur (.mv (.t 31)), none⟩])
               (.cond (.t 30)
                (.seq (.reg [⟨(some 2), .pur (.mv (.k (.int .i64 27))), none⟩])
                (.ret))
                (.seq (.reg [⟨(some 33), .pur (.bin .eql (.t 3) (.k (.int .i64 17))), none⟩,
                  ⟨(some 32), .pur (.mv (.t 33)), none⟩])
                (.cond (.t 32)
                 (.seq (.reg [⟨(some 2), .pur (.mv (.k (.int .i64 28))), none⟩])
                 (.ret))
                 (.seq (.reg [⟨(some 35), .pur (.bin .eql (.t 3) (.k (.int .i64 18))), none⟩,
                   ⟨(some 34), .pur (.mv (.t 35)), none⟩])
                 (.cond (.t 34)
                  (.seq (.reg [⟨(some 2), .pur (.mv (.k (.int .i64 29))), none⟩])
                  (.ret))
                  (.skip)))))))))))))))))))))))))))))))))))
 (.seq (.reg [⟨(some 2), .pur (.mv (.k (.int .i64 30))), none⟩])
 (.ret))),
 [.tmp 2]⟩
theorem is136 : IsFnO Tryz.prog 136 ir136 := .of 2 (by kernel_rfl)
/-- slices.IndexFunc[[]string,string] -/
noncomputable def ir137 : IFn := ⟨19, .seq (.reg [⟨(some 4), .pur (.mv (.k (.int .i64 0))), none⟩])
 (.seq (.seq (.reg [⟨(some 7), .pur (.len (.t 0)), none⟩,
   ⟨(some 8), .pur (.mv (.k (.int .i64 0))), none⟩])
 (.blk 0 (.loop (.seq (.reg [⟨(some 9), .pur (.bin .lss (.t 8) (.t 7)), none⟩])
   (.seq (.cond (.t 9)
    (.skip)
    (.exit 0))
   (.seq (.blk 1 (.seq (.reg [⟨(some 5), .pur (.mv (.t 8)), none⟩])
    (.seq (.reg [⟨(some 14), .pur (.iad 1 (.t 0) (.t 5)), none⟩,
      ⟨(some 15), .pur (.ld 1 false (.t 14)), none⟩,
      ⟨(some 16), .callv (.t 1) [(.t 15)], none⟩])
    (.cond (.t 16)
     (.seq (.reg [⟨(some 4), .pur (.mv (.t 5)), none⟩])
     (.ret))
     (.skip)))))
   (.reg [⟨(some 18), .pur (.bin .add (.t 8) (.k (.int .i64 1))), none⟩,
     ⟨(some 8), .pur (.mv (.t 18)), none⟩])))))))
 (.seq (.reg [⟨(some 4), .pur (.mv (.k (.int .i64 (-1)))), none⟩])
 (.ret))),
 [.tmp 4]⟩
theorem is137 : IsFnO Tryz.prog 137 ir137 := .of 146508 (by kernel_rfl)
/-- pinball/pinballref30.IsWord -/
noncomputable def ir138 : IFn := ⟨18, .seq (.reg [⟨(some 2), .pur (.mv (.k (.bool false))), none⟩])
 (.seq (.reg [⟨(some 5), .call 152 [], none⟩,
   ⟨(some 3), .pur (.mv (.t 5)), none⟩])
 (.seq (.seq (.reg [⟨(some 4), .pur (.mv (.k (.int .i64 0))), none⟩])
 (.blk 0 (.loop (.seq (.seq (.reg [⟨(some 8), .pur (.len (.t 3)), none⟩,
     ⟨(some 9), .pur (.bin .lss (.t 4) (.t 8)), none⟩])
   (.cond (.t 9)
    (.skip)
    (.exit 0)))
   (.seq (.blk 1 (.seq (.reg [⟨(some 14), .pur (.iad 1 (.t 3) (.t 4)), none⟩,
      ⟨(some 15), .pur (.ld 1 false (.t 14)), none⟩,
      ⟨(some 17), .pur (.bin .eql (.t 15) (.t 0)), none⟩])
    (.cond (.t 17)
     (.seq (.reg [⟨(some 2), .pur (.mv (.k (.bool true))), none⟩])
     (.ret))
     (.skip))))
   (.reg [⟨(some 11), .pur (.bin .add (.t 4) (.k (.int .i64 1))), none⟩,
     ⟨(some 4), .pur (.mv (.t 11)), none⟩]))))))
 (.seq (.reg [⟨(some 2), .pur (.mv (.k (.bool false))), none⟩])
 (.ret)))),
 [.tmp 2]⟩
theorem is138 : IsFnO Tryz.prog 138 ir138 := .of 79042 (by kernel_rfl)
/-- (*pinball/pinballref31.reader).isKind -/
noncomputable def ir139 : IFn := ⟨14, .seq (.reg [⟨(some 4), .pur (.mv (.k (.bool false))), none⟩])
 (.seq (.reg [⟨(some 6), .call 63 [(.t 0)], none⟩,
   ⟨(some 8), .pur (.mv (.t 0)), some (6, true)⟩,
   ⟨(some 9), .call 120 [(.t 8)], some (6, true)⟩,
   ⟨(some 10), .pur (.fld 0 1 false (.t 9)), some (6, true)⟩,
   ⟨(some 11), .pur (.mv (.t 1)), some (6, true)⟩,
   ⟨(some 12), .pur (.bin .eql (.t 10) (.t 11)), some (6, true)⟩,
   ⟨(some 13), .pur (.pick (.t 6) (.t 12) (.k (.bool false))), none⟩,
   ⟨(some 4), .pur (.mv (.t 13)), none⟩])
 (.ret)),
 [.tmp 4]⟩
theorem is139 : IsFnO Tryz.prog 139 ir139 := .of 172 (by kernel_rfl)
/-- pinball/pinballref31.stmts -/
noncomputable def ir140 : IFn := ⟨2, .seq (.reg [⟨(some 0), .pur (.mv (.k (.slice none 0 0))), none⟩])
 (.seq (.reg [⟨(some 1), .new (.bsl 1 18 #[.string ⟨#[]⟩] [(0, (.k (.string ⟨#[105, 102]⟩))), (1, (.k (.string ⟨#[114, 101, 112, 101, 97, 116]⟩))), (2, (.k (.string ⟨#[115, 99, 111, 114, 101]⟩))), (3, (.k (.string ⟨#[102, 105, 114, 101]⟩))), (4, (.k (.string ⟨#[104, 111, 108, 100]⟩))), (5, (.k (.string ⟨#[114, 101, 108, 101, 97, 115, 101]⟩))), (6, (.k (.string ⟨#[108, 105, 103, 104, 116]⟩))), (7, (.k (.string ⟨#[98, 108, 105, 110, 107]⟩))), (8, (.k (.string ⟨#[115, 116, 97, 114, 116]⟩))), (9, (.k (.string ⟨#[115, 116, 111, 112]⟩))), (10, (.k (.string ⟨#[98, 101, 103, 105, 110]⟩))), (11, (.k (.string ⟨#[101, 110, 100]⟩))), (12, (.k (.string ⟨#[112, 111, 115, 116]⟩))), (13, (.k (.string ⟨#[112, 108, 97, 121]⟩))), (14, (.k (.string ⟨#[114, 117, 110]⟩))), (15, (.k (.string ⟨#[104, 97, 108, 116]⟩))), (16, (.k (.string ⟨#[116, 101, 120, 116]⟩))), (17, (.k (.string ⟨#[99, 111, 110, 115, 117, 109, 101]⟩)))]), none⟩,
   ⟨(some 0), .pur (.mv (.t 1)), none⟩])
 (.ret)),
 [.tmp 0]⟩
theorem is140 : IsFnO Tryz.prog 140 ir140 := .of 0 (by kernel_rfl)
/-- (*pinball/pinballref31.reader).statement -/
noncomputable def ir141 : IFn := ⟨134, .seq (.reg [⟨(some 4), .new (.box (.k (.agg #[.int .i64 0, .string ⟨#[]⟩, .string ⟨#[]⟩, .slice none 0 0, .slice none 0 0, .slice none 0 0, .int .i64 0]))), none⟩])
 (.seq (.reg [⟨(some 9), .call 87 [(.t 0), (.t 1), (.k (.int .i64 8)), (.k (.int .i64 50))], none⟩])
 (.seq (.seq (.reg [⟨(some 11), .call 63 [(.t 0)], none⟩,
   ⟨(some 12), .pur (.un .not (.t 11)), none⟩])
 (.cond (.t 12)
  (.seq (.reg [⟨(some 13), .pur (.bld #[.int .i64 0, .string ⟨#[]⟩, .string ⟨#[]⟩, .slice none 0 0, .slice none 0 0, .slice none 0 0, .int .i64 0] [(0, 1), (1, 1), (2, 1), (3, 1), (4, 1), (5, 1), (6, 1)] []), none⟩,
    ⟨none, .eff (.st 7 (.t 4) (.t 13)), none⟩])
  (.ret))
  (.skip)))
 (.seq (.reg [⟨(some 15), .call 120 [(.t 0)], none⟩,
   ⟨(some 16), .pur (.fld 3 1 false (.t 15)), none⟩,
   ⟨(some 17), .pur (.bld #[.int .i64 0, .string ⟨#[]⟩, .string ⟨#[]⟩, .slice none 0 0, .slice none 0 0, .slice none 0 0, .int .i64 0] [(0, 1), (1, 1), (2, 1), (3, 1), (4, 1), (5, 1), (6, 1)] [(6, (.t 16))]), none⟩,
   ⟨(some 5), .new (.box (.k (.agg #[.int .i64 0, .string ⟨#[]⟩, .string ⟨#[]⟩, .slice none 0 0, .slice none 0 0, .slice none 0 0, .int .i64 0]))), none⟩,
   ⟨none, .eff (.st 7 (.t 5) (.t 17)), none⟩])
 (.seq (.reg [⟨(some 19), .call 140 [], none⟩,
   ⟨(some 20), .call 85 [(.t 0), (.t 19)], none⟩,
   ⟨(some 6), .pur (.mv (.t 20)), none⟩])
 (.seq (.seq (.reg [⟨(some 22), .pur (.bin .lss (.t 6) (.k (.int .i64 0))), none⟩])
 (.cond (.t 22)
  (.seq (.reg [⟨(some 24), .call 121 [(.t 0)], none⟩,
    ⟨(some 25), .pur (.fad 0 (.t 5)), none⟩,
    ⟨none, .eff (.st 1 (.t 25) (.k (.int .i64 1))), none⟩,
    ⟨(some 26), .pur (.fad 1 (.t 5)), none⟩,
    ⟨none, .eff (.st 1 (.t 26) (.t 24)), none⟩])
  (.seq (.reg [⟨(some 28), .call 123 [(.t 0), (.k (.string ⟨#[61]⟩))], none⟩])
  (.seq (.reg [⟨(some 30), .call 153 [(.t 0)], none⟩,
    ⟨(some 31), .new (.bsl 5 1 #[.int .i64 0, .int .i64 0, .string ⟨#[]⟩, .slice none 0 0, .int .i64 0] [(0, (.t 30))]), none⟩,
    ⟨(some 32), .pur (.fad 3 (.t 5)), none⟩,
    ⟨none, .eff (.st 1 (.t 32) (.t 31)), none⟩])
  (.seq (.reg [⟨(some 34), .call 123 [(.t 0), (.k (.string ⟨#[59]⟩))], none⟩])
  (.seq (.reg [⟨(some 35), .pur (.ld 7 true (.t 5)), none⟩,
    ⟨none, .eff (.st 7 (.t 4) (.t 35)), none⟩])
  (.ret))))))
  (.skip)))
 (.seq (.reg [⟨(some 37), .pur (.nck (.t 0)), none⟩,
   ⟨(some 38), .pur (.fad 2 (.t 37)), none⟩,
   ⟨(some 39), .pur (.ld 1 false (.t 38)), none⟩,
   ⟨(some 40), .pur (.bin .add (.t 39) (.k (.int .i64 1))), none⟩,
   ⟨(some 41), .pur (.nck (.t 0)), none⟩,
   ⟨(some 42), .pur (.fad 2 (.t 41)), none⟩,
   ⟨none, .eff (.st 1 (.t 42) (.t 40)), none⟩])
 (.seq (.reg [⟨(some 44), .pur (.bin .add (.k (.int .i64 2)) (.t 6)), none⟩,
   ⟨(some 45), .pur (.fad 0 (.t 5)), none⟩,
   ⟨none, .eff (.st 1 (.t 45) (.t 44)), none⟩])
 (.seq (.seq (.reg [⟨(some 46), .pur (.fad 0 (.t 5)), none⟩,
   ⟨(some 47), .pur (.ld 1 false (.t 46)), none⟩])
 (.blk 0 (.seq (.seq (.reg [⟨(some 81), .pur (.bin .eql (.t 47) (.k (.int .i64 2))), none⟩,
    ⟨(some 80), .pur (.mv (.t 81)), none⟩])
  (.cond (.t 80)
   (.skip)
   (.reg [⟨(some 82), .pur (.bin .eql (.t 47) (.k (.int .i64 3))), none⟩,
     ⟨(some 80), .pur (.mv (.t 82)), none⟩])))
  (.cond (.t 80)
   (.seq (.reg [⟨(some 84), .call 153 [(.t 0)], none⟩,
     ⟨(some 85), .new (.bsl 5 1 #[.int .i64 0, .int .i64 0, .string ⟨#[]⟩, .slice none 0 0, .int .i64 0] [(0, (.t 84))]), none⟩,
     ⟨(some 86), .pur (.fad 3 (.t 5)), none⟩,
     ⟨none, .eff (.st 1 (.t 86) (.t 85)), none⟩])
   (.seq (.reg [⟨(some 89), .pur (.bin .add (.t 1) (.k (.int .i64 1))), none⟩,
     ⟨(some 90), .call 125 [(.t 0), (.t 89)], none⟩,
     ⟨(some 91), .pur (.fad 4 (.t 5)), none⟩,
     ⟨none, .eff (.st 1 (.t 91) (.t 90)), none⟩])
   (.seq (.seq (.reg [⟨(some 92), .pur (.fad 0 (.t 5)), none⟩,
     ⟨(some 93), .pur (.ld 1 false (.t 92)), none⟩,
     ⟨(some 94), .pur (.bin .eql (.t 93) (.k (.int .i64 2))), none⟩,
     ⟨(some 96), .pur (.mv (.t 0)), some (94, true)⟩,
     ⟨(some 97), .call 89 [(.t 96), (.k (.string ⟨#[101, 108, 115, 101]⟩))], some (94, true)⟩,
     ⟨(some 98), .pur (.pick (.t 94) (.t 97) (.k (.bool false))), none⟩])
   (.cond (.t 98)
    (.seq (.reg [⟨(some 100), .pur (.nck (.t 0)), none⟩,
      ⟨(some 101), .pur (.fad 2 (.t 100)), none⟩,
      ⟨(some 102), .pur (.ld 1 false (.t 101)), none⟩,
      ⟨(some 103), .pur (.bin .add (.t 102) (.k (.int .i64 1))), none⟩,
      ⟨(some 104), .pur (.nck (.t 0)), none⟩,
      ⟨(some 105), .pur (.fad 2 (.t 104)), none⟩,
      ⟨none, .eff (.st 1 (.t 105) (.t 103)), none⟩])
    (.reg [⟨(some 108), .call 154 [(.t 0), (.t 1)], none⟩,
      ⟨(some 109), .pur (.fad 5 (.t 5)), none⟩,
      ⟨none, .eff (.st 1 (.t 109) (.t 108)), none⟩]))
    (.skip)))
   (.seq (.reg [⟨(some 110), .pur (.ld 7 true (.t 5)), none⟩,
     ⟨none, .eff (.st 7 (.t 4) (.t 110)), none⟩])
   (.ret)))))
   (.seq (.reg [⟨(some 112), .pur (.bin .eql (.t 47) (.k (.int .i64 4))), none⟩,
     ⟨(some 111), .pur (.mv (.t 112)), none⟩])
   (.cond (.t 111)
    (.reg [⟨(some 114), .call 153 [(.t 0)], none⟩,
      ⟨(some 115), .new (.bsl 5 1 #[.int .i64 0, .int .i64 0, .string ⟨#[]⟩, .slice none 0 0, .int .i64 0] [(0, (.t 114))]), none⟩,
      ⟨(some 116), .pur (.fad 3 (.t 5)), none⟩,
      ⟨none, .eff (.st 1 (.t 116) (.t 115)), none⟩])
    (.seq (.reg [⟨(some 118), .pur (.bin .eql (.t 47) (.k (.int .i64 18))), none⟩,
      ⟨(some 117), .pur (.mv (.t 118)), none⟩])
    (.cond (.t 117)
     (.seq (.reg [⟨(some 120), .call 122 [(.t 0), (.k (.int .i64 4))], none⟩,
       ⟨(some 121), .pur (.fld 1 1 false (.t 120)), none⟩,
       ⟨(some 122), .pur (.fad 2 (.t 5)), none⟩,
       ⟨none, .eff (.st 1 (.t 122) (.t 121)), none⟩])
     (.seq (.reg [⟨(some 124), .call 123 [(.t 0), (.k (.string ⟨#[44]⟩))], none⟩])
     (.reg [⟨(some 126), .call 153 [(.t 0)], none⟩,
       ⟨(some 127), .new (.bsl 5 1 #[.int .i64 0, .int .i64 0, .string ⟨#[]⟩, .slice none 0 0, .int .i64 0] [(0, (.t 126))]), none⟩,
       ⟨(some 128), .pur (.fad 3 (.t 5)), none⟩,
       ⟨none, .eff (.st 1 (.t 128) (.t 127)), none⟩])))
     (.seq (.reg [⟨(some 130), .pur (.bin .eql (.t 47) (.k (.int .i64 19))), none⟩,
       ⟨(some 129), .pur (.mv (.t 130)), none⟩])
     (.cond (.t 129)
      (.skip)
      (.seq (.reg [⟨(some 49), .call 121 [(.t 0)], none⟩,
        ⟨(some 50), .pur (.fad 1 (.t 5)), none⟩,
        ⟨none, .eff (.st 1 (.t 50) (.t 49)), none⟩])
      (.seq (.seq (.reg [⟨(some 51), .pur (.fad 0 (.t 5)), none⟩,
        ⟨(some 52), .pur (.ld 1 false (.t 51)), none⟩,
        ⟨(some 53), .pur (.bin .eql (.t 52) (.k (.int .i64 8))), none⟩,
        ⟨(some 55), .pur (.fad 0 (.t 5)), some (53, false)⟩,
        ⟨(some 56), .pur (.ld 1 false (.t 55)), some (53, false)⟩,
        ⟨(some 57), .pur (.bin .eql (.t 56) (.k (.int .i64 9))), some (53, false)⟩,
        ⟨(some 58), .pur (.pick (.t 53) (.k (.bool true)) (.t 57)), none⟩,
        ⟨(some 60), .pur (.fad 0 (.t 5)), some (58, false)⟩,
        ⟨(some 61), .pur (.ld 1 false (.t 60)), some (58, false)⟩,
        ⟨(some 62), .pur (.bin .eql (.t 61) (.k (.int .i64 10))), some (58, false)⟩,
        ⟨(some 63), .pur (.pick (.t 58) (.k (.bool true)) (.t 62)), none⟩])
      (.cond (.t 63)
       (.reg [⟨(some 65), .call 153 [(.t 0)], none⟩,
         ⟨(some 66), .new (.bsl 5 1 #[.int .i64 0, .int .i64 0, .string ⟨#[]⟩, .slice none 0 0, .int .i64 0] [(0, (.t 65))]), none⟩,
         ⟨(some 67), .pur (.fad 3 (.t 5)), none⟩,
         ⟨none, .eff (.st 1 (.t 67) (.t 66)), none⟩])
       (.skip)))
      (.seq (.reg [⟨(some 68), .pur (.fad 0 (.t 5)), none⟩,
        ⟨(some 69), .pur (.ld 1 false (.t 68)), none⟩,
        ⟨(some 70), .pur (.bin .eql (.t 69) (.k (.int .i64 9))), none⟩])
      (.cond (.t 70)
       (.seq (.reg [⟨(some 72), .call 123 [(.t 0), (.k (.string ⟨#[44]⟩))], none⟩])
       (.drw 8 ⟨[⟨(some 73), .pur (.fad 3 (.t 5)), none⟩,
         ⟨(some 74), .pur (.ld 1 false (.t 73)), none⟩,
         ⟨(some 75), .pur (.mv (.t 0)), none⟩,
         ⟨(some 76), .call 153 [(.t 75)], none⟩,
         ⟨(some 77), .new (.bsl 5 1 #[.int .i64 0, .int .i64 0, .string ⟨#[]⟩, .slice none 0 0, .int .i64 0] [(0, (.t 76))]), none⟩,
         ⟨(some 78), .eff (.app 5 64 (.t 74) (.t 77)), none⟩,
         ⟨(some 79), .pur (.fad 3 (.t 5)), none⟩,
         ⟨none, .eff (.st 1 (.t 79) (.t 78)), none⟩],
         [[], [0], [], [2], [3, 2], [1, 4, 3, 0, 2], [0, 1, 2, 3, 4, 5], [6, 5, 0, 1, 2, 3, 4]],
         [(0, none), (1, none), (2, none), (3, some [0, 1]), (4, none), (5, some []), (6, none), (7, some [])]⟩))
       (.skip)))))))))))))))
 (.seq (.reg [⟨(some 132), .call 123 [(.t 0), (.k (.string ⟨#[59]⟩))], none⟩])
 (.seq (.reg [⟨(some 133), .pur (.ld 7 true (.t 5)), none⟩,
   ⟨none, .eff (.st 7 (.t 4) (.t 133)), none⟩])
 (.ret))))))))))),
 [.cell 4 7 true]⟩
theorem is141 : IsFnO Tryz.prog 141 ir141 := .of 2776103297853342396707663748945187980684 (by kernel_rfl)
/-- pinball/pinballref31.declTokens -/
noncomputable def ir142 : IFn := ⟨65, .seq (.reg [⟨(some 1), .new (.box (.t 0)), none⟩,
   ⟨(some 2), .pur (.mv (.k (.slice none 0 0))), none⟩])
 (.seq (.seq (.reg [⟨(some 4), .pur (.fad 0 (.t 1)), none⟩,
   ⟨(some 5), .pur (.ld 1 false (.t 4)), none⟩,
   ⟨(some 6), .pur (.bin .lss (.t 5) (.k (.int .i64 1))), none⟩,
   ⟨(some 8), .pur (.fad 0 (.t 1)), some (6, false)⟩,
   ⟨(some 9), .pur (.ld 1 false (.t 8)), some (6, false)⟩,
   ⟨(some 10), .pur (.bin .gtr (.t 9) (.k (.int .i64 8))), some (6, false)⟩,
   ⟨(some 11), .pur (.pick (.t 6) (.k (.bool true)) (.t 10)), none⟩])
 (.cond (.t 11)
  (.seq (.reg [⟨(some 12), .pur (.bld #[.int .i64 0, .string ⟨#[]⟩, .int .i64 0, .int .i64 0] [(0, 1), (1, 1), (2, 1), (3, 1)] []), none⟩,
    ⟨(some 13), .new (.bsl 4 1 #[.int .i64 0, .string ⟨#[]⟩, .int .i64 0, .int .i64 0] [(0, (.t 12))]), none⟩,
    ⟨(some 2), .pur (.mv (.t 13)), none⟩])
  (.ret))
  (.skip)))
 (.seq (.drw 14 ⟨[⟨(some 14), .call 86 [], none⟩,
   ⟨(some 15), .pur (.fad 0 (.t 1)), none⟩,
   ⟨(some 16), .pur (.ld 1 false (.t 15)), none⟩,
   ⟨(some 17), .pur (.bin .sub (.t 16) (.k (.int .i64 1))), none⟩,
   ⟨(some 18), .pur (.iad 1 (.t 14) (.t 17)), none⟩,
   ⟨(some 19), .pur (.ld 1 false (.t 18)), none⟩,
   ⟨(some 20), .new (.bsl 1 1 #[.string ⟨#[]⟩] [(0, (.t 19))]), none⟩,
   ⟨(some 21), .call 144 [(.t 20)], none⟩,
   ⟨(some 22), .pur (.fad 1 (.t 1)), none⟩,
   ⟨(some 23), .pur (.ld 1 false (.t 22)), none⟩,
   ⟨(some 24), .call 145 [(.t 23)], none⟩,
   ⟨(some 25), .new (.bsl 1 2 #[.slice none 0 0] [(0, (.t 21)), (1, (.t 24))]), none⟩,
   ⟨(some 26), .call 143 [(.t 25)], none⟩,
   ⟨(some 3), .pur (.mv (.t 26)), none⟩],
   [[], [], [1], [2, 1], [0, 3, 2, 1], [4, 0, 3, 2, 1], [5, 4, 0, 3, 2, 1], [6, 0, 5, 4, 3, 2, 1], [], [8], [9, 7, 8, 6, 0, 5, 4, 3, 2, 1], [7, 10, 6, 0, 5, 4, 3, 2, 1, 9, 8], [11, 10, 7, 6, 0, 5, 4, 3, 2, 1, 9, 8], [12, 0, 1, 2, 3, 4, 5, 6, 7, 8, 9, 10, 11]],
   [(1, none), (2, none), (3, none), (8, none), (9, none), (0, some [1, 2, 3, 8, 9]), (4, none), (5, none), (6, none), (7, some [8, 9]), (10, some []), (11, none), (12, some []), (13, some [])]⟩)
 (.seq (.blk 0 (.seq (.reg [⟨(some 34), .pur (.fad 0 (.t 1)), none⟩,
    ⟨(some 35), .pur (.ld 1 false (.t 34)), none⟩,
    ⟨(some 36), .pur (.bin .gtr (.t 35) (.k (.int .i64 6))), none⟩,
    ⟨(some 33), .pur (.mv (.t 36)), none⟩])
  (.cond (.t 33)
   (.skip)
   (.seq (.reg [⟨(some 38), .pur (.fad 2 (.t 1)), none⟩,
     ⟨(some 39), .pur (.ld 1 false (.t 38)), none⟩,
     ⟨(some 40), .pur (.bin .lss (.t 39) (.k (.int .i64 0))), none⟩,
     ⟨(some 42), .pur (.fad 2 (.t 1)), some (40, true)⟩,
     ⟨(some 43), .pur (.ld 1 false (.t 42)), some (40, true)⟩,
     ⟨(some 44), .pur (.bin .geq (.t 43) (.k (.int .i64 (-2147483647)))), some (40, true)⟩,
     ⟨(some 45), .pur (.pick (.t 40) (.t 44) (.k (.bool false))), none⟩,
     ⟨(some 47), .pur (.fad 0 (.t 1)), some (45, true)⟩,
     ⟨(some 48), .pur (.ld 1 false (.t 47)), some (45, true)⟩,
     ⟨(some 49), .pur (.bin .eql (.t 48) (.k (.int .i64 6))), some (45, true)⟩,
     ⟨(some 50), .pur (.pick (.t 45) (.t 49) (.k (.bool false))), none⟩,
     ⟨(some 37), .pur (.mv (.t 50)), none⟩])
   (.cond (.t 37)
    (.drw 10 ⟨[⟨(some 51), .pur (.mv (.t 3)), none⟩,
      ⟨(some 52), .new (.bsl 1 1 #[.string ⟨#[]⟩] [(0, (.k (.string ⟨#[45]⟩)))]), none⟩,
      ⟨(some 53), .call 144 [(.t 52)], none⟩,
      ⟨(some 54), .pur (.fad 2 (.t 1)), none⟩,
      ⟨(some 55), .pur (.ld 1 false (.t 54)), none⟩,
      ⟨(some 56), .pur (.un .neg (.t 55)), none⟩,
      ⟨(some 57), .call 146 [(.t 56)], none⟩,
      ⟨(some 58), .new (.bsl 1 3 #[.slice none 0 0] [(0, (.t 51)), (1, (.t 53)), (2, (.t 57))]), none⟩,
      ⟨(some 59), .call 143 [(.t 58)], none⟩,
      ⟨(some 3), .pur (.mv (.t 59)), none⟩],
      [[], [], [1], [], [3], [4, 3], [5, 2, 4, 3, 1], [0, 2, 6, 1, 5, 4, 3], [7, 6, 0, 2, 1, 5, 4, 3], [8, 0, 1, 2, 3, 4, 5, 6, 7]],
      [(0, none), (1, none), (3, none), (4, none), (5, none), (2, some [0, 3, 4, 5]), (6, some [0]), (7, none), (8, some []), (9, some [])]⟩)
    (.reg [⟨(some 28), .pur (.fad 2 (.t 1)), none⟩,
      ⟨(some 29), .pur (.ld 1 false (.t 28)), none⟩,
      ⟨(some 30), .call 146 [(.t 29)], none⟩,
      ⟨(some 31), .new (.bsl 1 2 #[.slice none 0 0] [(0, (.t 3)), (1, (.t 30))]), none⟩,
      ⟨(some 32), .call 143 [(.t 31)], none⟩,
      ⟨(some 3), .pur (.mv (.t 32)), none⟩]))))))
 (.seq (.reg [⟨(some 61), .new (.bsl 1 1 #[.string ⟨#[]⟩] [(0, (.k (.string ⟨#[59]⟩)))]), none⟩,
   ⟨(some 62), .call 144 [(.t 61)], none⟩,
   ⟨(some 63), .new (.bsl 1 2 #[.slice none 0 0] [(0, (.t 3)), (1, (.t 62))]), none⟩,
   ⟨(some 64), .call 143 [(.t 63)], none⟩,
   ⟨(some 2), .pur (.mv (.t 64)), none⟩])
 (.ret))))),
 [.tmp 2]⟩
theorem is142 : IsFnO Tryz.prog 142 ir142 := .of 1152994072508498048 (by kernel_rfl)
/-- pinball/pinballref31.join -/
noncomputable def ir143 : IFn := ⟨18, .seq (.reg [⟨(some 2), .pur (.mv (.k (.slice none 0 0))), none⟩])
 (.seq (.reg [⟨(some 3), .pur (.mv (.k (.slice none 0 0))), none⟩])
 (.seq (.seq (.reg [⟨(some 4), .pur (.mv (.k (.int .i64 0))), none⟩])
 (.blk 0 (.loop (.seq (.seq (.reg [⟨(some 7), .pur (.len (.t 0)), none⟩,
     ⟨(some 8), .pur (.bin .lss (.t 4) (.t 7)), none⟩])
   (.cond (.t 8)
    (.skip)
    (.exit 0)))
   (.seq (.blk 1 (.reg [⟨(some 14), .pur (.iad 1 (.t 0) (.t 4)), none⟩,
      ⟨(some 15), .pur (.ld 1 false (.t 14)), none⟩,
      ⟨(some 16), .eff (.app 4 40 (.t 3) (.t 15)), none⟩,
      ⟨(some 3), .pur (.mv (.t 16)), none⟩]))
   (.reg [⟨(some 10), .pur (.bin .add (.t 4) (.k (.int .i64 1))), none⟩,
     ⟨(some 4), .pur (.mv (.t 10)), none⟩]))))))
 (.seq (.reg [⟨(some 2), .pur (.mv (.t 3)), none⟩])
 (.ret)))),
 [.tmp 2]⟩
theorem is143 : IsFnO Tryz.prog 143 ir143 := .of 146018 (by kernel_rfl)
/-- pinball/pinballref31.words -/
noncomputable def ir144 : IFn := ⟨34, .seq (.reg [⟨(some 2), .pur (.mv (.k (.slice none 0 0))), none⟩])
 (.seq (.reg [⟨(some 3), .pur (.mv (.k (.slice none 0 0))), none⟩])
 (.seq (.seq (.reg [⟨(some 4), .pur (.mv (.k (.int .i64 0))), none⟩])
 (.blk 0 (.loop (.seq (.seq (.reg [⟨(some 8), .pur (.len (.t 0)), none⟩,
     ⟨(some 9), .pur (.bin .lss (.t 4) (.t 8)), none⟩])
   (.cond (.t 9)
    (.skip)
    (.exit 0)))
   (.seq (.blk 1 (.seq (.reg [⟨(some 14), .pur (.iad 1 (.t 0) (.t 4)), none⟩,
      ⟨(some 15), .pur (.ld 1 false (.t 14)), none⟩,
      ⟨(some 16), .pur (.bld #[.int .i64 0, .string ⟨#[]⟩, .int .i64 0, .int .i64 0] [(0, 1), (1, 1), (2, 1), (3, 1)] [(0, (.k (.int .i64 5))), (1, (.t 15))]), none⟩,
      ⟨(some 5), .new (.box (.k (.agg #[.int .i64 0, .string ⟨#[]⟩, .int .i64 0, .int .i64 0]))), none⟩,
      ⟨none, .eff (.st 4 (.t 5) (.t 16)), none⟩])
    (.seq (.seq (.reg [⟨(some 19), .pur (.iad 1 (.t 0) (.t 4)), none⟩,
      ⟨(some 20), .pur (.ld 1 false (.t 19)), none⟩,
      ⟨(some 21), .call 138 [(.t 20)], none⟩])
    (.cond (.t 21)
     (.reg [⟨(some 22), .pur (.fad 0 (.t 5)), none⟩,
       ⟨none, .eff (.st 1 (.t 22) (.k (.int .i64 2))), none⟩])
     (.seq (.reg [⟨(some 25), .pur (.iad 1 (.t 0) (.t 4)), none⟩,
       ⟨(some 26), .pur (.ld 1 false (.t 25)), none⟩,
       ⟨(some 27), .call 155 [(.t 26)], none⟩])
     (.cond (.t 27)
      (.reg [⟨(some 28), .pur (.fad 0 (.t 5)), none⟩,
        ⟨none, .eff (.st 1 (.t 28) (.k (.int .i64 1))), none⟩])
      (.skip)))))
    (.reg [⟨(some 30), .pur (.ld 4 true (.t 5)), none⟩,
      ⟨(some 31), .new (.bsl 4 1 #[.int .i64 0, .string ⟨#[]⟩, .int .i64 0, .int .i64 0] [(0, (.t 30))]), none⟩,
      ⟨(some 32), .eff (.app 4 40 (.t 3) (.t 31)), none⟩,
      ⟨(some 3), .pur (.mv (.t 32)), none⟩]))))
   (.reg [⟨(some 11), .pur (.bin .add (.t 4) (.k (.int .i64 1))), none⟩,
     ⟨(some 4), .pur (.mv (.t 11)), none⟩]))))))
 (.seq (.reg [⟨(some 2), .pur (.mv (.t 3)), none⟩])
 (.ret)))),
 [.tmp 2]⟩
theorem is144 : IsFnO Tryz.prog 144 ir144 := .of 9152378050 (by kernel_rfl)
/-- pinball/pinballref31.named -/
noncomputable def ir145 : IFn := ⟨11, .seq (.reg [⟨(some 2), .pur (.mv (.k (.slice none 0 0))), none⟩])
 (.seq (.seq (.reg [⟨(some 4), .call 155 [(.t 0)], none⟩,
   ⟨(some 5), .pur (.un .not (.t 4)), none⟩])
 (.cond (.t 5)
  (.seq (.reg [⟨(some 6), .pur (.bld #[.int .i64 0, .string ⟨#[]⟩, .int .i64 0, .int .i64 0] [(0, 1), (1, 1), (2, 1), (3, 1)] []), none⟩,
    ⟨(some 7), .new (.bsl 4 1 #[.int .i64 0, .string ⟨#[]⟩, .int .i64 0, .int .i64 0] [(0, (.t 6))]), none⟩,
    ⟨(some 2), .pur (.mv (.t 7)), none⟩])
  (.ret))
  (.skip)))
 (.seq (.reg [⟨(some 9), .pur (.bld #[.int .i64 0, .string ⟨#[]⟩, .int .i64 0, .int .i64 0] [(0, 1), (1, 1), (2, 1), (3, 1)] [(0, (.k (.int .i64 1))), (1, (.t 0))]), none⟩,
   ⟨(some 10), .new (.bsl 4 1 #[.int .i64 0, .string ⟨#[]⟩, .int .i64 0, .int .i64 0] [(0, (.t 9))]), none⟩,
   ⟨(some 2), .pur (.mv (.t 10)), none⟩])
 (.ret))),
 [.tmp 2]⟩
theorem is145 : IsFnO Tryz.prog 145 ir145 := .of 266 (by kernel_rfl)
/-- pinball/pinballref31.number -/
noncomputable def ir146 : IFn := ⟨14, .seq (.reg [⟨(some 2), .pur (.mv (.k (.slice none 0 0))), none⟩])
 (.seq (.seq (.reg [⟨(some 4), .pur (.bin .lss (.t 0) (.k (.int .i64 0))), none⟩,
   ⟨(some 6), .pur (.mv (.t 0)), some (4, false)⟩,
   ⟨(some 7), .pur (.bin .gtr (.t 6) (.k (.int .i64 2147483647))), some (4, false)⟩,
   ⟨(some 8), .pur (.pick (.t 4) (.k (.bool true)) (.t 7)), none⟩])
 (.cond (.t 8)
  (.seq (.reg [⟨(some 9), .pur (.bld #[.int .i64 0, .string ⟨#[]⟩, .int .i64 0, .int .i64 0] [(0, 1), (1, 1), (2, 1), (3, 1)] []), none⟩,
    ⟨(some 10), .new (.bsl 4 1 #[.int .i64 0, .string ⟨#[]⟩, .int .i64 0, .int .i64 0] [(0, (.t 9))]), none⟩,
    ⟨(some 2), .pur (.mv (.t 10)), none⟩])
  (.ret))
  (.skip)))
 (.seq (.reg [⟨(some 12), .pur (.bld #[.int .i64 0, .string ⟨#[]⟩, .int .i64 0, .int .i64 0] [(0, 1), (1, 1), (2, 1), (3, 1)] [(0, (.k (.int .i64 3))), (2, (.t 0))]), none⟩,
   ⟨(some 13), .new (.bsl 4 1 #[.int .i64 0, .string ⟨#[]⟩, .int .i64 0, .int .i64 0] [(0, (.t 12))]), none⟩,
   ⟨(some 2), .pur (.mv (.t 13)), none⟩])
 (.ret))),
 [.tmp 2]⟩
theorem is146 : IsFnO Tryz.prog 146 ir146 := .of 2090 (by kernel_rfl)
/-- pinball/pinballref31.blockTokens -/
noncomputable def ir147 : IFn := ⟨24, .seq (.reg [⟨(some 2), .pur (.mv (.k (.slice none 0 0))), none⟩])
 (.seq (.reg [⟨(some 5), .new (.bsl 1 1 #[.string ⟨#[]⟩] [(0, (.k (.string ⟨#[123]⟩)))]), none⟩,
   ⟨(some 6), .call 144 [(.t 5)], none⟩,
   ⟨(some 3), .pur (.mv (.t 6)), none⟩])
 (.seq (.seq (.reg [⟨(some 4), .pur (.mv (.k (.int .i64 0))), none⟩])
 (.blk 0 (.loop (.seq (.seq (.reg [⟨(some 9), .pur (.len (.t 0)), none⟩,
     ⟨(some 10), .pur (.bin .lss (.t 4) (.t 9)), none⟩])
   (.cond (.t 10)
    (.skip)
    (.exit 0)))
   (.seq (.blk 1 (.reg [⟨(some 16), .pur (.iad 7 (.t 0) (.t 4)), none⟩,
      ⟨(some 17), .pur (.ld 7 true (.t 16)), none⟩,
      ⟨(some 18), .call 156 [(.t 17)], none⟩,
      ⟨(some 19), .eff (.app 4 40 (.t 3) (.t 18)), none⟩,
      ⟨(some 3), .pur (.mv (.t 19)), none⟩]))
   (.reg [⟨(some 12), .pur (.bin .add (.t 4) (.k (.int .i64 1))), none⟩,
     ⟨(some 4), .pur (.mv (.t 12)), none⟩]))))))
 (.seq (.reg [⟨(some 21), .new (.bsl 1 1 #[.string ⟨#[]⟩] [(0, (.k (.string ⟨#[125]⟩)))]), none⟩,
   ⟨(some 22), .call 144 [(.t 21)], none⟩,
   ⟨(some 23), .eff (.app 4 40 (.t 3) (.t 22)), none⟩,
   ⟨(some 2), .pur (.mv (.t 23)), none⟩])
 (.ret)))),
 [.tmp 2]⟩
theorem is147 : IsFnO Tryz.prog 147 ir147 := .of 1108354 (by kernel_rfl)
/-- pinball/pinballref31.sameStmts -/
noncomputable def ir148 : IFn := ⟨77, .seq (.reg [⟨(some 4), .pur (.mv (.k (.bool false))), none⟩])
 (.seq (.seq (.reg [⟨(some 9), .pur (.len (.t 0)), none⟩,
   ⟨(some 11), .pur (.len (.t 1)), none⟩,
   ⟨(some 12), .pur (.bin .neq (.t 9) (.t 11)), none⟩])
 (.cond (.t 12)
  (.seq (.reg [⟨(some 4), .pur (.mv (.k (.bool false))), none⟩])
  (.ret))
  (.skip)))
 (.seq (.seq (.reg [⟨(some 5), .pur (.mv (.k (.int .i64 0))), none⟩])
 (.blk 0 (.loop (.seq (.seq (.reg [⟨(some 15), .pur (.len (.t 0)), none⟩,
     ⟨(some 16), .pur (.bin .lss (.t 5) (.t 15)), none⟩])
   (.cond (.t 16)
    (.skip)
    (.exit 0)))
   (.seq (.blk 1 (.seq (.drw 12 ⟨[⟨(some 19), .pur (.mv (.t 0)), none⟩,
      ⟨(some 20), .pur (.mv (.t 5)), none⟩,
      ⟨(some 21), .pur (.iad 7 (.t 19) (.t 20)), none⟩,
      ⟨(some 22), .pur (.ld 7 true (.t 21)), none⟩,
      ⟨(some 23), .pur (.mv (.t 1)), none⟩,
      ⟨(some 24), .pur (.mv (.t 5)), none⟩,
      ⟨(some 25), .pur (.iad 7 (.t 23) (.t 24)), none⟩,
      ⟨(some 26), .pur (.ld 7 true (.t 25)), none⟩,
      ⟨(some 6), .new (.box (.k (.agg #[.int .i64 0, .string ⟨#[]⟩, .string ⟨#[]⟩, .slice none 0 0, .slice none 0 0, .slice none 0 0, .int .i64 0]))), none⟩,
      ⟨(some 7), .new (.box (.k (.agg #[.int .i64 0, .string ⟨#[]⟩, .string ⟨#[]⟩, .slice none 0 0, .slice none 0 0, .slice none 0 0, .int .i64 0]))), none⟩,
      ⟨none, .eff (.st 7 (.t 6) (.t 22)), none⟩,
      ⟨none, .eff (.st 7 (.t 7) (.t 26)), none⟩],
      [[], [], [0, 1], [2, 0, 1], [], [], [4, 5], [6, 4, 5], [], [], [8, 3, 0, 1, 2, 9], [9, 7, 10, 0, 1, 2, 3, 4, 5, 6, 8]],
      [(0, none), (1, none), (2, none), (3, none), (4, none), (5, none), (6, none), (7, none), (8, none), (9, none), (10, some [4, 5, 6, 7]), (11, some [])]⟩)
    (.seq (.reg [⟨(some 27), .pur (.fad 0 (.t 6)), none⟩,
      ⟨(some 28), .pur (.ld 1 false (.t 27)), none⟩,
      ⟨(some 29), .pur (.fad 0 (.t 7)), none⟩,
      ⟨(some 30), .pur (.ld 1 false (.t 29)), none⟩,
      ⟨(some 31), .pur (.bin .neq (.t 28) (.t 30)), none⟩,
      ⟨(some 33), .pur (.fad 1 (.t 6)), some (31, false)⟩,
      ⟨(some 34), .pur (.ld 1 false (.t 33)), some (31, false)⟩,
      ⟨(some 35), .pur (.fad 1 (.t 7)), some (31, false)⟩,
      ⟨(some 36), .pur (.ld 1 false (.t 35)), some (31, false)⟩,
      ⟨(some 37), .pur (.bin .neq (.t 34) (.t 36)), some (31, false)⟩,
      ⟨(some 38), .pur (.pick (.t 31) (.k (.bool true)) (.t 37)), none⟩,
      ⟨(some 40), .pur (.fad 2 (.t 6)), some (38, false)⟩,
      ⟨(some 41), .pur (.ld 1 false (.t 40)), some (38, false)⟩,
      ⟨(some 42), .pur (.fad 2 (.t 7)), some (38, false)⟩,
      ⟨(some 43), .pur (.ld 1 false (.t 42)), some (38, false)⟩,
      ⟨(some 44), .pur (.bin .neq (.t 41) (.t 43)), some (38, false)⟩,
      ⟨(some 45), .pur (.pick (.t 38) (.k (.bool true)) (.t 44)), none⟩,
      ⟨(some 47), .pur (.fad 6 (.t 6)), some (45, false)⟩,
      ⟨(some 48), .pur (.ld 1 false (.t 47)), some (45, false)⟩,
      ⟨(some 49), .pur (.fad 6 (.t 7)), some (45, false)⟩,
      ⟨(some 50), .pur (.ld 1 false (.t 49)), some (45, false)⟩,
      ⟨(some 51), .pur (.bin .neq (.t 48) (.t 50)), some (45, false)⟩,
      ⟨(some 52), .pur (.pick (.t 45) (.k (.bool true)) (.t 51)), none⟩,
      ⟨(some 54), .pur (.fad 3 (.t 6)), some (52, false)⟩,
      ⟨(some 55), .pur (.ld 1 false (.t 54)), some (52, false)⟩,
      ⟨(some 56), .pur (.fad 3 (.t 7)), some (52, false)⟩,
      ⟨(some 57), .pur (.ld 1 false (.t 56)), some (52, false)⟩,
      ⟨(some 58), .call 157 [(.t 55), (.t 57), (.k (.bool false))], some (52, false)⟩,
      ⟨(some 59), .pur (.un .not (.t 58)), some (52, false)⟩,
      ⟨(some 60), .pur (.pick (.t 52) (.k (.bool true)) (.t 59)), none⟩,
      ⟨(some 62), .pur (.fad 4 (.t 6)), some (60, false)⟩,
      ⟨(some 63), .pur (.ld 1 false (.t 62)), some (60, false)⟩,
      ⟨(some 64), .pur (.fad 4 (.t 7)), some (60, false)⟩,
      ⟨(some 65), .pur (.ld 1 false (.t 64)), some (60, false)⟩,
      ⟨(some 66), .call 148 [(.t 63), (.t 65)], some (60, false)⟩,
      ⟨(some 67), .pur (.un .not (.t 66)), some (60, false)⟩,
      ⟨(some 68), .pur (.pick (.t 60) (.k (.bool true)) (.t 67)), none⟩,
      ⟨(some 70), .pur (.fad 5 (.t 6)), some (68, false)⟩,
      ⟨(some 71), .pur (.ld 1 false (.t 70)), some (68, false)⟩,
      ⟨(some 72), .pur (.fad 5 (.t 7)), some (68, false)⟩,
      ⟨(some 73), .pur (.ld 1 false (.t 72)), some (68, false)⟩,
      ⟨(some 74), .call 148 [(.t 71), (.t 73)], some (68, false)⟩,
      ⟨(some 75), .pur (.un .not (.t 74)), some (68, false)⟩,
      ⟨(some 76), .pur (.pick (.t 68) (.k (.bool true)) (.t 75)), none⟩])
    (.cond (.t 76)
     (.seq (.reg [⟨(some 4), .pur (.mv (.k (.bool false))), none⟩])
     (.ret))
     (.skip)))))
   (.reg [⟨(some 18), .pur (.bin .add (.t 5) (.k (.int .i64 1))), none⟩,
     ⟨(some 5), .pur (.mv (.t 18)), none⟩]))))))
 (.seq (.reg [⟨(some 4), .pur (.mv (.k (.bool true))), none⟩])
 (.ret)))),
 [.tmp 4]⟩
theorem is148 : IsFnO Tryz.prog 148 ir148 := .of 592610731489969202444 (by kernel_rfl)
/-- pinball/pinballref31.plainStmts -/
noncomputable def ir149 : IFn := ⟨34, .seq (.reg [⟨(some 2), .pur (.mv (.k (.slice none 0 0))), none⟩])
 (.seq (.reg [⟨(some 3), .pur (.mv (.k (.slice none 0 0))), none⟩])
 (.seq (.seq (.reg [⟨(some 4), .pur (.mv (.k (.int .i64 0))), none⟩])
 (.blk 0 (.loop (.seq (.seq (.reg [⟨(some 8), .pur (.len (.t 0)), none⟩,
     ⟨(some 9), .pur (.bin .lss (.t 4) (.t 8)), none⟩])
   (.cond (.t 9)
    (.skip)
    (.exit 0)))
   (.seq (.blk 1 (.seq (.reg [⟨(some 14), .pur (.iad 7 (.t 0) (.t 4)), none⟩,
      ⟨(some 15), .pur (.ld 7 true (.t 14)), none⟩,
      ⟨(some 5), .new (.box (.k (.agg #[.int .i64 0, .string ⟨#[]⟩, .string ⟨#[]⟩, .slice none 0 0, .slice none 0 0, .slice none 0 0, .int .i64 0]))), none⟩,
      ⟨none, .eff (.st 7 (.t 5) (.t 15)), none⟩])
    (.seq (.drw 17 ⟨[⟨(some 16), .pur (.fad 3 (.t 5)), none⟩,
      ⟨(some 17), .pur (.ld 1 false (.t 16)), none⟩,
      ⟨(some 18), .call 158 [(.t 17)], none⟩,
      ⟨(some 19), .pur (.fad 4 (.t 5)), none⟩,
      ⟨(some 20), .pur (.ld 1 false (.t 19)), none⟩,
      ⟨(some 21), .call 149 [(.t 20)], none⟩,
      ⟨(some 22), .pur (.fad 5 (.t 5)), none⟩,
      ⟨(some 23), .pur (.ld 1 false (.t 22)), none⟩,
      ⟨(some 24), .call 149 [(.t 23)], none⟩,
      ⟨(some 25), .pur (.fad 6 (.t 5)), none⟩,
      ⟨none, .eff (.st 1 (.t 25) (.k (.int .i64 0))), none⟩,
      ⟨(some 26), .pur (.fad 3 (.t 5)), none⟩,
      ⟨none, .eff (.st 1 (.t 26) (.t 18)), none⟩,
      ⟨(some 27), .pur (.fad 4 (.t 5)), none⟩,
      ⟨none, .eff (.st 1 (.t 27) (.t 21)), none⟩,
      ⟨(some 28), .pur (.fad 5 (.t 5)), none⟩,
      ⟨none, .eff (.st 1 (.t 28) (.t 24)), none⟩],
      [[], [0], [1, 0], [], [3], [4, 2, 3, 1, 0], [], [6], [7, 5, 6, 4, 2, 3, 1, 0], [0, 1, 3, 4, 6, 7], [9, 8, 0, 1, 3, 4, 6, 7, 5, 2], [0, 1, 2, 3, 4, 6, 7, 9, 10, 8, 5], [11, 2, 10, 0, 1, 3, 4, 6, 7, 9, 8, 5], [0, 1, 2, 3, 4, 5, 6, 7, 9, 10, 11, 12, 8], [13, 5, 12, 0, 1, 2, 3, 4, 6, 7, 9, 10, 11, 8], [0, 1, 2, 3, 4, 5, 6, 7, 8, 9, 10, 11, 12, 13, 14], [15, 8, 14, 0, 1, 2, 3, 4, 5, 6, 7, 9, 10, 11, 12, 13]],
      [(0, none), (1, none), (3, none), (4, none), (6, none), (7, none), (9, none), (2, some [3, 4, 6, 7, 9]), (5, some [6, 7, 9]), (8, some [9]), (10, some []), (11, none), (12, some []), (13, none), (14, some []), (15, none), (16, some [])]⟩)
    (.reg [⟨(some 30), .pur (.ld 7 true (.t 5)), none⟩,
      ⟨(some 31), .new (.bsl 7 1 #[.int .i64 0, .string ⟨#[]⟩, .string ⟨#[]⟩, .slice none 0 0, .slice none 0 0, .slice none 0 0, .int .i64 0] [(0, (.t 30))]), none⟩,
      ⟨(some 32), .eff (.app 7 120 (.t 3) (.t 31)), none⟩,
      ⟨(some 3), .pur (.mv (.t 32)), none⟩]))))
   (.reg [⟨(some 11), .pur (.bin .add (.t 4) (.k (.int .i64 1))), none⟩,
     ⟨(some 4), .pur (.mv (.t 11)), none⟩]))))))
 (.seq (.reg [⟨(some 2), .pur (.mv (.t 3)), none⟩])
 (.ret)))),
 [.tmp 2]⟩
theorem is149 : IsFnO Tryz.prog 149 ir149 := .of 9126819010 (by kernel_rfl)
/-- pinball/pinballref32.exprKind -/
noncomputable def ir150 : IFn := ⟨12, .seq (.reg [⟨(some 2), .pur (.mv (.k (.int .i64 0))), none⟩])
 (.seq (.seq (.reg [⟨(some 3), .pur (.mv (.t 0)), none⟩])
 (.blk 0 (.seq (.reg [⟨(some 5), .pur (.bin .eql (.t 3) (.k (.int .i64 2))), none⟩,
    ⟨(some 4), .pur (.mv (.t 5)), none⟩])
  (.cond (.t 4)
   (.seq (.reg [⟨(some 2), .pur (.mv (.k (.int .i64 6))), none⟩])
   (.ret))
   (.seq (.reg [⟨(some 7), .pur (.bin .eql (.t 3) (.k (.int .i64 5))), none⟩,
     ⟨(some 6), .pur (.mv (.t 7)), none⟩])
   (.cond (.t 6)
    (.seq (.reg [⟨(some 2), .pur (.mv (.k (.int .i64 1))), none⟩])
    (.ret))
    (.seq (.reg [⟨(some 9), .pur (.bin .eql (.t 3) (.k (.int .i64 6))), none⟩,
      ⟨(some 8), .pur (.mv (.t 9)), none⟩])
    (.cond (.t 8)
     (.seq (.reg [⟨(some 2), .pur (.mv (.k (.int .i64 9))), none⟩])
     (.ret))
     (.seq (.reg [⟨(some 11), .pur (.bin .eql (.t 3) (.k (.int .i64 7))), none⟩,
       ⟨(some 10), .pur (.mv (.t 11)), none⟩])
     (.cond (.t 10)
      (.seq (.reg [⟨(some 2), .pur (.mv (.k (.int .i64 7))), none⟩])
      (.ret))
      (.skip)))))))))))
 (.seq (.reg [⟨(some 2), .pur (.mv (.k (.int .i64 0))), none⟩])
 (.ret))),
 [.tmp 2]⟩
theorem is150 : IsFnO Tryz.prog 150 ir150 := .of 2 (by kernel_rfl)
/-- pinball/pinballref32.isBool -/
noncomputable def ir151 : IFn := ⟨25, .seq (.reg [⟨(some 2), .pur (.mv (.k (.bool false))), none⟩])
 (.seq (.reg [⟨(some 4), .pur (.bin .eql (.t 0) (.k (.int .i64 3))), none⟩,
   ⟨(some 6), .pur (.mv (.t 0)), some (4, false)⟩,
   ⟨(some 7), .pur (.bin .eql (.t 6) (.k (.int .i64 4))), some (4, false)⟩,
   ⟨(some 8), .pur (.pick (.t 4) (.k (.bool true)) (.t 7)), none⟩,
   ⟨(some 10), .pur (.mv (.t 0)), some (8, false)⟩,
   ⟨(some 11), .pur (.bin .eql (.t 10) (.k (.int .i64 5))), some (8, false)⟩,
   ⟨(some 12), .pur (.pick (.t 8) (.k (.bool true)) (.t 11)), none⟩,
   ⟨(some 14), .pur (.mv (.t 0)), some (12, false)⟩,
   ⟨(some 15), .pur (.bin .eql (.t 14) (.k (.int .i64 6))), some (12, false)⟩,
   ⟨(some 16), .pur (.pick (.t 12) (.k (.bool true)) (.t 15)), none⟩,
   ⟨(some 18), .pur (.mv (.t 0)), some (16, false)⟩,
   ⟨(some 19), .pur (.bin .eql (.t 18) (.k (.int .i64 11))), some (16, false)⟩,
   ⟨(some 20), .pur (.pick (.t 16) (.k (.bool true)) (.t 19)), none⟩,
   ⟨(some 22), .pur (.mv (.t 0)), some (20, false)⟩,
   ⟨(some 23), .pur (.bin .geq (.t 22) (.k (.int .i64 17))), some (20, false)⟩,
   ⟨(some 24), .pur (.pick (.t 20) (.k (.bool true)) (.t 23)), none⟩,
   ⟨(some 2), .pur (.mv (.t 24)), none⟩])
 (.ret)),
 [.tmp 2]⟩
theorem is151 : IsFnO Tryz.prog 151 ir151 := .of 2236970 (by kernel_rfl)
/-- pinball/pinballref30.words -/
noncomputable def ir152 : IFn := ⟨2, .seq (.reg [⟨(some 0), .pur (.mv (.k (.slice none 0 0))), none⟩])
 (.seq (.reg [⟨(some 1), .new (.bsl 1 38 #[.string ⟨#[]⟩] [(0, (.k (.string ⟨#[115, 119, 105, 116, 99, 104]⟩))), (1, (.k (.string ⟨#[99, 111, 105, 108]⟩))), (2, (.k (.string ⟨#[108, 97, 109, 112]⟩))), (3, (.k (.string ⟨#[115, 111, 117, 110, 100]⟩))), (4, (.k (.string ⟨#[115, 104, 111, 119]⟩))), (5, (.k (.string ⟨#[118, 97, 114]⟩))), (6, (.k (.string ⟨#[116, 105, 109, 101, 114]⟩))), (7, (.k (.string ⟨#[101, 118, 101, 110, 116]⟩))), (8, (.k (.string ⟨#[109, 111, 100, 101]⟩))), (9, (.k (.string ⟨#[111, 110]⟩))), (10, (.k (.string ⟨#[115, 116, 97, 114, 116]⟩))), (11, (.k (.string ⟨#[115, 116, 111, 112]⟩))), (12, (.k (.string ⟨#[99, 108, 111, 115, 101]⟩))), (13, (.k (.string ⟨#[111, 112, 101, 110]⟩))), (14, (.k (.string ⟨#[105, 102]⟩))), (15, (.k (.string ⟨#[101, 108, 115, 101]⟩))), (16, (.k (.string ⟨#[114, 101, 112, 101, 97, 116]⟩))), (17, (.k (.string ⟨#[115, 99, 111, 114, 101]⟩))), (18, (.k (.string ⟨#[102, 105, 114, 101]⟩))), (19, (.k (.string ⟨#[104, 111, 108, 100]⟩))), (20, (.k (.string ⟨#[114, 101, 108, 101, 97, 115, 101]⟩))), (21, (.k (.string ⟨#[108, 105, 103, 104, 116]⟩))), (22, (.k (.string ⟨#[98, 108, 105, 110, 107]⟩))), (23, (.k (.string ⟨#[98, 101, 103, 105, 110]⟩))), (24, (.k (.string ⟨#[101, 110, 100]⟩))), (25, (.k (.string ⟨#[112, 111, 115, 116]⟩))), (26, (.k (.string ⟨#[112, 108, 97, 121]⟩))), (27, (.k (.string ⟨#[114, 117, 110]⟩))), (28, (.k (.string ⟨#[104, 97, 108, 116]⟩))), (29, (.k (.string ⟨#[116, 101, 120, 116]⟩))), (30, (.k (.string ⟨#[99, 111, 110, 115, 117, 109, 101]⟩))), (31, (.k (.string ⟨#[99, 108, 111, 115, 101, 100]⟩))), (32, (.k (.string ⟨#[97, 99, 116, 105, 118, 101]⟩))), (33, (.k (.string ⟨#[108, 101, 102, 116]⟩))), (34, (.k (.string ⟨#[112, 108, 97, 121, 101, 114]⟩))), (35, (.k (.string ⟨#[98, 97, 108, 108]⟩))), (36, (.k (.string ⟨#[116, 114, 117, 101]⟩))), (37, (.k (.string ⟨#[102, 97, 108, 115, 101]⟩)))]), none⟩,
   ⟨(some 0), .pur (.mv (.t 1)), none⟩])
 (.ret)),
 [.tmp 0]⟩
theorem is152 : IsFnO Tryz.prog 152 ir152 := .of 0 (by kernel_rfl)
/-- (*pinball/pinballref31.reader).expression -/
noncomputable def ir153 : IFn := ⟨11, .seq (.reg [⟨(some 2), .new (.box (.k (.agg #[.int .i64 0, .int .i64 0, .string ⟨#[]⟩, .slice none 0 0, .int .i64 0]))), none⟩])
 (.seq (.reg [⟨(some 5), .pur (.nck (.t 0)), none⟩,
   ⟨(some 6), .pur (.fad 5 (.t 5)), none⟩,
   ⟨none, .eff (.st 1 (.t 6) (.k (.int .i64 0))), none⟩,
   ⟨(some 7), .pur (.nck (.t 0)), none⟩,
   ⟨(some 8), .pur (.fad 6 (.t 7)), none⟩,
   ⟨none, .eff (.st 1 (.t 8) (.k (.int .i64 0))), none⟩])
 (.seq (.reg [⟨(some 10), .call 159 [(.t 0), (.k (.int .i64 1))], none⟩,
   ⟨none, .eff (.st 5 (.t 2) (.t 10)), none⟩])
 (.ret))),
 [.cell 2 5 true]⟩
theorem is153 : IsFnO Tryz.prog 153 ir153 := .of 538 (by kernel_rfl)
/-- (*pinball/pinballref31.reader).otherwise -/
noncomputable def ir154 : IFn := ⟨16, .seq (.reg [⟨(some 4), .pur (.mv (.k (.slice none 0 0))), none⟩])
 (.seq (.seq (.reg [⟨(some 6), .call 89 [(.t 0), (.k (.string ⟨#[105, 102]⟩))], none⟩])
 (.cond (.t 6)
  (.seq (.reg [⟨(some 9), .pur (.bin .add (.t 1) (.k (.int .i64 1))), none⟩,
    ⟨(some 10), .call 141 [(.t 0), (.t 9)], none⟩,
    ⟨(some 11), .new (.bsl 7 1 #[.int .i64 0, .string ⟨#[]⟩, .string ⟨#[]⟩, .slice none 0 0, .slice none 0 0, .slice none 0 0, .int .i64 0] [(0, (.t 10))]), none⟩,
    ⟨(some 4), .pur (.mv (.t 11)), none⟩])
  (.ret))
  (.skip)))
 (.seq (.reg [⟨(some 14), .pur (.bin .add (.t 1) (.k (.int .i64 1))), none⟩,
   ⟨(some 15), .call 125 [(.t 0), (.t 14)], none⟩,
   ⟨(some 4), .pur (.mv (.t 15)), none⟩])
 (.ret))),
 [.tmp 4]⟩
theorem is154 : IsFnO Tryz.prog 154 ir154 := .of 12716 (by kernel_rfl)
/-- pinball/pinballref30.IsName -/
noncomputable def ir155 : IFn := ⟨46, .seq (.reg [⟨(some 2), .pur (.mv (.k (.bool false))), none⟩])
 (.seq (.seq (.reg [⟨(some 5), .pur (.lens (.t 0)), none⟩,
   ⟨(some 6), .pur (.bin .lss (.t 5) (.k (.int .i64 1))), none⟩,
   ⟨(some 8), .pur (.mv (.t 0)), some (6, false)⟩,
   ⟨(some 9), .pur (.lens (.t 8)), some (6, false)⟩,
   ⟨(some 10), .pur (.bin .gtr (.t 9) (.k (.int .i64 12))), some (6, false)⟩,
   ⟨(some 11), .pur (.pick (.t 6) (.k (.bool true)) (.t 10)), none⟩,
   ⟨(some 13), .pur (.mv (.t 0)), some (11, false)⟩,
   ⟨(some 14), .pur (.idx (.t 13) (.k (.int .i64 0))), some (11, false)⟩,
   ⟨(some 15), .call 113 [(.t 14)], some (11, false)⟩,
   ⟨(some 16), .pur (.un .not (.t 15)), some (11, false)⟩,
   ⟨(some 17), .pur (.pick (.t 11) (.k (.bool true)) (.t 16)), none⟩,
   ⟨(some 19), .pur (.mv (.t 0)), some (17, false)⟩,
   ⟨(some 20), .call 138 [(.t 19)], some (17, false)⟩,
   ⟨(some 21), .pur (.pick (.t 17) (.k (.bool true)) (.t 20)), none⟩])
 (.cond (.t 21)
  (.seq (.reg [⟨(some 2), .pur (.mv (.k (.bool false))), none⟩])
  (.ret))
  (.skip)))
 (.seq (.seq (.reg [⟨(some 3), .pur (.mv (.k (.int .i64 0))), none⟩])
 (.blk 0 (.loop (.seq (.seq (.reg [⟨(some 24), .pur (.lens (.t 0)), none⟩,
     ⟨(some 25), .pur (.bin .lss (.t 3) (.t 24)), none⟩])
   (.cond (.t 25)
    (.skip)
    (.exit 0)))
   (.seq (.blk 1 (.seq (.reg [⟨(some 30), .pur (.idx (.t 0) (.t 3)), none⟩,
      ⟨(some 31), .call 113 [(.t 30)], none⟩,
      ⟨(some 32), .pur (.un .not (.t 31)), none⟩,
      ⟨(some 34), .pur (.mv (.t 0)), some (32, true)⟩,
      ⟨(some 35), .pur (.mv (.t 3)), some (32, true)⟩,
      ⟨(some 36), .pur (.idx (.t 34) (.t 35)), some (32, true)⟩,
      ⟨(some 37), .call 115 [(.t 36)], some (32, true)⟩,
      ⟨(some 38), .pur (.un .not (.t 37)), some (32, true)⟩,
      ⟨(some 39), .pur (.pick (.t 32) (.t 38) (.k (.bool false))), none⟩,
      ⟨(some 41), .pur (.mv (.t 0)), some (39, true)⟩,
      ⟨(some 42), .pur (.mv (.t 3)), some (39, true)⟩,
      ⟨(some 43), .pur (.idx (.t 41) (.t 42)), some (39, true)⟩,
      ⟨(some 44), .pur (.bin .neq (.t 43) (.k (.int .u8 95))), some (39, true)⟩,
      ⟨(some 45), .pur (.pick (.t 39) (.t 44) (.k (.bool false))), none⟩])
    (.cond (.t 45)
     (.seq (.reg [⟨(some 2), .pur (.mv (.k (.bool false))), none⟩])
     (.ret))
     (.skip))))
   (.reg [⟨(some 27), .pur (.bin .add (.t 3) (.k (.int .i64 1))), none⟩,
     ⟨(some 3), .pur (.mv (.t 27)), none⟩]))))))
 (.seq (.reg [⟨(some 2), .pur (.mv (.k (.bool true))), none⟩])
 (.ret)))),
 [.tmp 2]⟩
theorem is155 : IsFnO Tryz.prog 155 ir155 := .of 1108986826898 (by kernel_rfl)
end Go.Proofs.YtniclakgfgmhhaaGreat
