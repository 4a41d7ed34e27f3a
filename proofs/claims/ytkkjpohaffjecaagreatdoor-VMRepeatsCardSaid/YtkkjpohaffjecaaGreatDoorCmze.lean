/-
  HELPERS of the claim: part 5 of its texts.
-/
import Derived.Test.YtkkjpohaffjecaaGreatDoorCmzd
import Derived.Shelf.Strings.OnBuilder
import Derived.Shelf.Small.Strs
import Derived.Shelf.Strings.Fields
import Derived.Test.YtkkjpohaffjecaaGreatDoorProg
noncomputable section
set_option linter.unusedVariables false
namespace Go.Proofs
open Go.Shelf
def Tryz.lays137_ren:Go.Shelf.Ren:=⟨fun |137=>329 |217=>340 |266=>350|n=>n,fun |9=>9 |5=>5 |3=>3|n=>n,fun|n=>n⟩
theorem Tryz.lays137:Go.Proofs.Lays.n137 Tryz.prog Tryz.lays137_ren:={
 mixed:=by kernel_rfl
 f137:=Tryz.func329.trans (congrArg some (by kernel_rfl))
 f217:=Tryz.func340.trans (congrArg some (by kernel_rfl))
 f266:=Tryz.func350.trans (congrArg some (by kernel_rfl))
 t3:=Tryz.underlying3
 a3:=Tryz.isAgg3
 z3:=Tryz.sizeOf3
 v3:=Tryz.zeroValue3
 t5:=Tryz.underlying5
 a5:=Tryz.isAgg5
 z5:=Tryz.sizeOf5
 v5:=Tryz.zeroValue5
 t9:=Tryz.underlying9
 a9:=Tryz.isAgg9
 z9:=Tryz.sizeOf9
 v9:=Tryz.zeroValue9 }
open Go.RowKit in
theorem Tryz.strings_IndexByte(s:ByteArray)(c:Int)(w:World):
  Calls Tryz.prog 329 #[.string s,.int .u8 c] w fun e w'=>e=.returned (.int .i64 (Lib.indexByte s.data.toList c.toNat.toUInt8))/\w'=w:=Any.strings_IndexByte Tryz.lays137 s c w
def Tryz.lays157_ren:Go.Shelf.Ren:=⟨fun |157=>282 |229=>326 |199=>327 |261=>337 |311=>343 |312=>344|n=>n,fun |9=>9 |31=>29 |3=>3 |5=>5 |4=>4 |119=>330 |0=>0 |40=>332 |152=>339 |21=>21 |154=>341 |51=>38 |141=>343 |196=>350 |193=>347 |198=>353 |49=>351 |194=>348 |201=>356 |226=>364 |46=>123 |227=>365|n=>n,fun |0=>1 |6=>3|n=>n⟩
theorem Tryz.lays157:Go.Proofs.Lays.n157 Tryz.prog Tryz.lays157_ren:={
 mixed:=by kernel_rfl
 f157:=Tryz.func282.trans (congrArg some (by kernel_rfl))
 f199:=Tryz.func327.trans (congrArg some (by kernel_rfl))
 f229:=Tryz.func326.trans (congrArg some (by kernel_rfl))
 f261:=Tryz.func337.trans (congrArg some (by kernel_rfl))
 f311:=Tryz.func343.trans (congrArg some (by kernel_rfl))
 f312:=Tryz.func344.trans (congrArg some (by kernel_rfl))
 t0:=Tryz.underlying0
 a0:=Tryz.isAgg0
 z0:=Tryz.sizeOf0
 v0:=Tryz.zeroValue0
 t3:=Tryz.underlying3
 a3:=Tryz.isAgg3
 z3:=Tryz.sizeOf3
 v3:=Tryz.zeroValue3
 t4:=Tryz.underlying4
 a4:=Tryz.isAgg4
 z4:=Tryz.sizeOf4
 v4:=Tryz.zeroValue4
 t5:=Tryz.underlying5
 a5:=Tryz.isAgg5
 z5:=Tryz.sizeOf5
 v5:=Tryz.zeroValue5
 t9:=Tryz.underlying9
 a9:=Tryz.isAgg9
 z9:=Tryz.sizeOf9
 v9:=Tryz.zeroValue9
 t21:=Tryz.underlying21
 a21:=Tryz.isAgg21
 z21:=Tryz.sizeOf21
 v21:=Tryz.zeroValue21
 t31:=Tryz.underlying29
 a31:=Tryz.isAgg29
 z31:=Tryz.sizeOf29
 v31:=Tryz.zeroValue29
 t40:=Tryz.underlying332
 a40:=Tryz.isAgg332
 z40:=Tryz.sizeOf332
 v40:=Tryz.zeroValue332
 t46:=Tryz.underlying123
 a46:=Tryz.isAgg123
 z46:=Tryz.sizeOf123
 v46:=Tryz.zeroValue123
 t49:=Tryz.underlying351
 a49:=Tryz.isAgg351
 z49:=Tryz.sizeOf351
 v49:=Tryz.zeroValue351
 t51:=Tryz.underlying38
 a51:=Tryz.isAgg38
 z51:=Tryz.sizeOf38
 v51:=Tryz.zeroValue38
 t119:=Tryz.underlying330
 a119:=Tryz.isAgg330
 z119:=Tryz.sizeOf330
 t141:=Tryz.underlying343
 a141:=Tryz.isAgg343
 z141:=Tryz.sizeOf343
 v141:=Tryz.zeroValue343
 t152:=Tryz.underlying339
 a152:=Tryz.isAgg339
 z152:=Tryz.sizeOf339
 v152:=Tryz.zeroValue339
 t154:=Tryz.underlying341
 a154:=Tryz.isAgg341
 z154:=Tryz.sizeOf341
 v154:=Tryz.zeroValue341
 t193:=Tryz.underlying347
 a193:=Tryz.isAgg347
 z193:=Tryz.sizeOf347
 v193:=Tryz.zeroValue347
 t194:=Tryz.underlying348
 a194:=Tryz.isAgg348
 z194:=Tryz.sizeOf348
 v194:=Tryz.zeroValue348
 t196:=Tryz.underlying350
 a196:=Tryz.isAgg350
 z196:=Tryz.sizeOf350
 v196:=Tryz.zeroValue350
 t198:=Tryz.underlying353
 a198:=Tryz.isAgg353
 z198:=Tryz.sizeOf353
 v198:=Tryz.zeroValue353
 t201:=Tryz.underlying356
 a201:=Tryz.isAgg356
 z201:=Tryz.sizeOf356
 v201:=Tryz.zeroValue356
 t226:=Tryz.underlying364
 a226:=Tryz.isAgg364
 z226:=Tryz.sizeOf364
 v226:=Tryz.zeroValue364
 t227:=Tryz.underlying365
 a227:=Tryz.isAgg365
 z227:=Tryz.sizeOf365
 v227:=Tryz.zeroValue365
 g0:=by kernel_rfl
 g6:=by kernel_rfl }
open Go.RowKit Go.Lib in
theorem Tryz.strings_Fields(s : ByteArray)(w : World)(hs : s.size < 4294967281)(hascii : ∀ (j : Nat) b, s.data.toList[j]? = some b → b.toNat < 128)(htab : Lib.TabIs Tryz.prog w "strings.asciiSpace" .u8 Lib.asciiSpaceTab):
  Calls Tryz.prog 282 #[.string s] w fun e w' =>
   e=.returned (.slice (some ⟨w.heap.size,0,none⟩) (Lib.fields s.data.toList).length (Lib.fields s.data.toList).length)/\w'=w.alloc (.cells ((Lib.fields s.data.toList).map fun l=>Value.string ⟨l.toArray⟩).toArray 9):=Any.strings_Fields Tryz.lays157 (by kernel_rfl) (by kernel_rfl) s w hs hascii htab
end Go.Proofs
end
