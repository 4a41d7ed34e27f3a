/-
  HELPERS of the claim: part 8 of its texts.
-/
import Derived.Test.YtnkkfehegdplgaaGreatDoorCcdg
import Derived.Shelf.Small.Strs
import Derived.Shelf.Strings.Fields
import Derived.Test.YtnkkfehegdplgaaGreatDoorProg
noncomputable section
set_option linter.unusedVariables false
namespace Go.Proofs
open Go.Shelf
def Tryz.lays137_ren:Go.Shelf.Ren:=⟨fun |137=>212 |217=>224 |266=>238|n=>n,fun |9=>9 |5=>5 |3=>3|n=>n,fun|n=>n⟩
theorem Tryz.lays137:Go.Proofs.Lays.n137 Tryz.prog Tryz.lays137_ren:={
 mixed:=b8
 f137:=Tryz.func212.trans (congrArg some (by kernel_rfl))
 f217:=Tryz.func224.trans (congrArg some (by kernel_rfl))
 f266:=Tryz.func238.trans (congrArg some (by kernel_rfl))
 t3:=Tryz.underlying3
 a3:=Tryz.isAgg3
 z3:=Tryz.sizeOf3
 v3:=Tryz.zeroValue3
 t5:=Tryz.underlying5
 a5:=Tryz.isAgg5
 z5:=Tryz.sizeOf5
 v5:=Tryz.zeroValue5
 t9:=Tryz.underlying9
 a9:=Tryz.isAgg9
 z9:=Tryz.sizeOf9
 v9:=Tryz.zeroValue9 }
open Go.RowKit in
theorem Tryz.strings_IndexByte(s:ByteArray)(c:Int)(w:World):
  Calls Tryz.prog 212 #[.string s,.int .u8 c] w λe w'=>e=.returned (.int .i64 (Lib.indexByte s.data.toList c.toNat.toUInt8))/\w'=w:=Any.strings_IndexByte Tryz.lays137 s c w
def Tryz.lays157_ren:Go.Shelf.Ren:=⟨fun |157=>188 |229=>209 |199=>210 |261=>221 |311=>231 |312=>232|n=>n,fun |9=>9 |31=>29 |3=>3 |5=>5 |4=>4 |119=>249 |0=>0 |40=>251 |152=>262 |21=>21 |154=>264 |51=>195 |141=>266 |196=>272 |193=>269 |198=>275 |49=>273 |194=>270 |201=>278 |226=>287 |46=>161 |227=>288|n=>n,fun |0=>0 |6=>1|n=>n⟩
theorem Tryz.lays157:Go.Proofs.Lays.n157 Tryz.prog Tryz.lays157_ren:={
 mixed:=b8
 f157:=Tryz.func188.trans (congrArg some (by kernel_rfl))
 f199:=Tryz.func210.trans (congrArg some (by kernel_rfl))
 f229:=Tryz.func209.trans (congrArg some (by kernel_rfl))
 f261:=Tryz.func221.trans (congrArg some (by kernel_rfl))
 f311:=Tryz.func231.trans (congrArg some (by kernel_rfl))
 f312:=Tryz.func232.trans (congrArg some (by kernel_rfl))
 t0:=Tryz.underlying0
 a0:=Tryz.isAgg0
 z0:=Tryz.sizeOf0
 v0:=Tryz.zeroValue0
 t3:=Tryz.underlying3
 a3:=Tryz.isAgg3
 z3:=Tryz.sizeOf3
 v3:=Tryz.zeroValue3
 t4:=Tryz.underlying4
 a4:=Tryz.isAgg4
 z4:=Tryz.sizeOf4
 v4:=Tryz.zeroValue4
 t5:=Tryz.underlying5
 a5:=Tryz.isAgg5
 z5:=Tryz.sizeOf5
 v5:=Tryz.zeroValue5
 t9:=Tryz.underlying9
 a9:=Tryz.isAgg9
 z9:=Tryz.sizeOf9
 v9:=Tryz.zeroValue9
 t21:=Tryz.underlying21
 a21:=Tryz.isAgg21
 z21:=Tryz.sizeOf21
 v21:=Tryz.zeroValue21
 t31:=Tryz.underlying29
 a31:=Tryz.isAgg29
 z31:=Tryz.sizeOf29
 v31:=Tryz.zeroValue29
 t40:=Tryz.underlying251
 a40:=Tryz.isAgg251
 z40:=Tryz.sizeOf251
 v40:=Tryz.zeroValue251
 t46:=Tryz.underlying161
 a46:=Tryz.isAgg161
 z46:=Tryz.sizeOf161
 v46:=Tryz.zeroValue161
 t49:=Tryz.underlying273
 a49:=Tryz.isAgg273
 z49:=Tryz.sizeOf273
 v49:=Tryz.zeroValue273
 t51:=Tryz.underlying195
 a51:=Tryz.isAgg195
 z51:=Tryz.sizeOf195
 v51:=Tryz.zeroValue195
 t119:=Tryz.underlying249
 a119:=Tryz.isAgg249
 z119:=Tryz.sizeOf249
 t141:=Tryz.underlying266
 a141:=Tryz.isAgg266
 z141:=Tryz.sizeOf266
 v141:=Tryz.zeroValue266
 t152:=Tryz.underlying262
 a152:=Tryz.isAgg262
 z152:=Tryz.sizeOf262
 v152:=Tryz.zeroValue262
 t154:=Tryz.underlying264
 a154:=Tryz.isAgg264
 z154:=Tryz.sizeOf264
 v154:=Tryz.zeroValue264
 t193:=Tryz.underlying269
 a193:=Tryz.isAgg269
 z193:=Tryz.sizeOf269
 v193:=Tryz.zeroValue269
 t194:=Tryz.underlying270
 a194:=Tryz.isAgg270
 z194:=Tryz.sizeOf270
 v194:=Tryz.zeroValue270
 t196:=Tryz.underlying272
 a196:=Tryz.isAgg272
 z196:=Tryz.sizeOf272
 v196:=Tryz.zeroValue272
 t198:=Tryz.underlying275
 a198:=Tryz.isAgg275
 z198:=Tryz.sizeOf275
 v198:=Tryz.zeroValue275
 t201:=Tryz.underlying278
 a201:=Tryz.isAgg278
 z201:=Tryz.sizeOf278
 v201:=Tryz.zeroValue278
 t226:=Tryz.underlying287
 a226:=Tryz.isAgg287
 z226:=Tryz.sizeOf287
 v226:=Tryz.zeroValue287
 t227:=Tryz.underlying288
 a227:=Tryz.isAgg288
 z227:=Tryz.sizeOf288
 v227:=Tryz.zeroValue288
 g0:=b8
 g6:=by kernel_rfl }
open Go.RowKit Go.Lib in
theorem Tryz.strings_Fields(s : ByteArray)(w : World)(hs : s.size < 4294967281)(hascii : ∀ (j : Nat) b, s.data.toList[j]? = some b → b.toNat < 128)(htab : Lib.TabIs Tryz.prog w "strings.asciiSpace" .u8 Lib.asciiSpaceTab):
  Calls Tryz.prog 188 #[.string s] w λe w' =>
   e=.returned (.slice (some ⟨w.heap.size,0,none⟩) (Lib.fields s.data.toList).length (Lib.fields s.data.toList).length)/\w'=w.alloc (.cells ((Lib.fields s.data.toList).map λl=>Value.string ⟨l.toArray⟩).toArray 9):=Any.strings_Fields Tryz.lays157 (by kernel_rfl) (by kernel_rfl) s w hs hascii htab
end Go.Proofs
end
