/-
  HELPERS of the claim: part 7 of its texts.
-/
import Derived.Test.YtdclpmddofggcaaGreatDoorCbdf
import Derived.Shelf.Small.Strs
import Derived.Shelf.Strings.Fields
import Derived.Test.YtdclpmddofggcaaGreatDoorProg
noncomputable section
set_option linter.unusedVariables false
namespace Go.Proofs
open Go.Shelf
def Tryz.lays137_ren:Go.Shelf.Ren:=⟨fun |137=>144 |217=>180 |266=>206|n=>n,fun |9=>9 |5=>5 |3=>3|n=>n,fun|n=>n⟩
theorem Tryz.lays137:Go.Proofs.Lays.n137 Tryz.prog Tryz.lays137_ren:={
 mixed:=i6
 f137:=Tryz.func144.trans (congrArg some (by kernel_rfl))
 f217:=Tryz.func180.trans (congrArg some (by kernel_rfl))
 f266:=Tryz.func206.trans (congrArg some (by kernel_rfl))
 t3:=Tryz.underlying3
 a3:=Tryz.isAgg3
 z3:=Tryz.sizeOf3
 v3:=Tryz.zeroValue3
 t5:=Tryz.underlying5
 a5:=Tryz.isAgg5
 z5:=Tryz.sizeOf5
 v5:=Tryz.zeroValue5
 t9:=Tryz.underlying9
 a9:=Tryz.isAgg9
 z9:=Tryz.sizeOf9
 v9:=Tryz.zeroValue9 }
open Go.RowKit in
theorem Tryz.strings_IndexByte(s:ByteArray)(c:Int)(w:World):
  Calls Tryz.prog 144 #[.string s,.int .u8 c] w λe w'=>e=.returned (.int .i64 (Lib.indexByte s.data.toList c.toNat.toUInt8))/\w'=w:=Any.strings_IndexByte Tryz.lays137 s c w
def Tryz.lays157_ren:Go.Shelf.Ren:=⟨fun |157=>86 |229=>141 |199=>142 |261=>177 |311=>199 |312=>200|n=>n,fun |9=>9 |31=>28 |3=>3 |5=>5 |4=>4 |119=>176 |0=>0 |40=>178 |152=>207 |21=>21 |154=>209 |51=>195 |141=>211 |196=>230 |193=>227 |198=>233 |49=>231 |194=>228 |201=>236 |226=>257 |46=>165 |227=>258|n=>n,fun |0=>0 |6=>1|n=>n⟩
theorem Tryz.lays157:Go.Proofs.Lays.n157 Tryz.prog Tryz.lays157_ren:={
 mixed:=i6
 f157:=Tryz.func86.trans (congrArg some (by kernel_rfl))
 f199:=Tryz.func142.trans (congrArg some (by kernel_rfl))
 f229:=Tryz.func141.trans (congrArg some (by kernel_rfl))
 f261:=Tryz.func177.trans (congrArg some (by kernel_rfl))
 f311:=Tryz.func199.trans (congrArg some (by kernel_rfl))
 f312:=Tryz.func200.trans (congrArg some (by kernel_rfl))
 t0:=Tryz.underlying0
 a0:=Tryz.isAgg0
 z0:=Tryz.sizeOf0
 v0:=Tryz.zeroValue0
 t3:=Tryz.underlying3
 a3:=Tryz.isAgg3
 z3:=Tryz.sizeOf3
 v3:=Tryz.zeroValue3
 t4:=Tryz.underlying4
 a4:=Tryz.isAgg4
 z4:=Tryz.sizeOf4
 v4:=Tryz.zeroValue4
 t5:=Tryz.underlying5
 a5:=Tryz.isAgg5
 z5:=Tryz.sizeOf5
 v5:=Tryz.zeroValue5
 t9:=Tryz.underlying9
 a9:=Tryz.isAgg9
 z9:=Tryz.sizeOf9
 v9:=Tryz.zeroValue9
 t21:=Tryz.underlying21
 a21:=Tryz.isAgg21
 z21:=Tryz.sizeOf21
 v21:=Tryz.zeroValue21
 t31:=Tryz.underlying28
 a31:=Tryz.isAgg28
 z31:=Tryz.sizeOf28
 v31:=Tryz.zeroValue28
 t40:=Tryz.underlying178
 a40:=Tryz.isAgg178
 z40:=Tryz.sizeOf178
 v40:=Tryz.zeroValue178
 t46:=Tryz.underlying165
 a46:=Tryz.isAgg165
 z46:=Tryz.sizeOf165
 v46:=Tryz.zeroValue165
 t49:=Tryz.underlying231
 a49:=Tryz.isAgg231
 z49:=Tryz.sizeOf231
 v49:=Tryz.zeroValue231
 t51:=Tryz.underlying195
 a51:=Tryz.isAgg195
 z51:=Tryz.sizeOf195
 v51:=Tryz.zeroValue195
 t119:=Tryz.underlying176
 a119:=Tryz.isAgg176
 z119:=Tryz.sizeOf176
 t141:=Tryz.underlying211
 a141:=Tryz.isAgg211
 z141:=Tryz.sizeOf211
 v141:=Tryz.zeroValue211
 t152:=Tryz.underlying207
 a152:=Tryz.isAgg207
 z152:=Tryz.sizeOf207
 v152:=Tryz.zeroValue207
 t154:=Tryz.underlying209
 a154:=Tryz.isAgg209
 z154:=Tryz.sizeOf209
 v154:=Tryz.zeroValue209
 t193:=Tryz.underlying227
 a193:=Tryz.isAgg227
 z193:=Tryz.sizeOf227
 v193:=Tryz.zeroValue227
 t194:=Tryz.underlying228
 a194:=Tryz.isAgg228
 z194:=Tryz.sizeOf228
 v194:=Tryz.zeroValue228
 t196:=Tryz.underlying230
 a196:=Tryz.isAgg230
 z196:=Tryz.sizeOf230
 v196:=Tryz.zeroValue230
 t198:=Tryz.underlying233
 a198:=Tryz.isAgg233
 z198:=Tryz.sizeOf233
 v198:=Tryz.zeroValue233
 t201:=Tryz.underlying236
 a201:=Tryz.isAgg236
 z201:=Tryz.sizeOf236
 v201:=Tryz.zeroValue236
 t226:=Tryz.underlying257
 a226:=Tryz.isAgg257
 z226:=Tryz.sizeOf257
 v226:=Tryz.zeroValue257
 t227:=Tryz.underlying258
 a227:=Tryz.isAgg258
 z227:=Tryz.sizeOf258
 v227:=Tryz.zeroValue258
 g0:=i6
 g6:=by kernel_rfl }
open Go.RowKit Go.Lib in
theorem Tryz.strings_Fields(s : ByteArray)(w : World)(hs : s.size < 4294967281)(hascii : ∀ (j : Nat) b, s.data.toList[j]? = some b → b.toNat < 128)(htab : Lib.TabIs Tryz.prog w "strings.asciiSpace" .u8 Lib.asciiSpaceTab):
  Calls Tryz.prog 86 #[.string s] w λe w' =>
   e=.returned (.slice (some ⟨w.heap.size,0,none⟩) (Lib.fields s.data.toList).length (Lib.fields s.data.toList).length)/\w'=w.alloc (.cells ((Lib.fields s.data.toList).map λl=>Value.string ⟨l.toArray⟩).toArray 9):=Any.strings_Fields Tryz.lays157 (by kernel_rfl) (by kernel_rfl) s w hs hascii htab
end Go.Proofs
end
