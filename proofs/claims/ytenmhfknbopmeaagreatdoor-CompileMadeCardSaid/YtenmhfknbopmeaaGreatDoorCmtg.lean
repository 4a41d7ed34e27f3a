/-
  HELPERS of the claim: part 7 of its texts.
-/
import Derived.Test.YtenmhfknbopmeaaGreatDoorCmtf
import Derived.Shelf.Small.Strs
import Derived.Shelf.Strings.Fields
import Derived.Test.YtenmhfknbopmeaaGreatDoorProg
noncomputable section
set_option linter.unusedVariables false
namespace Go.Proofs
open Go.Shelf
def Tryz.lays137_ren:Go.Shelf.Ren:=⟨fun |137=>232 |217=>254 |266=>266|n=>n,fun |9=>9 |5=>5 |3=>3|n=>n,fun|n=>n⟩
theorem Tryz.lays137:Go.Proofs.Lays.n137 Tryz.prog Tryz.lays137_ren:={
 mixed:=by kernel_rfl
 f137:=Tryz.func232.trans (congrArg some (by kernel_rfl))
 f217:=Tryz.func254.trans (congrArg some (by kernel_rfl))
 f266:=Tryz.func266.trans (congrArg some (by kernel_rfl))
 t3:=Tryz.underlying3
 a3:=Tryz.isAgg3
 z3:=Tryz.sizeOf3
 v3:=Tryz.zeroValue3
 t5:=Tryz.underlying5
 a5:=Tryz.isAgg5
 z5:=Tryz.sizeOf5
 v5:=Tryz.zeroValue5
 t9:=Tryz.underlying9
 a9:=Tryz.isAgg9
 z9:=Tryz.sizeOf9
 v9:=Tryz.zeroValue9 }
open Go.RowKit in
theorem Tryz.strings_IndexByte(s:ByteArray)(c:Int)(w:World):
  Calls Tryz.prog 232 #[.string s,.int .u8 c] w λe w'=>e=.returned (.int .i64 (Lib.indexByte s.data.toList c.toNat.toUInt8))/\w'=w:=Any.strings_IndexByte Tryz.lays137 s c w
def Tryz.lays157_ren:Go.Shelf.Ren:=⟨fun |157=>178 |229=>229 |199=>230 |261=>251 |311=>259 |312=>260|n=>n,fun |9=>9 |31=>29 |3=>3 |5=>5 |4=>4 |119=>255 |0=>0 |40=>257 |152=>276 |21=>21 |154=>278 |51=>221 |141=>280 |196=>287 |193=>284 |198=>290 |49=>288 |194=>285 |201=>293 |226=>302 |46=>185 |227=>303|n=>n,fun |0=>0 |6=>1|n=>n⟩
theorem Tryz.lays157:Go.Proofs.Lays.n157 Tryz.prog Tryz.lays157_ren:={
 mixed:=by kernel_rfl
 f157:=Tryz.func178.trans (congrArg some (by kernel_rfl))
 f199:=Tryz.func230.trans (congrArg some (by kernel_rfl))
 f229:=Tryz.func229.trans (congrArg some (by kernel_rfl))
 f261:=Tryz.func251.trans (congrArg some (by kernel_rfl))
 f311:=Tryz.func259.trans (congrArg some (by kernel_rfl))
 f312:=Tryz.func260.trans (congrArg some (by kernel_rfl))
 t0:=Tryz.underlying0
 a0:=Tryz.isAgg0
 z0:=Tryz.sizeOf0
 v0:=Tryz.zeroValue0
 t3:=Tryz.underlying3
 a3:=Tryz.isAgg3
 z3:=Tryz.sizeOf3
 v3:=Tryz.zeroValue3
 t4:=Tryz.underlying4
 a4:=Tryz.isAgg4
 z4:=Tryz.sizeOf4
 v4:=Tryz.zeroValue4
 t5:=Tryz.underlying5
 a5:=Tryz.isAgg5
 z5:=Tryz.sizeOf5
 v5:=Tryz.zeroValue5
 t9:=Tryz.underlying9
 a9:=Tryz.isAgg9
 z9:=Tryz.sizeOf9
 v9:=Tryz.zeroValue9
 t21:=Tryz.underlying21
 a21:=Tryz.isAgg21
 z21:=Tryz.sizeOf21
 v21:=Tryz.zeroValue21
 t31:=Tryz.underlying29
 a31:=Tryz.isAgg29
 z31:=Tryz.sizeOf29
 v31:=Tryz.zeroValue29
 t40:=Tryz.underlying257
 a40:=Tryz.isAgg257
 z40:=Tryz.sizeOf257
 v40:=Tryz.zeroValue257
 t46:=Tryz.underlying185
 a46:=Tryz.isAgg185
 z46:=Tryz.sizeOf185
 v46:=Tryz.zeroValue185
 t49:=Tryz.underlying288
 a49:=Tryz.isAgg288
 z49:=Tryz.sizeOf288
 v49:=Tryz.zeroValue288
 t51:=Tryz.underlying221
 a51:=Tryz.isAgg221
 z51:=Tryz.sizeOf221
 v51:=Tryz.zeroValue221
 t119:=Tryz.underlying255
 a119:=Tryz.isAgg255
 z119:=Tryz.sizeOf255
 t141:=Tryz.underlying280
 a141:=Tryz.isAgg280
 z141:=Tryz.sizeOf280
 v141:=Tryz.zeroValue280
 t152:=Tryz.underlying276
 a152:=Tryz.isAgg276
 z152:=Tryz.sizeOf276
 v152:=Tryz.zeroValue276
 t154:=Tryz.underlying278
 a154:=Tryz.isAgg278
 z154:=Tryz.sizeOf278
 v154:=Tryz.zeroValue278
 t193:=Tryz.underlying284
 a193:=Tryz.isAgg284
 z193:=Tryz.sizeOf284
 v193:=Tryz.zeroValue284
 t194:=Tryz.underlying285
 a194:=Tryz.isAgg285
 z194:=Tryz.sizeOf285
 v194:=Tryz.zeroValue285
 t196:=Tryz.underlying287
 a196:=Tryz.isAgg287
 z196:=Tryz.sizeOf287
 v196:=Tryz.zeroValue287
 t198:=Tryz.underlying290
 a198:=Tryz.isAgg290
 z198:=Tryz.sizeOf290
 v198:=Tryz.zeroValue290
 t201:=Tryz.underlying293
 a201:=Tryz.isAgg293
 z201:=Tryz.sizeOf293
 v201:=Tryz.zeroValue293
 t226:=Tryz.underlying302
 a226:=Tryz.isAgg302
 z226:=Tryz.sizeOf302
 v226:=Tryz.zeroValue302
 t227:=Tryz.underlying303
 a227:=Tryz.isAgg303
 z227:=Tryz.sizeOf303
 v227:=Tryz.zeroValue303
 g0:=by kernel_rfl
 g6:=by kernel_rfl }
open Go.RowKit Go.Lib in
theorem Tryz.strings_Fields(s : ByteArray)(w : World)(hs : s.size < 4294967281)(hascii : ∀ (j : Nat) b, s.data.toList[j]? = some b → b.toNat < 128)(htab : Lib.TabIs Tryz.prog w "strings.asciiSpace" .u8 Lib.asciiSpaceTab):
  Calls Tryz.prog 178 #[.string s] w λe w' =>
   e=.returned (.slice (some ⟨w.heap.size,0,none⟩) (Lib.fields s.data.toList).length (Lib.fields s.data.toList).length)/\w'=w.alloc (.cells ((Lib.fields s.data.toList).map λl=>Value.string ⟨l.toArray⟩).toArray 9):=Any.strings_Fields Tryz.lays157 (by kernel_rfl) (by kernel_rfl) s w hs hascii htab
end Go.Proofs
end
