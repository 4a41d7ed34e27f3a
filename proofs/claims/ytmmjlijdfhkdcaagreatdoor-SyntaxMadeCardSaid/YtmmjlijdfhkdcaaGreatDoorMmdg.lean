/-
  HELPERS of the claim: part 7 of its texts.
-/
import Derived.Test.YtmmjlijdfhkdcaaGreatDoorMmdf
import Derived.Shelf.Strings.OnBuilder
import Derived.Shelf.Small.Strs
import Derived.Shelf.Strings.Fields
import Derived.Test.YtmmjlijdfhkdcaaGreatDoorProg
noncomputable section
set_option linter.unusedVariables false
namespace Go.Proofs
open Go.Shelf
def Tryz.lays156_ren:Go.Shelf.Ren:=⟨fun |156=>62 |165=>100 |166=>101 |169=>102 |240=>138 |241=>139 |276=>162 |277=>163|n=>n,fun |31=>44 |9=>9 |3=>3 |4=>4 |0=>0 |20=>20 |72=>130 |76=>134 |70=>128 |37=>22 |75=>133 |127=>163 |164=>180 |5=>5 |80=>33|n=>n,fun|n=>n⟩
theorem Tryz.lays156:Go.Proofs.Lays.n156 Tryz.prog Tryz.lays156_ren:={
 mixed:=by kernel_rfl
 f156:=Tryz.func62.trans (congrArg some (by kernel_rfl))
 f165:=Tryz.func100.trans (congrArg some (by kernel_rfl))
 f166:=Tryz.func101.trans (congrArg some (by kernel_rfl))
 f169:=Tryz.func102.trans (congrArg some (by kernel_rfl))
 f240:=Tryz.func138.trans (congrArg some (by kernel_rfl))
 f241:=Tryz.func139.trans (congrArg some (by kernel_rfl))
 f276:=Tryz.func162.trans (congrArg some (by kernel_rfl))
 f277:=Tryz.func163.trans (congrArg some (by kernel_rfl))
 t0:=Tryz.underlying0
 a0:=Tryz.isAgg0
 z0:=Tryz.sizeOf0
 v0:=Tryz.zeroValue0
 t3:=Tryz.underlying3
 a3:=Tryz.isAgg3
 z3:=Tryz.sizeOf3
 v3:=Tryz.zeroValue3
 t4:=Tryz.underlying4
 a4:=Tryz.isAgg4
 z4:=Tryz.sizeOf4
 v4:=Tryz.zeroValue4
 t9:=Tryz.underlying9
 a9:=Tryz.isAgg9
 z9:=Tryz.sizeOf9
 v9:=Tryz.zeroValue9
 t20:=Tryz.underlying20
 a20:=Tryz.isAgg20
 z20:=Tryz.sizeOf20
 v20:=Tryz.zeroValue20
 t31:=Tryz.underlying44
 a31:=Tryz.isAgg44
 z31:=Tryz.sizeOf44
 v31:=Tryz.zeroValue44
 t37:=Tryz.underlying22
 a37:=Tryz.isAgg22
 z37:=Tryz.sizeOf22
 v37:=Tryz.zeroValue22
 t70:=Tryz.underlying128
 a70:=Tryz.isAgg128
 z70:=Tryz.sizeOf128
 v70:=Tryz.zeroValue128
 t72:=Tryz.underlying130
 a72:=Tryz.isAgg130
 z72:=Tryz.sizeOf130
 v72:=Tryz.zeroValue130
 t75:=Tryz.underlying133
 a75:=Tryz.isAgg133
 z75:=Tryz.sizeOf133
 v75:=Tryz.zeroValue133
 t76:=Tryz.underlying134
 a76:=Tryz.isAgg134
 z76:=Tryz.sizeOf134
 v76:=Tryz.zeroValue134
 t127:=Tryz.underlying163
 a127:=Tryz.isAgg163
 z127:=Tryz.sizeOf163
 v127:=Tryz.zeroValue163
 t164:=Tryz.underlying180
 a164:=Tryz.isAgg180
 z164:=Tryz.sizeOf180
 v164:=Tryz.zeroValue180 }
theorem Tryz.Builder_Extra_156:Builder.Extra Tryz.prog Tryz.lays156_ren:={
 sizeBuilder:=by kernel_rfl
 liesBuilder:=by kernel_rfl
 t5:=Tryz.underlying5
 a5:=Tryz.isAgg5
 z5:=Tryz.sizeOf5
 v5:=Tryz.zeroValue5
 infoByte:=by kernel_rfl
 cellsByte:=by kernel_rfl
 sizeByte:=by kernel_rfl
 neB5:=by decide }
open Go.RowKit in
theorem Tryz.strings_Join_none(a:Option Addr)(c:Nat)(sep:ByteArray)(w:World):
  Calls Tryz.prog 62 #[.slice a 0 c,.string sep] w fun e w'=>e=.returned (.string ⟨#[]⟩)/\w'=w:=Any.strings_Join_none Tryz.lays156 Tryz.Builder_Extra_156 a c sep w
open Go.RowKit in
theorem Tryz.strings_Join(bk o c:Nat)(xs:List ByteArray)(sep:ByteArray)(w:World)(hcells:∀ (j:Nat) x,xs[j]? = some x->w.cell? ⟨bk,o+j,none⟩=some (.string x))(hbk:bk<w.heap.size)(hN:xs.length<=140737488355328)(hcap:xs.length<=c)(hlen:(Lib.join (xs.map (·.data.toList)) sep.data.toList).length<=140737488355328):
  Calls Tryz.prog 62 #[.slice (some ⟨bk,o,none⟩) xs.length c,.string sep] w fun e w'=>e=.returned (.string ⟨(Lib.join (xs.map (·.data.toList)) sep.data.toList).toArray⟩)/\Below w.heap.size w w':=Any.strings_Join Tryz.lays156 Tryz.Builder_Extra_156 bk o c xs sep w hcells hbk hN hcap hlen
def Tryz.lays137_ren:Go.Shelf.Ren:=⟨fun |137=>167 |217=>180 |266=>191|n=>n,fun |9=>9 |5=>5 |3=>3|n=>n,fun|n=>n⟩
theorem Tryz.lays137:Go.Proofs.Lays.n137 Tryz.prog Tryz.lays137_ren:={
 mixed:=by kernel_rfl
 f137:=Tryz.func167.trans (congrArg some (by kernel_rfl))
 f217:=Tryz.func180.trans (congrArg some (by kernel_rfl))
 f266:=Tryz.func191.trans (congrArg some (by kernel_rfl))
 t3:=Tryz.underlying3
 a3:=Tryz.isAgg3
 z3:=Tryz.sizeOf3
 v3:=Tryz.zeroValue3
 t5:=Tryz.underlying5
 a5:=Tryz.isAgg5
 z5:=Tryz.sizeOf5
 v5:=Tryz.zeroValue5
 t9:=Tryz.underlying9
 a9:=Tryz.isAgg9
 z9:=Tryz.sizeOf9
 v9:=Tryz.zeroValue9 }
open Go.RowKit in
theorem Tryz.strings_IndexByte(s:ByteArray)(c:Int)(w:World):
  Calls Tryz.prog 167 #[.string s,.int .u8 c] w fun e w'=>e=.returned (.int .i64 (Lib.indexByte s.data.toList c.toNat.toUInt8))/\w'=w:=Any.strings_IndexByte Tryz.lays137 s c w
def Tryz.lays157_ren:Go.Shelf.Ren:=⟨fun |157=>140 |229=>164 |199=>165 |261=>177 |311=>184 |312=>185|n=>n,fun |9=>9 |31=>44 |3=>3 |5=>5 |4=>4 |119=>183 |0=>0 |40=>185 |152=>191 |21=>21 |154=>193 |51=>176 |141=>195 |196=>202 |193=>199 |198=>205 |49=>203 |194=>200 |201=>208 |226=>216 |46=>178 |227=>217|n=>n,fun |0=>1 |6=>3|n=>n⟩
theorem Tryz.lays157:Go.Proofs.Lays.n157 Tryz.prog Tryz.lays157_ren:={
 mixed:=by kernel_rfl
 f157:=Tryz.func140.trans (congrArg some (by kernel_rfl))
 f199:=Tryz.func165.trans (congrArg some (by kernel_rfl))
 f229:=Tryz.func164.trans (congrArg some (by kernel_rfl))
 f261:=Tryz.func177.trans (congrArg some (by kernel_rfl))
 f311:=Tryz.func184.trans (congrArg some (by kernel_rfl))
 f312:=Tryz.func185.trans (congrArg some (by kernel_rfl))
 t0:=Tryz.underlying0
 a0:=Tryz.isAgg0
 z0:=Tryz.sizeOf0
 v0:=Tryz.zeroValue0
 t3:=Tryz.underlying3
 a3:=Tryz.isAgg3
 z3:=Tryz.sizeOf3
 v3:=Tryz.zeroValue3
 t4:=Tryz.underlying4
 a4:=Tryz.isAgg4
 z4:=Tryz.sizeOf4
 v4:=Tryz.zeroValue4
 t5:=Tryz.underlying5
 a5:=Tryz.isAgg5
 z5:=Tryz.sizeOf5
 v5:=Tryz.zeroValue5
 t9:=Tryz.underlying9
 a9:=Tryz.isAgg9
 z9:=Tryz.sizeOf9
 v9:=Tryz.zeroValue9
 t21:=Tryz.underlying21
 a21:=Tryz.isAgg21
 z21:=Tryz.sizeOf21
 v21:=Tryz.zeroValue21
 t31:=Tryz.underlying44
 a31:=Tryz.isAgg44
 z31:=Tryz.sizeOf44
 v31:=Tryz.zeroValue44
 t40:=Tryz.underlying185
 a40:=Tryz.isAgg185
 z40:=Tryz.sizeOf185
 v40:=Tryz.zeroValue185
 t46:=Tryz.underlying178
 a46:=Tryz.isAgg178
 z46:=Tryz.sizeOf178
 v46:=Tryz.zeroValue178
 t49:=Tryz.underlying203
 a49:=Tryz.isAgg203
 z49:=Tryz.sizeOf203
 v49:=Tryz.zeroValue203
 t51:=Tryz.underlying176
 a51:=Tryz.isAgg176
 z51:=Tryz.sizeOf176
 v51:=Tryz.zeroValue176
 t119:=Tryz.underlying183
 a119:=Tryz.isAgg183
 z119:=Tryz.sizeOf183
 t141:=Tryz.underlying195
 a141:=Tryz.isAgg195
 z141:=Tryz.sizeOf195
 v141:=Tryz.zeroValue195
 t152:=Tryz.underlying191
 a152:=Tryz.isAgg191
 z152:=Tryz.sizeOf191
 v152:=Tryz.zeroValue191
 t154:=Tryz.underlying193
 a154:=Tryz.isAgg193
 z154:=Tryz.sizeOf193
 v154:=Tryz.zeroValue193
 t193:=Tryz.underlying199
 a193:=Tryz.isAgg199
 z193:=Tryz.sizeOf199
 v193:=Tryz.zeroValue199
 t194:=Tryz.underlying200
 a194:=Tryz.isAgg200
 z194:=Tryz.sizeOf200
 v194:=Tryz.zeroValue200
 t196:=Tryz.underlying202
 a196:=Tryz.isAgg202
 z196:=Tryz.sizeOf202
 v196:=Tryz.zeroValue202
 t198:=Tryz.underlying205
 a198:=Tryz.isAgg205
 z198:=Tryz.sizeOf205
 v198:=Tryz.zeroValue205
 t201:=Tryz.underlying208
 a201:=Tryz.isAgg208
 z201:=Tryz.sizeOf208
 v201:=Tryz.zeroValue208
 t226:=Tryz.underlying216
 a226:=Tryz.isAgg216
 z226:=Tryz.sizeOf216
 v226:=Tryz.zeroValue216
 t227:=Tryz.underlying217
 a227:=Tryz.isAgg217
 z227:=Tryz.sizeOf217
 v227:=Tryz.zeroValue217
 g0:=by kernel_rfl
 g6:=by kernel_rfl }
open Go.RowKit Go.Lib in
theorem Tryz.strings_Fields(s : ByteArray)(w : World)(hs : s.size < 4294967281)(hascii : ∀ (j : Nat) b, s.data.toList[j]? = some b → b.toNat < 128)(htab : Lib.TabIs Tryz.prog w "strings.asciiSpace" .u8 Lib.asciiSpaceTab):
  Calls Tryz.prog 140 #[.string s] w fun e w' =>
   e=.returned (.slice (some ⟨w.heap.size,0,none⟩) (Lib.fields s.data.toList).length (Lib.fields s.data.toList).length)/\w'=w.alloc (.cells ((Lib.fields s.data.toList).map fun l=>Value.string ⟨l.toArray⟩).toArray 9):=Any.strings_Fields Tryz.lays157 (by kernel_rfl) (by kernel_rfl) s w hs hascii htab
end Go.Proofs
end
