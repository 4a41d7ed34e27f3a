/-
  HELPERS of the claim: part 5 of its texts.
-/
import Derived.Shelf.Strings.OnBuilder
import Derived.Shelf.Small.Strs
import Derived.Shelf.Strings.Fields
import Derived.Test.YtibjoemdkeimfaaDoorProg
import Derived.Test.YtibjoemdkeimfaaDoorTokd
noncomputable section
set_option linter.unusedVariables false
namespace Go.Proofs
open Go.Shelf
def Tryd.lays156_ren:Go.Shelf.Ren:=⟨fun | 156=>36 | 165=>46 | 166=>47 | 169=>48 | 240=>58 | 241=>59 | 276=>68 | 277=>69|n=>n,fun | 31=>27 | 9=>9 | 3=>3 | 4=>4 | 0=>0 | 20=>20 | 72=>62 | 76=>66 | 70=>60 | 37=>22 | 75=>65 | 127=>76 | 164=>90 | 5=>5 | 80=>68|n=>n,fun|n=>n⟩
theorem Tryd.lays156:Go.Proofs.Lays.n156 Tryd.prog Tryd.lays156_ren:={
 mixed:=by kernel_rfl
 f156:=Tryd.func36.trans (congrArg some (by kernel_rfl))
 f165:=Tryd.func46.trans (congrArg some (by kernel_rfl))
 f166:=Tryd.func47.trans (congrArg some (by kernel_rfl))
 f169:=Tryd.func48.trans (congrArg some (by kernel_rfl))
 f240:=Tryd.func58.trans (congrArg some (by kernel_rfl))
 f241:=Tryd.func59.trans (congrArg some (by kernel_rfl))
 f276:=Tryd.func68.trans (congrArg some (by kernel_rfl))
 f277:=Tryd.func69.trans (congrArg some (by kernel_rfl))
 t0:=Tryd.underlying0
 a0:=Tryd.isAgg0
 z0:=Tryd.sizeOf0
 v0:=Tryd.zeroValue0
 t3:=Tryd.underlying3
 a3:=Tryd.isAgg3
 z3:=Tryd.sizeOf3
 v3:=Tryd.zeroValue3
 t4:=Tryd.underlying4
 a4:=Tryd.isAgg4
 z4:=Tryd.sizeOf4
 v4:=Tryd.zeroValue4
 t9:=Tryd.underlying9
 a9:=Tryd.isAgg9
 z9:=Tryd.sizeOf9
 v9:=Tryd.zeroValue9
 t20:=Tryd.underlying20
 a20:=Tryd.isAgg20
 z20:=Tryd.sizeOf20
 v20:=Tryd.zeroValue20
 t31:=Tryd.underlying27
 a31:=Tryd.isAgg27
 z31:=Tryd.sizeOf27
 v31:=Tryd.zeroValue27
 t37:=Tryd.underlying22
 a37:=Tryd.isAgg22
 z37:=Tryd.sizeOf22
 v37:=Tryd.zeroValue22
 t70:=Tryd.underlying60
 a70:=Tryd.isAgg60
 z70:=Tryd.sizeOf60
 v70:=Tryd.zeroValue60
 t72:=Tryd.underlying62
 a72:=Tryd.isAgg62
 z72:=Tryd.sizeOf62
 v72:=Tryd.zeroValue62
 t75:=Tryd.underlying65
 a75:=Tryd.isAgg65
 z75:=Tryd.sizeOf65
 v75:=Tryd.zeroValue65
 t76:=Tryd.underlying66
 a76:=Tryd.isAgg66
 z76:=Tryd.sizeOf66
 v76:=Tryd.zeroValue66
 t127:=Tryd.underlying76
 a127:=Tryd.isAgg76
 z127:=Tryd.sizeOf76
 v127:=Tryd.zeroValue76
 t164:=Tryd.underlying90
 a164:=Tryd.isAgg90
 z164:=Tryd.sizeOf90
 v164:=Tryd.zeroValue90 }
theorem Tryd.Builder_Extra_156:Builder.Extra Tryd.prog Tryd.lays156_ren:={
 sizeBuilder:=by kernel_rfl
 liesBuilder:=by kernel_rfl
 t5:=Tryd.underlying5
 a5:=Tryd.isAgg5
 z5:=Tryd.sizeOf5
 v5:=Tryd.zeroValue5
 infoByte:=by kernel_rfl
 cellsByte:=by kernel_rfl
 sizeByte:=by kernel_rfl
 neB5:=by decide }
open Go.RowKit in
theorem Tryd.strings_Join_none (a:Option Addr) (c:Nat) (sep:ByteArray) (w:World) :
  Calls Tryd.prog 36 #[.slice a 0 c,.string sep] w fun e w'=>e=.returned (.string ⟨#[]⟩)∧w'=w:=Any.strings_Join_none Tryd.lays156 Tryd.Builder_Extra_156 a c sep w
open Go.RowKit in
theorem Tryd.strings_Join (bk o c:Nat) (xs:List ByteArray) (sep:ByteArray) (w:World) (hcells:∀ (j:Nat) x,xs[j]? = some x→w.cell? ⟨bk,o+j,none⟩=some (.string x)) (hbk:bk<w.heap.size) (hN:xs.length≤140737488355328) (hcap:xs.length≤c) (hlen:(Lib.join (xs.map (·.data.toList)) sep.data.toList).length≤140737488355328) :
  Calls Tryd.prog 36 #[.slice (some ⟨bk,o,none⟩) xs.length c,.string sep] w fun e w'=>e=.returned (.string ⟨(Lib.join (xs.map (·.data.toList)) sep.data.toList).toArray⟩)∧Below w.heap.size w w':=Any.strings_Join Tryd.lays156 Tryd.Builder_Extra_156 bk o c xs sep w hcells hbk hN hcap hlen
def Tryd.lays137_ren:Go.Shelf.Ren:=⟨fun | 137=>56 | 217=>63 | 266=>77|n=>n,fun | 9=>9 | 5=>5 | 3=>3|n=>n,fun|n=>n⟩
theorem Tryd.lays137:Go.Proofs.Lays.n137 Tryd.prog Tryd.lays137_ren:={
 mixed:=by kernel_rfl
 f137:=Tryd.func56.trans (congrArg some (by kernel_rfl))
 f217:=Tryd.func63.trans (congrArg some (by kernel_rfl))
 f266:=Tryd.func77.trans (congrArg some (by kernel_rfl))
 t3:=Tryd.underlying3
 a3:=Tryd.isAgg3
 z3:=Tryd.sizeOf3
 v3:=Tryd.zeroValue3
 t5:=Tryd.underlying5
 a5:=Tryd.isAgg5
 z5:=Tryd.sizeOf5
 v5:=Tryd.zeroValue5
 t9:=Tryd.underlying9
 a9:=Tryd.isAgg9
 z9:=Tryd.sizeOf9
 v9:=Tryd.zeroValue9 }
open Go.RowKit in
theorem Tryd.strings_IndexByte (s:ByteArray) (c:Int) (w:World) :
  Calls Tryd.prog 56 #[.string s,.int .u8 c] w fun e w'=>e=.returned (.int .i64 (Lib.indexByte s.data.toList c.toNat.toUInt8))∧w'=w:=Any.strings_IndexByte Tryd.lays137 s c w
def Tryd.lays157_ren:Go.Shelf.Ren:=⟨fun | 157=>40 | 229=>53 | 199=>54 | 261=>60 | 311=>70 | 312=>71|n=>n,fun | 9=>9 | 31=>27 | 3=>3 | 5=>5 | 4=>4 | 119=>69 | 0=>0 | 40=>71 | 152=>77 | 21=>21 | 154=>79 | 51=>80 | 141=>82 | 196=>96 | 193=>93 | 198=>99 | 49=>97 | 194=>94 | 201=>102 | 226=>117 | 46=>107 | 227=>118|n=>n,fun | 0=>0 | 6=>1|n=>n⟩
theorem Tryd.lays157:Go.Proofs.Lays.n157 Tryd.prog Tryd.lays157_ren:={
 mixed:=by kernel_rfl
 f157:=Tryd.func40.trans (congrArg some (by kernel_rfl))
 f199:=Tryd.func54.trans (congrArg some (by kernel_rfl))
 f229:=Tryd.func53.trans (congrArg some (by kernel_rfl))
 f261:=Tryd.func60.trans (congrArg some (by kernel_rfl))
 f311:=Tryd.func70.trans (congrArg some (by kernel_rfl))
 f312:=Tryd.func71.trans (congrArg some (by kernel_rfl))
 t0:=Tryd.underlying0
 a0:=Tryd.isAgg0
 z0:=Tryd.sizeOf0
 v0:=Tryd.zeroValue0
 t3:=Tryd.underlying3
 a3:=Tryd.isAgg3
 z3:=Tryd.sizeOf3
 v3:=Tryd.zeroValue3
 t4:=Tryd.underlying4
 a4:=Tryd.isAgg4
 z4:=Tryd.sizeOf4
 v4:=Tryd.zeroValue4
 t5:=Tryd.underlying5
 a5:=Tryd.isAgg5
 z5:=Tryd.sizeOf5
 v5:=Tryd.zeroValue5
 t9:=Tryd.underlying9
 a9:=Tryd.isAgg9
 z9:=Tryd.sizeOf9
 v9:=Tryd.zeroValue9
 t21:=Tryd.underlying21
 a21:=Tryd.isAgg21
 z21:=Tryd.sizeOf21
 v21:=Tryd.zeroValue21
 t31:=Tryd.underlying27
 a31:=Tryd.isAgg27
 z31:=Tryd.sizeOf27
 v31:=Tryd.zeroValue27
 t40:=Tryd.underlying71
 a40:=Tryd.isAgg71
 z40:=Tryd.sizeOf71
 v40:=Tryd.zeroValue71
 t46:=Tryd.underlying107
 a46:=Tryd.isAgg107
 z46:=Tryd.sizeOf107
 v46:=Tryd.zeroValue107
 t49:=Tryd.underlying97
 a49:=Tryd.isAgg97
 z49:=Tryd.sizeOf97
 v49:=Tryd.zeroValue97
 t51:=Tryd.underlying80
 a51:=Tryd.isAgg80
 z51:=Tryd.sizeOf80
 v51:=Tryd.zeroValue80
 t119:=Tryd.underlying69
 a119:=Tryd.isAgg69
 z119:=Tryd.sizeOf69
 t141:=Tryd.underlying82
 a141:=Tryd.isAgg82
 z141:=Tryd.sizeOf82
 v141:=Tryd.zeroValue82
 t152:=Tryd.underlying77
 a152:=Tryd.isAgg77
 z152:=Tryd.sizeOf77
 v152:=Tryd.zeroValue77
 t154:=Tryd.underlying79
 a154:=Tryd.isAgg79
 z154:=Tryd.sizeOf79
 v154:=Tryd.zeroValue79
 t193:=Tryd.underlying93
 a193:=Tryd.isAgg93
 z193:=Tryd.sizeOf93
 v193:=Tryd.zeroValue93
 t194:=Tryd.underlying94
 a194:=Tryd.isAgg94
 z194:=Tryd.sizeOf94
 v194:=Tryd.zeroValue94
 t196:=Tryd.underlying96
 a196:=Tryd.isAgg96
 z196:=Tryd.sizeOf96
 v196:=Tryd.zeroValue96
 t198:=Tryd.underlying99
 a198:=Tryd.isAgg99
 z198:=Tryd.sizeOf99
 v198:=Tryd.zeroValue99
 t201:=Tryd.underlying102
 a201:=Tryd.isAgg102
 z201:=Tryd.sizeOf102
 v201:=Tryd.zeroValue102
 t226:=Tryd.underlying117
 a226:=Tryd.isAgg117
 z226:=Tryd.sizeOf117
 v226:=Tryd.zeroValue117
 t227:=Tryd.underlying118
 a227:=Tryd.isAgg118
 z227:=Tryd.sizeOf118
 v227:=Tryd.zeroValue118
 g0:=by kernel_rfl
 g6:=by kernel_rfl }
open Go.RowKit Go.Lib in
theorem Tryd.strings_Fields (s : ByteArray) (w : World) (hs : s.size < 4294967281) (hascii : ∀ (j : Nat) b, s.data.toList[j]? = some b → b.toNat < 128) (htab : Lib.TabIs Tryd.prog w "strings.asciiSpace" .u8 Lib.asciiSpaceTab) :
  Calls Tryd.prog 40 #[.string s] w fun e w' =>
   e=.returned (.slice (some ⟨w.heap.size,0,none⟩) (Lib.fields s.data.toList).length (Lib.fields s.data.toList).length)∧w'=w.alloc (.cells ((Lib.fields s.data.toList).map fun l=>Value.string ⟨l.toArray⟩).toArray 9):=Any.strings_Fields Tryd.lays157 (by kernel_rfl) (by kernel_rfl) s w hs hascii htab
end Go.Proofs
end
