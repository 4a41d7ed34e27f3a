/-
  HELPERS of the claim: part 8 of its texts.
-/
import Derived.Test.YtmmjlijdfhkdcaaGreatDoorMmdg
import Derived.Shelf.LaysM
import Derived.Shelf.Strconv.Itoa3
import Derived.Test.YtmmjlijdfhkdcaaGreatDoorProg
noncomputable section
set_option linter.unusedVariables false
namespace Go.Proofs
open Go.Shelf
def Tryz.laysM171_ren:Go.Shelf.Ren:=⟨fun |171=>28 |243=>60 |246=>96 |283=>133 |284=>134 |285=>135 |286=>136 |129=>158 |317=>157 |318=>159 |319=>160 |320=>161 |337=>175 |338=>176|n=>n,fun |3=>3 |9=>9 |2=>2 |4=>4 |171=>157 |0=>0 |53=>158 |37=>22 |5=>5 |173=>161 |212=>175 |51=>176 |20=>20 |213=>177 |46=>178 |232=>197 |233=>198|n=>n,fun |17=>0 |18=>4 |19=>5|n=>n⟩
theorem Tryz.laysM171:Go.Proofs.LaysM.n171 Tryz.prog Tryz.laysM171_ren:={
 mixed:=by kernel_rfl
 f129:=Tryz.func158.trans (congrArg some (by kernel_rfl))
 f171:=Tryz.func28.trans (congrArg some (by kernel_rfl))
 f243:=Tryz.func60.trans (congrArg some (by kernel_rfl))
 f246:=Tryz.func96.trans (congrArg some (by kernel_rfl))
 f283:=Tryz.func133.trans (congrArg some (by kernel_rfl))
 f284:=Tryz.func134.trans (congrArg some (by kernel_rfl))
 f285:=Tryz.func135.trans (congrArg some (by kernel_rfl))
 f286:=Tryz.func136.trans (congrArg some (by kernel_rfl))
 f317:=Tryz.func157.trans (congrArg some (by kernel_rfl))
 f318:=Tryz.func159.trans (congrArg some (by kernel_rfl))
 f319:=Tryz.func160.trans (congrArg some (by kernel_rfl))
 f320:=Tryz.func161.trans (congrArg some (by kernel_rfl))
 f337:=Tryz.func175.trans (congrArg some (by kernel_rfl))
 f338:=Tryz.func176.trans (congrArg some (by kernel_rfl))
 t0:=Tryz.underlying0
 a0:=Tryz.isAgg0
 z0:=Tryz.sizeOf0
 v0:=Tryz.zeroValue0
 t2:=Tryz.underlying2
 a2:=Tryz.isAgg2
 z2:=Tryz.sizeOf2
 v2:=Tryz.zeroValue2
 t3:=Tryz.underlying3
 a3:=Tryz.isAgg3
 z3:=Tryz.sizeOf3
 v3:=Tryz.zeroValue3
 t4:=Tryz.underlying4
 a4:=Tryz.isAgg4
 z4:=Tryz.sizeOf4
 v4:=Tryz.zeroValue4
 t5:=Tryz.underlying5
 a5:=Tryz.isAgg5
 z5:=Tryz.sizeOf5
 v5:=Tryz.zeroValue5
 t9:=Tryz.underlying9
 a9:=Tryz.isAgg9
 z9:=Tryz.sizeOf9
 v9:=Tryz.zeroValue9
 t20:=Tryz.underlying20
 a20:=Tryz.isAgg20
 z20:=Tryz.sizeOf20
 v20:=Tryz.zeroValue20
 t37:=Tryz.underlying22
 a37:=Tryz.isAgg22
 z37:=Tryz.sizeOf22
 v37:=Tryz.zeroValue22
 t46:=Tryz.underlying178
 a46:=Tryz.isAgg178
 z46:=Tryz.sizeOf178
 v46:=Tryz.zeroValue178
 t51:=Tryz.underlying176
 a51:=Tryz.isAgg176
 z51:=Tryz.sizeOf176
 v51:=Tryz.zeroValue176
 t53:=Tryz.underlying158
 a53:=Tryz.isAgg158
 z53:=Tryz.sizeOf158
 v53:=Tryz.zeroValue158
 t171:=Tryz.underlying157
 a171:=Tryz.isAgg157
 z171:=Tryz.sizeOf157
 v171:=Tryz.zeroValue157
 t173:=Tryz.underlying161
 a173:=Tryz.isAgg161
 z173:=Tryz.sizeOf161
 v173:=Tryz.zeroValue161
 t212:=Tryz.underlying175
 a212:=Tryz.isAgg175
 z212:=Tryz.sizeOf175
 v212:=Tryz.zeroValue175
 t213:=Tryz.underlying177
 a213:=Tryz.isAgg177
 z213:=Tryz.sizeOf177
 t232:=Tryz.underlying197
 a232:=Tryz.isAgg197
 z232:=Tryz.sizeOf197
 v232:=Tryz.zeroValue197
 t233:=Tryz.underlying198
 a233:=Tryz.isAgg198
 z233:=Tryz.sizeOf198
 v233:=Tryz.zeroValue198
 g17:=by kernel_rfl
 g18:=by kernel_rfl
 g19:=by kernel_rfl
 i0:=by kernel_rfl
 i2:=by kernel_rfl
 i3:=by kernel_rfl
 i4:=by kernel_rfl
 i5:=by kernel_rfl
 i9:=by kernel_rfl
 i20:=by kernel_rfl
 i37:=by kernel_rfl
 i46:=by kernel_rfl
 i51:=by kernel_rfl
 i53:=by kernel_rfl
 i171:=by kernel_rfl
 i173:=by kernel_rfl
 i212:=by kernel_rfl
 i232:=by kernel_rfl
 i233:=by kernel_rfl
 m17:=by kernel_rfl
 m18:=by kernel_rfl
 m19:=by kernel_rfl }
open Go.RowKit Go.Sort Go.Lib in
theorem Tryz.strconv_Itoa(n : Int)(h0 : -9223372036854775808 ≤ n)(h1 : n ≤ 9223372036854775807)(w : World)(htab : Lib.TabIs Tryz.prog w "internal/strconv.uint64pow10" .u64 Lib.pow10Tab):
  Calls Tryz.prog 28 #[.int .i64 n] w fun e w'=>e=.returned (.string ⟨(Lib.itoa n).toArray⟩)/\∃ k os,w'=grow (w.drewN k) os:=Any.strconv_Itoa Tryz.laysM171 n h0 h1 w htab
end Go.Proofs
end
