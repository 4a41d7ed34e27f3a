/-
  HELPERS of the claim: part 6 of its texts.
-/
import Derived.Shelf.LaysM
import Derived.Shelf.Strconv.Itoa3
import Derived.Test.YtibjoemdkeimfaaDoorProg
import Derived.Test.YtibjoemdkeimfaaDoorToke
noncomputable section
set_option linter.unusedVariables false
namespace Go.Proofs
open Go.Shelf
def Tryd.laysM171_ren:Go.Shelf.Ren:=⟨fun | 171=>35 | 243=>45 | 246=>57 | 283=>64 | 284=>65 | 285=>66 | 286=>67 | 129=>79 | 317=>78 | 318=>80 | 319=>81 | 320=>82 | 337=>87 | 338=>88|n=>n,fun | 3=>3 | 9=>9 | 2=>2 | 4=>4 | 171=>84 | 0=>0 | 53=>85 | 37=>22 | 5=>5 | 173=>88 | 212=>113 | 51=>80 | 20=>20 | 213=>114 | 46=>107 | 232=>127 | 233=>128|n=>n,fun | 17=>2 | 18=>6 | 19=>7|n=>n⟩
theorem Tryd.laysM171:Go.Proofs.LaysM.n171 Tryd.prog Tryd.laysM171_ren:={
 mixed:=by kernel_rfl
 f129:=Tryd.func79.trans (congrArg some (by kernel_rfl))
 f171:=Tryd.func35.trans (congrArg some (by kernel_rfl))
 f243:=Tryd.func45.trans (congrArg some (by kernel_rfl))
 f246:=Tryd.func57.trans (congrArg some (by kernel_rfl))
 f283:=Tryd.func64.trans (congrArg some (by kernel_rfl))
 f284:=Tryd.func65.trans (congrArg some (by kernel_rfl))
 f285:=Tryd.func66.trans (congrArg some (by kernel_rfl))
 f286:=Tryd.func67.trans (congrArg some (by kernel_rfl))
 f317:=Tryd.func78.trans (congrArg some (by kernel_rfl))
 f318:=Tryd.func80.trans (congrArg some (by kernel_rfl))
 f319:=Tryd.func81.trans (congrArg some (by kernel_rfl))
 f320:=Tryd.func82.trans (congrArg some (by kernel_rfl))
 f337:=Tryd.func87.trans (congrArg some (by kernel_rfl))
 f338:=Tryd.func88.trans (congrArg some (by kernel_rfl))
 t0:=Tryd.underlying0
 a0:=Tryd.isAgg0
 z0:=Tryd.sizeOf0
 v0:=Tryd.zeroValue0
 t2:=Tryd.underlying2
 a2:=Tryd.isAgg2
 z2:=Tryd.sizeOf2
 v2:=Tryd.zeroValue2
 t3:=Tryd.underlying3
 a3:=Tryd.isAgg3
 z3:=Tryd.sizeOf3
 v3:=Tryd.zeroValue3
 t4:=Tryd.underlying4
 a4:=Tryd.isAgg4
 z4:=Tryd.sizeOf4
 v4:=Tryd.zeroValue4
 t5:=Tryd.underlying5
 a5:=Tryd.isAgg5
 z5:=Tryd.sizeOf5
 v5:=Tryd.zeroValue5
 t9:=Tryd.underlying9
 a9:=Tryd.isAgg9
 z9:=Tryd.sizeOf9
 v9:=Tryd.zeroValue9
 t20:=Tryd.underlying20
 a20:=Tryd.isAgg20
 z20:=Tryd.sizeOf20
 v20:=Tryd.zeroValue20
 t37:=Tryd.underlying22
 a37:=Tryd.isAgg22
 z37:=Tryd.sizeOf22
 v37:=Tryd.zeroValue22
 t46:=Tryd.underlying107
 a46:=Tryd.isAgg107
 z46:=Tryd.sizeOf107
 v46:=Tryd.zeroValue107
 t51:=Tryd.underlying80
 a51:=Tryd.isAgg80
 z51:=Tryd.sizeOf80
 v51:=Tryd.zeroValue80
 t53:=Tryd.underlying85
 a53:=Tryd.isAgg85
 z53:=Tryd.sizeOf85
 v53:=Tryd.zeroValue85
 t171:=Tryd.underlying84
 a171:=Tryd.isAgg84
 z171:=Tryd.sizeOf84
 v171:=Tryd.zeroValue84
 t173:=Tryd.underlying88
 a173:=Tryd.isAgg88
 z173:=Tryd.sizeOf88
 v173:=Tryd.zeroValue88
 t212:=Tryd.underlying113
 a212:=Tryd.isAgg113
 z212:=Tryd.sizeOf113
 v212:=Tryd.zeroValue113
 t213:=Tryd.underlying114
 a213:=Tryd.isAgg114
 z213:=Tryd.sizeOf114
 t232:=Tryd.underlying127
 a232:=Tryd.isAgg127
 z232:=Tryd.sizeOf127
 v232:=Tryd.zeroValue127
 t233:=Tryd.underlying128
 a233:=Tryd.isAgg128
 z233:=Tryd.sizeOf128
 v233:=Tryd.zeroValue128
 g17:=by kernel_rfl
 g18:=by kernel_rfl
 g19:=by kernel_rfl
 i0:=by kernel_rfl
 i2:=by kernel_rfl
 i3:=by kernel_rfl
 i4:=by kernel_rfl
 i5:=by kernel_rfl
 i9:=by kernel_rfl
 i20:=by kernel_rfl
 i37:=by kernel_rfl
 i46:=by kernel_rfl
 i51:=by kernel_rfl
 i53:=by kernel_rfl
 i171:=by kernel_rfl
 i173:=by kernel_rfl
 i212:=by kernel_rfl
 i232:=by kernel_rfl
 i233:=by kernel_rfl
 m17:=by kernel_rfl
 m18:=by kernel_rfl
 m19:=by kernel_rfl }
open Go.RowKit Go.Sort Go.Lib in
theorem Tryd.strconv_Itoa (n : Int) (h0 : -9223372036854775808 ≤ n) (h1 : n ≤ 9223372036854775807) (w : World) (htab : Lib.TabIs Tryd.prog w "internal/strconv.uint64pow10" .u64 Lib.pow10Tab) :
  Calls Tryd.prog 35 #[.int .i64 n] w fun e w'=>e=.returned (.string ⟨(Lib.itoa n).toArray⟩)∧∃ k os,w'=grow (w.drewN k) os:=Any.strconv_Itoa Tryd.laysM171 n h0 h1 w htab
end Go.Proofs
end
