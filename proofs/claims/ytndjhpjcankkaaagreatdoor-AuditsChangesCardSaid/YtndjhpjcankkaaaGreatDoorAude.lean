/-
  HELPERS of the claim: part 5 of its texts.
-/
import Derived.Handed
import Derived.SizedLaws
import Derived.Shelf.Vars
import Derived.Lib.ItoaNum
import Derived.Test.YtndjhpjcankkaaaGreatDoorProg
import Derived.KernelRfl
import Derived.Lib.ParseIntB
import Derived.Lib.Bytealg
import Derived.Test.YtndjhpjcankkaaaGreatDoorAudd
noncomputable section
set_option linter.unusedVariables false
set_option linter.unusedSectionVars false
set_option linter.unusedSimpArgs false
namespace Go.Sym
variable [Go.Sym.Tab]
open Go.RowKit Go.Pb Go.Deep Go.ChangeShapes
section
variable {H:Type} {enc:TypeId × Value→H} {P:Program} {W W':World} {hT:TabOk W}
theorem rd_u32 {t:TypeId} (ht:P.underlying t=some (.int .u32)):Reads1 enc P W hT t (fun n:Int=>[DV.int .u32 n]) (fun n=>0≤n∧n<4294967296):=by
 intro n cs x h
 obtain ⟨k,rfl, -,w⟩:=DataW.trod_int ht h
 refine ⟨k,?_,.one (.int _ _)⟩
 simp [Lit.wf,IntKind.min,IntKind.max,IntKind.signed,IntKind.bits] at w
 omega
theorem rd_u16 {t:TypeId} (ht:P.underlying t=some (.int .u16)):Reads1 enc P W hT t (fun n:Nat=>[DV.int .u16 (n:Int)]) (fun n=>n<65536):=by
 intro n cs x h
 obtain ⟨k,rfl, -,w⟩:=DataW.trod_int ht h
 simp [Lit.wf,IntKind.min,IntKind.max,IntKind.signed,IntKind.bits] at w
 refine ⟨k.toNat,by omega,?_⟩
 have e:((k.toNat:Nat):Int)=k:=by omega
 show XRel (topR W hT) [DV.int .u16 ((k.toNat:Nat):Int)] _
 rw [e]
 exact .one (.int _ _)
theorem shape_int {w:World} {g t:Nat} {zero:Array Value} (h:w.ShapedOpen P) (hg:g<P.globals.size) (h0:((begin P (fun _ _=>0) default).world.heap[g]?).bind Obj.row? = some (zero,t)) (hz:zero.size=1)
  (hb:P.buildable t=true) (hc:P.cellTypes P.depth t=some [t]) (hu:P.underlying t=some (.int .i64)):∃ r,topF w g=some r∧∃ m,r = #[.int .i64 m]:=by
 obtain ⟨m,hm⟩:=Go.Proofs.cell_of_shapedOpen_int h hg h0 hz hb hc hu
 obtain ⟨cs,hh,hs, -⟩:=h.1 g zero t hg h0
 rw [hz] at hs
 refine ⟨cs,by unfold topF;rw [hh],m,?_⟩
 simp only [World.cell?,hh] at hm
 obtain ⟨x,rfl⟩:∃ x,cs = #[x]:=by
  have:cs.toList.length=1:=by simpa using hs
  match hl:cs.toList,this with
  | [x],_=>exact ⟨x,Array.toList_inj.1 hl⟩
 simp at hm
 rw [hm]
end
theorem handed_shape {H:Type} {enc:TypeId × Value→H} {C:Checked} {os:Os} {f:FuncId} {fn:Func} {s:ChangeSpec} {conds:List PathCond} {apart fresh handsOn again:Bool} {X:World→Array Value→Prop}
  (hX:∀ (w w':World) (args:Array Value),w.heap=w'.heap→X w args→X w' args) (own:ownKnob C.prog.godebug=none) (started:os.Started) (noInit:C.prog.inits.idxOf? f=none) (hfn:C.prog.funcs[f]? = some fn)
  (wit:∃ (w:World) (tape:Tape) (i:Input),w.os=os∧(w.forCall tape i).Shaped C.prog∧i.vars=[]∧Input.okWide C.prog (w.forCall tape i) .any w.heap.size f i ∧
   ((s.pre enc C.prog fn conds apart (w.forCall tape i).memory i.args∧X (w.forCall tape i).memory i.args)∧sizedMet enc C.prog fn (OpenSpec.ofChange s) apart (w.forCall tape i).memory i.args)∧({}:Assume).holds C.prog (lone (Frame.enter C.prog f i.args .normal) [] (w.forCall tape i)))
  (walk:∀ (W:World) (base:Nat) (args:Array Value) (ds gs:List (DataW H)) (before:List MemPlace),(∀ (j:Nat) t v,fn.params[j]? = some t→args[j]? = some v→Value.okWide C.prog W .any base t v) →
   DataW.Whole enc C.prog fn.params.toList s.vars apart W args.toList ds gs before→X W args→W.ShapedOpen C.prog→Calls C.prog f args W fun e W' => ∃ v,e=.returned v∧s.post enc C.prog fn apart fresh handsOn again W args v W') :
  ReturnsInHanded {} C os f .any (fun w args=>(s.pre enc C.prog fn conds apart w args∧X w args)∧sizedMet enc C.prog fn (OpenSpec.ofChange s) apart w args) (s.post enc C.prog fn apart fresh handsOn again) :=
 returnsInHanded_of_calls own started noInit wit fun w tape i _ shape _ ok pre _=>by
  obtain ⟨-, -, -,fn2,e2, -, -, -, -,vals⟩:=ok
  obtain rfl:fn2=fn:=Option.some.inj (e2.symm.trans hfn)
  obtain ⟨⟨⟨ds,gs,before,whole, -⟩,x⟩, -⟩:=pre
  have k:=walk (w.forCall tape i) w.heap.size i.args ds gs before vals (DataW.Whole.of_heap (w':=w.forCall tape i) (by rfl) whole) (hX _ _ _ (by rfl) x) shape
  exact k.mono fun e W' he=>by
   obtain ⟨v,rfl,hp⟩:=he
   exact ChangeSpec.post_blind hp
end Go.Sym
namespace Go.Proofs.YtndjhpjcankkaaaGreatDoor
instance tabI:Go.Sym.Tab:=⟨[(3,fun r=>r=(Lib.pow10Tab.map fun z=>Value.int .u64 z).toArray),(0,fun r => ∃ m,r = #[.int .i64 m]),(1,fun r => ∃ te pe,r = #[.iface te pe]),(2,fun r => ∃ te pe,r = #[.iface te pe])]⟩
end Go.Proofs.YtndjhpjcankkaaaGreatDoor
set_option maxHeartbeats 4000000
set_option maxRecDepth 100000
namespace Go.Proofs.YtndjhpjcankkaaaGreatDoor
open Go.Eng (IC IOper DReg IFn IsFn)
open Go.Sym
theorem mixedU:Tryz.prog.follows .mixedOrders=true:=by kernel_rfl
section
abbrev u68_2:IC:=qS [oM 7 0,oM 8 1,oB 9 7 8 .geq,oM 10 9,gM 11 0 10,gM 12 2 10,oG 13 (.bin .leq (.t 11) (.t 12)) 10,oJ 14 10 13,oM 6 14] .ret [0,1,2]
abbrev u68_1:IC:=qS [oV 6 (.bool false)] u68_2 [0,1,2]
def u68:IFn:=⟨15,u68_1,[.tmp 6]⟩
end
theorem isU68:IsFn Tryz.prog 68 u68:=by unfold IsFn;kernel_rfl
section
abbrev u64_2:IC:=qS [oM 5 1,oF 6 2 0,oL 7 6,oF 8 2 1,oL 9 8,oC 10 68 [.t 5,.t 7,.t 9],oM 11 10,gM 12 1 11,gF 13 2 0 11,gL 14 13 11,oG 15 (.bin .sub (.t 12) (.t 14)) 11,gF 16 2 2 11,gL 17 16 11,oG 18 (.bin .rem (.t 15) (.t 17)) 11,gK 19 18 11 .eql 0,oJ 20 11 19,oM 4 20] .ret [1,2]
abbrev u64_1:IC:=qS [oX 2 0,oV 4 (.bool false)] u64_2 [0,1]
def u64:IFn:=⟨21,u64_1,[.tmp 4]⟩
end
theorem isU64:IsFn Tryz.prog 64 u64:=by unfold IsFn;kernel_rfl
section
abbrev u48_7:IC:=qK .skip (.exit 0) (.t 8) [1,3,8]
abbrev u48_6:IC:=qS [oM 4 3,oF 5 1 0,oL 6 5,oP 7 (.lens (.t 6)),oB 8 4 7 .lss] u48_7 [1,3]
abbrev u48_11:IC:=qS [oV 2 (.bool false)] .ret []
abbrev u48_10:IC:=qK u48_11 .skip (.t 22) [1,3,22]
abbrev u48_9:IC:=qS [oF 11 1 0,oL 12 11,oM 13 3,oP 14 (.idx (.t 12) (.t 13)),oP 15 (.bin .lss (.t 14) (.k (.int .u8 65))),oM 16 15,hF 17 1 0 16,hL 18 17 16,hM 19 3 16,oR 20 (.idx (.t 18) (.t 19)) 16,oR 21 (.bin .gtr (.t 20) (.k (.int .u8 90))) 16,oO 22 16 21] u48_10 [1,3]
abbrev u48_12:IC:=qE [oM 9 3,oK 10 9 .add 1,oM 3 10] [1,3]
abbrev u48_8:IC:=qB u48_9 u48_12 1 [1,3]
abbrev u48_5:IC:=qQ u48_6 u48_8 [1,3]
abbrev u48_4:IC:=qJ (.loop u48_5) 0 [1,3]
abbrev u48_3:IC:=qS [oI 3 0] u48_4 [1]
abbrev u48_13:IC:=qS [oF 23 1 0,oL 24 23,oP 25 (.lens (.t 24)),oK 26 25 .eql 3,oM 27 26,gF 28 1 1 27,gL 29 28 27,⟨some 30,.call 68 [.t 29,.k (.int .i64 0),.k (.int .i64 999999999999)],some (27,true)⟩,oJ 31 27 30,oM 2 31] .ret [1]
abbrev u48_2:IC:=qQ u48_3 u48_13 [1]
abbrev u48_1:IC:=qS [oX 1 0,oV 2 (.bool false)] u48_2 [0]
def u48:IFn:=⟨32,u48_1,[.tmp 2]⟩
end
theorem isU48:IsFn Tryz.prog 48 u48:=by unfold IsFn;kernel_rfl
section
abbrev u92_2:IC:=qS [oM 3 0,oC 4 107 [.t 3,.f 108],oM 2 4] .ret [0]
abbrev u92_1:IC:=qS [oV 2 (.bool false)] u92_2 [0]
def u92:IFn:=⟨5,u92_1,[.tmp 2]⟩
end
theorem isU92:IsFn Tryz.prog 92 u92:=by unfold IsFn;kernel_rfl
section
abbrev u108_2:IC:=qS [oF 5 3 1,oL 6 5,oF 7 2 1,oL 8 7,oB 9 6 8 .sub,oM 4 9] .ret [2,3]
abbrev u108_1:IC:=qS [oX 2 0,oX 3 1,oI 4 0] u108_2 [0,1]
def u108:IFn:=⟨10,u108_1,[.tmp 4]⟩
end
theorem isU108:IsFn Tryz.prog 108 u108:=by unfold IsFn;kernel_rfl
section
abbrev u69_5:IC:=qS [oI 2 6] .ret []
abbrev u69_4:IC:=qK u69_5 .skip (.t 4) [0,4]
abbrev u69_3:IC:=qS [oM 3 0,oC 4 90 [.t 3,.f 91]] u69_4 [0]
abbrev u69_9:IC:=qS [oI 2 66] .ret []
abbrev u69_8:IC:=qK u69_9 .skip (.t 7) [7]
abbrev u69_7:IC:=qS [oM 5 0,oC 6 92 [.t 5],oY 7 6] u69_8 [0]
abbrev u69_10:IC:=qS [oI 2 0] .ret []
abbrev u69_6:IC:=qQ u69_7 u69_10 [0]
abbrev u69_2:IC:=qQ u69_3 u69_6 [0]
abbrev u69_1:IC:=qS [oI 2 0] u69_2 [0]
def u69:IFn:=⟨8,u69_1,[.tmp 2]⟩
end
theorem isU69:IsFn Tryz.prog 69 u69:=by unfold IsFn;kernel_rfl
section
abbrev u91_2:IC:=qS [oD 3 1 2,oC 4 48 [.t 3],oY 5 4,oM 2 5] .ret [1]
abbrev u91_1:IC:=qS [oX 1 0,oV 2 (.bool false)] u91_2 [0]
def u91:IFn:=⟨6,u91_1,[.tmp 2]⟩
end
theorem isU91:IsFn Tryz.prog 91 u91:=by unfold IsFn;kernel_rfl
section
abbrev u34_5:IC:=qS [oI 2 9] .ret []
abbrev u34_4:IC:=qK u34_5 .skip (.t 20) [1,20]
abbrev u34_3:IC:=qS [oF 5 1 0,oL 6 5,oH 7 6,oK 8 7 .gtr 32,oM 9 8,hF 10 1 1 9,hL 11 10 9,⟨some 12,.call 68 [.t 11,.k (.int .i64 0),.k (.int .i64 32)],some (9,false)⟩,oR 13 (.un .not (.t 12)) 9,oO 14 9 13,oM 15 14,hF 16 1 2 15,hL 17 16 15,oR 18 (.len (.t 17)) 15,hK 19 18 15 .gtr 8,oO 20 15 19] u34_4 [1]
abbrev u34_15:IC:=qS [oI 2 5] .ret []
abbrev u34_14:IC:=qK u34_15 .skip (.t 52) [1,22,23,24,52]
abbrev u34_13:IC:=qS [oF 28 4 0,oL 29 28,oC 30 68 [.t 29,.k (.int .i64 (-1000000000)),.k (.int .i64 1000000000)],oY 31 30,oM 32 31,hF 33 4 1 32,hL 34 33 32,hF 35 4 0 32,hL 36 35 32,⟨some 37,.call 68 [.t 34,.t 36,.k (.int .i64 1000000000)],some (32,false)⟩,oR 38 (.un .not (.t 37)) 32,oO 39 32 38,oM 40 39,hF 41 4 2 40,hL 42 41 40,⟨some 43,.call 68 [.t 42,.k (.int .i64 1),.k (.int .i64 1000000000)],some (40,false)⟩,oR 44 (.un .not (.t 43)) 40,oO 45 40 44,oM 46 45,oR 47 (.ld 4 true (.t 4)) 46,hF 48 4 3 46,hL 49 48 46,⟨some 50,.call 64 [.t 47,.t 49],some (46,false)⟩,oR 51 (.un .not (.t 50)) 46,oO 52 46 51] u34_14 [1,4,22,23,24]
abbrev u34_12:IC:=qS [oA 26 22 24 4,oD 27 26 4,oW 4 (.agg #[.int .i64 0,.int .i64 0,.int .i64 0,.int .i64 0]),oS 4 27 4] u34_13 [1,22,23,24]
abbrev u34_16:IC:=qE [oK 53 24 .add 1,oM 24 53] [1,22,23,24]
abbrev u34_11:IC:=qB u34_12 u34_16 1 [1,22,23,24]
abbrev u34_10:IC:=qC .skip u34_11 (.exit 0) (.t 25) [1,22,23,24,25]
abbrev u34_9:IC:=qS [oB 25 24 23 .lss] u34_10 [1,22,23,24]
abbrev u34_8:IC:=qJ (.loop u34_9) 0 [1,22,23,24]
abbrev u34_7:IC:=qS [oF 21 1 0,oL 22 21,oH 23 22,oI 24 0] u34_8 [1]
abbrev u34_17:IC:=qS [oF 54 1 2,oL 55 54,oC 56 69 [.t 55],oM 2 56] .ret [1]
abbrev u34_6:IC:=qQ u34_7 u34_17 [1]
abbrev u34_2:IC:=qQ u34_3 u34_6 [1]
abbrev u34_1:IC:=qS [oX 1 0,oI 2 0] u34_2 [0]
def u34:IFn:=⟨57,u34_1,[.tmp 2]⟩
end
theorem isU34:IsFn Tryz.prog 34 u34:=by unfold IsFn;kernel_rfl
section
abbrev u66_10:IC:=qE [oM 13 3,oF 14 5 3,oL 15 14,⟨some 16,.new (.bsl 1 1 #[.int .i64 0] [(0,.t 15)]),none⟩,oT 17 13 16 1 8,oM 3 17] [3,5,7,8,9]
abbrev u66_9:IC:=qS [oA 11 7 9 4,oD 12 11 4,oW 5 (.agg #[.int .i64 0,.int .i64 0,.int .i64 0,.int .i64 0]),oS 5 12 4] u66_10 [3,7,8,9]
abbrev u66_11:IC:=qE [oK 18 9 .add 1,oM 9 18] [3,7,8,9]
abbrev u66_8:IC:=qB u66_9 u66_11 1 [3,7,8,9]
abbrev u66_7:IC:=qC .skip u66_8 (.exit 0) (.t 10) [3,7,8,9,10]
abbrev u66_6:IC:=qS [oB 10 9 8 .lss] u66_7 [3,7,8,9]
abbrev u66_5:IC:=qJ (.loop u66_6) 0 [3,7,8,9]
abbrev u66_4:IC:=qS [oF 6 1 0,oL 7 6,oH 8 7,oI 9 0] u66_5 [1,3]
abbrev u66_12:IC:=qS [oM 19 3,oM 2 19] .ret [3]
abbrev u66_3:IC:=qQ u66_4 u66_12 [1,3]
abbrev u66_2:IC:=qS [oV 3 (.slice none 0 0)] u66_3 [1]
abbrev u66_1:IC:=qS [oX 1 0,oV 2 (.slice none 0 0)] u66_2 [0]
def u66:IFn:=⟨20,u66_1,[.tmp 2]⟩
end
theorem isU66:IsFn Tryz.prog 66 u66:=by unfold IsFn;kernel_rfl
section
abbrev u33_6:IC:=qS [oP 9 (.bld #[.slice none 0 0,.slice none 0 0,.slice none 0 0] [(0,1),(1,1),(2,1)] []),oM 10 4,oS 2 9 3,oM 3 10] .ret [2,4]
abbrev u33_5:IC:=qK u33_6 .skip (.t 8) [1,2,4,8]
abbrev u33_4:IC:=qS [oM 7 4,oK 8 7 .neq 0] u33_5 [1,2,4]
abbrev u33_3:IC:=qS [oD 5 1 3,oC 6 34 [.t 5],oM 4 6] u33_4 [1,2]
abbrev u33_7:IC:=qD [oD 11 1 3,oC 12 66 [.t 11],oF 13 1 1,oL 14 13,⟨some 15,.new (.msl 1 8 #[.int .i64 0] (.t 14) (.t 14)),none⟩,oF 16 1 2,oL 17 16,oC 18 67 [.t 17],oP 19 (.bld #[.slice none 0 0,.slice none 0 0,.slice none 0 0] [(0,1),(1,1),(2,1)] [(0,.t 12),(1,.t 15),(2,.t 18)]),oS 2 19 3,oI 3 0] .ret [(0,none),(2,none),(3,none),(4,none),(5,none),(6,none),(1,some [2,3,4,5,6]),(7,some [2,3,4]),(8,none),(9,some []),(10,some [])] 11 [1,2]
abbrev u33_2:IC:=qQ u33_3 u33_7 [1,2]
abbrev u33_1:IC:=qS [oX 1 0,oW 2 (.agg #[.slice none 0 0,.slice none 0 0,.slice none 0 0]),oI 3 0] u33_2 [0]
def u33:IFn:=⟨20,u33_1,[.cell 2 3 true,.tmp 3]⟩
end
theorem isU33:IsFn Tryz.prog 33 u33:=by unfold IsFn;kernel_rfl
section
abbrev u36_5:IC:=qS [oV 4 (.bool false)] .ret []
abbrev u36_4:IC:=qK u36_5 .skip (.t 41) [2,3,41]
abbrev u36_3:IC:=qS [oD 7 2 3,oC 8 34 [.t 7],oK 9 8 .neq 0,oM 10 9,hF 11 3 0 10,hL 12 11 10,oR 13 (.len (.t 12)) 10,hF 14 2 0 10,hL 15 14 10,oR 16 (.len (.t 15)) 10,oR 17 (.bin .neq (.t 13) (.t 16)) 10,oO 18 10 17,oM 19 18,hF 20 3 1 19,hL 21 20 19,oR 22 (.len (.t 21)) 19,hF 23 2 1 19,hL 24 23 19,oR 25 (.bin .neq (.t 22) (.t 24)) 19,oO 26 19 25,oM 27 26,hF 28 3 2 27,hL 29 28 27,oR 30 (.len (.t 29)) 27,hF 31 2 2 27,hL 32 31 27,oR 33 (.len (.t 32)) 27,oR 34 (.bin .neq (.t 30) (.t 33)) 27,oO 35 27 34,oM 36 35,hF 37 3 2 36,hL 38 37 36,⟨some 39,.call 69 [.t 38],some (36,false)⟩,hK 40 39 36 .neq 0,oO 41 36 40] u36_4 [2,3]
abbrev u36_15:IC:=qS [oV 4 (.bool false)] .ret []
abbrev u36_14:IC:=qK u36_15 .skip (.t 57) [2,3,43,44,45,57]
abbrev u36_13:IC:=qS [oF 50 2 0,oL 51 50,oM 52 5,oA 53 51 52 4,oD 54 53 4,oM 55 6,oC 56 64 [.t 54,.t 55],oY 57 56] u36_14 [2,3,5,6,43,44,45]
abbrev u36_12:IC:=qS [oM 47 45,oA 48 43 45 1,oL 49 48,oM 5 47,oM 6 49] u36_13 [2,3,43,44,45]
abbrev u36_16:IC:=qE [oK 58 45 .add 1,oM 45 58] [2,3,43,44,45]
abbrev u36_11:IC:=qB u36_12 u36_16 1 [2,3,43,44,45]
abbrev u36_10:IC:=qC .skip u36_11 (.exit 0) (.t 46) [2,3,43,44,45,46]
abbrev u36_9:IC:=qS [oB 46 45 44 .lss] u36_10 [2,3,43,44,45]
abbrev u36_8:IC:=qJ (.loop u36_9) 0 [2,3,43,44,45]
abbrev u36_7:IC:=qS [oF 42 3 0,oL 43 42,oH 44 43,oI 45 0] u36_8 [2,3]
abbrev u36_17:IC:=qS [oF 59 3 1,oL 60 59,oC 61 70 [.t 60,.f 71],oY 62 61,oM 4 62] .ret [3]
abbrev u36_6:IC:=qQ u36_7 u36_17 [2,3]
abbrev u36_2:IC:=qQ u36_3 u36_6 [2,3]
abbrev u36_1:IC:=qS [oX 2 0,oX 3 1,oV 4 (.bool false)] u36_2 [0,1]
def u36:IFn:=⟨63,u36_1,[.tmp 4]⟩
end
theorem isU36:IsFn Tryz.prog 36 u36:=by unfold IsFn;kernel_rfl
section
abbrev u71_2:IC:=qS [oM 3 0,oC 4 68 [.t 3,.k (.int .i64 0),.k (.int .i64 999999999)],oY 5 4,oM 2 5] .ret [0]
abbrev u71_1:IC:=qS [oV 2 (.bool false)] u71_2 [0]
def u71:IFn:=⟨6,u71_1,[.tmp 2]⟩
end
theorem isU71:IsFn Tryz.prog 71 u71:=by unfold IsFn;kernel_rfl
section
abbrev u44_2:IC:=qD [oF 3 1 0,oL 4 3,oC 5 75 [.t 4],oF 6 1 1,oL 7 6,oC 8 75 [.t 7],oF 9 1 2,oL 10 9,oC 11 67 [.t 10],oP 12 (.bld #[.slice none 0 0,.slice none 0 0,.slice none 0 0] [(0,1),(1,1),(2,1)] [(0,.t 5),(1,.t 8),(2,.t 11)]),oS 2 12 3] .ret [(0,none),(1,none),(3,none),(4,none),(6,none),(7,none),(2,some [3,4,6,7]),(5,some [6,7]),(8,some []),(9,none),(10,some [])] 11 [1,2]
abbrev u44_1:IC:=qS [oX 1 0,oW 2 (.agg #[.slice none 0 0,.slice none 0 0,.slice none 0 0])] u44_2 [0]
def u44:IFn:=⟨13,u44_1,[.cell 2 3 true]⟩
end
theorem isU44:IsFn Tryz.prog 44 u44:=by unfold IsFn;kernel_rfl
section
abbrev u43_5:IC:=qS [oI 8 1] .ret []
abbrev u43_4:IC:=qK u43_5 .skip (.t 12) [2,3,12]
abbrev u43_3:IC:=qS [oD 9 4 3,oD 10 5 3,oC 11 36 [.t 9,.t 10],oY 12 11] u43_4 [2,3,4,5]
abbrev u43_9:IC:=qS [oI 8 8] .ret []
abbrev u43_8:IC:=qK u43_9 .skip (.t 17) [17]
abbrev u43_7:IC:=qS [oM 13 2,oM 14 3,oK 15 14 .sub 1,oC 16 68 [.t 13,.k (.int .i64 0),.t 15],oY 17 16] u43_8 [2,3]
abbrev u43_10:IC:=qS [oI 8 0] .ret []
abbrev u43_6:IC:=qQ u43_7 u43_10 [2,3]
abbrev u43_2:IC:=qQ u43_3 u43_6 [2,3,4,5]
abbrev u43_1:IC:=qS [oX 4 0,oX 5 1,oI 8 0] u43_2 [0,1,2,3]
def u43:IFn:=⟨18,u43_1,[.tmp 8]⟩
end
theorem isU43:IsFn Tryz.prog 43 u43:=by unfold IsFn;kernel_rfl
section
abbrev u30_6:IC:=qS [oP 21 (.bld #[.slice none 0 0,.slice none 0 0,.slice none 0 0] [(0,1),(1,1),(2,1)] []),oM 22 10,oS 8 21 3,oM 9 22] .ret [8,10]
abbrev u30_5:IC:=qK u30_6 .skip (.t 20) [2,3,4,5,8,10,20]
abbrev u30_4:IC:=qS [oM 19 10,oK 20 19 .neq 0] u30_5 [2,3,4,5,8,10]
abbrev u30_3:IC:=qS [oD 12 4 3,oD 13 5 3,oM 14 2,oF 15 4 0,oL 16 15,oH 17 16,oC 18 43 [.t 12,.t 13,.t 14,.t 17],oM 10 18] u30_4 [2,3,4,5,8]
abbrev u30_10:IC:=qS [oP 31 (.bld #[.slice none 0 0,.slice none 0 0,.slice none 0 0] [(0,1),(1,1),(2,1)] []),oS 8 31 3,oI 9 5] .ret [8]
abbrev u30_9:IC:=qK u30_10 .skip (.t 30) [2,3,5,8,30]
abbrev u30_8:IC:=qS [oF 23 4 0,oL 24 23,oM 25 2,oA 26 24 25 4,oD 27 26 4,oM 28 3,oC 29 64 [.t 27,.t 28],oY 30 29] u30_9 [2,3,4,5,8]
abbrev u30_13:IC:=qS [oD 39 11 3,oS 8 39 3,oI 9 0] .ret [8,11]
abbrev u30_12:IC:=qS [oF 34 11 0,oL 35 34,oM 36 2,oM 37 3,oA 38 35 36 1,oS 38 37 1] u30_13 [2,3,8,11]
abbrev u30_11:IC:=qS [oD 32 5 3,oC 33 44 [.t 32],oW 11 (.agg #[.slice none 0 0,.slice none 0 0,.slice none 0 0]),oS 11 33 3] u30_12 [2,3,5,8]
abbrev u30_7:IC:=qQ u30_8 u30_11 [2,3,4,5,8]
abbrev u30_2:IC:=qQ u30_3 u30_7 [2,3,4,5,8]
abbrev u30_1:IC:=qS [oX 4 0,oX 5 1,oW 8 (.agg #[.slice none 0 0,.slice none 0 0,.slice none 0 0]),oI 9 0] u30_2 [0,1,2,3]
def u30:IFn:=⟨40,u30_1,[.cell 8 3 true,.tmp 9]⟩
end
theorem isU30:IsFn Tryz.prog 30 u30:=by unfold IsFn;kernel_rfl
section
abbrev u14_6:IC:=qS [oP 24 (.bld #[.slice none 0 0,.slice none 0 0,.slice none 0 0] [(0,1),(1,1),(2,1)] []),oM 25 10,oS 8 24 3,oM 9 25] .ret [8,10]
abbrev u14_5:IC:=qK u14_6 .skip (.t 23) [2,3,4,5,8,10,23]
abbrev u14_4:IC:=qS [oM 22 10,oK 23 22 .neq 0] u14_5 [2,3,4,5,8,10]
abbrev u14_3:IC:=qS [oD 15 4 3,oD 16 5 3,oM 17 2,oF 18 4 0,oL 19 18,oH 20 19,oC 21 43 [.t 15,.t 16,.t 17,.t 20],oM 10 21] u14_4 [2,3,4,5,8]
abbrev u14_13:IC:=qF [oF 54 5 0,oL 55 54,oM 56 2,oA 57 55 56 1,oL 58 57,oF 59 11 2,oL 60 59,oB 61 58 60 .add,oM 13 61] 256 9 [2,5,8,11,12]
abbrev u14_12:IC:=qK u14_13 .skip (.t 53) [2,5,8,11,12,13,53]
abbrev u14_11:IC:=qS [oM 53 3] u14_12 [2,3,5,8,11,12,13]
abbrev u14_17:IC:=qE [oF 65 11 0,oL 66 65,oM 13 66] [2,5,8,11]
abbrev u14_20:IC:=qE [oM 71 12,oM 13 71] [2,5,8,12]
abbrev u14_19:IC:=qK u14_20 .skip (.t 70) [2,5,8,12,13,70]
abbrev u14_18:IC:=qS [oM 67 13,oF 68 11 0,oL 69 68,oB 70 67 69 .lss] u14_19 [2,5,8,11,12,13]
abbrev u14_16:IC:=qK u14_17 u14_18 (.t 64) [2,5,8,11,12,13,64]
abbrev u14_15:IC:=qS [oM 62 13,oM 63 12,oB 64 62 63 .gtr] u14_16 [2,5,8,11,12,13]
abbrev u14_23:IC:=qS [oD 79 14 3,oS 8 79 3,oI 9 0] .ret [8,14]
abbrev u14_22:IC:=qS [oF 74 14 0,oL 75 74,oM 76 2,oM 77 13,oA 78 75 76 1,oS 78 77 1] u14_23 [2,8,13,14]
abbrev u14_21:IC:=qS [oD 72 5 3,oC 73 44 [.t 72],oW 14 (.agg #[.slice none 0 0,.slice none 0 0,.slice none 0 0]),oS 14 73 3] u14_22 [2,5,8,13]
abbrev u14_14:IC:=qQ u14_15 u14_21 [2,5,8,11,12,13]
abbrev u14_10:IC:=qQ u14_11 u14_14 [2,3,5,8,11,12,13]
abbrev u14_9:IC:=qP [oF 45 5 0,oL 46 45,oM 47 2,oA 48 46 47 1,oL 49 48,oF 50 11 2,oL 51 50,oB 52 49 51 .sub,oM 13 52] u14_10 256 9 [2,3,5,8,11,12]
abbrev u14_8:IC:=qP [oF 31 11 0,oL 32 31,oF 33 11 1,oL 34 33,oF 35 11 0,oL 36 35,oB 37 34 36 .sub,oF 38 11 2,oL 39 38,oB 40 37 39 .quo,oF 41 11 2,oL 42 41,oB 43 40 42 .mul,oB 44 32 43 .add,oM 12 44] u14_9 16384 15 [2,3,5,8,11]
abbrev u14_7:IC:=qS [oF 26 4 0,oL 27 26,oM 28 2,oA 29 27 28 4,oD 30 29 4,oW 11 (.agg #[.int .i64 0,.int .i64 0,.int .i64 0,.int .i64 0]),oS 11 30 4] u14_8 [2,3,4,5,8]
abbrev u14_2:IC:=qQ u14_3 u14_7 [2,3,4,5,8]
abbrev u14_1:IC:=qS [oX 4 0,oX 5 1,oW 8 (.agg #[.slice none 0 0,.slice none 0 0,.slice none 0 0]),oI 9 0] u14_2 [0,1,2,3]
def u14:IFn:=⟨80,u14_1,[.cell 8 3 true,.tmp 9]⟩
end
theorem isU14:IsFn Tryz.prog 14 u14:=by unfold IsFn;kernel_rfl
section
abbrev u38_6:IC:=qS [oP 20 (.bld #[.slice none 0 0,.slice none 0 0,.slice none 0 0] [(0,1),(1,1),(2,1)] []),oM 21 10,oS 8 20 3,oM 9 21] .ret [8,10]
abbrev u38_5:IC:=qK u38_6 .skip (.t 19) [2,3,5,8,10,19]
abbrev u38_4:IC:=qS [oM 18 10,oK 19 18 .neq 0] u38_5 [2,3,5,8,10]
abbrev u38_3:IC:=qS [oD 12 4 3,oD 13 5 3,oM 14 2,oF 15 4 1,oL 16 15,oC 17 43 [.t 12,.t 13,.t 14,.t 16],oM 10 17] u38_4 [2,3,4,5,8]
abbrev u38_10:IC:=qS [oP 25 (.bld #[.slice none 0 0,.slice none 0 0,.slice none 0 0] [(0,1),(1,1),(2,1)] []),oS 8 25 3,oI 9 5] .ret [8]
abbrev u38_9:IC:=qK u38_10 .skip (.t 24) [2,3,5,8,24]
abbrev u38_8:IC:=qS [oM 22 3,oC 23 68 [.t 22,.k (.int .i64 0),.k (.int .i64 999999999)],oY 24 23] u38_9 [2,3,5,8]
abbrev u38_13:IC:=qS [oD 40 11 3,oS 8 40 3,oI 9 0] .ret [8,11]
abbrev u38_12:IC:=qP [oF 28 11 1,oL 29 28,oM 30 2,oF 31 11 1,oL 32 31,oM 33 2,oA 34 32 33 1,oL 35 34,oM 36 3,oB 37 35 36 .add,oP 38 (.mn (.t 37) (.k (.int .i64 999999999))),oA 39 29 30 1,oS 39 38 1] u38_13 0 13 [2,3,8,11]
abbrev u38_11:IC:=qS [oD 26 5 3,oC 27 44 [.t 26],oW 11 (.agg #[.slice none 0 0,.slice none 0 0,.slice none 0 0]),oS 11 27 3] u38_12 [2,3,5,8]
abbrev u38_7:IC:=qQ u38_8 u38_11 [2,3,5,8]
abbrev u38_2:IC:=qQ u38_3 u38_7 [2,3,4,5,8]
abbrev u38_1:IC:=qS [oX 4 0,oX 5 1,oW 8 (.agg #[.slice none 0 0,.slice none 0 0,.slice none 0 0]),oI 9 0] u38_2 [0,1,2,3]
def u38:IFn:=⟨41,u38_1,[.cell 8 3 true,.tmp 9]⟩
end
theorem isU38:IsFn Tryz.prog 38 u38:=by unfold IsFn;kernel_rfl
section
abbrev u17_5:IC:=qS [oP 15 (.bld #[.slice none 0 0,.slice none 0 0,.slice none 0 0] [(0,1),(1,1),(2,1)] []),oS 6 15 3,oI 7 0,oI 8 1] .ret [6]
abbrev u17_4:IC:=qK u17_5 .skip (.t 14) [4,5,6,14]
abbrev u17_3:IC:=qS [oD 11 3 3,oD 12 4 3,oC 13 36 [.t 11,.t 12],oY 14 13] u17_4 [3,4,5,6]
abbrev u17_9:IC:=qS [oP 19 (.bld #[.slice none 0 0,.slice none 0 0,.slice none 0 0] [(0,1),(1,1),(2,1)] []),oS 6 19 3,oI 7 0,oI 8 6] .ret [6]
abbrev u17_8:IC:=qK u17_9 .skip (.t 18) [4,5,6,18]
abbrev u17_7:IC:=qS [oD 16 5 2,oC 17 48 [.t 16],oY 18 17] u17_8 [4,5,6]
abbrev u17_15:IC:=qG [oF 28 9 2,oL 29 28,oM 30 10,oD 31 5 2,⟨some 32,.new (.bsl 2 1 #[.string ⟨#[]⟩,.int .i64 0] [(0,.t 31)]),none⟩,oC 33 51 [.t 29,.t 30,.t 32],oF 34 4 2,oL 35 34,oH 36 35,oP 37 (.slc 2 (.t 33) none (some (.t 36))),oF 38 9 2,oS 38 37 1] [(0,none),(1,none),(2,none),(3,none),(4,none),(6,none),(7,none),(8,none),(5,some [6,7,8]),(9,none),(10,none),(11,some [])] 12 [4,5,6,9,10]
abbrev u17_14:IC:=qK u17_15 .skip (.t 27) [4,5,6,9,10,27]
abbrev u17_13:IC:=qS [oM 26 10,oK 27 26 .geq 0] u17_14 [4,5,6,9,10]
abbrev u17_16:IC:=qS [oD 39 9 3,oM 40 10,oS 6 39 3,oM 7 40,oI 8 0] .ret [6,9,10]
abbrev u17_12:IC:=qQ u17_13 u17_16 [4,5,6,9,10]
abbrev u17_11:IC:=qS [oF 22 4 2,oL 23 22,oP 24 (.mkf 50 [] [.t 5]),oC 25 49 [.t 23,.t 24],oM 10 25] u17_12 [4,5,6,9]
abbrev u17_10:IC:=qS [oD 20 4 3,oC 21 44 [.t 20],oW 9 (.agg #[.slice none 0 0,.slice none 0 0,.slice none 0 0]),oS 9 21 3] u17_11 [4,5,6]
abbrev u17_6:IC:=qQ u17_7 u17_10 [4,5,6]
abbrev u17_2:IC:=qQ u17_3 u17_6 [3,4,5,6]
abbrev u17_1:IC:=qS [oX 3 0,oX 4 1,oX 5 2,oW 6 (.agg #[.slice none 0 0,.slice none 0 0,.slice none 0 0]),oI 7 0,oI 8 0] u17_2 [0,1,2]
def u17:IFn:=⟨41,u17_1,[.cell 6 3 true,.tmp 7,.tmp 8]⟩
end
theorem isU17:IsFn Tryz.prog 17 u17:=by unfold IsFn;kernel_rfl
section
abbrev u50_2:IC:=qS [oF 4 2 1,oL 5 4,oF 6 1 1,oL 7 6,oB 8 5 7 .lss,oM 3 8] .ret [1,2]
abbrev u50_1:IC:=qS [oX 2 0,oV 3 (.bool false)] u50_2 [0,1]
def u50:IFn:=⟨9,u50_1,[.tmp 3]⟩
end
theorem isU50:IsFn Tryz.prog 50 u50:=by unfold IsFn;kernel_rfl
section
abbrev u40_5:IC:=qS [oP 13 (.bld #[.slice none 0 0,.slice none 0 0,.slice none 0 0] [(0,1),(1,1),(2,1)] []),oS 6 13 3,oI 7 1] .ret [6]
abbrev u40_4:IC:=qK u40_5 .skip (.t 12) [2,3,4,6,12]
abbrev u40_3:IC:=qS [oD 9 3 3,oD 10 4 3,oC 11 36 [.t 9,.t 10],oY 12 11] u40_4 [2,3,4,6]
abbrev u40_12:IC:=qE [oD 20 3 3,oC 21 66 [.t 20],oF 22 8 0,oS 22 21 1] [3,6,8]
abbrev u40_15:IC:=qE [oF 25 3 1,oL 26 25,⟨some 27,.new (.msl 1 8 #[.int .i64 0] (.t 26) (.t 26)),none⟩,oF 28 8 1,oS 28 27 1] [3,6,8]
abbrev u40_18:IC:=qE [oF 31 3 2,oL 32 31,oC 33 67 [.t 32],oF 34 8 2,oS 34 33 1] [3,6,8]
abbrev u40_19:IC:=qS [oP 17 (.bld #[.slice none 0 0,.slice none 0 0,.slice none 0 0] [(0,1),(1,1),(2,1)] []),oS 6 17 3,oI 7 44] .ret [6]
abbrev u40_17:IC:=qK u40_18 u40_19 (.t 29) [3,6,8,29]
abbrev u40_16:IC:=qS [oK 30 16 .eql 3,oM 29 30] u40_17 [3,6,8,16]
abbrev u40_14:IC:=qK u40_15 u40_16 (.t 23) [3,6,8,16,23]
abbrev u40_13:IC:=qS [oK 24 16 .eql 2,oM 23 24] u40_14 [3,6,8,16]
abbrev u40_11:IC:=qK u40_12 u40_13 (.t 18) [3,6,8,16,18]
abbrev u40_10:IC:=qS [oK 19 16 .eql 1,oM 18 19] u40_11 [3,6,8,16]
abbrev u40_9:IC:=qJ u40_10 0 [3,6,8,16]
abbrev u40_8:IC:=qS [oM 16 2] u40_9 [2,3,6,8]
abbrev u40_20:IC:=qS [oD 35 8 3,oS 6 35 3,oI 7 0] .ret [6,8]
abbrev u40_7:IC:=qQ u40_8 u40_20 [2,3,6,8]
abbrev u40_6:IC:=qS [oD 14 4 3,oC 15 44 [.t 14],oW 8 (.agg #[.slice none 0 0,.slice none 0 0,.slice none 0 0]),oS 8 15 3] u40_7 [2,3,4,6]
abbrev u40_2:IC:=qQ u40_3 u40_6 [2,3,4,6]
abbrev u40_1:IC:=qS [oX 3 0,oX 4 1,oW 6 (.agg #[.slice none 0 0,.slice none 0 0,.slice none 0 0]),oI 7 0] u40_2 [0,1,2]
def u40:IFn:=⟨36,u40_1,[.cell 6 3 true,.tmp 7]⟩
end
theorem isU40:IsFn Tryz.prog 40 u40:=by unfold IsFn;kernel_rfl
section
abbrev u52_10:IC:=qE [oM 19 3,oM 20 5,oC 21 79 [.t 20],⟨some 22,.new (.bsl 1 2 #[.string ⟨#[]⟩] [(0,.t 21),(1,.k (.string ⟨#[10]⟩))]),none⟩,oT 23 19 22 1 16,oM 3 23] [1,3,5,13,14,15]
abbrev u52_9:IC:=qS [oA 17 13 15 1,oL 18 17,oM 5 18] u52_10 [1,3,13,14,15]
abbrev u52_11:IC:=qE [oK 24 15 .add 1,oM 15 24] [1,3,13,14,15]
abbrev u52_8:IC:=qB u52_9 u52_11 1 [1,3,13,14,15]
abbrev u52_7:IC:=qC .skip u52_8 (.exit 0) (.t 16) [1,3,13,14,15,16]
abbrev u52_6:IC:=qS [oB 16 15 14 .lss] u52_7 [1,3,13,14,15]
abbrev u52_5:IC:=qJ (.loop u52_6) 0 [1,3,13,14,15]
abbrev u52_4:IC:=qS [oF 8 1 0,oL 9 8,oF 10 1 1,oL 11 10,⟨some 12,.new (.bsl 1 2 #[.slice none 0 0] [(0,.t 9),(1,.t 11)]),none⟩,oC 13 78 [.t 12],oH 14 13,oI 15 0] u52_5 [1,3]
abbrev u52_19:IC:=qG [oM 32 3,oF 33 7 0,oL 34 33,oF 35 7 1,oL 36 35,oC 37 79 [.t 36],⟨some 38,.new (.bsl 1 4 #[.string ⟨#[]⟩] [(0,.t 34),(1,.k (.string ⟨#[10]⟩)),(2,.t 37),(3,.k (.string ⟨#[10]⟩))]),none⟩,oT 39 32 38 1 16,oM 3 39] [(0,none),(1,none),(2,none),(3,none),(4,none),(5,some [0,1,2]),(6,none),(7,some []),(8,some [])] 9 [3,7,26,27,28]
abbrev u52_18:IC:=qS [oA 30 26 28 2,oD 31 30 2,oW 7 (.agg #[.string ⟨#[]⟩,.int .i64 0]),oS 7 31 2] u52_19 [3,26,27,28]
abbrev u52_20:IC:=qE [oK 40 28 .add 1,oM 28 40] [3,26,27,28]
abbrev u52_17:IC:=qB u52_18 u52_20 3 [3,26,27,28]
abbrev u52_16:IC:=qC .skip u52_17 (.exit 2) (.t 29) [3,26,27,28,29]
abbrev u52_15:IC:=qS [oB 29 28 27 .lss] u52_16 [3,26,27,28]
abbrev u52_14:IC:=qJ (.loop u52_15) 2 [3,26,27,28]
abbrev u52_13:IC:=qS [oF 25 1 2,oL 26 25,oH 27 26,oI 28 0] u52_14 [1,3]
abbrev u52_21:IC:=qS [oM 41 3,oC 42 80 [.t 41,.k (.string ⟨#[]⟩)],oM 2 42] .ret [3]
abbrev u52_12:IC:=qQ u52_13 u52_21 [1,3]
abbrev u52_3:IC:=qQ u52_4 u52_12 [1,3]
abbrev u52_2:IC:=qS [oV 3 (.slice none 0 0)] u52_3 [1]
abbrev u52_1:IC:=qS [oX 1 0,oV 2 (.string ⟨#[]⟩)] u52_2 [0]
def u52:IFn:=⟨43,u52_1,[.tmp 2]⟩
end
theorem isU52:IsFn Tryz.prog 52 u52:=by unfold IsFn;kernel_rfl
section
abbrev u19_5:IC:=qS [oV 4 (.string ⟨#[]⟩),oI 5 1] .ret []
abbrev u19_4:IC:=qK u19_5 .skip (.t 9) [3,9]
abbrev u19_3:IC:=qS [oD 6 2 3,oD 7 3 3,oC 8 36 [.t 6,.t 7],oY 9 8] u19_4 [2,3]
abbrev u19_6:IC:=qS [oD 10 3 3,oC 11 52 [.t 10],oM 4 11,oI 5 0] .ret [3]
abbrev u19_2:IC:=qQ u19_3 u19_6 [2,3]
abbrev u19_1:IC:=qS [oX 2 0,oX 3 1,oV 4 (.string ⟨#[]⟩),oI 5 0] u19_2 [0,1]
def u19:IFn:=⟨12,u19_1,[.tmp 4,.tmp 5]⟩
end
theorem isU19:IsFn Tryz.prog 19 u19:=by unfold IsFn;kernel_rfl
section
abbrev u55_14:IC:=qE [oI 6 0] [3,8,9,10]
abbrev u55_13:IC:=qK u55_14 .skip (.t 20) [3,6,8,9,10,20]
abbrev u55_12:IC:=qS [oM 19 7,oP 20 (.eqn true 3 (.t 19) (.k .nilIface))] u55_13 [3,6,7,8,9,10]
abbrev u55_15:IC:=qE [oM 21 3,oM 22 6,⟨some 23,.new (.bsl 1 1 #[.int .i64 0] [(0,.t 22)]),none⟩,oT 24 21 23 1 8,oM 3 24] [3,6,8,9,10]
abbrev u55_11:IC:=qQ u55_12 u55_15 [3,6,7,8,9,10]
abbrev u55_10:IC:=qS [oM 15 5,oC 16 82 [.t 15],oM 14 16,oE 17 14 0,oE 18 14 1,oM 6 17,oM 7 18] u55_11 [3,5,8,9,10]
abbrev u55_9:IC:=qS [oA 12 8 10 1,oL 13 12,oM 5 13] u55_10 [3,8,9,10]
abbrev u55_16:IC:=qE [oK 25 10 .add 1,oM 10 25] [3,8,9,10]
abbrev u55_8:IC:=qB u55_9 u55_16 1 [3,8,9,10]
abbrev u55_7:IC:=qC .skip u55_8 (.exit 0) (.t 11) [3,8,9,10,11]
abbrev u55_6:IC:=qS [oB 11 10 9 .lss] u55_7 [3,8,9,10]
abbrev u55_5:IC:=qJ (.loop u55_6) 0 [3,8,9,10]
abbrev u55_4:IC:=qS [oM 8 0,oH 9 8,oI 10 0] u55_5 [0,3]
abbrev u55_17:IC:=qS [oM 26 3,oM 2 26] .ret [3]
abbrev u55_3:IC:=qQ u55_4 u55_17 [0,3]
abbrev u55_2:IC:=qS [oV 3 (.slice none 0 0)] u55_3 [0]
abbrev u55_1:IC:=qS [oV 2 (.slice none 0 0)] u55_2 [0]
def u55:IFn:=⟨27,u55_1,[.tmp 2]⟩
end
theorem isU55:IsFn Tryz.prog 55 u55:=by unfold IsFn;kernel_rfl
section
abbrev u21_5:IC:=qS [oP 14 (.bld #[.slice none 0 0,.slice none 0 0,.slice none 0 0] [(0,1),(1,1),(2,1)] []),oS 4 14 3,oI 5 1] .ret [4]
abbrev u21_4:IC:=qK u21_5 .skip (.t 13) [1,2,4,13]
abbrev u21_3:IC:=qS [oD 11 2 3,oC 12 34 [.t 11],oK 13 12 .neq 0] u21_4 [1,2,4]
abbrev u21_11:IC:=qS [oP 36 (.bld #[.slice none 0 0,.slice none 0 0,.slice none 0 0] [(0,1),(1,1),(2,1)] []),oS 4 36 3,oI 5 62] .ret [4]
abbrev u21_10:IC:=qK u21_11 .skip (.t 35) [1,2,4,6,7,8,35]
abbrev u21_9:IC:=qS [oM 26 6,oH 27 26,oM 28 8,oF 29 2 2,oL 30 29,oH 31 30,oP 32 (.bin .mul (.k (.int .i64 2)) (.t 31)),oB 33 28 32 .add,oK 34 33 .add 1,oB 35 27 34 .neq] u21_10 [1,2,4,6,7,8]
abbrev u21_20:IC:=qG [oF 53 9 2,oL 54 53,oM 55 6,oM 56 8,oM 57 10,oP 58 (.bin .mul (.k (.int .i64 2)) (.t 57)),oB 59 56 58 .add,oA 60 55 59 1,oL 61 60,oM 62 6,oM 63 8,oM 64 10,oP 65 (.bin .mul (.k (.int .i64 2)) (.t 64)),oB 66 63 65 .add,oK 67 66 .add 1,oP 68 (.slc 1 (.t 62) (some (.t 67)) none),oP 69 (.slc 1 (.t 68) none (some (.k (.int .i64 1)))),oC 70 55 [.t 69],oP 71 (.iad 1 (.t 70) (.k (.int .i64 0))),oL 72 71,oP 73 (.bld #[.string ⟨#[]⟩,.int .i64 0] [(0,1),(1,1)] [(0,.t 61),(1,.t 72)]),⟨some 74,.new (.bsl 2 1 #[.string ⟨#[]⟩,.int .i64 0] [(0,.t 73)]),none⟩,oT 75 54 74 2 24,oF 76 9 2,oS 76 75 1] [(0,none),(1,none),(2,none),(3,none),(4,none),(5,none),(6,none),(7,none),(8,none),(9,none),(10,none),(11,none),(12,none),(13,none),(14,none),(15,none),(16,none),(17,some [0,1,2,3,4,5,6,7,8]),(18,none),(19,none),(20,none),(21,none),(22,some []),(23,none),(24,some [])] 25 [1,2,4,6,8,9,10,49,50]
abbrev u21_19:IC:=qS [oM 52 50,oM 10 52] u21_20 [1,2,4,6,8,9,49,50]
abbrev u21_21:IC:=qE [oK 77 50 .add 1,oM 50 77] [1,2,4,6,8,9,49,50]
abbrev u21_18:IC:=qB u21_19 u21_21 1 [1,2,4,6,8,9,49,50]
abbrev u21_17:IC:=qC .skip u21_18 (.exit 0) (.t 51) [1,2,4,6,8,9,49,50,51]
abbrev u21_16:IC:=qS [oB 51 50 49 .lss] u21_17 [1,2,4,6,8,9,49,50]
abbrev u21_15:IC:=qJ (.loop u21_16) 0 [1,2,4,6,8,9,49,50]
abbrev u21_14:IC:=qS [oF 47 2 2,oL 48 47,oH 49 48,oI 50 0] u21_15 [1,2,4,6,8,9]
abbrev u21_25:IC:=qS [oP 88 (.bld #[.slice none 0 0,.slice none 0 0,.slice none 0 0] [(0,1),(1,1),(2,1)] []),oS 4 88 3,oI 5 62] .ret [4]
abbrev u21_24:IC:=qK u21_25 .skip (.t 87) [4,9,87]
abbrev u21_23:IC:=qS [oD 78 2 3,oD 79 9 3,oC 80 36 [.t 78,.t 79],oY 81 80,oM 82 81,oR 83 (.ld 3 true (.t 9)) 82,⟨some 84,.call 52 [.t 83],some (82,false)⟩,hM 85 1 82,oR 86 (.bin .neq (.t 84) (.t 85)) 82,oO 87 82 86] u21_24 [1,2,4,9]
abbrev u21_26:IC:=qS [oD 89 9 3,oS 4 89 3,oI 5 0] .ret [4,9]
abbrev u21_22:IC:=qQ u21_23 u21_26 [1,2,4,9]
abbrev u21_13:IC:=qQ u21_14 u21_22 [1,2,4,6,8,9]
abbrev u21_12:IC:=qD [oM 37 6,oM 38 7,oP 39 (.slc 1 (.t 37) none (some (.t 38))),oC 40 55 [.t 39],oM 41 6,oM 42 7,oM 43 8,oP 44 (.slc 1 (.t 41) (some (.t 42)) (some (.t 43))),oC 45 55 [.t 44],oP 46 (.bld #[.slice none 0 0,.slice none 0 0,.slice none 0 0] [(0,1),(1,1),(2,1)] [(0,.t 40),(1,.t 45)]),oW 9 (.agg #[.slice none 0 0,.slice none 0 0,.slice none 0 0]),oS 9 46 3] u21_13 [(0,none),(1,none),(2,none),(4,none),(5,none),(6,none),(7,none),(10,none),(3,some [4,5,6,7,10]),(8,some [10]),(9,none),(11,some [])] 12 [1,2,4,6,7,8]
abbrev u21_8:IC:=qQ u21_9 u21_12 [1,2,4,6,7,8]
abbrev u21_7:IC:=qD [oF 17 2 0,oL 18 17,oH 19 18,oF 20 2 0,oL 21 20,oH 22 21,oF 23 2 1,oL 24 23,oB 25 22 24 .add,oM 7 19,oM 8 25] u21_8 [(0,none),(1,none),(2,none),(3,none),(4,none),(5,none),(6,none),(7,none),(8,none),(9,some [3,4,5,6,7,8]),(10,some [])] 11 [1,2,4,6]
abbrev u21_6:IC:=qS [oM 15 1,oC 16 54 [.t 15,.k (.string ⟨#[10]⟩)],oM 6 16] u21_7 [1,2,4]
abbrev u21_2:IC:=qQ u21_3 u21_6 [1,2,4]
abbrev u21_1:IC:=qS [oX 2 0,oW 4 (.agg #[.slice none 0 0,.slice none 0 0,.slice none 0 0]),oI 5 0] u21_2 [0,1]
def u21:IFn:=⟨90,u21_1,[.cell 4 3 true,.tmp 5]⟩
end
theorem isU21:IsFn Tryz.prog 21 u21:=by unfold IsFn;kernel_rfl
section
abbrev u26_6:IC:=qS [oM 20 11,oV 8 (.string ⟨#[]⟩),oM 9 20] .ret [11]
abbrev u26_5:IC:=qK u26_6 .skip (.t 19) [2,3,10,11,19]
abbrev u26_4:IC:=qS [oM 18 11,oK 19 18 .neq 0] u26_5 [2,3,10,11]
abbrev u26_7:IC:=qS [oM 21 2,oM 22 10,oM 23 3,oC 24 61 [.t 21,.t 22,.t 23],oE 25 24 0,oE 26 24 1,oM 8 25,oM 9 26] .ret [2,3,10]
abbrev u26_3:IC:=qQ u26_4 u26_7 [2,3,10,11]
abbrev u26_2:IC:=qS [oD 13 4 3,oD 14 5 3,oC 15 19 [.t 13,.t 14],oM 12 15,oE 16 12 0,oE 17 12 1,oM 10 16,oM 11 17] u26_3 [2,3,4,5]
abbrev u26_1:IC:=qS [oX 4 0,oX 5 1,oV 8 (.string ⟨#[]⟩),oI 9 0] u26_2 [0,1,2,3]
def u26:IFn:=⟨27,u26_1,[.tmp 8,.tmp 9]⟩
end
theorem isU26:IsFn Tryz.prog 26 u26:=by unfold IsFn;kernel_rfl
section
abbrev u24_6:IC:=qS [oP 17 (.bld #[.slice none 0 0,.slice none 0 0,.slice none 0 0] [(0,1),(1,1),(2,1)] []),oS 4 17 3,oI 5 1] .ret [4]
abbrev u24_5:IC:=qK u24_6 .skip (.t 16) [1,2,4,6,16]
abbrev u24_4:IC:=qS [oM 15 7,oK 16 15 .neq 0] u24_5 [1,2,4,6,7]
abbrev u24_11:IC:=qS [oD 25 6 3,oS 4 25 3,oI 5 62] .ret [4,6]
abbrev u24_10:IC:=qK u24_11 .skip (.t 24) [2,4,6,8,24]
abbrev u24_9:IC:=qS [oM 23 7,oK 24 23 .neq 0] u24_10 [2,4,6,7,8]
abbrev u24_16:IC:=qS [oD 34 6 3,oS 4 34 3,oI 5 62] .ret [4,6]
abbrev u24_15:IC:=qK u24_16 .skip (.t 33) [4,6,9,33]
abbrev u24_14:IC:=qS [oM 32 7,oK 33 32 .neq 0] u24_15 [4,6,7,9]
abbrev u24_17:IC:=qS [oD 35 9 3,oS 4 35 3,oI 5 0] .ret [4,9]
abbrev u24_13:IC:=qQ u24_14 u24_17 [4,6,7,9]
abbrev u24_12:IC:=qS [oD 27 2 3,oM 28 8,oC 29 21 [.t 27,.t 28],oM 26 29,oE 30 26 0,oE 31 26 1,oW 9 (.agg #[.slice none 0 0,.slice none 0 0,.slice none 0 0]),oS 9 30 3,oM 7 31] u24_13 [2,4,6,8]
abbrev u24_8:IC:=qQ u24_9 u24_12 [2,4,6,7,8]
abbrev u24_7:IC:=qS [oM 19 1,oC 20 59 [.t 19],oM 18 20,oE 21 18 0,oE 22 18 1,oM 8 21,oM 7 22] u24_8 [1,2,4,6]
abbrev u24_3:IC:=qQ u24_4 u24_7 [1,2,4,6,7]
abbrev u24_2:IC:=qS [oD 11 2 3,oC 12 33 [.t 11],oM 10 12,oE 13 10 0,oE 14 10 1,oW 6 (.agg #[.slice none 0 0,.slice none 0 0,.slice none 0 0]),oS 6 13 3,oM 7 14] u24_3 [1,2,4]
abbrev u24_1:IC:=qS [oX 2 0,oW 4 (.agg #[.slice none 0 0,.slice none 0 0,.slice none 0 0]),oI 5 0] u24_2 [0,1]
def u24:IFn:=⟨36,u24_1,[.cell 4 3 true,.tmp 5]⟩
end
theorem isU24:IsFn Tryz.prog 24 u24:=by unfold IsFn;kernel_rfl
section
abbrev u37_2:IC:=qS [oF 5 2 0,oL 6 5,oF 7 3 0,oL 8 7,oC 9 72 [.t 6,.t 8],oM 10 9,gF 11 2 1 10,gL 12 11 10,gF 13 3 1 10,gL 14 13 10,⟨some 15,.call 72 [.t 12,.t 14],some (10,true)⟩,oJ 16 10 15,oM 17 16,gF 18 2 2 17,gL 19 18 17,gF 20 3 2 17,gL 21 20 17,⟨some 22,.call 73 [.t 19,.t 21],some (17,true)⟩,oJ 23 17 22,oM 4 23] .ret [2,3]
abbrev u37_1:IC:=qS [oX 2 0,oX 3 1,oV 4 (.bool false)] u37_2 [0,1]
def u37:IFn:=⟨24,u37_1,[.tmp 4]⟩
end
theorem isU37:IsFn Tryz.prog 37 u37:=by unfold IsFn;kernel_rfl
section
abbrev u107_7:IC:=qK .skip (.exit 0) (.t 10) [0,1,5,10]
abbrev u107_6:IC:=qS [oM 9 5,oK 10 9 .gtr 0] u107_7 [0,1,5]
abbrev u107_11:IC:=qS [oV 4 (.bool false)] .ret []
abbrev u107_10:IC:=qK u107_11 .skip (.t 24) [0,1,5,24]
abbrev u107_9:IC:=qP [oM 13 1,oM 14 0,oM 15 5,oA 16 14 15 2,oD 17 16 2,oM 18 0,oM 19 5,oK 20 19 .sub 1,oA 21 18 20 2,oD 22 21 2,⟨some 23,.callv (.t 13) [.t 17,.t 22],none⟩,oK 24 23 .lss 0] u107_10 0 12 [0,1,5]
abbrev u107_12:IC:=qE [oM 11 5,oK 12 11 .sub 1,oM 5 12] [0,1,5]
abbrev u107_8:IC:=qB u107_9 u107_12 1 [0,1,5]
abbrev u107_5:IC:=qQ u107_6 u107_8 [0,1,5]
abbrev u107_4:IC:=qJ (.loop u107_5) 0 [0,1,5]
abbrev u107_3:IC:=qS [oM 6 0,oH 7 6,oK 8 7 .sub 1,oM 5 8] u107_4 [0,1]
abbrev u107_13:IC:=qS [oV 4 (.bool true)] .ret []
abbrev u107_2:IC:=qQ u107_3 u107_13 [0,1]
abbrev u107_1:IC:=qS [oV 4 (.bool false)] u107_2 [0,1]
def u107:IFn:=⟨25,u107_1,[.tmp 4]⟩
end
theorem isU107:IsFn Tryz.prog 107 u107:=by unfold IsFn;kernel_rfl
section
abbrev u49_11:IC:=qS [oM 17 5,oM 4 17] .ret [5]
abbrev u49_10:IC:=qK u49_11 .skip (.t 16) [0,1,5,7,8,16]
abbrev u49_9:IC:=qS [oM 11 1,oM 12 0,oM 13 5,oA 14 12 13 2,oD 15 14 2,⟨some 16,.callv (.t 11) [.t 15],none⟩] u49_10 [0,1,5,7,8]
abbrev u49_8:IC:=qS [oM 10 8,oM 5 10] u49_9 [0,1,7,8]
abbrev u49_12:IC:=qE [oK 18 8 .add 1,oM 8 18] [0,1,7,8]
abbrev u49_7:IC:=qB u49_8 u49_12 1 [0,1,7,8]
abbrev u49_6:IC:=qC .skip u49_7 (.exit 0) (.t 9) [0,1,7,8,9]
abbrev u49_5:IC:=qS [oB 9 8 7 .lss] u49_6 [0,1,7,8]
abbrev u49_4:IC:=qJ (.loop u49_5) 0 [0,1,7,8]
abbrev u49_3:IC:=qS [oM 6 0,oH 7 6,oI 8 0] u49_4 [0,1]
abbrev u49_13:IC:=qS [oI 4 (-1)] .ret []
abbrev u49_2:IC:=qQ u49_3 u49_13 [0,1]
abbrev u49_1:IC:=qS [oI 4 0] u49_2 [0,1]
def u49:IFn:=⟨19,u49_1,[.tmp 4]⟩
end
theorem isU49:IsFn Tryz.prog 49 u49:=by unfold IsFn;kernel_rfl
section
abbrev u90_2:IC:=qS [oM 5 0,oM 6 1,oC 7 49 [.t 5,.t 6],oK 8 7 .geq 0,oM 4 8] .ret [0,1]
abbrev u90_1:IC:=qS [oV 4 (.bool false)] u90_2 [0,1]
def u90:IFn:=⟨9,u90_1,[.tmp 4]⟩
end
theorem isU90:IsFn Tryz.prog 90 u90:=by unfold IsFn;kernel_rfl
section
abbrev u70_2:IC:=qS [oM 5 0,oM 6 1,oC 7 93 [.t 5,.t 6],oK 8 7 .geq 0,oM 4 8] .ret [0,1]
abbrev u70_1:IC:=qS [oV 4 (.bool false)] u70_2 [0,1]
def u70:IFn:=⟨9,u70_1,[.tmp 4]⟩
end
theorem isU70:IsFn Tryz.prog 70 u70:=by unfold IsFn;kernel_rfl
section
abbrev u93_11:IC:=qS [oM 17 5,oM 4 17] .ret [5]
abbrev u93_10:IC:=qK u93_11 .skip (.t 16) [0,1,5,7,8,16]
abbrev u93_9:IC:=qS [oM 11 1,oM 12 0,oM 13 5,oA 14 12 13 1,oL 15 14,⟨some 16,.callv (.t 11) [.t 15],none⟩] u93_10 [0,1,5,7,8]
abbrev u93_8:IC:=qS [oM 10 8,oM 5 10] u93_9 [0,1,7,8]
abbrev u93_12:IC:=qE [oK 18 8 .add 1,oM 8 18] [0,1,7,8]
abbrev u93_7:IC:=qB u93_8 u93_12 1 [0,1,7,8]
abbrev u93_6:IC:=qC .skip u93_7 (.exit 0) (.t 9) [0,1,7,8,9]
abbrev u93_5:IC:=qS [oB 9 8 7 .lss] u93_6 [0,1,7,8]
abbrev u93_4:IC:=qJ (.loop u93_5) 0 [0,1,7,8]
abbrev u93_3:IC:=qS [oM 6 0,oH 7 6,oI 8 0] u93_4 [0,1]
abbrev u93_13:IC:=qS [oI 4 (-1)] .ret []
abbrev u93_2:IC:=qQ u93_3 u93_13 [0,1]
abbrev u93_1:IC:=qS [oI 4 0] u93_2 [0,1]
def u93:IFn:=⟨19,u93_1,[.tmp 4]⟩
end
theorem isU93:IsFn Tryz.prog 93 u93:=by unfold IsFn;kernel_rfl
section
abbrev u75_5:IC:=qS [oV 2 (.slice none 0 0)] .ret []
abbrev u75_4:IC:=qK u75_5 .skip (.t 4) [0,4]
abbrev u75_3:IC:=qS [oM 3 0,oP 4 (.eqn false 1 (.t 3) (.k (.slice none 0 0)))] u75_4 [0]
abbrev u75_6:IC:=qS [⟨some 5,.new (.bsl 1 0 #[.int .i64 0] []),none⟩,oM 6 0,oT 7 5 6 1 8,oM 2 7] .ret [0]
abbrev u75_2:IC:=qQ u75_3 u75_6 [0]
abbrev u75_1:IC:=qS [oV 2 (.slice none 0 0)] u75_2 [0]
def u75:IFn:=⟨8,u75_1,[.tmp 2]⟩
end
theorem isU75:IsFn Tryz.prog 75 u75:=by unfold IsFn;kernel_rfl
section
abbrev u67_5:IC:=qS [oV 2 (.slice none 0 0)] .ret []
abbrev u67_4:IC:=qK u67_5 .skip (.t 4) [0,4]
abbrev u67_3:IC:=qS [oM 3 0,oP 4 (.eqn false 1 (.t 3) (.k (.slice none 0 0)))] u67_4 [0]
abbrev u67_6:IC:=qS [⟨some 5,.new (.bsl 2 0 #[.string ⟨#[]⟩,.int .i64 0] []),none⟩,oM 6 0,oT 7 5 6 2 24,oM 2 7] .ret [0]
abbrev u67_2:IC:=qQ u67_3 u67_6 [0]
abbrev u67_1:IC:=qS [oV 2 (.slice none 0 0)] u67_2 [0]
def u67:IFn:=⟨8,u67_1,[.tmp 2]⟩
end
theorem isU67:IsFn Tryz.prog 67 u67:=by unfold IsFn;kernel_rfl
section
abbrev u72_5:IC:=qS [oV 4 (.bool false)] .ret []
abbrev u72_4:IC:=qK u72_5 .skip (.t 10) [0,1,10]
abbrev u72_3:IC:=qS [oM 6 0,oH 7 6,oM 8 1,oH 9 8,oB 10 7 9 .neq] u72_4 [0,1]
abbrev u72_15:IC:=qS [oV 4 (.bool false)] .ret []
abbrev u72_14:IC:=qK u72_15 .skip (.t 24) [0,1,12,13,24]
abbrev u72_13:IC:=qP [oM 16 0,oM 17 5,oA 18 16 17 1,oL 19 18,oM 20 1,oM 21 5,oA 22 20 21 1,oL 23 22,oB 24 19 23 .neq] u72_14 0 9 [0,1,5,12,13]
abbrev u72_12:IC:=qS [oM 15 13,oM 5 15] u72_13 [0,1,12,13]
abbrev u72_16:IC:=qE [oK 25 13 .add 1,oM 13 25] [0,1,12,13]
abbrev u72_11:IC:=qB u72_12 u72_16 1 [0,1,12,13]
abbrev u72_10:IC:=qC .skip u72_11 (.exit 0) (.t 14) [0,1,12,13,14]
abbrev u72_9:IC:=qS [oB 14 13 12 .lss] u72_10 [0,1,12,13]
abbrev u72_8:IC:=qJ (.loop u72_9) 0 [0,1,12,13]
abbrev u72_7:IC:=qS [oM 11 0,oH 12 11,oI 13 0] u72_8 [0,1]
abbrev u72_17:IC:=qS [oV 4 (.bool true)] .ret []
abbrev u72_6:IC:=qQ u72_7 u72_17 [0,1]
abbrev u72_2:IC:=qQ u72_3 u72_6 [0,1]
abbrev u72_1:IC:=qS [oV 4 (.bool false)] u72_2 [0,1]
def u72:IFn:=⟨26,u72_1,[.tmp 4]⟩
end
theorem isU72:IsFn Tryz.prog 72 u72:=by unfold IsFn;kernel_rfl
section
abbrev u73_5:IC:=qS [oV 4 (.bool false)] .ret []
abbrev u73_4:IC:=qK u73_5 .skip (.t 10) [0,1,10]
abbrev u73_3:IC:=qS [oM 6 0,oH 7 6,oM 8 1,oH 9 8,oB 10 7 9 .neq] u73_4 [0,1]
abbrev u73_15:IC:=qS [oV 4 (.bool false)] .ret []
abbrev u73_14:IC:=qK u73_15 .skip (.t 24) [0,1,12,13,24]
abbrev u73_13:IC:=qP [oM 16 0,oM 17 5,oA 18 16 17 2,oD 19 18 2,oM 20 1,oM 21 5,oA 22 20 21 2,oD 23 22 2,oP 24 (.eqa true [2,0] (.t 19) (.t 23))] u73_14 0 9 [0,1,5,12,13]
abbrev u73_12:IC:=qS [oM 15 13,oM 5 15] u73_13 [0,1,12,13]
abbrev u73_16:IC:=qE [oK 25 13 .add 1,oM 13 25] [0,1,12,13]
abbrev u73_11:IC:=qB u73_12 u73_16 1 [0,1,12,13]
abbrev u73_10:IC:=qC .skip u73_11 (.exit 0) (.t 14) [0,1,12,13,14]
abbrev u73_9:IC:=qS [oB 14 13 12 .lss] u73_10 [0,1,12,13]
abbrev u73_8:IC:=qJ (.loop u73_9) 0 [0,1,12,13]
abbrev u73_7:IC:=qS [oM 11 0,oH 12 11,oI 13 0] u73_8 [0,1]
abbrev u73_17:IC:=qS [oV 4 (.bool true)] .ret []
abbrev u73_6:IC:=qQ u73_7 u73_17 [0,1]
abbrev u73_2:IC:=qQ u73_3 u73_6 [0,1]
abbrev u73_1:IC:=qS [oV 4 (.bool false)] u73_2 [0,1]
def u73:IFn:=⟨26,u73_1,[.tmp 4]⟩
end
theorem isU73:IsFn Tryz.prog 73 u73:=by unfold IsFn;kernel_rfl
section
abbrev u78_12:IC:=qK .bad .skip (.t 20) [0,3,9,10,11,20]
abbrev u78_11:IC:=qS [oM 19 3,oK 20 19 .lss 0] u78_12 [0,3,9,10,11]
abbrev u78_10:IC:=qS [oM 15 3,oM 16 5,oH 17 16,oB 18 15 17 .add,oM 3 18] u78_11 [0,3,5,9,10,11]
abbrev u78_9:IC:=qS [oA 13 9 11 1,oL 14 13,oM 5 14] u78_10 [0,3,9,10,11]
abbrev u78_13:IC:=qE [oK 22 11 .add 1,oM 11 22] [0,3,9,10,11]
abbrev u78_8:IC:=qB u78_9 u78_13 1 [0,3,9,10,11]
abbrev u78_7:IC:=qC .skip u78_8 (.exit 0) (.t 12) [0,3,9,10,11,12]
abbrev u78_6:IC:=qS [oB 12 11 10 .lss] u78_7 [0,3,9,10,11]
abbrev u78_5:IC:=qJ (.loop u78_6) 0 [0,3,9,10,11]
abbrev u78_4:IC:=qS [oM 9 0,oH 10 9,oI 11 0] u78_5 [0,3]
abbrev u78_22:IC:=qE [oM 31 6,oM 32 8,oT 33 31 32 1 8,oM 6 33] [6,8,25,26,27]
abbrev u78_21:IC:=qS [oA 29 25 27 1,oL 30 29,oM 8 30] u78_22 [6,25,26,27]
abbrev u78_23:IC:=qE [oK 34 27 .add 1,oM 27 34] [6,25,26,27]
abbrev u78_20:IC:=qB u78_21 u78_23 3 [6,25,26,27]
abbrev u78_19:IC:=qC .skip u78_20 (.exit 2) (.t 28) [6,25,26,27,28]
abbrev u78_18:IC:=qS [oB 28 27 26 .lss] u78_19 [6,25,26,27]
abbrev u78_17:IC:=qJ (.loop u78_18) 2 [6,25,26,27]
abbrev u78_16:IC:=qS [oM 25 0,oH 26 25,oI 27 0] u78_17 [0,6]
abbrev u78_24:IC:=qS [oM 35 6,oM 2 35] .ret [6]
abbrev u78_15:IC:=qQ u78_16 u78_24 [0,6]
abbrev u78_14:IC:=qS [oM 23 3,oC 24 95 [.k (.slice none 0 0),.t 23],oM 6 24] u78_15 [0,3]
abbrev u78_3:IC:=qQ u78_4 u78_14 [0,3]
abbrev u78_2:IC:=qS [oI 3 0] u78_3 [0]
abbrev u78_1:IC:=qS [oV 2 (.slice none 0 0)] u78_2 [0]
def u78:IFn:=⟨36,u78_1,[.tmp 2]⟩
end
theorem isU78:IsFn Tryz.prog 78 u78:=by unfold IsFn;kernel_rfl
section
abbrev u28_5:IC:=qS [oV 2 (.string ⟨#[]⟩),oI 3 9] .ret []
abbrev u28_4:IC:=qK u28_5 .skip (.t 7) [0,7]
abbrev u28_3:IC:=qS [oM 5 0,oP 6 (.lens (.t 5)),oK 7 6 .gtr 1024] u28_4 [0]
abbrev u28_10:IC:=qS [oM 20 4,oP 21 (.cvbs (.t 20)),oM 2 21,oI 3 0] .ret [4]
abbrev u28_9:IC:=qS [oM 16 4,oP 17 (.slc 1 (.t 16) (some (.k (.int .i64 7))) none),oM 18 0,⟨some 19,.eff (.cpys (.t 17) (.t 18)),none⟩] u28_10 [0,4]
abbrev u28_8:IC:=qD [oM 11 4,oP 12 (.slc 1 (.t 11) (some (.k (.int .i64 1))) none),oM 13 0,oC 14 63 [.t 13],⟨some 15,.eff (.cpy 1 (.t 12) (.t 14)),none⟩] u28_9 [(0,none),(1,none),(2,none),(3,some [0,1]),(4,some [])] 5 [0,4]
abbrev u28_7:IC:=qS [oM 9 4,oP 10 (.iad 1 (.t 9) (.k (.int .i64 0))),⟨none,.eff (.st 1 (.t 10) (.k (.int .u8 1))),none⟩] u28_8 [0,4]
abbrev u28_6:IC:=qS [⟨some 8,.new (.msl 1 1 #[.int .u8 0] (.k (.int .i64 2062)) (.k (.int .i64 2062))),none⟩,oM 4 8] u28_7 [0]
abbrev u28_2:IC:=qQ u28_3 u28_6 [0]
abbrev u28_1:IC:=qS [oV 2 (.string ⟨#[]⟩),oI 3 0] u28_2 [0]
def u28:IFn:=⟨22,u28_1,[.tmp 2,.tmp 3]⟩
end
theorem isU28:IsFn Tryz.prog 28 u28:=by unfold IsFn;kernel_rfl
section
abbrev u59_3:IC:=qS [oM 15 6,oM 16 7,oM 2 15,oM 3 16] .ret [6,7]
abbrev u59_2:IC:=qS [oM 9 0,oC 10 84 [.t 9],oM 8 10,oE 11 8 0,oE 12 8 1,oE 13 8 2,oE 14 8 3,oM 4 11,oM 5 12,oM 6 13,oM 7 14] u59_3 [0]
abbrev u59_1:IC:=qS [oV 2 (.string ⟨#[]⟩),oI 3 0] u59_2 [0]
def u59:IFn:=⟨17,u59_1,[.tmp 2,.tmp 3]⟩
end
theorem isU59:IsFn Tryz.prog 59 u59:=by unfold IsFn;kernel_rfl
section
abbrev u61_6:IC:=qS [oM 26 11,oV 6 (.string ⟨#[]⟩),oM 7 26] .ret [11]
abbrev u61_5:IC:=qK u61_6 .skip (.t 25) [0,1,5,8,11,25]
abbrev u61_4:IC:=qS [oM 24 11,oK 25 24 .neq 0] u61_5 [0,1,5,8,11]
abbrev u61_10:IC:=qS [oV 6 (.string ⟨#[]⟩),oI 7 9] .ret []
abbrev u61_9:IC:=qK u61_10 .skip (.t 29) [0,1,5,8,29]
abbrev u61_8:IC:=qS [oM 27 1,oP 28 (.lens (.t 27)),oK 29 28 .gtr 1024] u61_9 [0,1,5,8]
abbrev u61_23:IC:=qE [oM 50 14,oM 51 15,oP 52 (.bin .add (.k (.int .i64 1)) (.t 51)),oM 53 16,⟨some 54,.callv (.t 50) [.t 52,.t 53],none⟩] [0,5,8,12,14,15,16,43,44,45]
abbrev u61_22:IC:=qS [oM 47 45,oA 48 43 45 1,oL 49 48,oM 15 47,oM 16 49] u61_23 [0,5,8,12,14,43,44,45]
abbrev u61_24:IC:=qE [oK 55 45 .add 1,oM 45 55] [0,5,8,12,14,43,44,45]
abbrev u61_21:IC:=qB u61_22 u61_24 1 [0,5,8,12,14,43,44,45]
abbrev u61_20:IC:=qC .skip u61_21 (.exit 0) (.t 46) [0,5,8,12,14,43,44,45,46]
abbrev u61_19:IC:=qS [oB 46 45 44 .lss] u61_20 [0,5,8,12,14,43,44,45]
abbrev u61_18:IC:=qJ (.loop u61_19) 0 [0,5,8,12,14,43,44,45]
abbrev u61_17:IC:=qS [oM 40 1,oC 41 63 [.t 40],oM 42 1,⟨some 43,.eff (.apps (.t 41) (.t 42)),none⟩,oH 44 43,oI 45 0] u61_18 [0,1,5,8,12,14]
abbrev u61_29:IC:=qS [oL 65 12,oP 66 (.cvbs (.t 65)),oM 6 66,oI 7 61] .ret [12]
abbrev u61_28:IC:=qK u61_29 .skip (.t 64) [12,64]
abbrev u61_27:IC:=qS [oL 63 5,oK 64 63 .lss 0] u61_28 [5,12]
abbrev u61_30:IC:=qS [oL 67 12,oP 68 (.cvbs (.t 67)),oM 6 68,oI 7 0] .ret [12]
abbrev u61_26:IC:=qQ u61_27 u61_30 [5,12]
abbrev u61_25:IC:=qS [oM 56 14,oM 57 0,oM 58 8,oK 59 58 .mul 1031,oP 60 (.idx (.t 57) (.t 59)),oC 61 88 [.t 60],⟨some 62,.callv (.t 56) [.k (.int .i64 0),.t 61],none⟩] u61_26 [0,5,8,12,14]
abbrev u61_16:IC:=qQ u61_17 u61_25 [0,1,5,8,12,14]
abbrev u61_15:IC:=qS [oM 38 14,⟨some 39,.callv (.t 38) [.k (.int .i64 0),.k (.int .u8 0)],none⟩] u61_16 [0,1,5,8,12,14]
abbrev u61_14:IC:=qS [oP 37 (.mkf 87 [] [.t 5,.t 12,.t 13]),oM 14 37] u61_15 [0,1,5,8,12,13]
abbrev u61_13:IC:=qS [oM 34 8,oP 35 (.bin .sub (.k (.int .i64 1)) (.t 34)),oK 36 35 .mul 1031,oW 13 (.int .i64 0),oS 13 36 1] u61_14 [0,1,5,8,12]
abbrev u61_12:IC:=qS [oL 32 5,oP 33 (.mx (.t 32) (.k (.int .i64 0))),oS 5 33 1] u61_13 [0,1,5,8,12]
abbrev u61_11:IC:=qS [oM 30 0,⟨some 31,.eff (.cvsb (.t 30)),none⟩,oW 12 (.slice none 0 0),oS 12 31 1] u61_12 [0,1,5,8]
abbrev u61_7:IC:=qQ u61_8 u61_11 [0,1,5,8]
abbrev u61_3:IC:=qQ u61_4 u61_7 [0,1,5,8,11]
abbrev u61_2:IC:=qS [oM 18 0,oC 19 84 [.t 18],oM 17 19,oE 20 17 0,oE 21 17 1,oE 22 17 2,oE 23 17 3,oM 8 20,oM 9 21,oM 10 22,oM 11 23] u61_3 [0,1,5]
abbrev u61_1:IC:=qS [oX 5 2,oV 6 (.string ⟨#[]⟩),oI 7 0] u61_2 [0,1,2]
def u61:IFn:=⟨69,u61_1,[.tmp 6,.tmp 7]⟩
end
theorem isU61:IsFn Tryz.prog 61 u61:=by unfold IsFn;kernel_rfl
section
abbrev u87_4:IC:=qE [oL 9 3,oL 10 4,oM 11 0,oB 12 10 11 .add,oM 13 1,oA 14 9 12 1,oS 14 13 1] [0,1,2,3,4]
abbrev u87_3:IC:=qK u87_4 .skip (.t 8) [0,1,2,3,4,8]
abbrev u87_2:IC:=qS [oL 7 2,oK 8 7 .gtr 0] u87_3 [0,1,2,3,4]
abbrev u87_5:IC:=qE [oL 15 2,oK 16 15 .sub 1,oS 2 16 1] [2]
abbrev u87_1:IC:=qQ u87_2 u87_5 [0,1,2,3,4]
def u87:IFn:=⟨17,u87_1,[]⟩
end
theorem isU87:IsFn Tryz.prog 87 u87:=by unfold IsFn;kernel_rfl
section
abbrev u63_3:IC:=qS [oM 9 3,oP 10 (.cvi .u8 (.t 9)),oM 11 3,oP 12 (.bin .shr (.t 11) (.k (.int .u64 8))),oP 13 (.cvi .u8 (.t 12)),oM 14 3,oP 15 (.cvi .u8 (.t 14)),oP 16 (.bin .sub (.k (.int .u8 255)) (.t 15)),oM 17 3,oP 18 (.bin .shr (.t 17) (.k (.int .u64 8))),oP 19 (.cvi .u8 (.t 18)),oP 20 (.bin .sub (.k (.int .u8 255)) (.t 19)),oM 21 4,oP 22 (.cvi .u8 (.t 21)),oM 23 4,oP 24 (.bin .shr (.t 23) (.k (.int .u64 8))),oP 25 (.cvi .u8 (.t 24)),⟨some 26,.new (.bsl 1 6 #[.int .u8 0] [(0,.t 10),(1,.t 13),(2,.t 16),(3,.t 20),(4,.t 22),(5,.t 25)]),none⟩,oM 2 26] .ret [3,4]
abbrev u63_2:IC:=qS [oM 5 0,oP 6 (.lens (.t 5)),oM 7 0,oC 8 89 [.t 7],oM 3 6,oM 4 8] u63_3 [0]
abbrev u63_1:IC:=qS [oV 2 (.slice none 0 0)] u63_2 [0]
def u63:IFn:=⟨27,u63_1,[.tmp 2]⟩
end
theorem isU63:IsFn Tryz.prog 63 u63:=by unfold IsFn;kernel_rfl
section
abbrev u84_5:IC:=qS [oI 2 0,oI 3 0,oV 4 (.string ⟨#[]⟩),oI 5 1] .ret []
abbrev u84_4:IC:=qK u84_5 .skip (.t 12) [0,12]
abbrev u84_3:IC:=qS [oM 10 0,oP 11 (.lens (.t 10)),oK 12 11 .neq 2062] u84_4 [0]
abbrev u84_11:IC:=qS [oM 39 8,oI 2 1,oI 3 2,oM 4 39,oI 5 0] .ret [8]
abbrev u84_14:IC:=qS [oM 45 6,oI 2 0,oI 3 2,oM 4 45,oI 5 0] .ret [6]
abbrev u84_17:IC:=qS [oM 48 6,oI 2 0,oI 3 1,oM 4 48,oI 5 0] .ret [6]
abbrev u84_20:IC:=qS [oM 51 8,oI 2 1,oI 3 1,oM 4 51,oI 5 0] .ret [8]
abbrev u84_19:IC:=qK u84_20 .skip (.t 49) [8,49]
abbrev u84_18:IC:=qS [oM 50 9,oM 49 50] u84_19 [8,9]
abbrev u84_16:IC:=qK u84_17 u84_18 (.t 46) [6,8,9,46]
abbrev u84_15:IC:=qS [oM 47 7,oM 46 47] u84_16 [6,7,8,9]
abbrev u84_13:IC:=qK u84_14 u84_15 (.t 40) [6,7,8,9,40]
abbrev u84_12:IC:=qS [oM 41 7,oM 42 41,gM 43 9 42,oJ 44 42 43,oM 40 44] u84_13 [6,7,8,9]
abbrev u84_10:IC:=qK u84_11 u84_12 (.t 25) [6,7,8,9,25]
abbrev u84_9:IC:=qD [oM 26 7,oM 27 26,gM 28 9 27,oJ 29 27 28,oM 30 29,gM 31 0 30,⟨some 32,.call 106 [.t 31,.k (.int .i64 1)],some (30,true)⟩,oG 33 (.idx (.t 32) (.k (.int .i64 0))) 30,gM 34 0 30,oG 35 (.idx (.t 34) (.k (.int .i64 0))) 30,⟨some 36,.call 88 [.t 35],some (30,true)⟩,oG 37 (.bin .eql (.t 33) (.t 36)) 30,oJ 38 30 37,oM 25 38] u84_10 [(0,none),(1,none),(2,none),(3,none),(4,none),(5,none),(8,none),(9,none),(6,some [8,9]),(7,none),(10,some [7]),(11,none),(12,none),(13,some [])] 14 [0,6,7,8,9]
abbrev u84_21:IC:=qS [oI 2 0,oI 3 0,oV 4 (.string ⟨#[]⟩),oI 5 62] .ret []
abbrev u84_8:IC:=qB u84_9 u84_21 0 [0,6,7,8,9]
abbrev u84_7:IC:=qS [oM 20 0,oC 21 106 [.t 20,.k (.int .i64 1)],oC 22 105 [.t 21],oM 19 22,oE 23 19 0,oE 24 19 1,oM 8 23,oM 9 24] u84_8 [0,6,7]
abbrev u84_6:IC:=qS [oM 14 0,oC 15 106 [.t 14,.k (.int .i64 0)],oC 16 105 [.t 15],oM 13 16,oE 17 13 0,oE 18 13 1,oM 6 17,oM 7 18] u84_7 [0]
abbrev u84_2:IC:=qQ u84_3 u84_6 [0]
abbrev u84_1:IC:=qS [oI 2 0,oI 3 0,oV 4 (.string ⟨#[]⟩),oI 5 0] u84_2 [0]
def u84:IFn:=⟨52,u84_1,[.tmp 2,.tmp 3,.tmp 4,.tmp 5]⟩
end
theorem isU84:IsFn Tryz.prog 84 u84:=by unfold IsFn;kernel_rfl
section
abbrev u88_2:IC:=qS [oM 3 0,oP 4 (.bin .rem (.t 3) (.k (.int .u8 3))),oP 5 (.bin .add (.t 4) (.k (.int .u8 1))),oM 2 5] .ret [0]
abbrev u88_1:IC:=qS [oV 2 (.int .u8 0)] u88_2 [0]
def u88:IFn:=⟨6,u88_1,[.tmp 2]⟩
end
theorem isU88:IsFn Tryz.prog 88 u88:=by unfold IsFn;kernel_rfl
section
abbrev u89_8:IC:=qK .skip (.exit 0) (.t 8) [0,3,4,8]
abbrev u89_7:IC:=qS [oM 5 4,oM 6 0,oP 7 (.lens (.t 6)),oB 8 5 7 .lss] u89_8 [0,3,4]
abbrev u89_10:IC:=qE [oM 11 3,oM 12 4,oK 13 12 .add 1,oM 14 0,oM 15 4,oP 16 (.idx (.t 14) (.t 15)),oP 17 (.cvi .i64 (.t 16)),oB 18 13 17 .mul,oB 19 11 18 .add,oK 20 19 .rem 65521,oM 3 20] [0,3,4]
abbrev u89_11:IC:=qE [oM 9 4,oK 10 9 .add 1,oM 4 10] [0,3,4]
abbrev u89_9:IC:=qB u89_10 u89_11 1 [0,3,4]
abbrev u89_6:IC:=qQ u89_7 u89_9 [0,3,4]
abbrev u89_5:IC:=qJ (.loop u89_6) 0 [0,3,4]
abbrev u89_4:IC:=qS [oI 4 0] u89_5 [0,3]
abbrev u89_12:IC:=qS [oM 21 3,oM 2 21] .ret [3]
abbrev u89_3:IC:=qQ u89_4 u89_12 [0,3]
abbrev u89_2:IC:=qS [oI 3 0] u89_3 [0]
abbrev u89_1:IC:=qS [oI 2 0] u89_2 [0]
def u89:IFn:=⟨22,u89_1,[.tmp 2]⟩
end
theorem isU89:IsFn Tryz.prog 89 u89:=by unfold IsFn;kernel_rfl
section
abbrev u105_6:IC:=qS [oV 2 (.string ⟨#[]⟩),oV 3 (.bool false)] .ret []
abbrev u105_5:IC:=qK u105_6 .skip (.t 26) [0,4,26]
abbrev u105_4:IC:=qS [oM 8 0,oP 9 (.idx (.t 8) (.k (.int .i64 0))),oP 10 (.bin .lss (.t 9) (.k (.int .u8 1))),oM 11 10,hM 12 0 11,oR 13 (.idx (.t 12) (.k (.int .i64 0))) 11,oR 14 (.bin .gtr (.t 13) (.k (.int .u8 3))) 11,oO 15 11 14,oM 16 15,hM 17 0 16,⟨some 18,.call 122 [.t 17,.k (.int .i64 3)],some (16,false)⟩,hM 19 4 16,oR 20 (.bin .sub (.k (.int .i64 65535)) (.t 19)) 16,oR 21 (.bin .neq (.t 18) (.t 20)) 16,oO 22 16 21,oM 23 22,hM 24 4 23,hK 25 24 23 .gtr 1024,oO 26 23 25] u105_5 [0,4]
abbrev u105_8:IC:=qS [oM 31 5,oM 32 0,oC 33 122 [.t 32,.k (.int .i64 5)],oM 34 5,oC 35 89 [.t 34],oB 36 33 35 .eql,oM 2 31,oM 3 36] .ret [0,5]
abbrev u105_7:IC:=qS [oM 27 0,oM 28 4,oP 29 (.bin .add (.k (.int .i64 7)) (.t 28)),oP 30 (.sls (.t 27) (some (.k (.int .i64 7))) (some (.t 29))),oM 5 30] u105_8 [0,4]
abbrev u105_3:IC:=qQ u105_4 u105_7 [0,4]
abbrev u105_2:IC:=qS [oM 6 0,oC 7 122 [.t 6,.k (.int .i64 1)],oM 4 7] u105_3 [0]
abbrev u105_1:IC:=qS [oV 2 (.string ⟨#[]⟩),oV 3 (.bool false)] u105_2 [0]
def u105:IFn:=⟨37,u105_1,[.tmp 2,.tmp 3]⟩
end
theorem isU105:IsFn Tryz.prog 105 u105:=by unfold IsFn;kernel_rfl
section
abbrev u106_2:IC:=qS [oM 5 0,oM 6 1,oK 7 6 .mul 1031,oM 8 1,oK 9 8 .add 1,oK 10 9 .mul 1031,oP 11 (.sls (.t 5) (some (.t 7)) (some (.t 10))),oM 4 11] .ret [0,1]
abbrev u106_1:IC:=qS [oV 4 (.string ⟨#[]⟩)] u106_2 [0,1]
def u106:IFn:=⟨12,u106_1,[.tmp 4]⟩
end
theorem isU106:IsFn Tryz.prog 106 u106:=by unfold IsFn;kernel_rfl
section
abbrev u122_2:IC:=qP [oM 5 0,oM 6 1,oP 7 (.idx (.t 5) (.t 6)),oP 8 (.cvi .i64 (.t 7)),oM 9 0,oM 10 1,oK 11 10 .add 1,oP 12 (.idx (.t 9) (.t 11)),oP 13 (.cvi .i64 (.t 12)),oP 14 (.bin .mul (.k (.int .i64 256)) (.t 13)),oB 15 8 14 .add,oM 4 15] .ret 2048 12 [0,1]
abbrev u122_1:IC:=qS [oI 4 0] u122_2 [0,1]
def u122:IFn:=⟨16,u122_1,[.tmp 4]⟩
end
theorem isU122:IsFn Tryz.prog 122 u122:=by unfold IsFn;kernel_rfl
end Go.Proofs.YtndjhpjcankkaaaGreatDoor
namespace Go.Proofs.YtndjhpjcankkaaaGreatDoor
open Go.Eng (IC IOper DReg IFn IsFn)
open Go.Sym
section
abbrev u46_2:IC:=qS [oM 7 0,oM 8 1,oB 9 7 8 .geq,oM 10 9,gM 11 0 10,gM 12 2 10,oG 13 (.bin .leq (.t 11) (.t 12)) 10,oJ 14 10 13,oM 6 14] .ret [0,1,2]
abbrev u46_1:IC:=qS [oV 6 (.bool false)] u46_2 [0,1,2]
def u46:IFn:=⟨15,u46_1,[.tmp 6]⟩
end
theorem isU46:IsFn Tryz.prog 46 u46:=by unfold IsFn;kernel_rfl
section
abbrev u45_2:IC:=qS [oM 5 1,oF 6 2 0,oL 7 6,oF 8 2 1,oL 9 8,oC 10 46 [.t 5,.t 7,.t 9],oM 11 10,gM 12 1 11,gF 13 2 0 11,gL 14 13 11,oG 15 (.bin .sub (.t 12) (.t 14)) 11,gF 16 2 2 11,gL 17 16 11,oG 18 (.bin .rem (.t 15) (.t 17)) 11,gK 19 18 11 .eql 0,oJ 20 11 19,oM 4 20] .ret [1,2]
abbrev u45_1:IC:=qS [oX 2 0,oV 4 (.bool false)] u45_2 [0,1]
def u45:IFn:=⟨21,u45_1,[.tmp 4]⟩
end
theorem isU45:IsFn Tryz.prog 45 u45:=by unfold IsFn;kernel_rfl
section
abbrev u74_5:IC:=qS [oV 2 (.bool false)] .ret []
abbrev u74_4:IC:=qK u74_5 .skip (.t 13) [1,13]
abbrev u74_3:IC:=qS [oF 4 1 0,oL 5 4,oP 6 (.lens (.t 5)),oK 7 6 .neq 3,oM 8 7,hF 9 1 1 8,hL 10 9 8,⟨some 11,.call 46 [.t 10,.k (.int .i64 0),.k (.int .i64 999999999999)],some (8,false)⟩,oR 12 (.un .not (.t 11)) 8,oO 13 8 12] u74_4 [1]
abbrev u74_11:IC:=qK .skip (.exit 0) (.t 15) [1,3,15]
abbrev u74_10:IC:=qS [oM 14 3,oK 15 14 .lss 3] u74_11 [1,3]
abbrev u74_15:IC:=qS [oV 2 (.bool false)] .ret []
abbrev u74_14:IC:=qK u74_15 .skip (.t 29) [1,3,29]
abbrev u74_13:IC:=qS [oF 18 1 0,oL 19 18,oM 20 3,oP 21 (.idx (.t 19) (.t 20)),oP 22 (.bin .lss (.t 21) (.k (.int .u8 65))),oM 23 22,hF 24 1 0 23,hL 25 24 23,hM 26 3 23,oR 27 (.idx (.t 25) (.t 26)) 23,oR 28 (.bin .gtr (.t 27) (.k (.int .u8 90))) 23,oO 29 23 28] u74_14 [1,3]
abbrev u74_16:IC:=qE [oM 16 3,oK 17 16 .add 1,oM 3 17] [1,3]
abbrev u74_12:IC:=qB u74_13 u74_16 1 [1,3]
abbrev u74_9:IC:=qQ u74_10 u74_12 [1,3]
abbrev u74_8:IC:=qJ (.loop u74_9) 0 [1,3]
abbrev u74_7:IC:=qS [oI 3 0] u74_8 [1]
abbrev u74_17:IC:=qS [oV 2 (.bool true)] .ret []
abbrev u74_6:IC:=qQ u74_7 u74_17 [1]
abbrev u74_2:IC:=qQ u74_3 u74_6 [1]
abbrev u74_1:IC:=qS [oX 1 0,oV 2 (.bool false)] u74_2 [0]
def u74:IFn:=⟨30,u74_1,[.tmp 2]⟩
end
theorem isU74:IsFn Tryz.prog 74 u74:=by unfold IsFn;kernel_rfl
section
abbrev u47_8:IC:=qK .skip (.exit 0) (.t 10) [0,4,5,6,10]
abbrev u47_7:IC:=qS [oM 7 6,oM 8 0,oH 9 8,oB 10 7 9 .lss] u47_8 [0,4,5,6]
abbrev u47_11:IC:=qF [oM 21 5,oM 22 21,gM 23 6 22,gK 24 23 22 .eql 0,gM 25 24 22,hM 26 0 25,hM 27 6 25,hK 28 27 25 .sub 1,oR 29 (.iad 2 (.t 26) (.t 28)) 25,hF 30 29 1 25,hL 31 30 25,hM 32 0 25,hM 33 6 25,oR 34 (.iad 2 (.t 32) (.t 33)) 25,hF 35 34 1 25,hL 36 35 25,oR 37 (.bin .geq (.t 31) (.t 36)) 25,oG 38 (.pick (.t 25) (.k (.bool true)) (.t 37)) 22,oJ 39 22 38,oM 5 39] 524288 20 [0,4,5,6]
abbrev u47_10:IC:=qS [oM 13 4,oM 14 13,gM 15 0 14,gM 16 6 14,oG 17 (.iad 2 (.t 15) (.t 16)) 14,oG 18 (.ld 2 true (.t 17)) 14,⟨some 19,.call 74 [.t 18],some (14,true)⟩,oJ 20 14 19,oM 4 20] u47_11 [0,4,5,6]
abbrev u47_12:IC:=qE [oM 11 6,oK 12 11 .add 1,oM 6 12] [0,4,5,6]
abbrev u47_9:IC:=qB u47_10 u47_12 1 [0,4,5,6]
abbrev u47_6:IC:=qQ u47_7 u47_9 [0,4,5,6]
abbrev u47_5:IC:=qJ (.loop u47_6) 0 [0,4,5,6]
abbrev u47_4:IC:=qS [oI 6 0] u47_5 [0,4,5]
abbrev u47_13:IC:=qS [oM 40 4,oM 41 5,oM 2 40,oM 3 41] .ret [4,5]
abbrev u47_3:IC:=qQ u47_4 u47_13 [0,4,5]
abbrev u47_2:IC:=qS [oV 4 (.bool true),oV 5 (.bool true)] u47_3 [0]
abbrev u47_1:IC:=qS [oV 2 (.bool false),oV 3 (.bool false)] u47_2 [0]
def u47:IFn:=⟨42,u47_1,[.tmp 2,.tmp 3]⟩
end
theorem isU47:IsFn Tryz.prog 47 u47:=by unfold IsFn;kernel_rfl
section
abbrev u35_5:IC:=qS [oI 2 9] .ret []
abbrev u35_4:IC:=qK u35_5 .skip (.t 22) [1,22]
abbrev u35_3:IC:=qS [oF 7 1 0,oL 8 7,oH 9 8,oK 10 9 .gtr 32,oM 11 10,hF 12 1 1 11,hL 13 12 11,⟨some 14,.call 46 [.t 13,.k (.int .i64 0),.k (.int .i64 32)],some (11,false)⟩,oR 15 (.un .not (.t 14)) 11,oO 16 11 15,oM 17 16,hF 18 1 2 17,hL 19 18 17,oR 20 (.len (.t 19)) 17,hK 21 20 17 .gtr 8,oO 22 17 21] u35_4 [1]
abbrev u35_11:IC:=qK .skip (.exit 0) (.t 27) [1,3,27]
abbrev u35_10:IC:=qS [oM 23 3,oF 24 1 0,oL 25 24,oH 26 25,oB 27 23 26 .lss] u35_11 [1,3]
abbrev u35_16:IC:=qS [oI 2 5] .ret []
abbrev u35_15:IC:=qK u35_16 .skip (.t 64) [1,3,64]
abbrev u35_14:IC:=qS [oF 35 4 0,oL 36 35,oC 37 46 [.t 36,.k (.int .i64 (-1000000000)),.k (.int .i64 1000000000)],oY 38 37,oM 39 38,hF 40 4 1 39,hL 41 40 39,⟨some 42,.call 46 [.t 41,.k (.int .i64 (-1000000000)),.k (.int .i64 1000000000)],some (39,false)⟩,oR 43 (.un .not (.t 42)) 39,oO 44 39 43,oM 45 44,hF 46 4 0 45,hL 47 46 45,hF 48 4 1 45,hL 49 48 45,oR 50 (.bin .gtr (.t 47) (.t 49)) 45,oO 51 45 50,oM 52 51,hF 53 4 2 52,hL 54 53 52,⟨some 55,.call 46 [.t 54,.k (.int .i64 1),.k (.int .i64 1000000000)],some (52,false)⟩,oR 56 (.un .not (.t 55)) 52,oO 57 52 56,oM 58 57,oR 59 (.ld 4 true (.t 4)) 58,hF 60 4 3 58,hL 61 60 58,⟨some 62,.call 45 [.t 59,.t 61],some (58,false)⟩,oR 63 (.un .not (.t 62)) 58,oO 64 58 63] u35_15 [1,3,4]
abbrev u35_13:IC:=qS [oF 30 1 0,oL 31 30,oM 32 3,oA 33 31 32 4,oD 34 33 4,oW 4 (.agg #[.int .i64 0,.int .i64 0,.int .i64 0,.int .i64 0]),oS 4 34 4] u35_14 [1,3]
abbrev u35_17:IC:=qE [oM 28 3,oK 29 28 .add 1,oM 3 29] [1,3]
abbrev u35_12:IC:=qB u35_13 u35_17 1 [1,3]
abbrev u35_9:IC:=qQ u35_10 u35_12 [1,3]
abbrev u35_8:IC:=qJ (.loop u35_9) 0 [1,3]
abbrev u35_7:IC:=qS [oI 3 0] u35_8 [1]
abbrev u35_22:IC:=qS [oI 2 6] .ret []
abbrev u35_25:IC:=qS [oI 2 66] .ret []
abbrev u35_24:IC:=qK u35_25 .skip (.t 74) [74]
abbrev u35_23:IC:=qS [oM 75 6,oY 76 75,oM 74 76] u35_24 [6]
abbrev u35_21:IC:=qK u35_22 u35_23 (.t 71) [6,71]
abbrev u35_20:IC:=qS [oM 72 5,oY 73 72,oM 71 73] u35_21 [5,6]
abbrev u35_26:IC:=qS [oI 2 0] .ret []
abbrev u35_19:IC:=qB u35_20 u35_26 2 [5,6]
abbrev u35_18:IC:=qS [oF 66 1 2,oL 67 66,oC 68 47 [.t 67],oM 65 68,oE 69 65 0,oE 70 65 1,oM 5 69,oM 6 70] u35_19 [1]
abbrev u35_6:IC:=qQ u35_7 u35_18 [1]
abbrev u35_2:IC:=qQ u35_3 u35_6 [1]
abbrev u35_1:IC:=qS [oX 1 0,oI 2 0] u35_2 [0]
def u35:IFn:=⟨77,u35_1,[.tmp 2]⟩
end
theorem isU35:IsFn Tryz.prog 35 u35:=by unfold IsFn;kernel_rfl
section
abbrev u29_6:IC:=qS [oP 11 (.bld #[.slice none 0 0,.slice none 0 0,.slice none 0 0] [(0,1),(1,1),(2,1)] []),oM 12 4,oS 2 11 3,oM 3 12] .ret [2,4]
abbrev u29_5:IC:=qK u29_6 .skip (.t 10) [1,2,4,10]
abbrev u29_4:IC:=qS [oM 9 4,oK 10 9 .neq 0] u29_5 [1,2,4]
abbrev u29_3:IC:=qS [oD 7 1 3,oC 8 35 [.t 7],oM 4 8] u29_4 [1,2]
abbrev u29_13:IC:=qK .skip (.exit 0) (.t 24) [1,2,5,6,24]
abbrev u29_12:IC:=qS [oM 20 6,oF 21 1 0,oL 22 21,oH 23 22,oB 24 20 23 .lss] u29_13 [1,2,5,6]
abbrev u29_15:IC:=qG [oF 27 5 0,oL 28 27,oF 29 1 0,oL 30 29,oM 31 6,oA 32 30 31 4,oF 33 32 3,oL 34 33,⟨some 35,.new (.bsl 1 1 #[.int .i64 0] [(0,.t 34)]),none⟩,oT 36 28 35 1 8,oF 37 5 0,oS 37 36 1] [(0,none),(1,none),(2,none),(3,none),(4,none),(5,none),(6,none),(7,none),(8,none),(9,some []),(10,none),(11,some [])] 12 [1,2,5,6]
abbrev u29_16:IC:=qE [oM 25 6,oK 26 25 .add 1,oM 6 26] [1,2,5,6]
abbrev u29_14:IC:=qB u29_15 u29_16 1 [1,2,5,6]
abbrev u29_11:IC:=qQ u29_12 u29_14 [1,2,5,6]
abbrev u29_10:IC:=qJ (.loop u29_11) 0 [1,2,5,6]
abbrev u29_9:IC:=qS [oI 6 0] u29_10 [1,2,5]
abbrev u29_17:IC:=qS [oD 38 5 3,oS 2 38 3,oI 3 0] .ret [2,5]
abbrev u29_8:IC:=qQ u29_9 u29_17 [1,2,5]
abbrev u29_7:IC:=qD [oF 13 1 1,oL 14 13,⟨some 15,.new (.msl 1 8 #[.int .i64 0] (.t 14) (.t 14)),none⟩,oF 16 1 2,oL 17 16,⟨some 18,.eff (.app 2 24 (.k (.slice none 0 0)) (.t 17)),none⟩,oP 19 (.bld #[.slice none 0 0,.slice none 0 0,.slice none 0 0] [(0,1),(1,1),(2,1)] [(1,.t 15),(2,.t 18)]),oW 5 (.agg #[.slice none 0 0,.slice none 0 0,.slice none 0 0]),oS 5 19 3] u29_8 [(0,none),(1,none),(2,none),(3,none),(4,none),(7,none),(5,some [0,1,2,7]),(6,none),(8,some [])] 9 [1,2]
abbrev u29_2:IC:=qQ u29_3 u29_7 [1,2]
abbrev u29_1:IC:=qS [oX 1 0,oW 2 (.agg #[.slice none 0 0,.slice none 0 0,.slice none 0 0]),oI 3 0] u29_2 [0]
def u29:IFn:=⟨39,u29_1,[.cell 2 3 true,.tmp 3]⟩
end
theorem isU29:IsFn Tryz.prog 29 u29:=by unfold IsFn;kernel_rfl
section
abbrev u16_5:IC:=qS [oV 4 (.bool false)] .ret []
abbrev u16_4:IC:=qK u16_5 .skip (.t 37) [2,3,37]
abbrev u16_3:IC:=qS [oD 9 2 3,oC 10 35 [.t 9],oK 11 10 .neq 0,oM 12 11,hF 13 3 0 12,hL 14 13 12,oR 15 (.len (.t 14)) 12,hF 16 2 0 12,hL 17 16 12,oR 18 (.len (.t 17)) 12,oR 19 (.bin .neq (.t 15) (.t 18)) 12,oO 20 12 19,oM 21 20,hF 22 3 1 21,hL 23 22 21,oR 24 (.len (.t 23)) 21,hF 25 2 1 21,hL 26 25 21,oR 27 (.bin .neq (.t 24) (.t 26)) 21,oO 28 21 27,oM 29 28,hF 30 3 2 29,hL 31 30 29,oR 32 (.len (.t 31)) 29,hF 33 2 2 29,hL 34 33 29,oR 35 (.len (.t 34)) 29,oR 36 (.bin .neq (.t 32) (.t 35)) 29,oO 37 29 36] u16_4 [2,3]
abbrev u16_11:IC:=qK .skip (.exit 0) (.t 42) [2,3,5,42]
abbrev u16_10:IC:=qS [oM 38 5,oF 39 3 0,oL 40 39,oH 41 40,oB 42 38 41 .lss] u16_11 [2,3,5]
abbrev u16_15:IC:=qS [oV 4 (.bool false)] .ret []
abbrev u16_14:IC:=qK u16_15 .skip (.t 56) [2,3,5,56]
abbrev u16_13:IC:=qP [oF 45 2 0,oL 46 45,oM 47 5,oA 48 46 47 4,oD 49 48 4,oF 50 3 0,oL 51 50,oM 52 5,oA 53 51 52 1,oL 54 53,oC 55 45 [.t 49,.t 54],oY 56 55] u16_14 0 12 [2,3,5]
abbrev u16_16:IC:=qE [oM 43 5,oK 44 43 .add 1,oM 5 44] [2,3,5]
abbrev u16_12:IC:=qB u16_13 u16_16 1 [2,3,5]
abbrev u16_9:IC:=qQ u16_10 u16_12 [2,3,5]
abbrev u16_8:IC:=qJ (.loop u16_9) 0 [2,3,5]
abbrev u16_7:IC:=qS [oI 5 0] u16_8 [2,3]
abbrev u16_22:IC:=qK .skip (.exit 2) (.t 61) [3,6,61]
abbrev u16_21:IC:=qS [oM 57 6,oF 58 3 1,oL 59 58,oH 60 59,oB 61 57 60 .lss] u16_22 [3,6]
abbrev u16_26:IC:=qS [oV 4 (.bool false)] .ret []
abbrev u16_25:IC:=qK u16_26 .skip (.t 70) [3,6,70]
abbrev u16_24:IC:=qS [oF 64 3 1,oL 65 64,oM 66 6,oA 67 65 66 1,oL 68 67,oC 69 46 [.t 68,.k (.int .i64 0),.k (.int .i64 999999999)],oY 70 69] u16_25 [3,6]
abbrev u16_27:IC:=qE [oM 62 6,oK 63 62 .add 1,oM 6 63] [3,6]
abbrev u16_23:IC:=qB u16_24 u16_27 3 [3,6]
abbrev u16_20:IC:=qQ u16_21 u16_23 [3,6]
abbrev u16_19:IC:=qJ (.loop u16_20) 2 [3,6]
abbrev u16_18:IC:=qS [oI 6 0] u16_19 [3]
abbrev u16_29:IC:=qS [oM 77 7,oM 78 77,gM 79 8 78,oJ 80 78 79,oM 4 80] .ret [7,8]
abbrev u16_28:IC:=qS [oF 72 3 2,oL 73 72,oC 74 47 [.t 73],oM 71 74,oE 75 71 0,oE 76 71 1,oM 7 75,oM 8 76] u16_29 [3]
abbrev u16_17:IC:=qQ u16_18 u16_28 [3]
abbrev u16_6:IC:=qQ u16_7 u16_17 [2,3]
abbrev u16_2:IC:=qQ u16_3 u16_6 [2,3]
abbrev u16_1:IC:=qS [oX 2 0,oX 3 1,oV 4 (.bool false)] u16_2 [0,1]
def u16:IFn:=⟨81,u16_1,[.tmp 4]⟩
end
theorem isU16:IsFn Tryz.prog 16 u16:=by unfold IsFn;kernel_rfl
section
abbrev u65_4:IC:=qS [oM 14 7,oM 6 14] .ret [7]
abbrev u65_3:IC:=qS [oM 10 7,oM 11 1,oM 12 2,oA 13 10 11 1,oS 13 12 1] u65_4 [1,2,7]
abbrev u65_2:IC:=qS [oM 8 0,⟨some 9,.eff (.app 1 8 (.k (.slice none 0 0)) (.t 8)),none⟩,oM 7 9] u65_3 [0,1,2]
abbrev u65_1:IC:=qS [oV 6 (.slice none 0 0)] u65_2 [0,1,2]
def u65:IFn:=⟨15,u65_1,[.tmp 6]⟩
end
theorem isU65:IsFn Tryz.prog 65 u65:=by unfold IsFn;kernel_rfl
section
abbrev u31_5:IC:=qS [oP 15 (.bld #[.slice none 0 0,.slice none 0 0,.slice none 0 0] [(0,1),(1,1),(2,1)] []),oS 8 15 3,oI 9 1] .ret [8]
abbrev u31_8:IC:=qS [oP 24 (.bld #[.slice none 0 0,.slice none 0 0,.slice none 0 0] [(0,1),(1,1),(2,1)] []),oS 8 24 3,oI 9 8] .ret [8]
abbrev u31_11:IC:=qS [oP 39 (.bld #[.slice none 0 0,.slice none 0 0,.slice none 0 0] [(0,1),(1,1),(2,1)] []),oS 8 39 3,oI 9 5] .ret [8]
abbrev u31_10:IC:=qK u31_11 .skip (.t 25) [2,3,5,8,25]
abbrev u31_9:IC:=qS [oM 26 3,oC 27 46 [.t 26,.k (.int .i64 (-1000000000)),.k (.int .i64 1000000000)],oY 28 27,oM 29 28,hF 30 4 0 29,hL 31 30 29,hM 32 2 29,oR 33 (.iad 4 (.t 31) (.t 32)) 29,oR 34 (.ld 4 true (.t 33)) 29,hM 35 3 29,⟨some 36,.call 45 [.t 34,.t 35],some (29,false)⟩,oR 37 (.un .not (.t 36)) 29,oO 38 29 37,oM 25 38] u31_10 [2,3,4,5,8]
abbrev u31_7:IC:=qK u31_8 u31_9 (.t 16) [2,3,4,5,8,16]
abbrev u31_6:IC:=qS [oM 17 2,oF 18 4 0,oL 19 18,oH 20 19,oK 21 20 .sub 1,oC 22 46 [.t 17,.k (.int .i64 0),.t 21],oY 23 22,oM 16 23] u31_7 [2,3,4,5,8]
abbrev u31_4:IC:=qK u31_5 u31_6 (.t 10) [2,3,4,5,8,10]
abbrev u31_3:IC:=qS [oD 11 4 3,oD 12 5 3,oC 13 16 [.t 11,.t 12],oY 14 13,oM 10 14] u31_4 [2,3,4,5,8]
abbrev u31_13:IC:=qS [oD 46 5 3,oS 8 46 3,oI 9 0] .ret [5,8]
abbrev u31_12:IC:=qS [oF 40 5 0,oL 41 40,oM 42 2,oM 43 3,oC 44 65 [.t 41,.t 42,.t 43],oF 45 5 0,oS 45 44 1] u31_13 [2,3,5,8]
abbrev u31_2:IC:=qB u31_3 u31_12 0 [2,3,4,5,8]
abbrev u31_1:IC:=qS [oX 4 0,oX 5 1,oW 8 (.agg #[.slice none 0 0,.slice none 0 0,.slice none 0 0]),oI 9 0] u31_2 [0,1,2,3]
def u31:IFn:=⟨47,u31_1,[.cell 8 3 true,.tmp 9]⟩
end
theorem isU31:IsFn Tryz.prog 31 u31:=by unfold IsFn;kernel_rfl
section
abbrev u32_5:IC:=qS [oP 18 (.bld #[.slice none 0 0,.slice none 0 0,.slice none 0 0] [(0,1),(1,1),(2,1)] []),oS 8 18 3,oI 9 1] .ret [8]
abbrev u32_8:IC:=qS [oP 27 (.bld #[.slice none 0 0,.slice none 0 0,.slice none 0 0] [(0,1),(1,1),(2,1)] []),oS 8 27 3,oI 9 8] .ret [8]
abbrev u32_7:IC:=qK u32_8 .skip (.t 19) [2,3,4,5,8,19]
abbrev u32_6:IC:=qS [oM 20 2,oF 21 4 0,oL 22 21,oH 23 22,oK 24 23 .sub 1,oC 25 46 [.t 20,.k (.int .i64 0),.t 24],oY 26 25,oM 19 26] u32_7 [2,3,4,5,8]
abbrev u32_4:IC:=qK u32_5 u32_6 (.t 13) [2,3,4,5,8,13]
abbrev u32_3:IC:=qS [oD 14 4 3,oD 15 5 3,oC 16 16 [.t 14,.t 15],oY 17 16,oM 13 17] u32_4 [2,3,4,5,8]
abbrev u32_15:IC:=qE [oF 60 10 0,oL 61 60,oM 12 61] [2,5,8,10]
abbrev u32_18:IC:=qE [oM 64 12,oF 65 10 2,oL 66 65,oB 67 64 66 .add,oM 12 67] [2,5,8,10,12]
abbrev u32_21:IC:=qE [oM 73 11,oM 12 73] [2,5,8,11]
abbrev u32_22:IC:=qE [oM 49 12,oF 50 10 2,oL 51 50,oB 52 49 51 .sub,oM 12 52] [2,5,8,10,12]
abbrev u32_20:IC:=qK u32_21 u32_22 (.t 68) [2,5,8,10,11,12,68]
abbrev u32_19:IC:=qS [oM 69 12,oF 70 10 0,oL 71 70,oB 72 69 71 .eql,oM 68 72] u32_20 [2,5,8,10,11,12]
abbrev u32_17:IC:=qK u32_18 u32_19 (.t 62) [2,5,8,10,11,12,62]
abbrev u32_16:IC:=qS [oM 63 3,oM 62 63] u32_17 [2,3,5,8,10,11,12]
abbrev u32_14:IC:=qK u32_15 u32_16 (.t 53) [2,3,5,8,10,11,12,53]
abbrev u32_13:IC:=qS [oM 54 3,oM 55 54,gM 56 12 55,gM 57 11 55,oG 58 (.bin .eql (.t 56) (.t 57)) 55,oJ 59 55 58,oM 53 59] u32_14 [2,3,5,8,10,11,12]
abbrev u32_24:IC:=qS [oD 80 5 3,oS 8 80 3,oI 9 0] .ret [5,8]
abbrev u32_23:IC:=qS [oF 74 5 0,oL 75 74,oM 76 2,oM 77 12,oC 78 65 [.t 75,.t 76,.t 77],oF 79 5 0,oS 79 78 1] u32_24 [2,5,8,12]
abbrev u32_12:IC:=qB u32_13 u32_23 1 [2,3,5,8,10,11,12]
abbrev u32_11:IC:=qS [oF 44 5 0,oL 45 44,oM 46 2,oA 47 45 46 1,oL 48 47,oM 12 48] u32_12 [2,3,5,8,10,11]
abbrev u32_10:IC:=qP [oF 33 10 1,oL 34 33,oF 35 10 1,oL 36 35,oF 37 10 0,oL 38 37,oB 39 36 38 .sub,oF 40 10 2,oL 41 40,oB 42 39 41 .rem,oB 43 34 42 .sub,oM 11 43] u32_11 2048 12 [2,3,5,8,10]
abbrev u32_9:IC:=qS [oF 28 4 0,oL 29 28,oM 30 2,oA 31 29 30 4,oD 32 31 4,oW 10 (.agg #[.int .i64 0,.int .i64 0,.int .i64 0,.int .i64 0]),oS 10 32 4] u32_10 [2,3,4,5,8]
abbrev u32_2:IC:=qB u32_3 u32_9 0 [2,3,4,5,8]
abbrev u32_1:IC:=qS [oX 4 0,oX 5 1,oW 8 (.agg #[.slice none 0 0,.slice none 0 0,.slice none 0 0]),oI 9 0] u32_2 [0,1,2,3]
def u32:IFn:=⟨81,u32_1,[.cell 8 3 true,.tmp 9]⟩
end
theorem isU32:IsFn Tryz.prog 32 u32:=by unfold IsFn;kernel_rfl
section
abbrev u39_5:IC:=qS [oP 15 (.bld #[.slice none 0 0,.slice none 0 0,.slice none 0 0] [(0,1),(1,1),(2,1)] []),oS 8 15 3,oI 9 1] .ret [8]
abbrev u39_8:IC:=qS [oP 23 (.bld #[.slice none 0 0,.slice none 0 0,.slice none 0 0] [(0,1),(1,1),(2,1)] []),oS 8 23 3,oI 9 8] .ret [8]
abbrev u39_11:IC:=qS [oP 28 (.bld #[.slice none 0 0,.slice none 0 0,.slice none 0 0] [(0,1),(1,1),(2,1)] []),oS 8 28 3,oI 9 5] .ret [8]
abbrev u39_10:IC:=qK u39_11 .skip (.t 24) [2,3,5,8,24]
abbrev u39_9:IC:=qS [oM 25 3,oC 26 46 [.t 25,.k (.int .i64 0),.k (.int .i64 999999999)],oY 27 26,oM 24 27] u39_10 [2,3,5,8]
abbrev u39_7:IC:=qK u39_8 u39_9 (.t 16) [2,3,5,8,16]
abbrev u39_6:IC:=qS [oM 17 2,oF 18 4 1,oL 19 18,oK 20 19 .sub 1,oC 21 46 [.t 17,.k (.int .i64 0),.t 20],oY 22 21,oM 16 22] u39_7 [2,3,4,5,8]
abbrev u39_4:IC:=qK u39_5 u39_6 (.t 10) [2,3,4,5,8,10]
abbrev u39_3:IC:=qS [oD 11 4 3,oD 12 5 3,oC 13 16 [.t 11,.t 12],oY 14 13,oM 10 14] u39_4 [2,3,4,5,8]
abbrev u39_13:IC:=qS [oD 42 5 3,oS 8 42 3,oI 9 0] .ret [5,8]
abbrev u39_12:IC:=qP [oF 29 5 1,oL 30 29,oM 31 2,oF 32 5 1,oL 33 32,oM 34 2,oA 35 33 34 1,oL 36 35,oM 37 3,oB 38 36 37 .add,oP 39 (.mn (.t 38) (.k (.int .i64 999999999))),oC 40 65 [.t 30,.t 31,.t 39],oF 41 5 1,oS 41 40 1] u39_13 0 14 [2,3,5,8]
abbrev u39_2:IC:=qB u39_3 u39_12 0 [2,3,4,5,8]
abbrev u39_1:IC:=qS [oX 4 0,oX 5 1,oW 8 (.agg #[.slice none 0 0,.slice none 0 0,.slice none 0 0]),oI 9 0] u39_2 [0,1,2,3]
def u39:IFn:=⟨43,u39_1,[.cell 8 3 true,.tmp 9]⟩
end
theorem isU39:IsFn Tryz.prog 39 u39:=by unfold IsFn;kernel_rfl
section
abbrev u42_5:IC:=qS [oP 16 (.bld #[.slice none 0 0,.slice none 0 0,.slice none 0 0] [(0,1),(1,1),(2,1)] []),oS 6 16 3,oI 7 0,oI 8 1] .ret [6]
abbrev u42_8:IC:=qS [oP 21 (.bld #[.slice none 0 0,.slice none 0 0,.slice none 0 0] [(0,1),(1,1),(2,1)] []),oS 6 21 3,oI 7 0,oI 8 6] .ret [6]
abbrev u42_7:IC:=qK u42_8 .skip (.t 17) [4,5,6,17]
abbrev u42_6:IC:=qS [oD 18 5 2,oC 19 74 [.t 18],oY 20 19,oM 17 20] u42_7 [4,5,6]
abbrev u42_4:IC:=qK u42_5 u42_6 (.t 11) [4,5,6,11]
abbrev u42_3:IC:=qS [oD 12 3 3,oD 13 4 3,oC 14 16 [.t 12,.t 13],oY 15 14,oM 11 15] u42_4 [3,4,5,6]
abbrev u42_13:IC:=qK .skip (.exit 1) (.t 37) [4,5,6,9,37]
abbrev u42_12:IC:=qP [oM 22 9,oF 23 4 2,oL 24 23,oH 25 24,oB 26 22 25 .lss,oM 27 26,gF 28 4 2 27,gL 29 28 27,gM 30 9 27,oG 31 (.iad 2 (.t 29) (.t 30)) 27,gF 32 31 1 27,gL 33 32 27,gF 34 5 1 27,gL 35 34 27,oG 36 (.bin .geq (.t 33) (.t 35)) 27,oJ 37 27 36] u42_13 0 16 [4,5,6,9]
abbrev u42_15:IC:=qE [oM 38 9,oK 39 38 .add 1,oM 9 39] [4,5,6,9]
abbrev u42_14:IC:=qJ u42_15 2 [4,5,6,9]
abbrev u42_11:IC:=qQ u42_12 u42_14 [4,5,6,9]
abbrev u42_19:IC:=qS [oD 45 4 3,oS 6 45 3,oI 7 (-1),oI 8 0] .ret [4,6]
abbrev u42_18:IC:=qK u42_19 .skip (.t 44) [4,5,6,9,44]
abbrev u42_17:IC:=qS [oM 40 9,oF 41 4 2,oL 42 41,oH 43 42,oB 44 40 43 .eql] u42_18 [4,5,6,9]
abbrev u42_23:IC:=qS [oD 66 4 3,oM 67 9,oS 6 66 3,oM 7 67,oI 8 0] .ret [4,6,9]
abbrev u42_22:IC:=qS [oM 55 10,oF 56 4 2,oL 57 56,oM 58 9,oF 59 4 2,oL 60 59,oH 61 60,oK 62 61 .sub 1,oP 63 (.slc 2 (.t 57) (some (.t 58)) (some (.t 62))),oT 64 55 63 2 24,oF 65 4 2,oS 65 64 1] u42_23 [4,6,9,10]
abbrev u42_21:IC:=qS [oM 51 10,oD 52 5 2,⟨some 53,.new (.bsl 2 1 #[.string ⟨#[]⟩,.int .i64 0] [(0,.t 52)]),none⟩,oT 54 51 53 2 24,oM 10 54] u42_22 [4,5,6,9,10]
abbrev u42_20:IC:=qS [oF 46 4 2,oL 47 46,oM 48 9,oP 49 (.slc 2 (.t 47) none (some (.t 48))),⟨some 50,.eff (.app 2 24 (.k (.slice none 0 0)) (.t 49)),none⟩,oM 10 50] u42_21 [4,5,6,9]
abbrev u42_16:IC:=qQ u42_17 u42_20 [4,5,6,9]
abbrev u42_10:IC:=qB (.loop u42_11) u42_16 1 [4,5,6,9]
abbrev u42_9:IC:=qS [oI 9 0] u42_10 [4,5,6]
abbrev u42_2:IC:=qB u42_3 u42_9 0 [3,4,5,6]
abbrev u42_1:IC:=qS [oX 3 0,oX 4 1,oX 5 2,oW 6 (.agg #[.slice none 0 0,.slice none 0 0,.slice none 0 0]),oI 7 0,oI 8 0] u42_2 [0,1,2]
def u42:IFn:=⟨68,u42_1,[.cell 6 3 true,.tmp 7,.tmp 8]⟩
end
theorem isU42:IsFn Tryz.prog 42 u42:=by unfold IsFn;kernel_rfl
section
abbrev u41_5:IC:=qS [oP 14 (.bld #[.slice none 0 0,.slice none 0 0,.slice none 0 0] [(0,1),(1,1),(2,1)] []),oS 6 14 3,oI 7 1] .ret [6]
abbrev u41_4:IC:=qK u41_5 .skip (.t 13) [2,3,4,6,13]
abbrev u41_3:IC:=qS [oD 10 3 3,oD 11 4 3,oC 12 16 [.t 10,.t 11],oY 13 12] u41_4 [2,3,4,6]
abbrev u41_12:IC:=qE [oF 24 8 0,oL 25 24,oF 26 4 0,oS 26 25 1] [4,6,8]
abbrev u41_15:IC:=qE [oF 29 8 1,oL 30 29,oF 31 4 1,oS 31 30 1] [4,6,8]
abbrev u41_18:IC:=qE [oF 34 8 2,oL 35 34,oF 36 4 2,oS 36 35 1] [4,6,8]
abbrev u41_19:IC:=qS [oP 21 (.bld #[.slice none 0 0,.slice none 0 0,.slice none 0 0] [(0,1),(1,1),(2,1)] []),oS 6 21 3,oI 7 44] .ret [6]
abbrev u41_17:IC:=qK u41_18 u41_19 (.t 32) [4,6,8,32]
abbrev u41_16:IC:=qS [oK 33 20 .eql 3,oM 32 33] u41_17 [4,6,8,20]
abbrev u41_14:IC:=qK u41_15 u41_16 (.t 27) [4,6,8,20,27]
abbrev u41_13:IC:=qS [oK 28 20 .eql 2,oM 27 28] u41_14 [4,6,8,20]
abbrev u41_11:IC:=qK u41_12 u41_13 (.t 22) [4,6,8,20,22]
abbrev u41_10:IC:=qS [oK 23 20 .eql 1,oM 22 23] u41_11 [4,6,8,20]
abbrev u41_9:IC:=qJ u41_10 0 [4,6,8,20]
abbrev u41_8:IC:=qS [oM 20 2] u41_9 [2,4,6,8]
abbrev u41_20:IC:=qS [oD 37 4 3,oS 6 37 3,oI 7 0] .ret [4,6]
abbrev u41_7:IC:=qQ u41_8 u41_20 [2,4,6,8]
abbrev u41_6:IC:=qS [oD 16 3 3,oC 17 29 [.t 16],oM 15 17,oE 18 15 0,oE 19 15 1,oW 8 (.agg #[.slice none 0 0,.slice none 0 0,.slice none 0 0]),oS 8 18 3,oM 9 19] u41_7 [2,3,4,6]
abbrev u41_2:IC:=qQ u41_3 u41_6 [2,3,4,6]
abbrev u41_1:IC:=qS [oX 3 0,oX 4 1,oW 6 (.agg #[.slice none 0 0,.slice none 0 0,.slice none 0 0]),oI 7 0] u41_2 [0,1,2]
def u41:IFn:=⟨38,u41_1,[.cell 6 3 true,.tmp 7]⟩
end
theorem isU41:IsFn Tryz.prog 41 u41:=by unfold IsFn;kernel_rfl
section
abbrev u20_5:IC:=qS [oV 4 (.string ⟨#[]⟩),oI 5 1] .ret []
abbrev u20_4:IC:=qK u20_5 .skip (.t 13) [3,13]
abbrev u20_3:IC:=qS [oD 10 2 3,oD 11 3 3,oC 12 16 [.t 10,.t 11],oY 13 12] u20_4 [2,3]
abbrev u20_12:IC:=qK .skip (.exit 0) (.t 18) [3,6,7,18]
abbrev u20_11:IC:=qS [oM 14 7,oF 15 3 0,oL 16 15,oH 17 16,oB 18 14 17 .lss] u20_12 [3,6,7]
abbrev u20_14:IC:=qE [oM 21 6,oF 22 3 0,oL 23 22,oM 24 7,oA 25 23 24 1,oL 26 25,oC 27 53 [.t 26],oB 28 21 27 .add,oP 29 (.bin .add (.t 28) (.k (.string ⟨#[10]⟩))),oM 6 29] [3,6,7]
abbrev u20_15:IC:=qE [oM 19 7,oK 20 19 .add 1,oM 7 20] [3,6,7]
abbrev u20_13:IC:=qB u20_14 u20_15 1 [3,6,7]
abbrev u20_10:IC:=qQ u20_11 u20_13 [3,6,7]
abbrev u20_9:IC:=qJ (.loop u20_10) 0 [3,6,7]
abbrev u20_8:IC:=qS [oI 7 0] u20_9 [3,6]
abbrev u20_21:IC:=qK .skip (.exit 2) (.t 34) [3,6,8,34]
abbrev u20_20:IC:=qS [oM 30 8,oF 31 3 1,oL 32 31,oH 33 32,oB 34 30 33 .lss] u20_21 [3,6,8]
abbrev u20_23:IC:=qE [oM 37 6,oF 38 3 1,oL 39 38,oM 40 8,oA 41 39 40 1,oL 42 41,oC 43 53 [.t 42],oB 44 37 43 .add,oP 45 (.bin .add (.t 44) (.k (.string ⟨#[10]⟩))),oM 6 45] [3,6,8]
abbrev u20_24:IC:=qE [oM 35 8,oK 36 35 .add 1,oM 8 36] [3,6,8]
abbrev u20_22:IC:=qB u20_23 u20_24 3 [3,6,8]
abbrev u20_19:IC:=qQ u20_20 u20_22 [3,6,8]
abbrev u20_18:IC:=qJ (.loop u20_19) 2 [3,6,8]
abbrev u20_17:IC:=qS [oI 8 0] u20_18 [3,6]
abbrev u20_30:IC:=qK .skip (.exit 4) (.t 50) [3,6,9,50]
abbrev u20_29:IC:=qS [oM 46 9,oF 47 3 2,oL 48 47,oH 49 48,oB 50 46 49 .lss] u20_30 [3,6,9]
abbrev u20_32:IC:=qG [oM 53 6,oF 54 3 2,oL 55 54,oM 56 9,oA 57 55 56 2,oF 58 57 0,oL 59 58,oB 60 53 59 .add,oP 61 (.bin .add (.t 60) (.k (.string ⟨#[10]⟩))),oF 62 3 2,oL 63 62,oM 64 9,oA 65 63 64 2,oF 66 65 1,oL 67 66,oC 68 53 [.t 67],oB 69 61 68 .add,oP 70 (.bin .add (.t 69) (.k (.string ⟨#[10]⟩))),oM 6 70] [(0,none),(1,none),(2,none),(3,none),(4,none),(5,none),(6,none),(7,none),(8,none),(9,none),(10,none),(11,none),(12,none),(13,none),(14,none),(15,some [0,1,2,3,4,5,6,7,8]),(16,none),(17,none),(18,some [])] 19 [3,6,9]
abbrev u20_33:IC:=qE [oM 51 9,oK 52 51 .add 1,oM 9 52] [3,6,9]
abbrev u20_31:IC:=qB u20_32 u20_33 5 [3,6,9]
abbrev u20_28:IC:=qQ u20_29 u20_31 [3,6,9]
abbrev u20_27:IC:=qJ (.loop u20_28) 4 [3,6,9]
abbrev u20_26:IC:=qS [oI 9 0] u20_27 [3,6]
abbrev u20_34:IC:=qS [oM 71 6,oM 4 71,oI 5 0] .ret [6]
abbrev u20_25:IC:=qQ u20_26 u20_34 [3,6]
abbrev u20_16:IC:=qQ u20_17 u20_25 [3,6]
abbrev u20_7:IC:=qQ u20_8 u20_16 [3,6]
abbrev u20_6:IC:=qS [oV 6 (.string ⟨#[]⟩)] u20_7 [3]
abbrev u20_2:IC:=qQ u20_3 u20_6 [2,3]
abbrev u20_1:IC:=qS [oX 2 0,oX 3 1,oV 4 (.string ⟨#[]⟩),oI 5 0] u20_2 [0,1]
def u20:IFn:=⟨72,u20_1,[.tmp 4,.tmp 5]⟩
end
theorem isU20:IsFn Tryz.prog 20 u20:=by unfold IsFn;kernel_rfl
section
abbrev u56_9:IC:=qK .skip (.exit 0) (.t 10) [0,4,5,6,10]
abbrev u56_8:IC:=qS [oM 7 6,oM 8 0,oP 9 (.lens (.t 8)),oB 10 7 9 .lss] u56_9 [0,4,5,6]
abbrev u56_14:IC:=qE [oM 24 6,oK 25 24 .add 1,oM 5 25] [0,4,6]
abbrev u56_13:IC:=qS [oM 17 4,oM 18 0,oM 19 5,oM 20 6,oP 21 (.sls (.t 18) (some (.t 19)) (some (.t 20))),⟨some 22,.new (.bsl 1 1 #[.string ⟨#[]⟩] [(0,.t 21)]),none⟩,oT 23 17 22 1 16,oM 4 23] u56_14 [0,4,5,6]
abbrev u56_12:IC:=qK u56_13 .skip (.t 16) [0,4,5,6,16]
abbrev u56_11:IC:=qS [oM 13 0,oM 14 6,oP 15 (.idx (.t 13) (.t 14)),oP 16 (.bin .eql (.t 15) (.k (.int .u8 10)))] u56_12 [0,4,5,6]
abbrev u56_15:IC:=qE [oM 11 6,oK 12 11 .add 1,oM 6 12] [0,4,5,6]
abbrev u56_10:IC:=qB u56_11 u56_15 1 [0,4,5,6]
abbrev u56_7:IC:=qQ u56_8 u56_10 [0,4,5,6]
abbrev u56_6:IC:=qJ (.loop u56_7) 0 [0,4,5,6]
abbrev u56_5:IC:=qS [oI 6 0] u56_6 [0,4,5]
abbrev u56_16:IC:=qS [oM 26 4,oM 27 5,oM 28 0,oP 29 (.lens (.t 28)),oB 30 27 29 .eql,oM 2 26,oM 3 30] .ret [0,4,5]
abbrev u56_4:IC:=qQ u56_5 u56_16 [0,4,5]
abbrev u56_3:IC:=qS [oI 5 0] u56_4 [0,4]
abbrev u56_2:IC:=qS [oV 4 (.slice none 0 0)] u56_3 [0]
abbrev u56_1:IC:=qS [oV 2 (.slice none 0 0),oV 3 (.bool false)] u56_2 [0]
def u56:IFn:=⟨31,u56_1,[.tmp 2,.tmp 3]⟩
end
theorem isU56:IsFn Tryz.prog 56 u56:=by unfold IsFn;kernel_rfl
section
abbrev u57_7:IC:=qE [oM 18 0,oP 19 (.sls (.t 18) (some (.k (.int .i64 1))) none),oM 5 19] [0,4]
abbrev u57_6:IC:=qK u57_7 .skip (.t 17) [0,4,5,17]
abbrev u57_5:IC:=qS [oM 17 4] u57_6 [0,4,5]
abbrev u57_11:IC:=qS [oI 2 0,oV 3 (.bool false)] .ret []
abbrev u57_10:IC:=qK u57_11 .skip (.t 27) [0,4,5,27]
abbrev u57_9:IC:=qS [oM 20 5,oP 21 (.lens (.t 20)),oK 22 21 .lss 1,oM 23 22,hM 24 5 23,oR 25 (.lens (.t 24)) 23,hK 26 25 23 .gtr 12,oO 27 23 26] u57_10 [0,4,5]
abbrev u57_18:IC:=qK .skip (.exit 0) (.t 31) [0,4,5,6,7,31]
abbrev u57_17:IC:=qS [oM 28 7,oM 29 5,oP 30 (.lens (.t 29)),oB 31 28 30 .lss] u57_18 [0,4,5,6,7]
abbrev u57_23:IC:=qS [oI 2 0,oV 3 (.bool false)] .ret []
abbrev u57_22:IC:=qK u57_23 .skip (.t 43) [0,4,5,6,7,43]
abbrev u57_21:IC:=qS [oM 34 5,oM 35 7,oP 36 (.idx (.t 34) (.t 35)),oP 37 (.bin .lss (.t 36) (.k (.int .u8 48))),oM 38 37,hM 39 5 38,hM 40 7 38,oR 41 (.idx (.t 39) (.t 40)) 38,oR 42 (.bin .gtr (.t 41) (.k (.int .u8 57))) 38,oO 43 38 42] u57_22 [0,4,5,6,7]
abbrev u57_24:IC:=qE [oM 44 6,oP 45 (.bin .mul (.k (.int .i64 10)) (.t 44)),oM 46 5,oM 47 7,oP 48 (.idx (.t 46) (.t 47)),oP 49 (.bin .sub (.t 48) (.k (.int .u8 48))),oP 50 (.cvi .i64 (.t 49)),oB 51 45 50 .add,oM 6 51] [0,4,5,6,7]
abbrev u57_20:IC:=qQ u57_21 u57_24 [0,4,5,6,7]
abbrev u57_25:IC:=qE [oM 32 7,oK 33 32 .add 1,oM 7 33] [0,4,5,6,7]
abbrev u57_19:IC:=qB u57_20 u57_25 1 [0,4,5,6,7]
abbrev u57_16:IC:=qQ u57_17 u57_19 [0,4,5,6,7]
abbrev u57_15:IC:=qJ (.loop u57_16) 0 [0,4,5,6,7]
abbrev u57_14:IC:=qS [oI 7 0] u57_15 [0,4,5,6]
abbrev u57_29:IC:=qE [oM 53 6,oP 54 (.un .neg (.t 53)),oM 6 54] [0,6]
abbrev u57_28:IC:=qK u57_29 .skip (.t 52) [0,6,52]
abbrev u57_27:IC:=qS [oM 52 4] u57_28 [0,4,6]
abbrev u57_30:IC:=qS [oM 55 6,oM 56 6,oC 57 53 [.t 56],oM 58 0,oB 59 57 58 .eql,oM 2 55,oM 3 59] .ret [0,6]
abbrev u57_26:IC:=qQ u57_27 u57_30 [0,4,6]
abbrev u57_13:IC:=qQ u57_14 u57_26 [0,4,5,6]
abbrev u57_12:IC:=qS [oI 6 0] u57_13 [0,4,5]
abbrev u57_8:IC:=qQ u57_9 u57_12 [0,4,5]
abbrev u57_4:IC:=qQ u57_5 u57_8 [0,4,5]
abbrev u57_3:IC:=qS [oM 16 0,oM 5 16] u57_4 [0,4]
abbrev u57_2:IC:=qS [oM 8 0,oP 9 (.lens (.t 8)),oK 10 9 .gtr 0,oM 11 10,gM 12 0 11,oG 13 (.idx (.t 12) (.k (.int .i64 0))) 11,oG 14 (.bin .eql (.t 13) (.k (.int .u8 45))) 11,oJ 15 11 14,oM 4 15] u57_3 [0]
abbrev u57_1:IC:=qS [oI 2 0,oV 3 (.bool false)] u57_2 [0]
def u57:IFn:=⟨60,u57_1,[.tmp 2,.tmp 3]⟩
end
theorem isU57:IsFn Tryz.prog 57 u57:=by unfold IsFn;kernel_rfl
section
abbrev u22_5:IC:=qS [oP 17 (.bld #[.slice none 0 0,.slice none 0 0,.slice none 0 0] [(0,1),(1,1),(2,1)] []),oS 4 17 3,oI 5 1] .ret [4]
abbrev u22_4:IC:=qK u22_5 .skip (.t 16) [1,2,4,16]
abbrev u22_3:IC:=qS [oD 14 2 3,oC 15 35 [.t 14],oK 16 15 .neq 0] u22_4 [1,2,4]
abbrev u22_11:IC:=qS [oP 45 (.bld #[.slice none 0 0,.slice none 0 0,.slice none 0 0] [(0,1),(1,1),(2,1)] []),oS 4 45 3,oI 5 62] .ret [4]
abbrev u22_10:IC:=qK u22_11 .skip (.t 44) [2,4,6,8,9,44]
abbrev u22_9:IC:=qS [oM 32 7,oY 33 32,oM 34 33,hM 35 6 34,oR 36 (.len (.t 35)) 34,hM 37 9 34,hF 38 2 2 34,hL 39 38 34,oR 40 (.len (.t 39)) 34,oR 41 (.bin .mul (.k (.int .i64 2)) (.t 40)) 34,oR 42 (.bin .add (.t 37) (.t 41)) 34,oR 43 (.bin .neq (.t 36) (.t 42)) 34,oO 44 34 43] u22_10 [2,4,6,7,8,9]
abbrev u22_18:IC:=qK .skip (.exit 0) (.t 49) [2,4,6,8,9,10,11,49]
abbrev u22_17:IC:=qS [oM 46 11,oM 47 6,oH 48 47,oB 49 46 48 .lss] u22_18 [2,4,6,8,9,10,11]
abbrev u22_23:IC:=qD [oF 62 10 2,oL 63 62,oM 64 6,oM 65 11,oA 66 64 65 1,oL 67 66,oP 68 (.bld #[.string ⟨#[]⟩,.int .i64 0] [(0,1),(1,1)] [(0,.t 67)]),⟨some 69,.new (.bsl 2 1 #[.string ⟨#[]⟩,.int .i64 0] [(0,.t 68)]),none⟩,oT 70 63 69 2 24,oF 71 10 2,oS 71 70 1] (.exit 1) [(0,none),(1,none),(2,none),(3,none),(4,none),(5,none),(6,none),(7,none),(8,some []),(9,none),(10,some [])] 11 [2,4,6,8,9,10,11]
abbrev u22_22:IC:=qK u22_23 .skip (.t 61) [2,4,6,8,9,10,11,61]
abbrev u22_21:IC:=qS [oM 52 11,oM 53 9,oB 54 52 53 .geq,oM 55 54,gM 56 11 55,gM 57 9 55,oG 58 (.bin .sub (.t 56) (.t 57)) 55,gK 59 58 55 .rem 2,gK 60 59 55 .eql 0,oJ 61 55 60] u22_22 [2,4,6,8,9,10,11]
abbrev u22_28:IC:=qS [oP 92 (.bld #[.slice none 0 0,.slice none 0 0,.slice none 0 0] [(0,1),(1,1),(2,1)] []),oS 4 92 3,oI 5 62] .ret [4]
abbrev u22_31:IC:=qE [oF 97 10 0,oL 98 97,oM 99 12,⟨some 100,.new (.bsl 1 1 #[.int .i64 0] [(0,.t 99)]),none⟩,oT 101 98 100 1 8,oF 102 10 0,oS 102 101 1] [2,4,6,8,9,10,11,12]
abbrev u22_34:IC:=qE [oF 107 10 1,oL 108 107,oM 109 12,⟨some 110,.new (.bsl 1 1 #[.int .i64 0] [(0,.t 109)]),none⟩,oT 111 108 110 1 8,oF 112 10 1,oS 112 111 1] [2,4,6,8,9,10,11,12]
abbrev u22_35:IC:=qE [oF 80 10 2,oL 81 80,oF 82 10 2,oL 83 82,oH 84 83,oK 85 84 .sub 1,oM 86 12,oA 87 81 85 2,oF 88 87 1,oS 88 86 1] [2,4,6,8,9,10,11,12]
abbrev u22_33:IC:=qK u22_34 u22_35 (.t 103) [2,4,6,8,9,10,11,12,103]
abbrev u22_32:IC:=qS [oM 104 11,oM 105 9,oB 106 104 105 .lss,oM 103 106] u22_33 [2,4,6,8,9,10,11,12]
abbrev u22_30:IC:=qK u22_31 u22_32 (.t 93) [2,4,6,8,9,10,11,12,93]
abbrev u22_29:IC:=qS [oM 94 11,oM 95 8,oB 96 94 95 .lss,oM 93 96] u22_30 [2,4,6,8,9,10,11,12]
abbrev u22_27:IC:=qK u22_28 u22_29 (.t 89) [2,4,6,8,9,10,11,12,89]
abbrev u22_26:IC:=qS [oM 90 13,oY 91 90,oM 89 91] u22_27 [2,4,6,8,9,10,11,12,13]
abbrev u22_25:IC:=qJ u22_26 2 [2,4,6,8,9,10,11,12,13]
abbrev u22_24:IC:=qS [oM 73 6,oM 74 11,oA 75 73 74 1,oL 76 75,oC 77 57 [.t 76],oM 72 77,oE 78 72 0,oE 79 72 1,oM 12 78,oM 13 79] u22_25 [2,4,6,8,9,10,11]
abbrev u22_20:IC:=qQ u22_21 u22_24 [2,4,6,8,9,10,11]
abbrev u22_36:IC:=qE [oM 50 11,oK 51 50 .add 1,oM 11 51] [2,4,6,8,9,10,11]
abbrev u22_19:IC:=qB u22_20 u22_36 1 [2,4,6,8,9,10,11]
abbrev u22_16:IC:=qQ u22_17 u22_19 [2,4,6,8,9,10,11]
abbrev u22_15:IC:=qJ (.loop u22_16) 0 [2,4,6,8,9,10,11]
abbrev u22_14:IC:=qS [oI 11 0] u22_15 [2,4,6,8,9,10]
abbrev u22_40:IC:=qS [oP 117 (.bld #[.slice none 0 0,.slice none 0 0,.slice none 0 0] [(0,1),(1,1),(2,1)] []),oS 4 117 3,oI 5 62] .ret [4]
abbrev u22_39:IC:=qK u22_40 .skip (.t 116) [4,10,116]
abbrev u22_38:IC:=qS [oD 113 2 3,oD 114 10 3,oC 115 16 [.t 113,.t 114],oY 116 115] u22_39 [2,4,10]
abbrev u22_41:IC:=qS [oD 118 10 3,oS 4 118 3,oI 5 0] .ret [4,10]
abbrev u22_37:IC:=qQ u22_38 u22_41 [2,4,10]
abbrev u22_13:IC:=qQ u22_14 u22_37 [2,4,6,8,9,10]
abbrev u22_12:IC:=qS [oW 10 (.agg #[.slice none 0 0,.slice none 0 0,.slice none 0 0])] u22_13 [2,4,6,8,9]
abbrev u22_8:IC:=qQ u22_9 u22_12 [2,4,6,7,8,9]
abbrev u22_7:IC:=qD [oF 23 2 0,oL 24 23,oH 25 24,oF 26 2 0,oL 27 26,oH 28 27,oF 29 2 1,oL 30 29,oB 31 28 30 .add,oM 8 25,oM 9 31] u22_8 [(0,none),(1,none),(2,none),(3,none),(4,none),(5,none),(6,none),(7,none),(8,none),(9,some [3,4,5,6,7,8]),(10,some [])] 11 [2,4,6,7]
abbrev u22_6:IC:=qS [oM 19 1,oC 20 56 [.t 19],oM 18 20,oE 21 18 0,oE 22 18 1,oM 6 21,oM 7 22] u22_7 [1,2,4]
abbrev u22_2:IC:=qQ u22_3 u22_6 [1,2,4]
abbrev u22_1:IC:=qS [oX 2 0,oW 4 (.agg #[.slice none 0 0,.slice none 0 0,.slice none 0 0]),oI 5 0] u22_2 [0,1]
def u22:IFn:=⟨119,u22_1,[.cell 4 3 true,.tmp 5]⟩
end
theorem isU22:IsFn Tryz.prog 22 u22:=by unfold IsFn;kernel_rfl
section
abbrev u27_6:IC:=qS [oM 20 11,oV 8 (.string ⟨#[]⟩),oM 9 20] .ret [11]
abbrev u27_5:IC:=qK u27_6 .skip (.t 19) [2,3,10,11,19]
abbrev u27_4:IC:=qS [oM 18 11,oK 19 18 .neq 0] u27_5 [2,3,10,11]
abbrev u27_7:IC:=qS [oM 21 2,oM 22 10,oM 23 3,oC 24 62 [.t 21,.t 22,.t 23],oE 25 24 0,oE 26 24 1,oM 8 25,oM 9 26] .ret [2,3,10]
abbrev u27_3:IC:=qQ u27_4 u27_7 [2,3,10,11]
abbrev u27_2:IC:=qS [oD 13 4 3,oD 14 5 3,oC 15 20 [.t 13,.t 14],oM 12 15,oE 16 12 0,oE 17 12 1,oM 10 16,oM 11 17] u27_3 [2,3,4,5]
abbrev u27_1:IC:=qS [oX 4 0,oX 5 1,oV 8 (.string ⟨#[]⟩),oI 9 0] u27_2 [0,1,2,3]
def u27:IFn:=⟨27,u27_1,[.tmp 8,.tmp 9]⟩
end
theorem isU27:IsFn Tryz.prog 27 u27:=by unfold IsFn;kernel_rfl
section
abbrev u25_6:IC:=qS [oP 19 (.bld #[.slice none 0 0,.slice none 0 0,.slice none 0 0] [(0,1),(1,1),(2,1)] []),oS 4 19 3,oI 5 1] .ret [4]
abbrev u25_5:IC:=qK u25_6 .skip (.t 18) [1,2,4,6,18]
abbrev u25_4:IC:=qS [oM 17 7,oK 18 17 .neq 0] u25_5 [1,2,4,6,7]
abbrev u25_11:IC:=qS [oD 27 6 3,oS 4 27 3,oI 5 62] .ret [4,6]
abbrev u25_10:IC:=qK u25_11 .skip (.t 26) [2,4,6,8,26]
abbrev u25_9:IC:=qS [oM 25 9,oK 26 25 .neq 0] u25_10 [2,4,6,8,9]
abbrev u25_16:IC:=qS [oD 36 6 3,oS 4 36 3,oI 5 62] .ret [4,6]
abbrev u25_15:IC:=qK u25_16 .skip (.t 35) [4,6,10,35]
abbrev u25_14:IC:=qS [oM 34 11,oK 35 34 .neq 0] u25_15 [4,6,10,11]
abbrev u25_17:IC:=qS [oD 37 10 3,oS 4 37 3,oI 5 0] .ret [4,10]
abbrev u25_13:IC:=qQ u25_14 u25_17 [4,6,10,11]
abbrev u25_12:IC:=qS [oD 29 2 3,oM 30 8,oC 31 22 [.t 29,.t 30],oM 28 31,oE 32 28 0,oE 33 28 1,oW 10 (.agg #[.slice none 0 0,.slice none 0 0,.slice none 0 0]),oS 10 32 3,oM 11 33] u25_13 [2,4,6,8]
abbrev u25_8:IC:=qQ u25_9 u25_12 [2,4,6,8,9]
abbrev u25_7:IC:=qS [oM 21 1,oC 22 60 [.t 21],oM 20 22,oE 23 20 0,oE 24 20 1,oM 8 23,oM 9 24] u25_8 [1,2,4,6]
abbrev u25_3:IC:=qQ u25_4 u25_7 [1,2,4,6,7]
abbrev u25_2:IC:=qS [oD 13 2 3,oC 14 29 [.t 13],oM 12 14,oE 15 12 0,oE 16 12 1,oW 6 (.agg #[.slice none 0 0,.slice none 0 0,.slice none 0 0]),oS 6 15 3,oM 7 16] u25_3 [1,2,4]
abbrev u25_1:IC:=qS [oX 2 0,oW 4 (.agg #[.slice none 0 0,.slice none 0 0,.slice none 0 0]),oI 5 0] u25_2 [0,1]
def u25:IFn:=⟨38,u25_1,[.cell 4 3 true,.tmp 5]⟩
end
theorem isU25:IsFn Tryz.prog 25 u25:=by unfold IsFn;kernel_rfl
section
abbrev u15_5:IC:=qS [oV 4 (.bool false)] .ret []
abbrev u15_4:IC:=qK u15_5 .skip (.t 32) [2,3,32]
abbrev u15_3:IC:=qS [oF 8 2 0,oL 9 8,oH 10 9,oF 11 3 0,oL 12 11,oH 13 12,oB 14 10 13 .neq,oM 15 14,hF 16 2 1 15,hL 17 16 15,oR 18 (.len (.t 17)) 15,hF 19 3 1 15,hL 20 19 15,oR 21 (.len (.t 20)) 15,oR 22 (.bin .neq (.t 18) (.t 21)) 15,oO 23 15 22,oM 24 23,hF 25 2 2 24,hL 26 25 24,oR 27 (.len (.t 26)) 24,hF 28 3 2 24,hL 29 28 24,oR 30 (.len (.t 29)) 24,oR 31 (.bin .neq (.t 27) (.t 30)) 24,oO 32 24 31] u15_4 [2,3]
abbrev u15_11:IC:=qK .skip (.exit 0) (.t 37) [2,3,5,37]
abbrev u15_10:IC:=qS [oM 33 5,oF 34 2 0,oL 35 34,oH 36 35,oB 37 33 36 .lss] u15_11 [2,3,5]
abbrev u15_15:IC:=qS [oV 4 (.bool false)] .ret []
abbrev u15_14:IC:=qK u15_15 .skip (.t 50) [2,3,5,50]
abbrev u15_13:IC:=qP [oF 40 2 0,oL 41 40,oM 42 5,oA 43 41 42 1,oL 44 43,oF 45 3 0,oL 46 45,oM 47 5,oA 48 46 47 1,oL 49 48,oB 50 44 49 .neq] u15_14 0 11 [2,3,5]
abbrev u15_16:IC:=qE [oM 38 5,oK 39 38 .add 1,oM 5 39] [2,3,5]
abbrev u15_12:IC:=qB u15_13 u15_16 1 [2,3,5]
abbrev u15_9:IC:=qQ u15_10 u15_12 [2,3,5]
abbrev u15_8:IC:=qJ (.loop u15_9) 0 [2,3,5]
abbrev u15_7:IC:=qS [oI 5 0] u15_8 [2,3]
abbrev u15_22:IC:=qK .skip (.exit 2) (.t 55) [2,3,6,55]
abbrev u15_21:IC:=qS [oM 51 6,oF 52 2 1,oL 53 52,oH 54 53,oB 55 51 54 .lss] u15_22 [2,3,6]
abbrev u15_26:IC:=qS [oV 4 (.bool false)] .ret []
abbrev u15_25:IC:=qK u15_26 .skip (.t 68) [2,3,6,68]
abbrev u15_24:IC:=qP [oF 58 2 1,oL 59 58,oM 60 6,oA 61 59 60 1,oL 62 61,oF 63 3 1,oL 64 63,oM 65 6,oA 66 64 65 1,oL 67 66,oB 68 62 67 .neq] u15_25 0 11 [2,3,6]
abbrev u15_27:IC:=qE [oM 56 6,oK 57 56 .add 1,oM 6 57] [2,3,6]
abbrev u15_23:IC:=qB u15_24 u15_27 3 [2,3,6]
abbrev u15_20:IC:=qQ u15_21 u15_23 [2,3,6]
abbrev u15_19:IC:=qJ (.loop u15_20) 2 [2,3,6]
abbrev u15_18:IC:=qS [oI 6 0] u15_19 [2,3]
abbrev u15_33:IC:=qK .skip (.exit 4) (.t 73) [2,3,7,73]
abbrev u15_32:IC:=qS [oM 69 7,oF 70 2 2,oL 71 70,oH 72 71,oB 73 69 72 .lss] u15_33 [2,3,7]
abbrev u15_37:IC:=qS [oV 4 (.bool false)] .ret []
abbrev u15_36:IC:=qK u15_37 .skip (.t 86) [2,3,7,86]
abbrev u15_35:IC:=qP [oF 76 2 2,oL 77 76,oM 78 7,oA 79 77 78 2,oD 80 79 2,oF 81 3 2,oL 82 81,oM 83 7,oA 84 82 83 2,oD 85 84 2,oP 86 (.eqa true [2,0] (.t 80) (.t 85))] u15_36 0 11 [2,3,7]
abbrev u15_38:IC:=qE [oM 74 7,oK 75 74 .add 1,oM 7 75] [2,3,7]
abbrev u15_34:IC:=qB u15_35 u15_38 5 [2,3,7]
abbrev u15_31:IC:=qQ u15_32 u15_34 [2,3,7]
abbrev u15_30:IC:=qJ (.loop u15_31) 4 [2,3,7]
abbrev u15_29:IC:=qS [oI 7 0] u15_30 [2,3]
abbrev u15_39:IC:=qS [oV 4 (.bool true)] .ret []
abbrev u15_28:IC:=qQ u15_29 u15_39 [2,3]
abbrev u15_17:IC:=qQ u15_18 u15_28 [2,3]
abbrev u15_6:IC:=qQ u15_7 u15_17 [2,3]
abbrev u15_2:IC:=qQ u15_3 u15_6 [2,3]
abbrev u15_1:IC:=qS [oX 2 0,oX 3 1,oV 4 (.bool false)] u15_2 [0,1]
def u15:IFn:=⟨87,u15_1,[.tmp 4]⟩
end
theorem isU15:IsFn Tryz.prog 15 u15:=by unfold IsFn;kernel_rfl
section
abbrev u23_5:IC:=qS [oV 2 (.string ⟨#[]⟩),oI 3 9] .ret []
abbrev u23_4:IC:=qK u23_5 .skip (.t 7) [0,7]
abbrev u23_3:IC:=qS [oM 5 0,oP 6 (.lens (.t 5)),oK 7 6 .gtr 1024] u23_4 [0]
abbrev u23_8:IC:=qS [oM 16 4,oP 17 (.cvbs (.t 16)),oM 2 17,oI 3 0] .ret [4]
abbrev u23_7:IC:=qS [oM 9 4,oM 10 0,oC 11 58 [.t 10],oP 12 (.bin .add (.k (.string ⟨#[1]⟩)) (.t 11)),oM 13 0,oB 14 12 13 .add,⟨some 15,.eff (.cpys (.t 9) (.t 14)),none⟩] u23_8 [0,4]
abbrev u23_6:IC:=qS [⟨some 8,.new (.msl 1 1 #[.int .u8 0] (.k (.int .i64 2062)) (.k (.int .i64 2062))),none⟩,oM 4 8] u23_7 [0]
abbrev u23_2:IC:=qQ u23_3 u23_6 [0]
abbrev u23_1:IC:=qS [oV 2 (.string ⟨#[]⟩),oI 3 0] u23_2 [0]
def u23:IFn:=⟨18,u23_1,[.tmp 2,.tmp 3]⟩
end
theorem isU23:IsFn Tryz.prog 23 u23:=by unfold IsFn;kernel_rfl
section
abbrev u60_6:IC:=qS [oM 17 6,oV 2 (.string ⟨#[]⟩),oM 3 17] .ret [6]
abbrev u60_5:IC:=qK u60_6 .skip (.t 16) [0,4,6,16]
abbrev u60_4:IC:=qS [oM 15 6,oK 16 15 .neq 0] u60_5 [0,4,6]
abbrev u60_8:IC:=qS [oM 29 8,oM 2 29,oI 3 0] .ret [8]
abbrev u60_7:IC:=qS [oM 19 0,oM 20 4,oK 21 20 .mul 1031,oM 22 4,oK 23 22 .mul 1031,oK 24 23 .add 1031,oP 25 (.sls (.t 19) (some (.t 21)) (some (.t 24))),oC 26 86 [.t 25],oM 18 26,oE 27 18 0,oE 28 18 1,oM 7 27,oM 8 28] u60_8 [0,4]
abbrev u60_3:IC:=qQ u60_4 u60_7 [0,4,6]
abbrev u60_2:IC:=qS [oM 10 0,oC 11 85 [.t 10],oM 9 11,oE 12 9 0,oE 13 9 1,oE 14 9 2,oM 4 12,oM 5 13,oM 6 14] u60_3 [0]
abbrev u60_1:IC:=qS [oV 2 (.string ⟨#[]⟩),oI 3 0] u60_2 [0]
def u60:IFn:=⟨30,u60_1,[.tmp 2,.tmp 3]⟩
end
theorem isU60:IsFn Tryz.prog 60 u60:=by unfold IsFn;kernel_rfl
section
abbrev u62_6:IC:=qS [oM 25 10,oV 6 (.string ⟨#[]⟩),oM 7 25] .ret [10]
abbrev u62_5:IC:=qK u62_6 .skip (.t 24) [0,1,2,8,10,24]
abbrev u62_4:IC:=qS [oM 23 10,oK 24 23 .neq 0] u62_5 [0,1,2,8,10]
abbrev u62_10:IC:=qS [oV 6 (.string ⟨#[]⟩),oI 7 9] .ret []
abbrev u62_9:IC:=qK u62_10 .skip (.t 28) [0,1,2,8,28]
abbrev u62_8:IC:=qS [oM 26 1,oP 27 (.lens (.t 26)),oK 28 27 .gtr 1024] u62_9 [0,1,2,8]
abbrev u62_20:IC:=qK .skip (.exit 0) (.t 53) [2,11,13,14,15,16,53]
abbrev u62_19:IC:=qS [oM 50 16,oM 51 15,oP 52 (.lens (.t 51)),oB 53 50 52 .lss] u62_20 [2,11,13,14,15,16]
abbrev u62_25:IC:=qS [oM 59 13,oP 60 (.cvbs (.t 59)),oM 6 60,oI 7 61] .ret [13]
abbrev u62_24:IC:=qK u62_25 .skip (.t 58) [2,11,13,14,15,16,58]
abbrev u62_23:IC:=qS [oM 56 16,oM 57 2,oB 58 56 57 .geq] u62_24 [2,11,13,14,15,16]
abbrev u62_26:IC:=qE [oM 61 13,oM 62 14,oM 63 16,oB 64 62 63 .add,oM 65 15,oM 66 16,oP 67 (.idx (.t 65) (.t 66)),oA 68 61 64 1,oS 68 67 1] [2,11,13,14,15,16]
abbrev u62_22:IC:=qQ u62_23 u62_26 [2,11,13,14,15,16]
abbrev u62_27:IC:=qE [oM 54 16,oK 55 54 .add 1,oM 16 55] [2,11,13,14,15,16]
abbrev u62_21:IC:=qB u62_22 u62_27 1 [2,11,13,14,15,16]
abbrev u62_18:IC:=qQ u62_19 u62_21 [2,11,13,14,15,16]
abbrev u62_17:IC:=qJ (.loop u62_18) 0 [2,11,13,14,15,16]
abbrev u62_16:IC:=qS [oI 16 0] u62_17 [2,11,13,14,15]
abbrev u62_31:IC:=qS [oM 73 13,oP 74 (.cvbs (.t 73)),oM 6 74,oI 7 61] .ret [13]
abbrev u62_30:IC:=qK u62_31 .skip (.t 72) [11,13,14,72]
abbrev u62_29:IC:=qS [oM 69 15,oP 70 (.lens (.t 69)),oM 71 2,oB 72 70 71 .geq] u62_30 [2,11,13,14,15]
abbrev u62_33:IC:=qS [oM 82 13,oP 83 (.cvbs (.t 82)),oM 6 83,oI 7 0] .ret [13]
abbrev u62_32:IC:=qS [oM 75 13,oM 76 14,oM 77 11,oK 78 77 .rem 3,oK 79 78 .add 1,oP 80 (.cvi .u8 (.t 79)),oA 81 75 76 1,oS 81 80 1] u62_33 [11,13,14]
abbrev u62_28:IC:=qQ u62_29 u62_32 [2,11,13,14,15]
abbrev u62_15:IC:=qQ u62_16 u62_28 [2,11,13,14,15]
abbrev u62_14:IC:=qS [oM 45 1,oC 46 58 [.t 45],oP 47 (.bin .add (.k (.string ⟨#[0]⟩)) (.t 46)),oM 48 1,oB 49 47 48 .add,oM 15 49] u62_15 [1,2,11,13,14]
abbrev u62_13:IC:=qS [oM 42 8,oP 43 (.bin .sub (.k (.int .i64 1)) (.t 42)),oK 44 43 .mul 1031,oM 14 44] u62_14 [1,2,8,11,13]
abbrev u62_12:IC:=qS [oM 40 0,⟨some 41,.eff (.cvsb (.t 40)),none⟩,oM 13 41] u62_13 [0,1,2,8,11]
abbrev u62_11:IC:=qS [oM 30 0,oM 31 8,oK 32 31 .mul 1031,oM 33 8,oK 34 33 .mul 1031,oK 35 34 .add 1031,oP 36 (.sls (.t 30) (some (.t 32)) (some (.t 35))),oC 37 86 [.t 36],oM 29 37,oE 38 29 0,oE 39 29 1,oM 11 38,oM 12 39] u62_12 [0,1,2,8]
abbrev u62_7:IC:=qQ u62_8 u62_11 [0,1,2,8]
abbrev u62_3:IC:=qQ u62_4 u62_7 [0,1,2,8,10]
abbrev u62_2:IC:=qS [oM 18 0,oC 19 85 [.t 18],oM 17 19,oE 20 17 0,oE 21 17 1,oE 22 17 2,oM 8 20,oM 9 21,oM 10 22] u62_3 [0,1,2]
abbrev u62_1:IC:=qS [oV 6 (.string ⟨#[]⟩),oI 7 0] u62_2 [0,1,2]
def u62:IFn:=⟨84,u62_1,[.tmp 6,.tmp 7]⟩
end
theorem isU62:IsFn Tryz.prog 62 u62:=by unfold IsFn;kernel_rfl
section
abbrev u58_3:IC:=qS [oM 9 3,oP 10 (.cvi .u8 (.t 9)),oM 11 3,oP 12 (.bin .shr (.t 11) (.k (.int .u64 8))),oP 13 (.cvi .u8 (.t 12)),oM 14 3,oP 15 (.cvi .u8 (.t 14)),oP 16 (.bin .sub (.k (.int .u8 255)) (.t 15)),oM 17 3,oP 18 (.bin .shr (.t 17) (.k (.int .u64 8))),oP 19 (.cvi .u8 (.t 18)),oP 20 (.bin .sub (.k (.int .u8 255)) (.t 19)),oM 21 4,oP 22 (.cvi .u8 (.t 21)),oM 23 4,oP 24 (.bin .shr (.t 23) (.k (.int .u64 8))),oP 25 (.cvi .u8 (.t 24)),⟨some 26,.new (.bsl 1 6 #[.int .u8 0] [(0,.t 10),(1,.t 13),(2,.t 16),(3,.t 20),(4,.t 22),(5,.t 25)]),none⟩,oP 27 (.cvbs (.t 26)),oM 2 27] .ret [3,4]
abbrev u58_2:IC:=qS [oM 5 0,oP 6 (.lens (.t 5)),oM 7 0,oC 8 83 [.t 7],oM 3 6,oM 4 8] u58_3 [0]
abbrev u58_1:IC:=qS [oV 2 (.string ⟨#[]⟩)] u58_2 [0]
def u58:IFn:=⟨28,u58_1,[.tmp 2]⟩
end
theorem isU58:IsFn Tryz.prog 58 u58:=by unfold IsFn;kernel_rfl
section
abbrev u83_8:IC:=qK .skip (.exit 0) (.t 8) [0,3,4,8]
abbrev u83_7:IC:=qS [oM 5 4,oM 6 0,oP 7 (.lens (.t 6)),oB 8 5 7 .lss] u83_8 [0,3,4]
abbrev u83_10:IC:=qE [oM 11 3,oM 12 4,oK 13 12 .add 1,oM 14 0,oM 15 4,oP 16 (.idx (.t 14) (.t 15)),oP 17 (.cvi .i64 (.t 16)),oB 18 13 17 .mul,oB 19 11 18 .add,oK 20 19 .rem 65521,oM 3 20] [0,3,4]
abbrev u83_11:IC:=qE [oM 9 4,oK 10 9 .add 1,oM 4 10] [0,3,4]
abbrev u83_9:IC:=qB u83_10 u83_11 1 [0,3,4]
abbrev u83_6:IC:=qQ u83_7 u83_9 [0,3,4]
abbrev u83_5:IC:=qJ (.loop u83_6) 0 [0,3,4]
abbrev u83_4:IC:=qS [oI 4 0] u83_5 [0,3]
abbrev u83_12:IC:=qS [oM 21 3,oM 2 21] .ret [3]
abbrev u83_3:IC:=qQ u83_4 u83_12 [0,3]
abbrev u83_2:IC:=qS [oI 3 0] u83_3 [0]
abbrev u83_1:IC:=qS [oI 2 0] u83_2 [0]
def u83:IFn:=⟨22,u83_1,[.tmp 2]⟩
end
theorem isU83:IsFn Tryz.prog 83 u83:=by unfold IsFn;kernel_rfl
section
abbrev u86_6:IC:=qS [oI 2 0,oV 3 (.string ⟨#[]⟩)] .ret []
abbrev u86_5:IC:=qK u86_6 .skip (.t 41) [0,4,41]
abbrev u86_4:IC:=qP [oM 14 0,oP 15 (.idx (.t 14) (.k (.int .i64 0))),oP 16 (.bin .lss (.t 15) (.k (.int .u8 1))),oM 17 16,hM 18 0 17,oR 19 (.idx (.t 18) (.k (.int .i64 0))) 17,oR 20 (.bin .gtr (.t 19) (.k (.int .u8 3))) 17,oO 21 17 20,oM 22 21,hM 23 0 22,oR 24 (.idx (.t 23) (.k (.int .i64 3))) 22,hM 25 0 22,oR 26 (.idx (.t 25) (.k (.int .i64 1))) 22,oR 27 (.bin .sub (.k (.int .u8 255)) (.t 26)) 22,oR 28 (.bin .neq (.t 24) (.t 27)) 22,oO 29 22 28,oM 30 29,hM 31 0 30,oR 32 (.idx (.t 31) (.k (.int .i64 4))) 30,hM 33 0 30,oR 34 (.idx (.t 33) (.k (.int .i64 2))) 30,oR 35 (.bin .sub (.k (.int .u8 255)) (.t 34)) 30,oR 36 (.bin .neq (.t 32) (.t 35)) 30,oO 37 30 36,oM 38 37,hM 39 4 38,hK 40 39 38 .gtr 1024,oO 41 38 40] u86_5 0 28 [0,4]
abbrev u86_11:IC:=qS [oI 2 0,oV 3 (.string ⟨#[]⟩)] .ret []
abbrev u86_10:IC:=qK u86_11 .skip (.t 56) [0,5,56]
abbrev u86_9:IC:=qD [oM 46 5,oC 47 83 [.t 46],oM 48 0,oP 49 (.idx (.t 48) (.k (.int .i64 5))),oP 50 (.cvi .i64 (.t 49)),oM 51 0,oP 52 (.idx (.t 51) (.k (.int .i64 6))),oP 53 (.cvi .i64 (.t 52)),oP 54 (.bin .mul (.k (.int .i64 256)) (.t 53)),oB 55 50 54 .add,oB 56 47 55 .neq] u86_10 [(0,none),(2,none),(3,none),(4,none),(5,none),(6,none),(7,none),(8,none),(9,none),(1,some [2,3,4,5,6,7,8,9]),(10,none)] 11 [0,5]
abbrev u86_12:IC:=qS [oM 57 0,oP 58 (.idx (.t 57) (.k (.int .i64 0))),oP 59 (.cvi .i64 (.t 58)),oM 60 5,oM 2 59,oM 3 60] .ret [0,5]
abbrev u86_8:IC:=qQ u86_9 u86_12 [0,5]
abbrev u86_7:IC:=qS [oM 42 0,oM 43 4,oP 44 (.bin .add (.k (.int .i64 7)) (.t 43)),oP 45 (.sls (.t 42) (some (.k (.int .i64 7))) (some (.t 44))),oM 5 45] u86_8 [0,4]
abbrev u86_3:IC:=qQ u86_4 u86_7 [0,4]
abbrev u86_2:IC:=qP [oM 6 0,oP 7 (.idx (.t 6) (.k (.int .i64 1))),oP 8 (.cvi .i64 (.t 7)),oM 9 0,oP 10 (.idx (.t 9) (.k (.int .i64 2))),oP 11 (.cvi .i64 (.t 10)),oP 12 (.bin .mul (.k (.int .i64 256)) (.t 11)),oB 13 8 12 .add,oM 4 13] u86_3 256 9 [0]
abbrev u86_1:IC:=qS [oI 2 0,oV 3 (.string ⟨#[]⟩)] u86_2 [0]
def u86:IFn:=⟨61,u86_1,[.tmp 2,.tmp 3]⟩
end
theorem isU86:IsFn Tryz.prog 86 u86:=by unfold IsFn;kernel_rfl
section
abbrev u85_5:IC:=qS [oI 2 0,oI 3 0,oI 4 1] .ret []
abbrev u85_4:IC:=qK u85_5 .skip (.t 11) [0,11]
abbrev u85_3:IC:=qS [oM 9 0,oP 10 (.lens (.t 9)),oK 11 10 .neq 2062] u85_4 [0]
abbrev u85_11:IC:=qS [oI 2 0,oI 3 0,oI 4 62] .ret []
abbrev u85_14:IC:=qS [oI 2 0,oI 3 1,oI 4 0] .ret []
abbrev u85_17:IC:=qS [oI 2 1,oI 3 1,oI 4 0] .ret []
abbrev u85_20:IC:=qS [oI 2 1,oI 3 2,oI 4 0] .ret []
abbrev u85_19:IC:=qK u85_20 .skip (.t 37) [37]
abbrev u85_18:IC:=qS [oM 38 7,oM 39 5,oK 40 39 .rem 3,oK 41 40 .add 1,oB 42 38 41 .eql,oM 37 42] u85_19 [5,7]
abbrev u85_16:IC:=qK u85_17 u85_18 (.t 34) [5,7,34]
abbrev u85_15:IC:=qS [oM 35 5,oK 36 35 .eql 0,oM 34 36] u85_16 [5,7]
abbrev u85_13:IC:=qK u85_14 u85_15 (.t 31) [5,7,31]
abbrev u85_12:IC:=qS [oM 32 7,oK 33 32 .eql 0,oM 31 33] u85_13 [5,7]
abbrev u85_10:IC:=qK u85_11 u85_12 (.t 24) [5,7,24]
abbrev u85_9:IC:=qS [oM 25 5,oK 26 25 .eql 0,oM 27 26,gM 28 7 27,gK 29 28 27 .eql 0,oJ 30 27 29,oM 24 30] u85_10 [5,7]
abbrev u85_21:IC:=qS [oI 2 0,oI 3 2,oI 4 0] .ret []
abbrev u85_8:IC:=qB u85_9 u85_21 0 [5,7]
abbrev u85_7:IC:=qS [oM 19 0,oP 20 (.sls (.t 19) (some (.k (.int .i64 1031))) none),oC 21 86 [.t 20],oM 18 21,oE 22 18 0,oE 23 18 1,oM 7 22,oM 8 23] u85_8 [0,5]
abbrev u85_6:IC:=qS [oM 13 0,oP 14 (.sls (.t 13) none (some (.k (.int .i64 1031)))),oC 15 86 [.t 14],oM 12 15,oE 16 12 0,oE 17 12 1,oM 5 16,oM 6 17] u85_7 [0]
abbrev u85_2:IC:=qQ u85_3 u85_6 [0]
abbrev u85_1:IC:=qS [oI 2 0,oI 3 0,oI 4 0] u85_2 [0]
def u85:IFn:=⟨43,u85_1,[.tmp 2,.tmp 3,.tmp 4]⟩
end
theorem isU85:IsFn Tryz.prog 85 u85:=by unfold IsFn;kernel_rfl
section
abbrev u53_9:IC:=qS [oM 15 4,oP 16 (.bin .add (.k (.int .i64 48)) (.t 15)),oP 17 (.cvi .u8 (.t 16)),⟨some 18,.new (.bsl 1 1 #[.int .u8 0] [(0,.t 17)]),none⟩,oP 19 (.cvbs (.t 18)),oP 20 (.bin .add (.k (.string ⟨#[45]⟩)) (.t 19)),oM 2 20] .ret [4]
abbrev u53_8:IC:=qK u53_9 .skip (.t 14) [3,4,14]
abbrev u53_7:IC:=qS [oM 13 3,oK 14 13 .eql 0] u53_8 [3,4]
abbrev u53_10:IC:=qD [oM 21 3,oC 22 53 [.t 21],oM 23 4,oP 24 (.bin .add (.k (.int .i64 48)) (.t 23)),oP 25 (.cvi .u8 (.t 24)),⟨some 26,.new (.bsl 1 1 #[.int .u8 0] [(0,.t 25)]),none⟩,oP 27 (.cvbs (.t 26)),oB 28 22 27 .add,oM 2 28] .ret [(0,none),(2,none),(3,none),(4,none),(5,none),(6,none),(1,some [2,3,4,5,6]),(7,none),(8,some [])] 9 [3,4]
abbrev u53_6:IC:=qQ u53_7 u53_10 [3,4]
abbrev u53_5:IC:=qS [oM 8 0,oK 9 8 .quo 10,oM 10 0,oK 11 10 .rem 10,oP 12 (.un .neg (.t 11)),oM 3 9,oM 4 12] u53_6 [0]
abbrev u53_4:IC:=qK u53_5 .skip (.t 7) [0,7]
abbrev u53_3:IC:=qS [oM 6 0,oK 7 6 .lss 0] u53_4 [0]
abbrev u53_15:IC:=qS [oM 37 5,oM 2 37] .ret [5]
abbrev u53_14:IC:=qK u53_15 .skip (.t 36) [0,5,36]
abbrev u53_13:IC:=qS [oM 35 0,oK 36 35 .lss 10] u53_14 [0,5]
abbrev u53_16:IC:=qS [oM 38 0,oK 39 38 .quo 10,oC 40 53 [.t 39],oM 41 5,oB 42 40 41 .add,oM 2 42] .ret [0,5]
abbrev u53_12:IC:=qQ u53_13 u53_16 [0,5]
abbrev u53_11:IC:=qS [oM 29 0,oK 30 29 .rem 10,oP 31 (.bin .add (.k (.int .i64 48)) (.t 30)),oP 32 (.cvi .u8 (.t 31)),⟨some 33,.new (.bsl 1 1 #[.int .u8 0] [(0,.t 32)]),none⟩,oP 34 (.cvbs (.t 33)),oM 5 34] u53_12 [0]
abbrev u53_2:IC:=qQ u53_3 u53_11 [0]
abbrev u53_1:IC:=qS [oV 2 (.string ⟨#[]⟩)] u53_2 [0]
def u53:IFn:=⟨43,u53_1,[.tmp 2]⟩
end
theorem isU53:IsFn Tryz.prog 53 u53:=by unfold IsFn;kernel_rfl
end Go.Proofs.YtndjhpjcankkaaaGreatDoor
namespace Go.Pb
variable [Go.Sym.Tab]
open Go.Sym
def numA (n:Nat) (s:List UInt8):Nat:=s.foldl (fun n c=>10 * n+(c.toNat-48)) n
theorem numA_ge:∀ (s:List UInt8) (n:Nat),n≤numA n s
 | [],n=>Nat.le_refl _
 | c :: r,n=>by
  have:=numA_ge r (10 * n+(c.toNat-48))
  simp only [numA,List.foldl_cons] at this ⊢
  omega
theorem numA_cons (c:UInt8) (r:List UInt8) (n:Nat):numA n (c :: r)=numA (10 * n+(c.toNat-48)) r:=by simp only [numA,List.foldl_cons]
end Go.Pb
namespace Go.Pb
variable [Go.Sym.Tab]
open Go.Sym
theorem nat_tmod (a b:Nat):(a:Int).tmod (b:Int)=((a % b:Nat):Int):=by simp [Int.tmod]
end Go.Pb
namespace Go.Pb
variable [Go.Sym.Tab]
open Go.Sym
theorem str_unit (l:List (List UInt8)):∀ x∈l.map DV.str,x.cells.length=1:=by
 intro x hx;obtain ⟨y, -,rfl⟩:=List.mem_map.1 hx;rfl
end Go.Pb
namespace Go.Pb
variable [Go.Sym.Tab]
open Go.Sym
theorem slc_to {H:Hp} {sz n:Nat} {xs:List DV} (h:n≤xs.length) (hu:unit sz xs=true):slcR H sz (.lst xs) none (some (.int .i64 (n:Int)))=some (.lst (xs.take n)):=by
 have h1:boundOf xs.length (some (.int .i64 (n:Int)))=some n:=by simp [boundOf]
 have h2:boundOf 0 none=some 0:=by simp [boundOf]
 simp only [slcR,h1,h2,hu,h,Nat.zero_le,and_self,if_true,List.drop_zero,Nat.sub_zero]
def delO (H:Hp):Option Nat→Hp
 | none=>H
 | some i=>H.del i
theorem r_apptodo {H:Hp} {c sz bytes n m:Nat} {o:Option Nat} {cs src:List DV} (hn:o=none→n=0∧cs=[]) (hb:∀ i,o=some i→H i=some ⟨sz,true,cs⟩) (hl:cs.length=n * sz) (hm:1≤m) (h2:(n+m) * bytes≤140737488355328) (h3:n+m≤9223372036854775807) :
  appR H c sz bytes (todoV o n) m src=some (.slc c 0 (n+m),(delO H o).upd c ⟨sz,true,cs++src⟩,c+1):=by
 cases o with
 | none =>
  obtain ⟨rfl,rfl⟩:=hn rfl
  rw [todo_n,r_appn' (by omega) (by simpa using h2) (by omega)]
  simp [delO]
 | some i=>rw [todo_s,r_apps,hb i rfl,b_appx hl h2 h3];rfl
theorem delO_ne {H:Hp} {o:Option Nat} {j:Nat} (h:∀ i,o=some i→¬ j=i):delO H o j=H j:=by
 cases o with
 | none=>rfl
 | some i=>exact h_dne (h i rfl)
theorem optH_ne {H:Hp} {o:Option Nat} {b:Blk} {j:Nat} (h:∀ i,o=some i→¬ j=i):optH H o b j=H j:=by
 cases o with
 | none=>rfl
 | some i=>exact h_ne (h i rfl)
section
variable {l:List UInt8} {k p:Nat} {S P V:DV} {I:List Ins} {E:List Ent} {o1 o2:Option Nat} {cc:Nat}
end
end Go.Pb
namespace Go.Pb
variable [Go.Sym.Tab]
open Go.Sym
theorem opt_at {X:Hp} {o:Option Nat} {b:Blk} {i:Nat} (hi:o=some i):optH X o b i=some b:=by subst hi;exact h_same
end Go.Pb
namespace Go.Pb
variable [Go.Sym.Tab]
open Go.Sym
structure Adj where
 lo:Int
 hi:Int
 step:Int
 dflt:Int
deriving DecidableEq
structure Sco where
 name:List UInt8
 points:Int
deriving DecidableEq
structure Book where
 adjs:List Adj
 cnt:Int
 scores:List Sco
structure BSt where
 sets:List Int
 counts:List Int
 scores:List Sco
deriving DecidableEq
abbrev Adj.v (a:Adj):DV:=.agg [I64 a.lo,I64 a.hi,I64 a.step,I64 a.dflt]
abbrev Sco.v (x:Sco):DV:=.agg [.str x.name,I64 x.points]
abbrev intsV (l:List Int):DV:=.lst (l.map I64)
abbrev adjsV (l:List Adj):DV:=.lst (l.map Adj.v)
abbrev scosV (l:List Sco):DV:=.lst (l.map Sco.v)
abbrev Book.v (c:Book):DV:=.agg [adjsV c.adjs,I64 c.cnt,scosV c.scores]
abbrev BSt.v (s:BSt):DV:=.agg [intsV s.sets,intsV s.counts,scosV s.scores]
theorem nlL_adjs (l:List Adj):DV.nlL (l.map Adj.v)=true:=nlL_map (fun _=>rfl) l
theorem nlL_scos (l:List Sco):DV.nlL (l.map Sco.v)=true:=nlL_map (fun _=>rfl) l
def inB (n lo hi:Int):Bool:=decide (lo≤n) && decide (n≤hi)
def isValM (a:Adj) (v:Int):Bool:=inB v a.lo a.hi && ((v-a.lo).tmod a.step == 0)
def capB (c:UInt8):Bool:=decide (65≤c.toNat) && decide (c.toNat≤90)
def isScoM (x:Sco):Bool:=x.name.all capB && (decide (x.name.length=3) && inB x.points 0 999999999999)
def ordM:List Sco→Bool
 | a :: b :: l=>decide (b.points≤a.points) && ordM (b :: l)
 | _=>true
def scosM (l:List Sco):Int:=if l.all isScoM=false then 6 else if ordM l=false then 66 else 0
def adjM (a:Adj):Bool:=inB a.lo (-1000000000) 1000000000 && (inB a.hi a.lo 1000000000 && (inB a.step 1 1000000000 && isValM a a.dflt))
def validBM (c:Book):Int :=
 if 32<c.adjs.length∨inB c.cnt 0 32=false∨8<c.scores.length then 9
 else if c.adjs.all adjM=false then 5
 else scosM c.scores
def zipVal:List Adj→List Int→Bool
 | a :: l,v :: r=>isValM a v && zipVal l r
 | _,_=>true
def isStM (c:Book) (s:BSt):Bool :=
 decide (validBM c=0) && decide (s.sets.length=c.adjs.length) && decide ((s.counts.length:Int)=c.cnt) && decide (s.scores.length=c.scores.length) && decide (scosM s.scores=0)
  && zipVal c.adjs s.sets && s.counts.all fun n=>inB n 0 999999999
def setsM (c:Book):List Int:=c.adjs.map Adj.dflt
def firstM (c:Book):BSt:=⟨setsM c,List.replicate c.cnt.toNat 0,c.scores⟩
def noSt:BSt:=⟨[],[],[]⟩
def newM (c:Book):BSt × Int:=if validBM c=0 then (firstM c,0) else (noSt,validBM c)
def chkM (c:Book) (s:BSt) (i n:Int):Int:=if isStM c s=false then 1 else if inB i 0 (n-1)=false then 8 else 0
def A0:Adj:=⟨0,0,0,0⟩
def setM (c:Book) (s:BSt) (i v:Int):BSt × Int :=
 if chkM c s i c.adjs.length≠0 then (noSt,chkM c s i c.adjs.length)
 else if isValM (c.adjs.getD i.toNat A0) v=false then (noSt,5)
 else ({ s with sets:=s.sets.set i.toNat v },0)
def lastM (a:Adj):Int:=a.lo+(a.hi-a.lo).tdiv a.step * a.step
def turnV (a:Adj) (v:Int) (up:Bool):Int :=
 let w:=if up then v+a.step else v-a.step
 if lastM a<w then a.lo else if w<a.lo then lastM a else w
def turnM (c:Book) (s:BSt) (i:Int) (up:Bool):BSt × Int :=
 if chkM c s i c.adjs.length≠0 then (noSt,chkM c s i c.adjs.length)
 else ({ s with sets:=s.sets.set i.toNat (turnV (c.adjs.getD i.toNat A0) (s.sets.getD i.toNat 0) up) },0)
def addM (c:Book) (s:BSt) (i n:Int):BSt × Int :=
 if chkM c s i c.cnt≠0 then (noSt,chkM c s i c.cnt)
 else if inB n 0 999999999=false then (noSt,5)
 else ({ s with counts:=s.counts.set i.toNat (min (s.counts.getD i.toNat 0+n) 999999999) },0)
def placeM (p:Int):List Sco→Nat
 | []=>0
 | x :: l=>if x.points<p then 0 else placeM p l+1
def enterM (c:Book) (s:BSt) (x:Sco):BSt × Int × Int :=
 if isStM c s=false then (noSt,0,1)
 else if isScoM x=false then (noSt,0,6)
 else if placeM x.points s.scores=s.scores.length then (s, -1,0)
 else ({ s with scores:=(s.scores.take (placeM x.points s.scores)++x :: s.scores.drop (placeM x.points s.scores)).take s.scores.length },(placeM x.points s.scores:Int),0)
def resetM (c:Book) (s:BSt) (part:Int):BSt × Int :=
 if isStM c s=false then (noSt,1)
 else if part=1 then ({ s with sets:=setsM c },0)
 else if part=2 then ({ s with counts:=List.replicate c.cnt.toNat 0 },0)
 else if part=3 then ({ s with scores:=c.scores },0)
 else (noSt,44)
def encS (s:BSt):List UInt8:=(s.sets++s.counts).flatMap (fun n=>decI n++[10])++s.scores.flatMap fun x=>x.name++[10]++decI x.points++[10]
def encM41 (c:Book) (s:BSt):List UInt8 × Int:=if isStM c s=false then ([],1) else (encS s,0)
end Go.Pb
namespace Go.Sym
variable [Go.Sym.Tab]
open Go.Eng (IC)
def Hold (p:Prop):Prop:=p
theorem hold {p:Prop} (h:Hold p):p:=h
theorem IW.stage {P:Program} {N:Nat} {x:IC} {T:Tm} {H:Hp} {c:Nat} {Q:Exit→St→Prop} {L:List (Nat × DV)} (hT:tmLe L T) (h:IW P N x ⟨tm L,H,c⟩ Q):Hold (IW P N x ⟨T,H,c⟩ Q):=IW.weaken (tm_le hT) (Sub.refl _) h
end Go.Sym
namespace Go.Sym
variable [Go.Sym.Tab]
open Go.Eng (Callable)
open Go.RowKit
variable {P:Program}
theorem PC.of_callsF {f:Nat} {args:List DV} {r:DV} (hc:Callable P f=true) (na:DV.nlL args=true) (nr:r.nl=true)
  (h:∀ (ρ : Ren) (w:World) (vs:Array Value),(∀ b r, ρ.fz b=some r→∃ e fr,w.heap[b]? = some (.cells r e fr))→ARel ρ args vs →
   Calls P f vs w fun e w' => ∃ v' b row ty fr,e=.returned v'∧w.heap.size≤b∧w'.heap[b]? = some (.cells row ty fr)∧(∀ ρ':Ren, ρ'.fz b=some row→VRel ρ' r v')∧Below w.heap.size w w'):PC P f args r:=by
 refine ⟨na,nr,hc,fun ρ w vs hR hf hA=>?_⟩
 refine (h ρ w vs hR.frz hA).mono ?_
 rintro e w' ⟨v',b,row,ty,fr,rfl,hb,hrow,hv,b1,b2,b3,b4,b5⟩
 have hnone : ρ.fz b=none:=by
  cases hz : ρ.fz b with
  | none=>rfl
  | some r=>have:=hR.flt hz;omega
 have hfz:(ρ.frz b row hnone).fz b=some row:=by simp [Ren.frz]
 refine ⟨r,v',nil,0, ρ.frz b row hnone,rfl,rfl,hv _ hfz,⟨fun id b h=>(by cases h),fun i j bi bj ti tj h=>(by cases h),fun k r' hk=>?_,fun id b t h=>(by cases h),fun k r' hk=>⟨?_,fun id b t h=>(by cases h)⟩⟩,hf,Nat.le_refl _,fun id hid h=>absurd rfl h,fun _ _=>rfl,
  ⟨Ren.le_frz hnone,b1,b2,b3,b4,fun k hk _=>b5 k hk,fun id b t h1=>(by cases h1),fun k r' hk=>?_,fun k r h=>.inl h⟩⟩
 ·simp only [Ren.frz] at hk
  split at hk
  ·rename_i hkb;cases hk;rw [hkb];exact ⟨ty,fr,hrow⟩
  ·obtain ⟨e,fr,h1⟩:=hR.frz k r' hk
   exact ⟨e,fr,by rw [b5 k (hR.flt hk)];exact h1⟩
 ·obtain ⟨⟨cl,h1⟩, -⟩:=hR.frm k r' hk
  exact ⟨cl,by rw [b5 k (Array.getElem?_eq_some_iff.1 h1).1];exact h1⟩
 ·simp only [Ren.frz] at hk
  split at hk
  ·rename_i hkb;subst hkb;exact .inr (.inl hb)
  ·exact .inl hk
theorem VRel.strs {ρ : Ren} {l:List (List UInt8)} {b n c:Nat} (h : ρ.fz b=some ((l.map fun s=>Value.string ⟨s.toArray⟩).toArray)) (hn:n=l.length) (hc:n≤c) (hm:c≤maxLen) :
  VRel ρ (.lst (l.map DV.str)) (.slice (some ⟨b,0,none⟩) n c):=by
 have hcl:cellsL (l.map DV.str)=l.map DV.str:=by
  clear h hn
  induction l with
  | nil=>rfl
  | cons x r ih =>
   have:cellsL ((x :: r).map DV.str)=[DV.str x]++cellsL (r.map DV.str):=rfl
   rw [this,ih];rfl
 refine .lst _ n 1 b 0 c _ h (by simpa using hn) hc hm (fun x hx=>by obtain ⟨y, -,rfl⟩:=List.mem_map.1 hx;rfl) ?_ ?_ ?_
 ·rw [hcl];simp
 ·rw [hcl];intro d hd;obtain ⟨y, -,rfl⟩:=List.mem_map.1 hd;rfl
 ·rw [hcl]
  intro k d v hd hv
  rw [List.getElem?_map] at hd
  obtain ⟨s,hs,rfl⟩:=Option.map_eq_some_iff.1 hd
  simp only [Nat.zero_add,List.getElem?_toArray,List.getElem?_map,hs,Option.map_some,Option.some.injEq] at hv
  subst hv
  exact .mkStr
end Go.Sym
namespace Go.Proofs.YtndjhpjcankkaaaGreatDoor
open Go.Eng (IC IOper DReg IFn IsFn)
open Go.Sym Go.Pb
theorem c_within (n lo hi:Int):PC Tryz.prog 68 [I64 n,I64 lo,I64 hi] (.bool (inB n lo hi)):=by
 refine PC.of mixedU isU68 (Nat.le_of_ble_eq_true rfl) (by simp [DV.nlL,DV.nl,nlL_ints,nlL_strs,nlL_adjs,nlL_scos]) (by simp [DV.nlL,DV.nl,nlL_ints,nlL_strs,nlL_adjs,nlL_scos]) ?_
 show IW Tryz.prog 15 u68_1 ⟨argT _,_,_⟩ (rt [.tmp 6] _)
 repeat' ((with_reducible first|refine wr ?_|refine k_cu ?_ ?_|refine wb2 ?_ ?_<;>(intro hb;try simp only [hb])|fail)<;>try simp only [go_sem,seval])
 all_goals (refine pc_ret ?_;simp_all [inB]<;>omega)
def Adj.fit (a:Adj):Prop := -1000000000≤a.lo∧a.lo≤a.hi∧a.hi≤1000000000∧1≤a.step∧a.step≤1000000000
theorem c_isValue (a:Adj) (v:Int) (h:Adj.fit a):PC Tryz.prog 64 [a.v,I64 v] (.bool (isValM a v)):=by
 obtain ⟨h1,h2,h3,h4,h5⟩:=h
 by_cases hin:inB v a.lo a.hi=true
 ·have hb:a.lo≤v∧v≤a.hi:=by simpa [inB] using hin
  have hw:=w64 (n:=v-a.lo) (by omega) (by omega)
  have hr:binR .rem (I64 (v-a.lo)) (I64 a.step)=some (I64 ((v-a.lo).tmod a.step)):=r_rem (by omega)
  refine PC.of mixedU isU64 (Nat.le_of_ble_eq_true rfl) (by simp [DV.nlL,DV.nl,nlL_ints,nlL_strs,nlL_adjs,nlL_scos]) (by simp [DV.nlL,DV.nl,nlL_ints,nlL_strs,nlL_adjs,nlL_scos]) ?_
  show IW Tryz.prog 21 u64_1 ⟨argT _,_,_⟩ (rt [.tmp 4] _)
  repeat' ((with_reducible first|refine wr ?_|refine cpc (c_within _ _ _) ?_|refine k_cu ?_ ?_|refine wb2 ?_ ?_<;>(intro hb;try simp only [hb])|fail)<;>try simp only [go_sem,seval,hw,hr,hin])
  all_goals (refine pc_ret ?_;simp_all [isValM]<;>omega)
 ·have hin:inB v a.lo a.hi=false:=by simpa using hin
  refine PC.of mixedU isU64 (Nat.le_of_ble_eq_true rfl) (by simp [DV.nlL,DV.nl,nlL_ints,nlL_strs,nlL_adjs,nlL_scos]) (by simp [DV.nlL,DV.nl,nlL_ints,nlL_strs,nlL_adjs,nlL_scos]) ?_
  show IW Tryz.prog 21 u64_1 ⟨argT _,_,_⟩ (rt [.tmp 4] _)
  repeat' ((with_reducible first|refine wr ?_|refine cpc (c_within _ _ _) ?_|refine k_cu ?_ ?_|refine wb2 ?_ ?_<;>(intro hb;try simp only [hb])|fail)<;>try simp only [go_sem,seval,hin])
  all_goals (refine pc_ret ?_;simp_all [isValM]<;>omega)
theorem c_isScore (x:Sco) (hx:x.name.length≤9223372036854775807):PC Tryz.prog 48 [x.v] (.bool (isScoM x)):=by
 refine PC.of mixedU isU48 (Nat.le_of_ble_eq_true rfl) (by simp [DV.nlL,DV.nl,nlL_ints,nlL_strs,nlL_adjs,nlL_scos]) (by simp [DV.nlL,DV.nl,nlL_ints,nlL_strs,nlL_adjs,nlL_scos]) ?_
 show IW Tryz.prog 32 u48_1 ⟨argT _,_,_⟩ (rt [.tmp 2] _)
 repeat' ((with_reducible first|refine wr ?_|refine k_cu ?_ ?_|refine wb2 ?_ ?_<;>(intro hb;try simp only [hb])|fail)<;>try simp only [go_sem,seval])
 refine i_loop (fun k:Nat=>[(1,.ptr 0 0),(3,I64 k)]) (fun _=>nil.upd 0 ⟨0,true,[.str x.name,I64 x.points]⟩) (fun k cc=>1≤cc∧k≤x.name.length∧(x.name.take k).all capB=true) (fun k=>x.name.length-k) 0 (by simp [tmLe,tm,Tm.upd]) (Sub.refl _) (by simp) ?_
 rintro k cc ⟨h1c,hk,he⟩
 by_cases hlt:k<x.name.length
 ·have hd:decide ((k:Int)<x.name.length)=true:=by simpa using hlt
  have hg:=List.getElem?_eq_getElem hlt
  have hw:=w64 (n:=(k:Int)+1) (by omega) (by omega)
  repeat' ((with_reducible first|refine wr ?_|refine k_cu ?_ ?_|refine wb2 ?_ ?_<;>(intro hb;try simp only [hb])|fail)<;>try simp only [go_sem,seval,hd,hg,hw])
  all_goals first
   | (refine pc_ret ?_;rw [isScoM,all_fail capB x.name k _ hg (by simp_all [capB];omega)];rfl)
   | exact ⟨k+1,rfl,Sub.refl _,inv ⟨by omega,by omega,by rw [all_take capB x.name k _ hg he];simp_all [capB];omega⟩,by omega⟩
 ·have hd:decide ((k:Int)<x.name.length)=false:=by simpa using hlt
  have hall:=all_done capB x.name k (by omega) he
  by_cases h3:x.name.length=3
  ·have h3':((x.name.length:Int) == 3)=true:=by simp [h3]
   repeat' ((with_reducible first|refine wr ?_|refine cpc (c_within _ _ _) ?_|refine k_cu ?_ ?_|refine wb2 ?_ ?_<;>(intro hb;try simp only [hb])|fail)<;>try simp only [go_sem,seval,hd,h3'])
   all_goals (refine pc_ret ?_;simp_all [isScoM])
  ·have h3':((x.name.length:Int) == 3)=false:=by simp;omega
   repeat' ((with_reducible first|refine wr ?_|refine cpc (c_within _ _ _) ?_|refine k_cu ?_ ?_|refine wb2 ?_ ?_<;>(intro hb;try simp only [hb])|fail)<;>try simp only [go_sem,seval,hd,h3'])
   all_goals (refine pc_ret ?_;simp_all [isScoM])
theorem c_cmp (a b:Sco) (ha:0≤a.points∧a.points≤999999999999) (hb:0≤b.points∧b.points≤999999999999):PC Tryz.prog 108 [a.v,b.v] (I64 (b.points-a.points)):=by
 have hw:=w64 (n:=b.points-a.points) (by omega) (by omega)
 refine PC.of mixedU isU108 (Nat.le_of_ble_eq_true rfl) (by simp [DV.nlL,DV.nl,nlL_ints,nlL_strs,nlL_adjs,nlL_scos]) (by simp [DV.nlL,DV.nl,nlL_ints,nlL_strs,nlL_adjs,nlL_scos]) ?_
 show IW Tryz.prog 10 u108_1 ⟨argT _,_,_⟩ (rt [.tmp 4] _)
 repeat' ((with_reducible first|refine wr ?_|refine k_cu ?_ ?_|refine wb2 ?_ ?_<;>(intro hb;try simp only [hb])|fail)<;>try simp only [go_sem,seval,hw])
 all_goals (refine pc_ret ?_;simp_all)
theorem ordM_iff:∀ (l:List Sco),ordM l=true↔∀ i (a b:Sco),l[i]? = some a→l[i+1]? = some b→b.points≤a.points
 | []=>by simp [ordM]
 | [x]=>by simp [ordM]
 | x :: y :: l=>by
  have ih:=ordM_iff (y :: l)
  simp only [ordM,Bool.and_eq_true,decide_eq_true_eq,ih]
  constructor
  ·rintro ⟨h1,h2⟩ i a b ha hb
   cases i with
   | zero=>simp at ha hb;subst ha hb;exact h1
   | succ i=>exact h2 i a b (by simpa using ha) (by simpa using hb)
  ·intro h
   exact ⟨h 0 x y rfl rfl,fun i a b ha hb=>h (i+1) a b (by simpa using ha) (by simpa using hb)⟩
theorem c_sorted (xs:List Sco) (hx:xs.length≤9223372036854775807) (hp:∀ x∈xs,0≤x.points∧x.points≤999999999999) :
  PC Tryz.prog 107 [scosV xs,.func 108 [] []] (.bool (ordM xs)):=by
 cases hxs:xs with
 | nil =>
  refine PC.of mixedU isU107 (Nat.le_of_ble_eq_true rfl) (by simp [DV.nlL,DV.nl,nlL_ints,nlL_strs,nlL_adjs,nlL_scos]) (by simp [DV.nlL,DV.nl,nlL_ints,nlL_strs,nlL_adjs,nlL_scos]) ?_
  show IW Tryz.prog 25 u107_1 ⟨argT _,_,_⟩ (rt [.tmp 4] _)
  have hw:IntKind.i64.wrap (-1) = -1:=w64 (by omega) (by omega)
  repeat' ((with_reducible first|refine wr ?_|refine k_cu ?_ ?_|refine wb2 ?_ ?_<;>(intro hb;try simp only [hb])|fail)<;>try simp only [go_sem,seval,hw])
  refine i_loop (fun _:Unit=>[(0,scosV []),(1,.func 108 [] []),(5,I64 (-1))]) (fun _=>nil) (fun _ _=>True) (fun _=>0) () (by simp [tmLe,tm,Tm.upd]) (Sub.nil _) trivial ?_
  rintro-c -
  repeat' ((with_reducible first|refine wr ?_|refine k_cu ?_ ?_|refine wb2 ?_ ?_<;>(intro hb;try simp only [hb])|fail)<;>try simp only [go_sem,seval])
  refine pc_ret ?_
  rfl
 | cons x0 xr =>
 rw [← hxs]
 have hpos:0<xs.length:=by rw [hxs];simp
 have hw0:IntKind.i64.wrap ((xs.length:Int)-1)=((xs.length-1:Nat):Int):=by rw [w64 (by omega) (by omega)];omega
 clear hxs
 refine PC.of mixedU isU107 (Nat.le_of_ble_eq_true rfl) (by simp [DV.nlL,DV.nl,nlL_ints,nlL_strs,nlL_adjs,nlL_scos]) (by simp [DV.nlL,DV.nl,nlL_ints,nlL_strs,nlL_adjs,nlL_scos]) ?_
 show IW Tryz.prog 25 u107_1 ⟨argT _,_,_⟩ (rt [.tmp 4] _)
 repeat' ((with_reducible first|refine wr ?_|refine k_cu ?_ ?_|refine wb2 ?_ ?_<;>(intro hb;try simp only [hb])|fail)<;>try simp only [go_sem,seval,hw0])
 refine i_loop (fun k:Nat=>[(0,scosV xs),(1,.func 108 [] []),(5,I64 k)]) (fun _=>nil) (fun k _=>k<xs.length∧∀ i (a b:Sco),k≤i→xs[i]? = some a→xs[i+1]? = some b→b.points≤a.points) (fun k=>k) (xs.length-1) (by simp [tmLe,tm,Tm.upd]) (Sub.nil _) ⟨by omega,fun i a b hi _ hb=>by have:=(List.getElem?_eq_some_iff.1 hb).1;omega⟩ ?_
 rintro k c ⟨hk,he⟩
 by_cases hlt:0<k
 ·obtain ⟨j,rfl⟩:∃ j,k=j+1:=⟨k-1,by omega⟩
  have hd:decide (((j+1:Nat):Int)>0)=true:=by simp
  have hg:=List.getElem?_eq_getElem hk
  have hg1:=List.getElem?_eq_getElem (show j<xs.length by omega)
  have hw:IntKind.i64.wrap (((j+1:Nat):Int)-1)=(j:Int):=by rw [w64 (by omega) (by omega)];omega
  have hc:=c_cmp xs[j+1] xs[j] (hp _ (List.getElem_mem _)) (hp _ (List.getElem_mem _))
  have hnx:xs[j+1].points≤xs[j].points→∀ i a b,j≤i→xs[i]? = some a→xs[i+1]? = some b→b.points≤a.points:=fun hle i a b hi ha hb'=>by
   rcases Nat.lt_or_ge i (j+1) with h|h
   ·have:i=j:=by omega
    subst this
    rw [hg1] at ha;rw [hg] at hb';cases ha;cases hb'
    exact hle
   ·exact he i a b h ha hb'
  repeat' ((with_reducible first|refine wr ?_|refine cpc hc ?_|refine k_cu ?_ ?_|refine wb2 ?_ ?_<;>(intro hb;try simp only [hb])|fail)<;>try simp only [go_sem,seval,hd,hg,hg1,hw])
  all_goals first
   | (refine pc_ret (congrArg DV.bool ?_);symm;rw [Bool.eq_false_iff];intro h;have:=(ordM_iff xs).1 h j _ _ hg1 hg;simp at hb;omega)
   | exact ⟨j,rfl,Sub.nil _,inv ⟨by omega,hnx (by simp at hb;omega)⟩,by omega⟩
 ·have h0:k=0:=by omega
  subst h0
  repeat' ((with_reducible first|refine wr ?_|refine k_cu ?_ ?_|refine wb2 ?_ ?_<;>(intro hb;try simp only [hb])|fail)<;>try simp only [go_sem,seval])
  refine pc_ret (congrArg DV.bool ?_)
  symm
  rw [ordM_iff]
  exact fun i a b=>he i a b (Nat.zero_le _)
theorem c_inOrder (xs:List Sco) (hx:xs.length≤9223372036854775807) (hp:∀ x∈xs,0≤x.points∧x.points≤999999999999):PC Tryz.prog 92 [scosV xs] (.bool (ordM xs)):=by
 have hc:=c_sorted xs hx hp
 refine PC.of mixedU isU92 (Nat.le_of_ble_eq_true rfl) (by simp [DV.nlL,DV.nl,nlL_ints,nlL_strs,nlL_adjs,nlL_scos]) (by simp [DV.nlL,DV.nl,nlL_ints,nlL_strs,nlL_adjs,nlL_scos]) ?_
 show IW Tryz.prog 5 u92_1 ⟨argT _,_,_⟩ (rt [.tmp 2] _)
 repeat' ((with_reducible first|refine wr ?_|refine cpc hc ?_|refine k_cu ?_ ?_|refine wb2 ?_ ?_<;>(intro hb;try simp only [hb])|fail)<;>try simp only [go_sem,seval])
 all_goals (refine pc_ret ?_;rfl)
theorem c_IF_sco {g:Sco→Bool} {f:Nat} {a cs:List DV} (xs:List Sco) (hx:xs.length≤9223372036854775807) (na:DV.nlL a=true) (ncs:DV.nlL cs=true) (hf:∀ x∈xs,PC Tryz.prog f (a++[Sco.v x]++cs) (.bool (g x))) :
  PC Tryz.prog 49 [scosV xs,.func f a cs] (I64 (idxM g xs 0)):=by
 refine PC.of mixedU isU49 (Nat.le_of_ble_eq_true rfl) (by simp [DV.nlL,DV.nl,nlL_scos,na,ncs]) rfl ?_
 show IW Tryz.prog 19 u49_1 ⟨argT _,_,_⟩ (rt [.tmp 4] _)
 repeat' ((with_reducible first|refine wr ?_|refine k_cu ?_ ?_|refine wb2 ?_ ?_<;>(intro hb;try simp only [hb])|fail)<;>try simp only [go_sem,seval])
 refine i_loop (fun k:Nat=>[(0,scosV xs),(1,.func f a cs),(7,I64 xs.length),(8,I64 k)]) (fun _=>nil) (fun k _=>k≤xs.length∧idxM g xs 0=idxM g (xs.drop k) k) (fun k=>xs.length-k) 0 (by simp [tmLe,tm,Tm.upd]) (Sub.nil _) (by simp) ?_
 rintro k c ⟨hk,he⟩
 by_cases hlt:k<xs.length
 ·have hd:decide ((k:Int)<xs.length)=true:=by simpa using hlt
  have hg:=List.getElem?_eq_getElem hlt
  have hw:=w64 (n:=(k:Int)+1) (by omega) (by omega)
  have hst:=idxM_step (g:=g) hg
  have hc:=hf xs[k] (List.getElem_mem hlt)
  repeat' ((with_reducible first|refine wr ?_|refine cpc hc ?_|refine k_cu ?_ ?_|refine wb2 ?_ ?_<;>(intro hb;try simp only [hb])|fail)<;>try simp only [go_sem,seval,hd,hg,hw])
  ·refine pc_ret ?_
   rw [he,hst,hb];rfl
  ·exact ⟨k+1,rfl,Sub.refl _,inv ⟨by omega,by rw [he,hst,hb];rfl⟩,by omega⟩
 ·have hd:decide ((k:Int)<xs.length)=false:=by simpa using hlt
  repeat' ((with_reducible first|refine wr ?_|refine k_cu ?_ ?_|refine wb2 ?_ ?_<;>(intro hb;try simp only [hb])|fail)<;>try simp only [go_sem,seval,hd])
  refine pc_ret ?_
  rw [he,idxM_end (by omega)]
theorem c_CF_sco {g:Sco→Bool} {f:Nat} {a cs:List DV} (xs:List Sco) (hx:xs.length≤9223372036854775807) (na:DV.nlL a=true) (ncs:DV.nlL cs=true) (hf:∀ x∈xs,PC Tryz.prog f (a++[Sco.v x]++cs) (.bool (g x))) :
  PC Tryz.prog 90 [scosV xs,.func f a cs] (.bool (xs.any g)):=by
 refine PC.of mixedU isU90 (Nat.le_of_ble_eq_true rfl) (by simp [DV.nlL,DV.nl,nlL_scos,na,ncs]) rfl ?_
 show IW Tryz.prog 9 u90_1 ⟨argT _,_,_⟩ (rt [.tmp 4] _)
 have hc:=c_IF_sco xs hx na ncs hf
 repeat' ((with_reducible first|refine wr ?_|refine cpc hc ?_|refine k_cu ?_ ?_|refine wb2 ?_ ?_<;>(intro hb;try simp only [hb])|fail)<;>try simp only [go_sem,seval])
 refine pc_ret ?_
 rw [idxM_any]
theorem c_IF_int {g:Int→Bool} {f:Nat} {a cs:List DV} (xs:List Int) (hx:xs.length≤9223372036854775807) (na:DV.nlL a=true) (ncs:DV.nlL cs=true) (hf:∀ x∈xs,PC Tryz.prog f (a++[I64 x]++cs) (.bool (g x))) :
  PC Tryz.prog 93 [.lst (xs.map I64),.func f a cs] (I64 (idxM g xs 0)):=by
 refine PC.of mixedU isU93 (Nat.le_of_ble_eq_true rfl) (by simp [DV.nlL,DV.nl,nlL_ints,na,ncs]) rfl ?_
 show IW Tryz.prog 19 u93_1 ⟨argT _,_,_⟩ (rt [.tmp 4] _)
 repeat' ((with_reducible first|refine wr ?_|refine k_cu ?_ ?_|refine wb2 ?_ ?_<;>(intro hb;try simp only [hb])|fail)<;>try simp only [go_sem,seval])
 refine i_loop (fun k:Nat=>[(0,.lst (xs.map I64)),(1,.func f a cs),(7,I64 xs.length),(8,I64 k)]) (fun _=>nil) (fun k _=>k≤xs.length∧idxM g xs 0=idxM g (xs.drop k) k) (fun k=>xs.length-k) 0 (by simp [tmLe,tm,Tm.upd]) (Sub.nil _) (by simp) ?_
 rintro k c ⟨hk,he⟩
 by_cases hlt:k<xs.length
 ·have hd:decide ((k:Int)<xs.length)=true:=by simpa using hlt
  have hg:=List.getElem?_eq_getElem hlt
  have hw:=w64 (n:=(k:Int)+1) (by omega) (by omega)
  have hst:=idxM_step (g:=g) hg
  have hc:=hf xs[k] (List.getElem_mem hlt)
  repeat' ((with_reducible first|refine wr ?_|refine cpc hc ?_|refine k_cu ?_ ?_|refine wb2 ?_ ?_<;>(intro hb;try simp only [hb])|fail)<;>try simp only [go_sem,seval,hd,hg,hw])
  ·refine pc_ret ?_
   rw [he,hst,hb];rfl
  ·exact ⟨k+1,rfl,Sub.refl _,inv ⟨by omega,by rw [he,hst,hb];rfl⟩,by omega⟩
 ·have hd:decide ((k:Int)<xs.length)=false:=by simpa using hlt
  repeat' ((with_reducible first|refine wr ?_|refine k_cu ?_ ?_|refine wb2 ?_ ?_<;>(intro hb;try simp only [hb])|fail)<;>try simp only [go_sem,seval,hd])
  refine pc_ret ?_
  rw [he,idxM_end (by omega)]
theorem c_CF_int {g:Int→Bool} {f:Nat} {a cs:List DV} (xs:List Int) (hx:xs.length≤9223372036854775807) (na:DV.nlL a=true) (ncs:DV.nlL cs=true) (hf:∀ x∈xs,PC Tryz.prog f (a++[I64 x]++cs) (.bool (g x))) :
  PC Tryz.prog 70 [.lst (xs.map I64),.func f a cs] (.bool (xs.any g)):=by
 refine PC.of mixedU isU70 (Nat.le_of_ble_eq_true rfl) (by simp [DV.nlL,DV.nl,nlL_ints,na,ncs]) rfl ?_
 show IW Tryz.prog 9 u70_1 ⟨argT _,_,_⟩ (rt [.tmp 4] _)
 have hc:=c_IF_int xs hx na ncs hf
 repeat' ((with_reducible first|refine wr ?_|refine cpc hc ?_|refine k_cu ?_ ?_|refine wb2 ?_ ?_<;>(intro hb;try simp only [hb])|fail)<;>try simp only [go_sem,seval])
 refine pc_ret ?_
 rw [idxM_any]
theorem c_noSco (x:Sco) (hx:x.name.length≤9223372036854775807):PC Tryz.prog 91 [x.v] (.bool (!isScoM x)):=by
 refine PC.of mixedU isU91 (Nat.le_of_ble_eq_true rfl) (by simp [DV.nlL,DV.nl,nlL_ints,nlL_strs,nlL_adjs,nlL_scos]) (by simp [DV.nlL,DV.nl,nlL_ints,nlL_strs,nlL_adjs,nlL_scos]) ?_
 show IW Tryz.prog 6 u91_1 ⟨argT _,_,_⟩ (rt [.tmp 2] _)
 repeat' ((with_reducible first|refine wr ?_|refine cpc (c_isScore x hx) ?_|refine k_cu ?_ ?_|refine wb2 ?_ ?_<;>(intro hb;try simp only [hb])|fail)<;>try simp only [go_sem,seval])
 all_goals (refine pc_ret ?_;simp_all)
end Go.Proofs.YtndjhpjcankkaaaGreatDoor
namespace Go.Proofs.YtndjhpjcankkaaaGreatDoor
open Go.Eng (IC IOper DReg IFn IsFn)
open Go.Sym Go.Pb
def lenS (l:List Sco):Prop:=l.length≤9223372036854775807∧∀ x∈l,x.name.length≤9223372036854775807
def lenB (c:Book):Prop:=c.adjs.length≤9223372036854775807∧lenS c.scores
def lenT (s:BSt):Prop:=s.sets.length≤9223372036854775807∧s.counts.length≤9223372036854775807∧lenS s.scores
theorem c_scores (xs:List Sco) (hx:lenS xs):PC Tryz.prog 69 [scosV xs] (I64 (scosM xs)):=by
 have hc:=c_CF_sco (f:=91) (a:=[]) (cs:=[]) (g:=fun x => !isScoM x) xs hx.1 rfl rfl (fun x h=>c_noSco x (hx.2 x h))
 by_cases ha:xs.all isScoM=true
 ·have ha':xs.any (fun x => !isScoM x)=false:=by
   rw [List.any_eq_false];rw [List.all_eq_true] at ha
   intro x h;simp [ha x h]
  rw [ha'] at hc
  have ho:=c_inOrder xs hx.1 (fun x h=>by
   rw [List.all_eq_true] at ha
   have:=ha x h
   simp [isScoM,inB] at this
   omega)
  refine PC.of mixedU isU69 (Nat.le_of_ble_eq_true rfl) (by simp [DV.nlL,DV.nl,nlL_ints,nlL_strs,nlL_adjs,nlL_scos]) (by simp [DV.nlL,DV.nl,nlL_ints,nlL_strs,nlL_adjs,nlL_scos]) ?_
  show IW Tryz.prog 8 u69_1 ⟨argT _,_,_⟩ (rt [.tmp 2] _)
  repeat' ((with_reducible first|refine wr ?_|refine cpc hc ?_|refine cpc ho ?_|refine k_cu ?_ ?_|refine wb2 ?_ ?_<;>(intro hb;try simp only [hb])|fail)<;>try simp only [go_sem,seval])
  all_goals (refine pc_ret ?_;simp_all [scosM])
 ·have ha0:xs.all isScoM=false:=by simpa using ha
  have ha':xs.any (fun x => !isScoM x)=true:=by
   rw [List.all_eq_false] at ha0
   obtain ⟨x,h,h2⟩:=ha0
   rw [List.any_eq_true]
   exact ⟨x,h,by simpa using h2⟩
  rw [ha'] at hc
  refine PC.of mixedU isU69 (Nat.le_of_ble_eq_true rfl) (by simp [DV.nlL,DV.nl,nlL_ints,nlL_strs,nlL_adjs,nlL_scos]) (by simp [DV.nlL,DV.nl,nlL_ints,nlL_strs,nlL_adjs,nlL_scos]) ?_
  show IW Tryz.prog 8 u69_1 ⟨argT _,_,_⟩ (rt [.tmp 2] _)
  repeat' ((with_reducible first|refine wr ?_|refine cpc hc ?_|refine k_cu ?_ ?_|refine wb2 ?_ ?_<;>(intro hb;try simp only [hb])|fail)<;>try simp only [go_sem,seval])
  all_goals (refine pc_ret ?_;simp_all [scosM])
abbrev csB (c:Book):List DV:=[adjsV c.adjs,I64 c.cnt,scosV c.scores]
abbrev csS (s:BSt):List DV:=[intsV s.sets,intsV s.counts,scosV s.scores]
theorem adjM_fit {a:Adj} (h1:inB a.lo (-1000000000) 1000000000=true) (h2:inB a.hi a.lo 1000000000=true) (h3:inB a.step 1 1000000000=true):Adj.fit a:=by
 simp [inB] at h1 h2 h3
 exact ⟨by omega,by omega,by omega,by omega,by omega⟩
theorem fit_of_adjM {a:Adj} (h:adjM a=true):Adj.fit a:=by
 simp only [adjM,Bool.and_eq_true] at h
 exact adjM_fit h.1 h.2.1 h.2.2.1
theorem c_valid (c:Book) (hl:lenB c):PC Tryz.prog 34 [c.v] (I64 (validBM c)):=by
 have hcs:=c_scores c.scores hl.2
 have hla:=hl.1
 by_cases h0:32<c.adjs.length∨inB c.cnt 0 32=false∨8<c.scores.length
 ·have hv:validBM c=9:=by rw [validBM,if_pos h0]
  by_cases q1:32<c.adjs.length
  ·have q1':decide ((c.adjs.length:Int)>32)=true:=by simp;omega
   refine PC.of mixedU isU34 (Nat.le_of_ble_eq_true rfl) (by simp [DV.nlL,DV.nl,nlL_ints,nlL_strs,nlL_adjs,nlL_scos]) (by simp [DV.nlL,DV.nl,nlL_ints,nlL_strs,nlL_adjs,nlL_scos]) ?_
   show IW Tryz.prog 57 u34_1 ⟨argT _,_,_⟩ (rt [.tmp 2] _)
   repeat' ((with_reducible first|refine wr ?_|refine cpc (c_within _ _ _) ?_|refine k_cu ?_ ?_|refine wb2 ?_ ?_<;>(intro hb;try simp only [hb])|fail)<;>try simp only [go_sem,seval,q1'])
   all_goals (refine pc_ret ?_;rw [hv])
  ·have q1':decide ((c.adjs.length:Int)>32)=false:=by simp;omega
   by_cases q2:inB c.cnt 0 32=false
   ·refine PC.of mixedU isU34 (Nat.le_of_ble_eq_true rfl) (by simp [DV.nlL,DV.nl,nlL_ints,nlL_strs,nlL_adjs,nlL_scos]) (by simp [DV.nlL,DV.nl,nlL_ints,nlL_strs,nlL_adjs,nlL_scos]) ?_
    show IW Tryz.prog 57 u34_1 ⟨argT _,_,_⟩ (rt [.tmp 2] _)
    repeat' ((with_reducible first|refine wr ?_|refine cpc (c_within _ _ _) ?_|refine k_cu ?_ ?_|refine wb2 ?_ ?_<;>(intro hb;try simp only [hb])|fail)<;>try simp only [go_sem,seval,q1',q2])
    all_goals (refine pc_ret ?_;rw [hv])
   ·have q2:inB c.cnt 0 32=true:=by simpa using q2
    have q3:decide ((c.scores.length:Int)>8)=true:=by
     rcases h0 with h|h|h
     ·omega
     ·rw [q2] at h;cases h
     ·simp;omega
    refine PC.of mixedU isU34 (Nat.le_of_ble_eq_true rfl) (by simp [DV.nlL,DV.nl,nlL_ints,nlL_strs,nlL_adjs,nlL_scos]) (by simp [DV.nlL,DV.nl,nlL_ints,nlL_strs,nlL_adjs,nlL_scos]) ?_
    show IW Tryz.prog 57 u34_1 ⟨argT _,_,_⟩ (rt [.tmp 2] _)
    repeat' ((with_reducible first|refine wr ?_|refine cpc (c_within _ _ _) ?_|refine k_cu ?_ ?_|refine wb2 ?_ ?_<;>(intro hb;try simp only [hb])|fail)<;>try simp only [go_sem,seval,q1',q2,q3])
    all_goals (refine pc_ret ?_;rw [hv])
 ·have h00:=h0
  have q1:decide ((c.adjs.length:Int)>32)=false:=by simp;omega
  have q2:inB c.cnt 0 32=true:=by cases h:inB c.cnt 0 32<;>simp_all
  have q3:decide ((c.scores.length:Int)>8)=false:=by simp;omega
  refine PC.of mixedU isU34 (Nat.le_of_ble_eq_true rfl) (by simp [DV.nlL,DV.nl,nlL_ints,nlL_strs,nlL_adjs,nlL_scos]) (by simp [DV.nlL,DV.nl,nlL_ints,nlL_strs,nlL_adjs,nlL_scos]) ?_
  show IW Tryz.prog 57 u34_1 ⟨argT _,_,_⟩ (rt [.tmp 2] _)
  repeat' ((with_reducible first|refine wr ?_|refine cpc (c_within _ _ _) ?_|refine k_cu ?_ ?_|refine wb2 ?_ ?_<;>(intro hb;try simp only [hb])|fail)<;>try simp only [go_sem,seval,q1,q2,q3])
  refine i_loop (fun k:Nat=>[(1,.ptr 0 0),(22,adjsV c.adjs),(23,I64 c.adjs.length),(24,I64 k)]) (fun _=>nil.upd 0 ⟨0,true,csB c⟩) (fun k cc=>1≤cc∧k≤c.adjs.length∧(c.adjs.take k).all adjM=true) (fun k=>c.adjs.length-k) 0 (by simp [tmLe,tm,Tm.upd]) (Sub.refl _) (by simp) ?_
  rintro k cc ⟨h1c,hk,he⟩
  by_cases hlt:k<c.adjs.length
  ·have hd:decide ((k:Int)<c.adjs.length)=true:=by simpa using hlt
   have hg:=List.getElem?_eq_getElem hlt
   have hw:=w64 (n:=(k:Int)+1) (by omega) (by omega)
   generalize c.adjs[k]=a at hg
   have fin:adjM a=false→validBM c=5:=fun h=>by
    rw [validBM,if_neg h00,if_pos (all_fail adjM c.adjs k a hg h)]
   have nxt:adjM a=true→(c.adjs.take (k+1)).all adjM=true:=fun h=>by rw [all_take adjM c.adjs k a hg he,h]
   by_cases h1:inB a.lo (-1000000000) 1000000000=true
   ·by_cases h2:inB a.hi a.lo 1000000000=true
    ·by_cases h3:inB a.step 1 1000000000=true
     ·have hc:=c_isValue a a.dflt (adjM_fit h1 h2 h3)
      repeat' ((with_reducible first|refine wr ?_|refine cpc (c_within _ _ _) ?_|refine cpc hc ?_|refine k_cu ?_ ?_|refine wb2 ?_ ?_<;>(intro hb;try simp only [hb])|fail)<;>try simp only [go_sem,seval,hd,hg,hw,h1,h2,h3])
      all_goals first
       | (refine pc_ret ?_;rw [fin (by simp_all [adjM])])
       | exact ⟨k+1,rfl,by first|exact Sub.refl _|(intro j b hj;simp only [Hp.upd,nil] at hj ⊢;split at hj<;>simp_all<;>omega),inv ⟨by omega,by omega,nxt (by simp_all [adjM])⟩,by omega⟩
     ·have h3:inB a.step 1 1000000000=false:=by simpa using h3
      repeat' ((with_reducible first|refine wr ?_|refine cpc (c_within _ _ _) ?_|refine k_cu ?_ ?_|refine wb2 ?_ ?_<;>(intro hb;try simp only [hb])|fail)<;>try simp only [go_sem,seval,hd,hg,hw,h1,h2,h3])
      all_goals (refine pc_ret ?_;rw [fin (by simp_all [adjM])])
    ·have h2:inB a.hi a.lo 1000000000=false:=by simpa using h2
     repeat' ((with_reducible first|refine wr ?_|refine cpc (c_within _ _ _) ?_|refine k_cu ?_ ?_|refine wb2 ?_ ?_<;>(intro hb;try simp only [hb])|fail)<;>try simp only [go_sem,seval,hd,hg,hw,h1,h2])
     all_goals (refine pc_ret ?_;rw [fin (by simp_all [adjM])])
   ·have h1:inB a.lo (-1000000000) 1000000000=false:=by simpa using h1
    repeat' ((with_reducible first|refine wr ?_|refine cpc (c_within _ _ _) ?_|refine k_cu ?_ ?_|refine wb2 ?_ ?_<;>(intro hb;try simp only [hb])|fail)<;>try simp only [go_sem,seval,hd,hg,hw,h1])
    all_goals (refine pc_ret ?_;rw [fin (by simp_all [adjM])])
  ·have hd:decide ((k:Int)<c.adjs.length)=false:=by simpa using hlt
   have hall:=all_done adjM c.adjs k (by omega) he
   repeat' ((with_reducible first|refine wr ?_|refine cpc hcs ?_|refine k_cu ?_ ?_|refine wb2 ?_ ?_<;>(intro hb;try simp only [hb])|fail)<;>try simp only [go_sem,seval,hd])
   refine pc_ret ?_
   rw [validBM,if_neg h00,if_neg (by rw [hall];simp)]
end Go.Proofs.YtndjhpjcankkaaaGreatDoor
namespace Go.Pb
variable [Go.Sym.Tab]
open Go.Sym
theorem upd0_lt {b:Blk} {c j:Nat} {q:Blk} (hc:1≤c) (h:(Sym.nil.upd 0 b) j=some q):j<c:=by
 by_cases e:j=0
 ·omega
 ·rw [h_ne e] at h;cases h
theorem upd0_no {b:Blk} {i:Nat} (h:¬ i=0):(Sym.nil.upd 0 b) i=none:=by rw [h_ne h];rfl
end Go.Pb
namespace Go.Pb
variable [Go.Sym.Tab]
open Go.Sym
theorem sub_any {X H1:Hp} {o:Option Nat} {c n0:Nat} {b b3 b3':Blk} (hX:∀ j q,X j=some q→j<c) (ho:∀ i,o=some i→X i=none) (hH:∀ j,j<c→H1 j=optH X o b j) (hn:c≤n0) (hb:b3=b3') :
  Sub (optH X (some n0) b3) ((delO H1 o).upd n0 b3'):=by
 subst hb
 intro j q hj
 simp only [optH] at hj
 by_cases e:j=n0
 ·subst e;rw [h_same] at hj ⊢;exact hj
 ·rw [h_ne e] at hj ⊢
  have h1:=hX j q hj
  have h2:∀ i,o=some i→¬ j=i:=fun i hi e2=>by rw [e2,ho i hi] at hj;cases hj
  rw [delO_ne h2,hH j h1,optH_ne h2]
  exact hj
theorem pc_todo {X:Hp} {o:Option Nat} {xs:List DV} {u n:Nat} (hno:o=none→xs=[]) (hl:xs.length=n) (hu:∀ x∈xs,x.cells.length=u) :
  ∃ H2,GL (optH X o ⟨u,true,cellsL xs⟩) [todoV o n] H2 [.lst xs]:=by
 cases o with
 | none=>rw [hno rfl];exact pc_snil
 | some i=>exact pc_slc (id:=i) h_same rfl hl hu ⟨[],by simp⟩
theorem cells_scos:∀ l:List Sco,cellsL (l.map Sco.v)=l.flatMap fun x=>[.str x.name,I64 x.points]
 | []=>rfl
 | x :: r=>by
  show [DV.str x.name,I64 x.points]++cellsL (r.map Sco.v)=_
  rw [cells_scos r];rfl
theorem own_end {H:Hp} {d:DV} {V:Nat→DV} {u:Nat} {cs:List DV} (id:Nat) (hd:d=V id) (hI:H id=some ⟨u,true,cs⟩):∃ v2 H2,GL H [d] H2 [v2]∧∃ id,v2=V id∧H2=nil.upd id ⟨u,true,cs⟩:=by
 refine ⟨d,nil.upd id ⟨u,true,cs⟩,GL.less fun j=>?_,id,hd,rfl⟩
 by_cases e:j=id
 ·subst e;right;rw [h_same,hI]
 ·left;rw [h_ne e];rfl
theorem nl3 {ρ ρ':Ren} {id id' n:Nat} (h1 : ρ.nm id = ρ'.nm id') {v:Value} (h:VRel ρ (.slc id 0 n) v):VRel ρ' (.slc id' 0 n) v:=by
 cases h with|slc _ _ _ cap t g1 g2 g3 g4 g5=>exact .slc _ _ _ _ t (by rw [← h1];exact g1) g2 g3 g4 g5
theorem pc_view1 {H:Hp} {a a':DV} {bs:List DV} (h:∀ (ρ : Ren) (v:Value),VRel ρ a v→VRel ρ a' v):∃ H2,GL H [.tup (a :: bs)] H2 [.tup (a' :: bs)] :=
 ⟨H,GL.view fun ρ vs hA=>arel_one (fun v hv=>by
  obtain ⟨b',rfl,k1,k2⟩:=hv.tup_inv
  refine .tup _ _ k1 fun j x y hx hy=>?_
  match j with
  | 0=>cases hx;exact h ρ y (k2 0 _ y rfl hy)
  | j+1=>exact k2 (j+1) _ y hx hy) vs hA⟩
theorem view_agg {ρ : Ren} {v:Value}:∀ {l1 l2:List DV},l1.length=l2.length→(∀ (j:Nat) a b (y:Value),l1[j]? = some a→l2[j]? = some b→VRel ρ a y→VRel ρ b y)→VRel ρ (.agg l1) v→VRel ρ (.agg l2) v:=by
 intro l1 l2 hl h hv
 obtain ⟨b',rfl,k1,k2⟩:=hv.agg_inv
 refine .agg _ _ (by rw [← hl];exact k1) fun j x y hx hy=>?_
 have hj:j<l1.length:=by rw [hl];exact (List.getElem?_eq_some_iff.1 hx).1
 have ha:=List.getElem?_eq_getElem hj
 exact h j _ x y ha hx (k2 j _ y ha hy)
theorem view_no {ρ : Ren} {v:Value} (h:VRel ρ (.agg [.snil,.snil,.snil]) v):VRel ρ noSt.v v :=
 view_agg (l1:=[.snil,.snil,.snil]) (l2:=[intsV noSt.sets,intsV noSt.counts,scosV noSt.scores]) rfl (fun j a b y ha hb hy=>by
  match j with
  | 0=>cases ha;cases hb;exact hy.snil_lst
  | 1=>cases ha;cases hb;exact hy.snil_lst
  | 2=>cases ha;cases hb;exact hy.snil_lst
  | _+3=>cases ha) h
theorem view_nilA {ρ : Ren} {v:Value} {p q:DV} (h:VRel ρ (.agg [.snil,p,q]) v):VRel ρ (.agg [.lst [],p,q]) v :=
 view_agg (l1:=[.snil,p,q]) (l2:=[.lst [],p,q]) rfl (fun j a b y ha hb hy=>by
  match j with
  | 0=>cases ha;cases hb;exact hy.snil_lst
  | 1=>cases ha;cases hb;exact hy
  | 2=>cases ha;cases hb;exact hy
  | _+3=>cases ha) h
theorem pc_no {H:Hp} {bs:List DV}:∃ H2,GL H [.tup (.agg [.snil,.snil,.snil] :: bs)] H2 [.tup (noSt.v :: bs)]:=pc_view1 fun _ _=>view_no
theorem pc_stA {H:Hp} {id:Nat} {u:Nat} {blk:Blk} {xs:List DV} {n:Nat} {a b:DV} {bs:List DV} (hb:H id=some blk) (ho:blk.own=true) (hl:xs.length=n) (hu:∀ x∈xs,x.cells.length=u) (hc:∃ r,blk.cells=cellsL xs++r) :
  ∃ H2,GL H [.tup (.agg [.slc id 0 n,a,b] :: bs)] H2 [.tup (.agg [.lst xs,a,b] :: bs)] :=
 ⟨nil,GL.one hb ho (.cons _ _ _ _ (.tup _ _ (.cons _ _ _ _ (.agg _ _ (.cons _ _ _ _ (fz_slc hl hu hc) (FzL.refl _))) (FzL.refl _))) .nil)⟩
theorem pc_stB {H:Hp} {id:Nat} {u:Nat} {blk:Blk} {xs:List DV} {n:Nat} {a b:DV} {bs:List DV} (hb:H id=some blk) (ho:blk.own=true) (hl:xs.length=n) (hu:∀ x∈xs,x.cells.length=u) (hc:∃ r,blk.cells=cellsL xs++r) :
  ∃ H2,GL H [.tup (.agg [a,.slc id 0 n,b] :: bs)] H2 [.tup (.agg [a,.lst xs,b] :: bs)] :=
 ⟨nil,GL.one hb ho (.cons _ _ _ _ (.tup _ _ (.cons _ _ _ _ (.agg _ _ (.cons _ _ _ _ (.same _) (.cons _ _ _ _ (fz_slc hl hu hc) (FzL.refl _)))) (FzL.refl _))) .nil)⟩
theorem pc_stC {H:Hp} {id:Nat} {u:Nat} {blk:Blk} {xs:List DV} {n:Nat} {a b:DV} {bs:List DV} (hb:H id=some blk) (ho:blk.own=true) (hl:xs.length=n) (hu:∀ x∈xs,x.cells.length=u) (hc:∃ r,blk.cells=cellsL xs++r) :
  ∃ H2,GL H [.tup (.agg [a,b,.slc id 0 n] :: bs)] H2 [.tup (.agg [a,b,.lst xs] :: bs)] :=
 ⟨nil,GL.one hb ho (.cons _ _ _ _ (.tup _ _ (.cons _ _ _ _ (.agg _ _ (.cons _ _ _ _ (.same _) (.cons _ _ _ _ (.same _) (.cons _ _ _ _ (fz_slc hl hu hc) .nil)))) (FzL.refl _))) .nil)⟩
theorem scos_unit (l:List Sco):∀ x∈l.map Sco.v,x.cells.length=2:=fun x hx=>by obtain ⟨y, -,rfl⟩:=List.mem_map.1 hx;rfl
end Go.Pb
namespace Go.Sym
variable [Go.Sym.Tab]
variable {P:Program}
theorem AC.own {f:Nat} {args:List DV} {V:Nat→DV} {u:Nat} {cs:List DV} (h:AC P f args nil 0 (fun v H' _ => ∃ id,v=V id∧H'=nil.upd id ⟨u,true,cs⟩)) (hn:DV.nlL args=true) (hcs:∀ d∈cs,d.nl=true)
  (hV:∀ (ρ ρ':Ren) (id id':Nat) (v:Value), ρ.nm id = ρ'.nm id'→((∀ b r, ρ.fz b=some r → ρ'.fz b=some r)∧∀ b r, ρ.fm b=some r → ρ'.fm b=some r)→VRel ρ (V id) v→VRel ρ' (V id') v) (H:Hp) (c:Nat) :
  AC P f args H c (fun v H' c'=>v=V c∧H'=H.upd c ⟨u,true,cs⟩∧c'=c+1):=by
 refine ⟨h.1,fun ρ w vs hR hf hA=>?_⟩
 refine (h.2 ⟨fun _=>none, ρ.fz, ρ.tab, ρ.fm⟩ w vs hR.nil (fun _ _=>rfl) (hA.nl (ρ := ρ) (ρ':=⟨fun _=>none, ρ.fz, ρ.tab, ρ.fm⟩) (fun _ _ h=>h) (fun _ _ h=>h) hn)).mono ?_
 rintro e w' ⟨v,v',H1,c1, ρ1,rfl,⟨id,rfl,rfl⟩,d⟩
 have hb:=d.ext.below (fun id b hb=>by cases hb)
 obtain ⟨b1,b2,b3,b4,b5⟩:=hb
 obtain ⟨t,ht,hbr⟩:=d.rep.blk id _ h_same
 have hsz:w.heap.size≤t.block:=by
  rcases d.ext.mine id _ t h_same ht with h1|⟨i,b0,t0,e1, -⟩
  ·exact h1
  ·cases e1
 obtain ⟨ρ2,hρ⟩:∃ ρ2:Ren, ρ2=⟨fun j=>if j=c then some t else ρ.nm j, ρ1.fz, ρ1.tab, ρ1.fm⟩:=⟨_,rfl⟩
 have n1 : ρ2.nm c=some t:=by rw [hρ];simp
 have n2:∀ {j},¬ j=c → ρ2.nm j = ρ.nm j:=fun {j} hj=>by rw [hρ];simp [hj]
 have n3 : ρ2.fz = ρ1.fz:=by rw [hρ]
 have n4 : ρ2.fm = ρ1.fm:=by rw [hρ]
 have hle : ρ.le ρ2:=⟨fun j x hj=>by
  rw [n2 (fun e=>by subst e;rw [hf j (Nat.le_refl _)] at hj;cases hj)];exact hj,fun b r hb=>by rw [n3];exact d.ext.le.fz b r hb,fun b r hb=>by rw [n4];exact d.ext.le.fm b r hb⟩
 refine ⟨V c,v',_,_, ρ2,rfl,⟨rfl,rfl,rfl⟩,hV ρ1 ρ2 id c v' (by rw [ht,n1]) ⟨fun b r hb=>by rw [n3];exact hb,fun b r hb=>by rw [n4];exact hb⟩ d.val,?_,fun j hj=>by rw [n2 (by omega)];exact hf j (by omega),by omega,
  fun j hj hne=>by rw [h_ne (by omega)] at hne;exact hne,fun j hj=>n2 (by omega),?_⟩
 ·refine ⟨fun j b hb=>?_,fun i j bi bj ti tj hi hj hij h1 h2 ho=>?_,by rw [n3];exact d.rep.frz,fun j b t2 hb ho ht2=>?_,fun k es hk=>?_⟩
  ·by_cases e:j=c
   ·subst e;rw [h_same] at hb;cases hb
    refine ⟨t,n1,?_⟩
    rcases hbr with ⟨gm,c0,e0,fr,g1,g2,g3,g4,g5,g6⟩|⟨-, -, -,es,cl,kd,ks,vs', -,g2, -⟩
    case inr =>
     simp only at g2
     subst g2
     have:=hcs _ List.mem_cons_self
     simp [DV.nl] at this
    refine .inl ⟨gm,c0,e0,fr,g1,g2,g3,g4,fun i x hx=>?_,g6⟩
    obtain ⟨q1,x',q2,q3⟩:=g5 i x hx
    exact ⟨q1,x',q2,q3.nl (ρ := ρ1) (ρ' := ρ2) (fun b r hb=>by rw [n3];exact hb) (fun b r hb=>by rw [n4];exact hb) (hcs x (List.mem_of_getElem? hx))⟩
   ·rw [h_ne e] at hb
    obtain ⟨t2,ht2,hb2⟩:=hR.blk j b hb
    exact ⟨t2,by rw [n2 e];exact ht2,(hb2.mono hle).world (b5 _ hb2.lt)⟩
  ·by_cases e1:i=c
   ·subst e1
    have e2:¬ j=i:=fun e=>hij e.symm
    rw [h_ne e2] at hj
    rw [n1] at h1;cases h1
    rw [n2 e2] at h2
    have:=(hR.blk j bj hj)
    obtain ⟨t2,ht2,hb2⟩:=this
    rw [h2] at ht2;cases ht2
    have:=hb2.lt
    omega
   ·rw [h_ne e1] at hi
    rw [n2 e1] at h1
    by_cases e2:j=c
    ·subst e2
     rw [n1] at h2;cases h2
     obtain ⟨t2,ht2,hb2⟩:=hR.blk i bi hi
     rw [h1] at ht2;cases ht2
     have:=hb2.lt
     omega
    ·rw [h_ne e2] at hj
     rw [n2 e2] at h2
     exact hR.sep i j bi bj ti tj hi hj hij h1 h2 ho
  ·rw [n3]
   by_cases e:j=c
   ·subst e;rw [h_same] at hb;cases hb
    rw [n1] at ht2;cases ht2
    exact d.rep.dis id _ t h_same rfl ht
   ·rw [h_ne e] at hb
    rw [n2 e] at ht2
    cases hf1 : ρ1.fz t2.block with
    | none=>rfl
    | some r =>
     rcases d.ext.fzn _ _ hf1 with h1|h1|⟨i,b0,t0,e1, -⟩
     ·rw [hR.dis j b t2 hb ho ht2] at h1;cases h1
     ·have:=(hR.lookb hb ht2).lt;omega
     ·cases e1
  ·rw [n4] at hk
   refine ⟨(d.rep.frm k es hk).1,fun j b t2 hb ho ht2=>?_⟩
   by_cases e:j=c
   ·subst e;rw [h_same] at hb;cases hb
    rw [n1] at ht2;cases ht2
    exact (d.rep.frm k es hk).2 id _ t h_same rfl ht
   ·rw [h_ne e] at hb
    rw [n2 e] at ht2
    rcases d.ext.fmn _ _ hk with h1|h1|⟨i,b0,t0,e1, -⟩
    ·exact (hR.frm k es h1).2 j b t2 hb ho ht2
    ·have:=(hR.lookb hb ht2).lt;omega
    ·cases e1
 ·refine ⟨hle,b1,b2,b3,b4,fun k hk _=>b5 k hk,fun j b t2 h1 h2=>?_,fun k r hk=>?_,fun k r hk=>?_⟩
  ·by_cases e:j=c
   ·subst e;rw [n1] at h2;cases h2;exact .inl hsz
   ·rw [h_ne e] at h1
    rw [n2 e] at h2
    exact .inr ⟨j,b,t2,h1,fun h=>h,h2,rfl⟩
  ·rw [n3] at hk
   rcases d.ext.fzn k r hk with h1|h1|⟨i,b0,t0,e1, -⟩
   ·exact .inl h1
   ·exact .inr (.inl h1)
   ·cases e1
  ·rw [n4] at hk
   rcases d.ext.fmn k r hk with h1|h1|⟨i,b0,t0,e1, -⟩
   ·exact .inl h1
   ·exact .inr (.inl h1)
   ·cases e1
section
open Go.Eng (IC)
variable {N:Nat} {x:IC} {T:Tm} {H:Hp} {c:Nat} {Q:Exit→St→Prop}
theorem IW.gl {s:St} (h:IW P N x s (fun e s'=>Q e s'∨∃ (ks:List Nat) (ds':List DV) (H2:Hp),GL s'.H (ks.map s'.T) H2 ds'∧Q e ⟨tm (ks.zip ds'),H2,s'.c⟩)):IW P N x s Q:=by
 intro hm cd hc ρ a w hS
 refine wp_mono (h hm cd hc ρ a w hS) fun e a' w' hq=>?_
 obtain ⟨ρ2,s2,q,hS2,hst⟩:=hq
 rcases q with q|⟨ks,ds',H2,g,q⟩
 ·exact ⟨ρ2,s2,q,hS2,hst⟩
 have hA:ARel ρ2 (ks.map s2.T) ((ks.map fun k=>a'.tmps.getD k undef)).toArray:=by
  refine ⟨by simp,fun i x y hx hy=>?_⟩
  simp only [List.getElem?_map,Option.map_eq_some_iff,List.getElem?_toArray] at hx hy
  obtain ⟨k,hk,rfl⟩:=hx
  obtain ⟨k',hk',rfl⟩:=hy
  rw [hk] at hk';cases hk'
  exact hS2.tm k
 obtain ⟨ρ1,e1,r1,a1,x1⟩:=g.2 ρ2 w' _ hS2.rep hA
 refine ⟨ρ1,⟨tm (ks.zip ds'),H2,s2.c⟩,q,⟨tm_of fun i k d hk hd=>a1.2 i d _ hd (by simp [hk]),r1,by rw [e1];exact hS2.fresh,hS2.size,hS2.dfr⟩,?_⟩
 exact ⟨hst.up,fun id hid hne=>hst.dom id hid (g.1 id hne),fun id hid=>by rw [e1];exact hst.same id hid,hst.ext.trans x1⟩
end
section
open Go.Eng (AOp)
variable {c0:Nat} {T:Tm} {H:Hp}
def agN (T:Tm) (H:Hp) (d n:Nat):Option (Option Nat × Blk)→Prop
 | some (k,b)=>T d=mkv n k∧H n=some b
 | none=>False
theorem ag_n' {j d:Nat} {f:AOp}:agK c0 j T H (some d) (.new f) (some true)=agN T H d (c0+j) (aev (ev T) f):=by
 simp only [agK,agN]
 cases aev (ev T) f with
 | none=>simp
 | some x=>obtain ⟨k,b⟩:=x;simp
theorem agN_s {d n:Nat} {k:Option Nat} {b:Blk}:agN T H d n (some (k,b))=(T d=mkv n k∧H n=some b):=propext Iff.rfl
end
attribute [go_sem] ag_n' agN_s
end Go.Sym
namespace Go.Proofs.YtndjhpjcankkaaaGreatDoor
open Go.Eng (IC IOper DReg IFn IsFn)
open Go.Sym Go.Pb
theorem c_settings (c:Book) (hl:c.adjs.length≤32):PC Tryz.prog 66 [c.v] (intsV (setsM c)):=by
 refine PC.of mixedU isU66 (Nat.le_of_ble_eq_true rfl) (by simp [DV.nlL,DV.nl,nlL_adjs,nlL_scos]) (nlL_ints _) ?_
 show IW Tryz.prog 20 u66_1 ⟨argT _,_,_⟩ (rt [.tmp 2] _)
 repeat' ((with_reducible first|refine wr ?_|refine k_cu ?_ ?_|refine wb2 ?_ ?_<;>(intro hb;try simp only [hb])|fail)<;>try simp only [go_sem,seval])
 refine i_loop (fun q:Nat × Option Nat=>[(3,todoV q.2 q.1),(7,adjsV c.adjs),(8,I64 c.adjs.length),(9,I64 q.1)]) (fun q=>optH Sym.nil q.2 ⟨1,true,cellsL (((c.adjs.take q.1).map Adj.dflt).map I64)⟩)
  (fun q cc=>q.1≤c.adjs.length∧(q.2=none→q.1=0)∧∀ i,q.2=some i→i<cc) (fun q=>c.adjs.length-q.1) (0,none)
  (by simp [tmLe,tm,Tm.upd,todoV]) (Sub.nil _) ⟨by simp,by simp,by simp⟩ ?_
 rintro ⟨k,o⟩ cc ⟨hk,hno,ho⟩
 simp only at hk hno ho
 simp only
 have hkl:((c.adjs.take k).map Adj.dflt).length=k:=by rw [List.length_map,List.length_take];omega
 by_cases hlt:k<c.adjs.length
 ·have hd:decide ((k:Int)<c.adjs.length)=true:=by simpa using hlt
  have hg:=List.getElem?_eq_getElem hlt
  have hw:IntKind.i64.wrap ((k:Int)+1)=((k+1:Nat):Int):=by rw [w64 (by omega) (by omega)];omega
  have est:cellsL (((c.adjs.take (k+1)).map Adj.dflt).map I64)=cellsL (((c.adjs.take k).map Adj.dflt).map I64)++[I64 c.adjs[k].dflt]:=by
   rw [List.take_add_one,hg,Option.toList_some,List.map_append,List.map_append,cellsL_append];rfl
  generalize c.adjs[k]=a at hg est
  obtain ⟨cs,hcs⟩:∃ cs,cs=cellsL (((c.adjs.take k).map Adj.dflt).map I64):=⟨_,rfl⟩
  have hcl:cs.length=k * 1:=by rw [hcs,cells_ints,List.length_map,hkl];omega
  rw [← hcs] at est ⊢
  have hno2:o=none→k=0∧cs=[]:=fun e=>⟨hno e,by rw [hcs,hno e];rfl⟩
  have ne0:=nes3 cc (cc+1) (cc+2) (by omega)
  repeat' ((with_reducible first|refine wr ?_|refine k_cu ?_ ?_|refine wb2 ?_ ?_<;>(intro hb;try simp only [hb])|fail)<;>try simp only [go_sem,seval,hd,hg,hw,ne0])
  refine k_eval (r_apptodo (cs:=cs) hno2 (fun i hi=>?_) hcl (by omega) (by omega) (by omega)) ?_
  ·have:=ho i hi
   (repeat rw [h_ne (by omega)])
   exact opt_at hi
  simp only [go_sem,seval,ne0,hw]
  repeat' ((with_reducible first|refine wr ?_|refine k_cu ?_ ?_|refine wb2 ?_ ?_<;>(intro hb;try simp only [hb])|fail)<;>try simp only [go_sem,seval,hd,hg,hw,ne0])
  exact ⟨(k+1,some (cc+1+1)),⟨rfl,rfl⟩,sub_any (c:=cc) (fun j q hj=>by cases hj) (fun _ _=>rfl) (fun j hj=>by (repeat rw [h_ne (by omega)])) (by omega) (by rw [est]),inv ⟨hlt,by simp,fun i hi=>by cases hi;omega⟩,by simp only;omega⟩
 ·have hd:decide ((k:Int)<c.adjs.length)=false:=by simpa using hlt
  obtain rfl:k=c.adjs.length:=by omega
  repeat' ((with_reducible first|refine wr ?_|refine k_cu ?_ ?_|refine wb2 ?_ ?_<;>(intro hb;try simp only [hb])|fail)<;>try simp only [go_sem,seval,hd])
  rw [List.take_length]
  exact pc_todo (fun e=>by have:=hno e;rw [show c.adjs=[] from List.eq_nil_of_length_eq_zero this];rfl) (by simp) (fun x hx=>by obtain ⟨y, -,rfl⟩:=List.mem_map.1 hx;rfl)
theorem unit_ints (l:List Int):unit 1 (l.map I64)=true:=by
 induction l with
 | nil=>rfl
 | cons x r ih=>simp [unit,DV.cells]
theorem unit_scos (l:List Sco):unit 2 (l.map Sco.v)=true:=by
 induction l with
 | nil=>rfl
 | cons x r ih=>simp [unit,DV.cells]
theorem c_CloneI0:PC Tryz.prog 75 [intsV []] (intsV []):=by
 have hub:eqnR false 1 (intsV []) .snil=some .ub:=rfl
 refine PC.of mixedU isU75 (Nat.le_of_ble_eq_true rfl) (by simp [DV.nlL,DV.nl,nlL_ints,nlL_strs,nlL_adjs,nlL_scos]) (by simp [DV.nlL,DV.nl,nlL_ints,nlL_strs,nlL_adjs,nlL_scos]) ?_
 show IW Tryz.prog 8 u75_1 ⟨argT _,_,_⟩ (rt [.tmp 2] _)
 repeat' ((with_reducible first|refine wr ?_|refine k_cu ?_ ?_|refine wb2 ?_ ?_<;>(intro hb;try simp only [hb])|fail)<;>try simp only [go_sem,seval,hub])
 ·exact pc_snil
 ·refine k_eval (v:=.slc 1 0 0) (H':=((nil.upd 0 ⟨1,true,[]⟩).del 0).upd 1 ⟨1,true,[]⟩) (c':=2) (by
   show appR (nil.upd 0 ⟨1,true,[]⟩) 1 1 8 (.slc 0 0 0) 0 []=_
   rw [r_apps,h_same,b_appx rfl (by omega) (by omega)];rfl) ?_
  simp only [go_sem,seval]
  repeat' ((with_reducible first|refine wr ?_|refine k_cu ?_ ?_|refine wb2 ?_ ?_<;>(intro hb;try simp only [hb])|fail)<;>try simp only [go_sem,seval])
  exact pc_slc (u:=1) h_same rfl rfl (by simp) ⟨[],rfl⟩
theorem c_CloneIo (l:List Int) (hl:l.length≤1000000) (h0:l≠[]) (H:Hp) (cc:Nat):AC Tryz.prog 75 [intsV l] H cc (fun v H' c'=>v=.slc cc 0 l.length∧H'=H.upd cc ⟨1,true,cellsL (l.map I64)⟩∧c'=cc+1):=by
 refine AC.own (V:=fun id=>.slc id 0 l.length) (cs:=cellsL (l.map I64)) (u:=1) ?_ (by simp [DV.nlL,DV.nl,nlL_ints,nlL_scos]) (by rw [cells_ints];simp [DV.nl]) (fun ρ ρ' id id' v h1 h2 h3=>by cases h3 with|slc _ _ _ cap t g1 g2 g3 g4 g5=>exact .slc _ _ _ _ t (by rw [← h1];exact g1) g2 g3 g4 g5) H cc
 have hub:eqnR false 1 (intsV l) .snil=some (.bool false):=by cases l with|nil=>exact absurd rfl h0|cons x r=>rfl
 have hun:=unit_ints l
 refine AC.body mixedU isU75 (Nat.le_of_ble_eq_true rfl) fun hfr=>?_
 show IW Tryz.prog 8 u75_1 ⟨argT _,_,_⟩ (rt [.tmp 2] _)
 repeat' ((with_reducible first|refine wr ?_|refine k_cu ?_ ?_|refine wb2 ?_ ?_<;>(intro hb;try simp only [hb])|fail)<;>try simp only [go_sem,seval,hub,hun])
 refine k_eval (b_appx rfl (by omega) (by omega)) ?_
 simp only [go_sem,seval]
 repeat' ((with_reducible first|refine wr ?_|refine k_cu ?_ ?_|refine wb2 ?_ ?_<;>(intro hb;try simp only [hb])|fail)<;>try simp only [go_sem,seval])
 refine ⟨_,nil.upd 1 ⟨1,true,cellsL (l.map I64)⟩,GL.less fun j=>?_,1,?_,rfl⟩
 ·by_cases e:j=1
  ·subst e;right;rw [h_same,h_same];try rfl
  ·left;rw [h_ne e];rfl
 ·simp
theorem c_CloneI (l:List Int) (hl:l.length≤1000000):PC Tryz.prog 75 [intsV l] (intsV l):=by
 by_cases h0:l=[]
 ·subst h0;exact c_CloneI0
 refine ⟨by simp [DV.nlL,DV.nl,nlL_ints,nlL_scos],by simp [DV.nl,nlL_ints,nlL_scos],?_⟩
 refine AC.post ((c_CloneIo l hl h0 nil 0).mono ?_)
 rintro v H' c' ⟨rfl,rfl,rfl⟩
 obtain ⟨H2,g⟩:=pc_slc (H:=nil.upd 0 ⟨1,true,cellsL (l.map I64)⟩) (u:=1) (n:=l.length) (xs:=l.map I64) h_same rfl (by simp) (fun x hx=>by obtain ⟨y, -,rfl⟩:=List.mem_map.1 hx;rfl) ⟨[],by simp⟩
 exact ⟨_,H2,g,rfl⟩
theorem c_CloneS0:PC Tryz.prog 67 [scosV []] (scosV []):=by
 have hub:eqnR false 1 (scosV []) .snil=some .ub:=rfl
 refine PC.of mixedU isU67 (Nat.le_of_ble_eq_true rfl) (by simp [DV.nlL,DV.nl,nlL_ints,nlL_strs,nlL_adjs,nlL_scos]) (by simp [DV.nlL,DV.nl,nlL_ints,nlL_strs,nlL_adjs,nlL_scos]) ?_
 show IW Tryz.prog 8 u67_1 ⟨argT _,_,_⟩ (rt [.tmp 2] _)
 repeat' ((with_reducible first|refine wr ?_|refine k_cu ?_ ?_|refine wb2 ?_ ?_<;>(intro hb;try simp only [hb])|fail)<;>try simp only [go_sem,seval,hub])
 ·exact pc_snil
 ·refine k_eval (v:=.slc 1 0 0) (H':=((nil.upd 0 ⟨2,true,[]⟩).del 0).upd 1 ⟨2,true,[]⟩) (c':=2) (by
   show appR (nil.upd 0 ⟨2,true,[]⟩) 1 2 24 (.slc 0 0 0) 0 []=_
   rw [r_apps,h_same,b_appx rfl (by omega) (by omega)];rfl) ?_
  simp only [go_sem,seval]
  repeat' ((with_reducible first|refine wr ?_|refine k_cu ?_ ?_|refine wb2 ?_ ?_<;>(intro hb;try simp only [hb])|fail)<;>try simp only [go_sem,seval])
  exact pc_slc (u:=2) h_same rfl rfl (by simp) ⟨[],rfl⟩
theorem c_CloneSo (l:List Sco) (hl:l.length≤1000000) (h0:l≠[]) (H:Hp) (cc:Nat):AC Tryz.prog 67 [scosV l] H cc (fun v H' c'=>v=.slc cc 0 l.length∧H'=H.upd cc ⟨2,true,cellsL (l.map Sco.v)⟩∧c'=cc+1):=by
 refine AC.own (V:=fun id=>.slc id 0 l.length) (cs:=cellsL (l.map Sco.v)) (u:=2) ?_ (by simp [DV.nlL,DV.nl,nlL_ints,nlL_scos]) (by rw [cells_scos];simp only [List.mem_flatMap];rintro d ⟨x, -,hx⟩;simp at hx;rcases hx with rfl|rfl<;>rfl) (fun ρ ρ' id id' v h1 h2 h3=>by cases h3 with|slc _ _ _ cap t g1 g2 g3 g4 g5=>exact .slc _ _ _ _ t (by rw [← h1];exact g1) g2 g3 g4 g5) H cc
 have hub:eqnR false 1 (scosV l) .snil=some (.bool false):=by cases l with|nil=>exact absurd rfl h0|cons x r=>rfl
 have hun:=unit_scos l
 refine AC.body mixedU isU67 (Nat.le_of_ble_eq_true rfl) fun hfr=>?_
 show IW Tryz.prog 8 u67_1 ⟨argT _,_,_⟩ (rt [.tmp 2] _)
 repeat' ((with_reducible first|refine wr ?_|refine k_cu ?_ ?_|refine wb2 ?_ ?_<;>(intro hb;try simp only [hb])|fail)<;>try simp only [go_sem,seval,hub,hun])
 refine k_eval (b_appx rfl (by omega) (by omega)) ?_
 simp only [go_sem,seval]
 repeat' ((with_reducible first|refine wr ?_|refine k_cu ?_ ?_|refine wb2 ?_ ?_<;>(intro hb;try simp only [hb])|fail)<;>try simp only [go_sem,seval])
 refine ⟨_,nil.upd 1 ⟨2,true,cellsL (l.map Sco.v)⟩,GL.less fun j=>?_,1,?_,rfl⟩
 ·by_cases e:j=1
  ·subst e;right;rw [h_same,h_same];try rfl
  ·left;rw [h_ne e];rfl
 ·simp
theorem c_CloneS (l:List Sco) (hl:l.length≤1000000):PC Tryz.prog 67 [scosV l] (scosV l):=by
 by_cases h0:l=[]
 ·subst h0;exact c_CloneS0
 refine ⟨by simp [DV.nlL,DV.nl,nlL_ints,nlL_scos],by simp [DV.nl,nlL_ints,nlL_scos],?_⟩
 refine AC.post ((c_CloneSo l hl h0 nil 0).mono ?_)
 rintro v H' c' ⟨rfl,rfl,rfl⟩
 obtain ⟨H2,g⟩:=pc_slc (H:=nil.upd 0 ⟨2,true,cellsL (l.map Sco.v)⟩) (u:=2) (n:=l.length) (xs:=l.map Sco.v) h_same rfl (by simp) (fun x hx=>by obtain ⟨y, -,rfl⟩:=List.mem_map.1 hx;rfl) ⟨[],by simp⟩
 exact ⟨_,H2,g,rfl⟩
theorem c_clone (s:BSt) (h1:s.sets.length≤1000000) (h2:s.counts.length≤1000000) (h3:s.scores.length≤1000000):PC Tryz.prog 44 [s.v] s.v:=by
 refine PC.of mixedU isU44 (Nat.le_of_ble_eq_true rfl) (by simp [DV.nlL,DV.nl,nlL_ints,nlL_strs,nlL_adjs,nlL_scos]) (by simp [DV.nlL,DV.nl,nlL_ints,nlL_strs,nlL_adjs,nlL_scos]) ?_
 show IW Tryz.prog 13 u44_1 ⟨argT _,_,_⟩ (rt [.cell 2 3 true] _)
 repeat' ((with_reducible first|refine wr ?_|refine cpc (c_CloneI _ h1) ?_|refine cpc (c_CloneI _ h2) ?_|refine cpc (c_CloneS _ h3) ?_|refine k_cu ?_ ?_|refine wb2 ?_ ?_<;>(intro hb;try simp only [hb])|fail)<;>try simp only [go_sem,seval])
 all_goals (refine pc_ret ?_;rfl)
theorem c_cloneA (s:BSt) (h1:s.sets.length≤1000000) (h2:s.counts.length≤1000000) (h3:s.scores.length≤1000000) (h0:s.sets≠[]) (H:Hp) (cc:Nat):AC Tryz.prog 44 [s.v] H cc (fun v H' c'=>v=.agg [.slc cc 0 s.sets.length,intsV s.counts,scosV s.scores]∧H'=H.upd cc ⟨1,true,cellsL (s.sets.map I64)⟩∧c'=cc+1):=by
 refine AC.own (V:=fun id=>.agg [.slc id 0 s.sets.length,intsV s.counts,scosV s.scores]) (cs:=cellsL (s.sets.map I64)) (u:=1) ?_ (by simp [DV.nlL,DV.nl,nlL_ints,nlL_scos]) (by rw [cells_ints];simp [DV.nl]) (fun ρ ρ' id id' v h1 h2 h3=>?_) H cc
 ·refine AC.body mixedU isU44 (Nat.le_of_ble_eq_true rfl) fun hfr=>?_
  show IW Tryz.prog 13 u44_1 ⟨argT _,_,_⟩ (rt [.cell 2 3 true] _)
  repeat' ((first|(with_reducible first|refine wr ?_|refine cpc (c_CloneI _ h2) ?_|refine cpc (c_CloneS _ h3) ?_|refine k_cu ?_ ?_)|(with_reducible refine wb2 ?_ ?_<;>(intro hb;try simp only [hb]))|((with_reducible refine AC.call (c_CloneIo _ h1 h0 _ _) ?_);(rintro v H' c' ⟨rfl,rfl,rfl⟩ hcc))|fail)<;>try simp only [go_sem,seval])
  all_goals exact own_end (V:=fun id=>.agg [.slc id 0 s.sets.length,intsV s.counts,scosV s.scores]) _ rfl (by first|rfl|exact h_same)
 ·obtain ⟨b,rfl,k1,k2⟩:=h3.agg_inv
  refine .agg _ _ k1 fun j x y hx hy=>?_
  match j with
  | 0=>cases hx;exact nl3 h1 (k2 0 _ y rfl hy)
  | 1=>cases hx;exact VRel.nl h2.1 h2.2 (k2 1 _ y rfl hy) (by simp [DV.nl,nlL_ints])
  | 2=>cases hx;exact VRel.nl h2.1 h2.2 (k2 2 _ y rfl hy) (by simp [DV.nl,nlL_scos])
  | _+3=>cases hx
theorem c_cloneB (s:BSt) (h1:s.sets.length≤1000000) (h2:s.counts.length≤1000000) (h3:s.scores.length≤1000000) (h0:s.counts≠[]) (H:Hp) (cc:Nat):AC Tryz.prog 44 [s.v] H cc (fun v H' c'=>v=.agg [intsV s.sets,.slc cc 0 s.counts.length,scosV s.scores]∧H'=H.upd cc ⟨1,true,cellsL (s.counts.map I64)⟩∧c'=cc+1):=by
 refine AC.own (V:=fun id=>.agg [intsV s.sets,.slc id 0 s.counts.length,scosV s.scores]) (cs:=cellsL (s.counts.map I64)) (u:=1) ?_ (by simp [DV.nlL,DV.nl,nlL_ints,nlL_scos]) (by rw [cells_ints];simp [DV.nl]) (fun ρ ρ' id id' v h1 h2 h3=>?_) H cc
 ·refine AC.body mixedU isU44 (Nat.le_of_ble_eq_true rfl) fun hfr=>?_
  show IW Tryz.prog 13 u44_1 ⟨argT _,_,_⟩ (rt [.cell 2 3 true] _)
  repeat' ((first|(with_reducible first|refine wr ?_|refine cpc (c_CloneI _ h1) ?_|refine cpc (c_CloneS _ h3) ?_|refine k_cu ?_ ?_)|(with_reducible refine wb2 ?_ ?_<;>(intro hb;try simp only [hb]))|((with_reducible refine AC.call (c_CloneIo _ h2 h0 _ _) ?_);(rintro v H' c' ⟨rfl,rfl,rfl⟩ hcc))|fail)<;>try simp only [go_sem,seval])
  all_goals exact own_end (V:=fun id=>.agg [intsV s.sets,.slc id 0 s.counts.length,scosV s.scores]) _ rfl (by first|rfl|exact h_same)
 ·obtain ⟨b,rfl,k1,k2⟩:=h3.agg_inv
  refine .agg _ _ k1 fun j x y hx hy=>?_
  match j with
  | 0=>cases hx;exact VRel.nl h2.1 h2.2 (k2 0 _ y rfl hy) (by simp [DV.nl,nlL_ints])
  | 1=>cases hx;exact nl3 h1 (k2 1 _ y rfl hy)
  | 2=>cases hx;exact VRel.nl h2.1 h2.2 (k2 2 _ y rfl hy) (by simp [DV.nl,nlL_scos])
  | _+3=>cases hx
theorem c_cloneC (s:BSt) (h1:s.sets.length≤1000000) (h2:s.counts.length≤1000000) (h3:s.scores.length≤1000000) (h0:s.scores≠[]) (H:Hp) (cc:Nat):AC Tryz.prog 44 [s.v] H cc (fun v H' c'=>v=.agg [intsV s.sets,intsV s.counts,.slc cc 0 s.scores.length]∧H'=H.upd cc ⟨2,true,cellsL (s.scores.map Sco.v)⟩∧c'=cc+1):=by
 refine AC.own (V:=fun id=>.agg [intsV s.sets,intsV s.counts,.slc id 0 s.scores.length]) (cs:=cellsL (s.scores.map Sco.v)) (u:=2) ?_ (by simp [DV.nlL,DV.nl,nlL_ints,nlL_scos]) (by rw [cells_scos];simp only [List.mem_flatMap];rintro d ⟨x, -,hx⟩;simp at hx;rcases hx with rfl|rfl<;>rfl) (fun ρ ρ' id id' v h1 h2 h3=>?_) H cc
 ·refine AC.body mixedU isU44 (Nat.le_of_ble_eq_true rfl) fun hfr=>?_
  show IW Tryz.prog 13 u44_1 ⟨argT _,_,_⟩ (rt [.cell 2 3 true] _)
  repeat' ((first|(with_reducible first|refine wr ?_|refine cpc (c_CloneI _ h1) ?_|refine cpc (c_CloneI _ h2) ?_|refine k_cu ?_ ?_)|(with_reducible refine wb2 ?_ ?_<;>(intro hb;try simp only [hb]))|((with_reducible refine AC.call (c_CloneSo _ h3 h0 _ _) ?_);(rintro v H' c' ⟨rfl,rfl,rfl⟩ hcc))|fail)<;>try simp only [go_sem,seval])
  all_goals exact own_end (V:=fun id=>.agg [intsV s.sets,intsV s.counts,.slc id 0 s.scores.length]) _ rfl (by first|rfl|exact h_same)
 ·obtain ⟨b,rfl,k1,k2⟩:=h3.agg_inv
  refine .agg _ _ k1 fun j x y hx hy=>?_
  match j with
  | 0=>cases hx;exact VRel.nl h2.1 h2.2 (k2 0 _ y rfl hy) (by simp [DV.nl,nlL_ints])
  | 1=>cases hx;exact VRel.nl h2.1 h2.2 (k2 1 _ y rfl hy) (by simp [DV.nl,nlL_ints])
  | 2=>cases hx;exact nl3 h1 (k2 2 _ y rfl hy)
  | _+3=>cases hx
end Go.Proofs.YtndjhpjcankkaaaGreatDoor
namespace Go.Proofs.YtndjhpjcankkaaaGreatDoor
open Go.Eng (IC IOper DReg IFn IsFn)
open Go.Sym Go.Pb
theorem c_noCnt (n:Int):PC Tryz.prog 71 [I64 n] (.bool (!inB n 0 999999999)):=by
 refine PC.of mixedU isU71 (Nat.le_of_ble_eq_true rfl) (by simp [DV.nlL,DV.nl,nlL_ints,nlL_strs,nlL_adjs,nlL_scos]) (by simp [DV.nlL,DV.nl,nlL_ints,nlL_strs,nlL_adjs,nlL_scos]) ?_
 show IW Tryz.prog 6 u71_1 ⟨argT _,_,_⟩ (rt [.tmp 2] _)
 repeat' ((with_reducible first|refine wr ?_|refine cpc (c_within _ _ _) ?_|refine k_cu ?_ ?_|refine wb2 ?_ ?_<;>(intro hb;try simp only [hb])|fail)<;>try simp only [go_sem,seval])
 all_goals (refine pc_ret ?_;simp_all)
theorem zipVal_iff:∀ (l:List Adj) (r:List Int),l.length=r.length→(zipVal l r=true↔∀ (k:Nat) (a:Adj) v,l[k]? = some a→r[k]? = some v→isValM a v=true)
 | [],[],_=>by simp [zipVal]
 | a :: l,v :: r,h=>by
  have ih:=zipVal_iff l r (by simpa using h)
  simp only [zipVal,Bool.and_eq_true,ih]
  constructor
  ·rintro ⟨h1,h2⟩ k x y hx hy
   cases k with
   | zero=>simp at hx hy;subst hx hy;exact h1
   | succ k=>exact h2 k x y (by simpa using hx) (by simpa using hy)
  ·intro h
   exact ⟨h 0 a v rfl rfl,fun k x y hx hy=>h (k+1) x y (by simpa using hx) (by simpa using hy)⟩
theorem valid_fit {c:Book} (h:validBM c=0):c.adjs.length≤32∧(0≤c.cnt∧c.cnt≤32)∧c.scores.length≤8∧(∀ a∈c.adjs,adjM a=true)∧scosM c.scores=0:=by
 unfold validBM at h
 split at h
 ·omega
 ·rename_i h0
  split at h
  ·omega
  ·rename_i h1
   have h1:c.adjs.all adjM=true:=by simpa using h1
   have h2:inB c.cnt 0 32=true:=by cases h:inB c.cnt 0 32<;>simp_all
   simp only [inB,Bool.and_eq_true,decide_eq_true_eq] at h2
   exact ⟨by omega,⟨by omega,by omega⟩,by omega,List.all_eq_true.1 h1,h⟩
theorem c_IsState (c:Book) (s:BSt) (hl:lenB c) (ht:lenT s):PC Tryz.prog 36 [c.v,s.v] (.bool (isStM c s)):=by
 have hv:=c_valid c hl
 have hs:=c_scores s.scores ht.2.2
 refine PC.of mixedU isU36 (Nat.le_of_ble_eq_true rfl) (by simp [DV.nlL,DV.nl,nlL_ints,nlL_strs,nlL_adjs,nlL_scos]) (by simp [DV.nlL,DV.nl,nlL_ints,nlL_strs,nlL_adjs,nlL_scos]) ?_
 show IW Tryz.prog 63 u36_1 ⟨argT _,_,_⟩ (rt [.tmp 4] _)
 by_cases e1:validBM c=0
 rotate_left
 ·have e1':(validBM c != 0)=true:=by simpa using e1
  repeat' ((with_reducible first|refine wr ?_|refine cpc hv ?_|refine k_cu ?_ ?_|refine wb2 ?_ ?_<;>(intro hb;try simp only [hb])|fail)<;>try simp only [go_sem,seval,e1'])
  all_goals (refine pc_ret ?_;simp [isStM,e1])
 have e1':(validBM c != 0)=false:=by simpa using e1
 by_cases e2:s.sets.length=c.adjs.length
 rotate_left
 ·have e2':((s.sets.length:Int) != (c.adjs.length:Int))=true:=by simp;omega
  repeat' ((with_reducible first|refine wr ?_|refine cpc hv ?_|refine k_cu ?_ ?_|refine wb2 ?_ ?_<;>(intro hb;try simp only [hb])|fail)<;>try simp only [go_sem,seval,e1',e2'])
  all_goals (refine pc_ret ?_;simp [isStM,e2])
 have e2':((s.sets.length:Int) != (c.adjs.length:Int))=false:=by simp [e2]
 by_cases e3:(s.counts.length:Int)=c.cnt
 rotate_left
 ·have e3':((s.counts.length:Int) != c.cnt)=true:=by simpa using e3
  repeat' ((with_reducible first|refine wr ?_|refine cpc hv ?_|refine k_cu ?_ ?_|refine wb2 ?_ ?_<;>(intro hb;try simp only [hb])|fail)<;>try simp only [go_sem,seval,e1',e2',e3'])
  all_goals (refine pc_ret ?_;simp [isStM,e3])
 have e3':((s.counts.length:Int) != c.cnt)=false:=by simp [e3]
 by_cases e4:s.scores.length=c.scores.length
 rotate_left
 ·have e4':((s.scores.length:Int) != (c.scores.length:Int))=true:=by simp;omega
  repeat' ((with_reducible first|refine wr ?_|refine cpc hv ?_|refine k_cu ?_ ?_|refine wb2 ?_ ?_<;>(intro hb;try simp only [hb])|fail)<;>try simp only [go_sem,seval,e1',e2',e3',e4'])
  all_goals (refine pc_ret ?_;simp [isStM,e4])
 have e4':((s.scores.length:Int) != (c.scores.length:Int))=false:=by simp [e4]
 by_cases e5:scosM s.scores=0
 rotate_left
 ·have e5':(scosM s.scores != 0)=true:=by simpa using e5
  repeat' ((with_reducible first|refine wr ?_|refine cpc hv ?_|refine cpc hs ?_|refine k_cu ?_ ?_|refine wb2 ?_ ?_<;>(intro hb;try simp only [hb])|fail)<;>try simp only [go_sem,seval,e1',e2',e3',e4',e5'])
  all_goals (refine pc_ret ?_;simp [isStM,e5])
 have e5':(scosM s.scores != 0)=false:=by simpa using e5
 repeat' ((with_reducible first|refine wr ?_|refine cpc hv ?_|refine cpc hs ?_|refine k_cu ?_ ?_|refine wb2 ?_ ?_<;>(intro hb;try simp only [hb])|fail)<;>try simp only [go_sem,seval,e1',e2',e3',e4',e5'])
 obtain ⟨f1,f2,f3,f4,f5⟩:=valid_fit e1
 have hrest:isStM c s=(zipVal c.adjs s.sets && s.counts.all fun n=>inB n 0 999999999):=by simp [isStM,e1,e2,e3,e4,e5]
 refine i_loop (fun k:Nat=>[(2,.ptr 0 0),(3,.ptr 1 0),(43,intsV s.sets),(44,I64 s.sets.length),(45,I64 k)]) (fun _=>(nil.upd 0 ⟨0,true,csB c⟩).upd 1 ⟨0,true,csS s⟩) (fun k cc=>2≤cc∧k≤s.sets.length∧∀ (i:Nat) (a:Adj) v,i<k→c.adjs[i]? = some a→s.sets[i]? = some v→isValM a v=true) (fun k=>s.sets.length-k) 0 (by simp [tmLe,tm,Tm.upd]) (Sub.refl _) ⟨by simp,by simp,fun i a v hi=>absurd hi (by omega)⟩ ?_
 rintro k cc ⟨h2c,hk,he⟩
 by_cases hlt:k<s.sets.length
 ·have hd:decide ((k:Int)<s.sets.length)=true:=by simpa using hlt
  have hg:=List.getElem?_eq_getElem hlt
  have hg2:=List.getElem?_eq_getElem (show k<c.adjs.length by omega)
  have hw:=w64 (n:=(k:Int)+1) (by omega) (by omega)
  have hc:=c_isValue c.adjs[k] s.sets[k] (fit_of_adjM (f4 _ (List.getElem_mem _)))
  have hnx:isValM c.adjs[k] s.sets[k]=true→∀ (i:Nat) (a:Adj) v,i<k+1→c.adjs[i]? = some a→s.sets[i]? = some v→isValM a v=true:=fun hvv i a v hi ha hv=>by
   rcases Nat.lt_or_ge i k with h|h
   ·exact he i a v h ha hv
   ·have:i=k:=by omega
    subst this
    rw [hg2] at ha;rw [hg] at hv;cases ha;cases hv
    exact hvv
  repeat' ((with_reducible first|refine wr ?_|refine cpc hc ?_|refine k_cu ?_ ?_|refine wb2 ?_ ?_<;>(intro hb;try simp only [hb])|fail)<;>try simp only [go_sem,seval,hd,hg,hg2,hw])
  all_goals first
   | (refine pc_ret (congrArg DV.bool ?_);rw [hrest];symm;rw [Bool.and_eq_false_iff];left;rw [Bool.eq_false_iff];intro h;have:=(zipVal_iff _ _ e2.symm).1 h k _ _ hg2 hg;simp_all)
   | exact ⟨k+1,rfl,by first|exact Sub.refl _|(intro j b hj;simp only [Hp.upd,nil] at hj ⊢;split at hj<;>simp_all<;>omega),inv ⟨by omega,by omega,hnx (by simp_all)⟩,by omega⟩
 ·have hd:decide ((k:Int)<s.sets.length)=false:=by simpa using hlt
  have hz:zipVal c.adjs s.sets=true:=(zipVal_iff _ _ e2.symm).2 fun i a v ha hv=>he i a v (by have:=(List.getElem?_eq_some_iff.1 hv).1;omega) ha hv
  have hc:=c_CF_int (f:=71) (a:=[]) (cs:=[]) (g:=fun n => !inB n 0 999999999) s.counts ht.2.1 rfl rfl (fun x _=>c_noCnt x)
  have han:(s.counts.any fun n => !inB n 0 999999999) = !(s.counts.all fun n=>inB n 0 999999999):=by rw [List.any_eq_not_all_not];simp
  rw [han] at hc
  repeat' ((with_reducible first|refine wr ?_|refine cpc hc ?_|refine k_cu ?_ ?_|refine wb2 ?_ ?_<;>(intro hb;try simp only [hb])|fail)<;>try simp only [go_sem,seval,hd])
  all_goals (refine pc_ret (congrArg DV.bool ?_);rw [hrest,hz];simp)
theorem st_fit {c:Book} {s:BSt} (h:isStM c s=true):validBM c=0∧s.sets.length=c.adjs.length∧(s.counts.length:Int)=c.cnt∧s.scores.length=c.scores.length∧scosM s.scores=0:=by
 simp only [isStM,Bool.and_eq_true,decide_eq_true_eq] at h
 exact ⟨h.1.1.1.1.1.1,h.1.1.1.1.1.2,h.1.1.1.1.2,h.1.1.1.2,h.1.1.2⟩
theorem c_check (c:Book) (s:BSt) (hl:lenB c) (ht:lenT s) (i n:Int) (hn:0≤n∧n≤9223372036854775807∨isStM c s=false):PC Tryz.prog 43 [c.v,s.v,I64 i,I64 n] (I64 (chkM c s i n)):=by
 have hv:=c_IsState c s hl ht
 by_cases e1:isStM c s=true
 ·have hn2:0≤n∧n≤9223372036854775807:=by rcases hn with h|h;exact h;rw [e1] at h;cases h
  have hw:=w64 (n:=n-1) (by omega) (by omega)
  refine PC.of mixedU isU43 (Nat.le_of_ble_eq_true rfl) (by simp [DV.nlL,DV.nl,nlL_ints,nlL_strs,nlL_adjs,nlL_scos]) (by simp [DV.nlL,DV.nl,nlL_ints,nlL_strs,nlL_adjs,nlL_scos]) ?_
  show IW Tryz.prog 18 u43_1 ⟨argT _,_,_⟩ (rt [.tmp 8] _)
  repeat' ((with_reducible first|refine wr ?_|refine cpc hv ?_|refine cpc (c_within _ _ _) ?_|refine k_cu ?_ ?_|refine wb2 ?_ ?_<;>(intro hb;try simp only [hb])|fail)<;>try simp only [go_sem,seval,e1,hw])
  all_goals (refine pc_ret ?_;simp_all [chkM])
 ·have e1:isStM c s=false:=by simpa using e1
  refine PC.of mixedU isU43 (Nat.le_of_ble_eq_true rfl) (by simp [DV.nlL,DV.nl,nlL_ints,nlL_strs,nlL_adjs,nlL_scos]) (by simp [DV.nlL,DV.nl,nlL_ints,nlL_strs,nlL_adjs,nlL_scos]) ?_
  show IW Tryz.prog 18 u43_1 ⟨argT _,_,_⟩ (rt [.tmp 8] _)
  repeat' ((with_reducible first|refine wr ?_|refine cpc hv ?_|refine k_cu ?_ ?_|refine wb2 ?_ ?_<;>(intro hb;try simp only [hb])|fail)<;>try simp only [go_sem,seval,e1])
  all_goals (refine pc_ret ?_;simp_all [chkM])
end Go.Proofs.YtndjhpjcankkaaaGreatDoor
namespace Go.Proofs.YtndjhpjcankkaaaGreatDoor
open Go.Eng (IC IOper DReg IFn IsFn)
open Go.Sym Go.Pb
theorem c_New (c:Book) (hl:lenB c):PC Tryz.prog 33 [c.v] (.tup [(newM c).1.v,I64 (newM c).2]):=by
 have hv:=c_valid c hl
 refine PC.of mixedU isU33 (Nat.le_of_ble_eq_true rfl) (by simp [DV.nlL,DV.nl,nlL_ints,nlL_scos,nlL_adjs]) (by simp [DV.nlL,DV.nl,nlL_ints,nlL_scos,nlL_adjs]) ?_
 show IW Tryz.prog 20 u33_1 ⟨argT _,_,_⟩ (rt [.cell 2 3 true,.tmp 3] _)
 by_cases e1:validBM c=0
 rotate_left
 ·have e1':(validBM c != 0)=true:=by simpa using e1
  repeat' ((with_reducible first|refine wr ?_|refine cpc hv ?_|refine k_cu ?_ ?_|refine wb2 ?_ ?_<;>(intro hb;try simp only [hb])|fail)<;>try simp only [go_sem,seval,e1'])
  simp only [newM,if_neg e1]
  exact pc_no
 have e1':(validBM c != 0)=false:=by simpa using e1
 obtain ⟨f1,f2,f3,f4,f5⟩:=valid_fit e1
 obtain ⟨m,hm⟩:∃ m:Nat,c.cnt=(m:Int):=⟨c.cnt.toNat,by omega⟩
 have hst:=c_settings c f1
 have hcl:=c_CloneS c.scores (by omega)
 have hm32:m≤32:=by omega
 rw [show c.v=.agg [adjsV c.adjs,I64 (m:Int),scosV c.scores] by rw [← hm]] at *
 have hms:mslR 1 8 [DV.int .i64 0] (I64 (m:Int)) (I64 (m:Int))=some (some m,⟨1,true,List.replicate m (I64 0)⟩):=by rw [← madeL_one];exact r_msl (by omega) (by omega) rfl rfl
 repeat' ((with_reducible first|refine wr ?_|refine cpc hv ?_|refine cpc hst ?_|refine cpc hcl ?_|refine k_cu ?_ ?_|refine wb2 ?_ ?_<;>(intro hb;try simp only [hb])|fail)<;>try simp only [go_sem,seval,e1',hms])
 all_goals
  simp only [newM,if_pos e1]
  refine pc_stB (blk:=⟨1,true,List.replicate m (I64 0)⟩) (xs:=(firstM c).counts.map I64) (u:=1) (by first|exact h_same|rfl) rfl ?_ (ints_unit _) ⟨[],?_⟩
  ·simp [firstM,hm]
  ·rw [List.append_nil,cells_ints];simp [firstM,hm]
theorem chk_ok {c:Book} {s:BSt} {i n:Int} (h:chkM c s i n=0):isStM c s=true∧0≤i∧i<n:=by
 unfold chkM at h
 split at h
 ·omega
 ·rename_i h1
  split at h
  ·omega
  ·rename_i h2
   have h2:inB i 0 (n-1)=true:=by simpa using h2
   simp only [inB,Bool.and_eq_true,decide_eq_true_eq] at h2
   exact ⟨by simpa using h1,by omega,by omega⟩
theorem st_int {H:Hp} {cc id k:Nat} {l:List Int} {v:Int} (hk:k<l.length):stB H cc id 1 k (I64 v) (some ⟨1,true,cellsL (l.map I64)⟩)=some (.tup [],H.upd id ⟨1,true,cellsL ((l.set k v).map I64)⟩,cc):=by
 rw [cells_ints,cells_ints, ← put_map hk]
 exact b_st rfl (by rw [List.length_map];omega) rfl
theorem c_Set (c:Book) (s:BSt) (hl:lenB c) (ht:lenT s) (i v:Int):PC Tryz.prog 30 [c.v,s.v,I64 i,I64 v] (.tup [(setM c s i v).1.v,I64 (setM c s i v).2]):=by
 have hk:=c_check c s hl ht i c.adjs.length (.inl ⟨by omega,by have:=hl.1;omega⟩)
 refine PC.of mixedU isU30 (Nat.le_of_ble_eq_true rfl) (by simp [DV.nlL,DV.nl,nlL_ints,nlL_scos,nlL_adjs]) (by simp [DV.nlL,DV.nl,nlL_ints,nlL_scos,nlL_adjs]) ?_
 show IW Tryz.prog 40 u30_1 ⟨argT _,_,_⟩ (rt [.cell 8 3 true,.tmp 9] _)
 by_cases e1:chkM c s i c.adjs.length=0
 rotate_left
 ·have e1':(chkM c s i c.adjs.length != 0)=true:=by simpa using e1
  repeat' ((with_reducible first|refine wr ?_|refine cpc hk ?_|refine k_cu ?_ ?_|refine wb2 ?_ ?_<;>(intro hb;try simp only [hb])|fail)<;>try simp only [go_sem,seval,e1'])
  simp only [setM,ne_eq,e1,not_false_eq_true,if_true]
  exact pc_no
 have e1':(chkM c s i c.adjs.length != 0)=false:=by simpa using e1
 obtain ⟨e2,g1,g2⟩:=chk_ok e1
 obtain ⟨s1,s2,s3,s4,s5⟩:=st_fit e2
 obtain ⟨f1,f2,f3,f4,f5⟩:=valid_fit s1
 obtain ⟨k,rfl⟩:∃ k:Nat,i=(k:Int):=⟨i.toNat,by omega⟩
 have hk1:k<c.adjs.length:=by omega
 have hg:=List.getElem?_eq_getElem hk1
 have hgd:c.adjs.getD k A0=c.adjs[k]:=by rw [List.getD_eq_getElem?_getD,hg];rfl
 have hiv:=c_isValue c.adjs[k] v (fit_of_adjM (f4 _ (List.getElem_mem _)))
 have h0:s.sets≠[]:=fun h=>by rw [h] at s2;simp at s2;omega
 by_cases e3:isValM c.adjs[k] v=true
 rotate_left
 ·have e3:isValM c.adjs[k] v=false:=by simpa using e3
  repeat' ((with_reducible first|refine wr ?_|refine cpc hk ?_|refine cpc hiv ?_|refine k_cu ?_ ?_|refine wb2 ?_ ?_<;>(intro hb;try simp only [hb])|fail)<;>try simp only [go_sem,seval,e1',hg,e3])
  simp only [setM,ne_eq,e1,not_true_eq_false,if_false,Int.toNat_natCast,hgd,e3,if_true]
  exact pc_no
 have hcl:=fun H cc=>c_cloneA s (by omega) (by omega) (by omega) h0 H cc
 have hks:k<s.sets.length:=by omega
 have hia:=r_iadsn (id:=3) (off:=0) (l:=s.sets.length) (n:=k) (sz:=1) (k:=.i64) hks
 have hsb:=fun H cc=>st_int (H:=H) (cc:=cc) (id:=3) (v:=v) hks
 repeat' ((first|(with_reducible first|refine wr ?_|refine cpc hk ?_|refine cpc hiv ?_|refine k_cu ?_ ?_)|(with_reducible refine wb2 ?_ ?_<;>(intro hb;try simp only [hb]))|((with_reducible refine AC.call (hcl _ _) ?_);(rintro v H' c' ⟨rfl,rfl,rfl⟩ hcc))|fail)<;>try simp only [go_sem,seval,e1',hg,e3,hia,hsb])
 all_goals
  simp only [setM,ne_eq,e1,not_true_eq_false,if_false,Int.toNat_natCast,hgd,e3,Bool.true_eq_false]
  exact pc_stA (xs:=(s.sets.set k v).map I64) (blk:=⟨1,true,cellsL ((s.sets.set k v).map I64)⟩) (by first|exact h_same|rfl) rfl (by simp) (ints_unit _) ⟨[],by simp⟩
theorem last_fit {a:Adj} (h:Adj.fit a):0≤(a.hi-a.lo).tdiv a.step∧(a.hi-a.lo).tdiv a.step≤2000000000∧0≤(a.hi-a.lo).tdiv a.step * a.step∧(a.hi-a.lo).tdiv a.step * a.step≤a.hi-a.lo:=by
 obtain ⟨h1,h2,h3,h4,h5⟩:=h
 rw [Int.tdiv_eq_ediv_of_nonneg (by omega)]
 have q0:0≤(a.hi-a.lo) / a.step:=Int.ediv_nonneg (by omega) (by omega)
 have q1:(a.hi-a.lo) / a.step * a.step≤a.hi-a.lo:=Int.ediv_mul_le _ (by omega)
 have q2:(a.hi-a.lo) / a.step≤a.hi-a.lo:=Int.ediv_le_self _ (by omega)
 exact ⟨q0,by omega,Int.mul_nonneg q0 (by omega),q1⟩
theorem c_Turn (c:Book) (s:BSt) (hl:lenB c) (ht:lenT s) (i:Int) (up:Bool):PC Tryz.prog 14 [c.v,s.v,I64 i,.bool up] (.tup [(turnM c s i up).1.v,I64 (turnM c s i up).2]):=by
 have hk:=c_check c s hl ht i c.adjs.length (.inl ⟨by omega,by have:=hl.1;omega⟩)
 refine PC.of mixedU isU14 (Nat.le_of_ble_eq_true rfl) (by simp [DV.nlL,DV.nl,nlL_ints,nlL_scos,nlL_adjs]) (by simp [DV.nlL,DV.nl,nlL_ints,nlL_scos,nlL_adjs]) ?_
 show IW Tryz.prog 80 u14_1 ⟨argT _,_,_⟩ (rt [.cell 8 3 true,.tmp 9] _)
 by_cases e1:chkM c s i c.adjs.length=0
 rotate_left
 ·have e1':(chkM c s i c.adjs.length != 0)=true:=by simpa using e1
  repeat' ((with_reducible first|refine wr ?_|refine cpc hk ?_|refine k_cu ?_ ?_|refine wb2 ?_ ?_<;>(intro hb;try simp only [hb])|fail)<;>try simp only [go_sem,seval,e1'])
  simp only [turnM,ne_eq,e1,not_false_eq_true,if_true]
  exact pc_no
 have e1':(chkM c s i c.adjs.length != 0)=false:=by simpa using e1
 obtain ⟨e2,g1,g2⟩:=chk_ok e1
 obtain ⟨s1,s2,s3,s4,s5⟩:=st_fit e2
 obtain ⟨f1,f2,f3,f4,f5⟩:=valid_fit s1
 obtain ⟨k,rfl⟩:∃ k:Nat,i=(k:Int):=⟨i.toNat,by omega⟩
 have hk1:k<c.adjs.length:=by omega
 have hks:k<s.sets.length:=by omega
 have hg:=List.getElem?_eq_getElem hk1
 have hg2:=List.getElem?_eq_getElem hks
 have hgd:c.adjs.getD k A0=c.adjs[k]:=by rw [List.getD_eq_getElem?_getD,hg];rfl
 have hgd2:s.sets.getD k 0=s.sets[k]:=by rw [List.getD_eq_getElem?_getD,hg2];rfl
 have hfit:=fit_of_adjM (f4 _ (List.getElem_mem hk1))
 have hval:isValM c.adjs[k] s.sets[k]=true:=by
  have hz:zipVal c.adjs s.sets=true:=by
   simp only [isStM,Bool.and_eq_true] at e2;exact e2.1.2
  exact (zipVal_iff _ _ s2.symm).1 hz k _ _ hg hg2
 have hin:c.adjs[k].lo≤s.sets[k]∧s.sets[k]≤c.adjs[k].hi:=by
  simp only [isValM,inB,Bool.and_eq_true,decide_eq_true_eq] at hval;exact hval.1
 obtain ⟨b0,b1,b2,b3⟩:=last_fit hfit
 have h0:s.sets≠[]:=fun h=>by rw [h] at s2;simp at s2;omega
 have hcl:=fun H cc=>c_cloneA s (by omega) (by omega) (by omega) h0 H cc
 have hsb:=fun H cc id v=>st_int (H:=H) (cc:=cc) (id:=id) (v:=v) hks
 have hia:=fun id=>r_iadsn (id:=id) (off:=0) (l:=s.sets.length) (n:=k) (sz:=1) (k:=.i64) hks
 have hset:∀ up,(turnM c s (k:Int) up)=(⟨s.sets.set k (turnV c.adjs[k] s.sets[k] up),s.counts,s.scores⟩,0):=fun up=>by
  simp only [turnM,ne_eq,e1,not_true_eq_false,if_false,Int.toNat_natCast,hgd,hgd2]
 rw [hset]
 clear hgd hgd2 hval hset
 generalize hA:c.adjs[k]=a at *
 generalize hV:s.sets[k]=v0 at *
 obtain ⟨y1,y2,y3,y4,y5⟩:=hfit
 have q1:=w64 (n:=a.hi-a.lo) (by omega) (by omega)
 have q2:binR .quo (I64 (a.hi-a.lo)) (I64 a.step)=some (I64 ((a.hi-a.lo).tdiv a.step)):=by rw [r_quo (by omega),w64 (by omega) (by omega)]
 have q3:=w64 (n:=(a.hi-a.lo).tdiv a.step * a.step) (by omega) (by omega)
 have q4:=w64 (n:=a.lo+(a.hi-a.lo).tdiv a.step * a.step) (by omega) (by omega)
 have q5:=w64 (n:=v0-a.step) (by omega) (by omega)
 have q6:=w64 (n:=v0+a.step) (by omega) (by omega)
 cases up
 ·repeat' ((first|(with_reducible first|refine wr ?_|refine cpc hk ?_|refine k_cu ?_ ?_)|(with_reducible refine wb2 ?_ ?_<;>(intro hb;try simp only [hb]))|((with_reducible refine AC.call (hcl _ _) ?_);(rintro v H' c' ⟨rfl,rfl,rfl⟩ hcc))|fail)<;>try simp only [go_sem,seval,e1',hg,hg2,q1,q2,q3,q4,q5,q6,hia,hsb])
  all_goals first
   | (have ev:turnV a v0 false=a.lo:=(by simp only [decide_eq_true_eq,decide_eq_false_iff_not] at *;simp only [turnV,lastM,Bool.false_eq_true,if_false,if_true];(repeat' split)<;>omega);rw [ev];exact pc_stA (xs:=(s.sets.set k a.lo).map I64) (blk:=⟨1,true,cellsL ((s.sets.set k a.lo).map I64)⟩) (by first|exact h_same|rfl) rfl (by simp) (ints_unit _) ⟨[],by simp⟩)
   | (have ev:turnV a v0 false=a.lo+(a.hi-a.lo).tdiv a.step * a.step:=(by simp only [decide_eq_true_eq,decide_eq_false_iff_not] at *;simp only [turnV,lastM,Bool.false_eq_true,if_false,if_true];(repeat' split)<;>omega);rw [ev];exact pc_stA (xs:=(s.sets.set k (a.lo+(a.hi-a.lo).tdiv a.step * a.step)).map I64) (blk:=⟨1,true,cellsL ((s.sets.set k (a.lo+(a.hi-a.lo).tdiv a.step * a.step)).map I64)⟩) (by first|exact h_same|rfl) rfl (by simp) (ints_unit _) ⟨[],by simp⟩)
   | (have ev:turnV a v0 false=v0-a.step:=(by simp only [decide_eq_true_eq,decide_eq_false_iff_not] at *;simp only [turnV,lastM,Bool.false_eq_true,if_false,if_true];(repeat' split)<;>omega);rw [ev];exact pc_stA (xs:=(s.sets.set k (v0-a.step)).map I64) (blk:=⟨1,true,cellsL ((s.sets.set k (v0-a.step)).map I64)⟩) (by first|exact h_same|rfl) rfl (by simp) (ints_unit _) ⟨[],by simp⟩)
 ·repeat' ((first|(with_reducible first|refine wr ?_|refine cpc hk ?_|refine k_cu ?_ ?_)|(with_reducible refine wb2 ?_ ?_<;>(intro hb;try simp only [hb]))|((with_reducible refine AC.call (hcl _ _) ?_);(rintro v H' c' ⟨rfl,rfl,rfl⟩ hcc))|fail)<;>try simp only [go_sem,seval,e1',hg,hg2,q1,q2,q3,q4,q5,q6,hia,hsb])
  all_goals first
   | (have ev:turnV a v0 true=a.lo:=(by simp only [decide_eq_true_eq,decide_eq_false_iff_not] at *;simp only [turnV,lastM,Bool.false_eq_true,if_false,if_true];(repeat' split)<;>omega);rw [ev];exact pc_stA (xs:=(s.sets.set k a.lo).map I64) (blk:=⟨1,true,cellsL ((s.sets.set k a.lo).map I64)⟩) (by first|exact h_same|rfl) rfl (by simp) (ints_unit _) ⟨[],by simp⟩)
   | (have ev:turnV a v0 true=a.lo+(a.hi-a.lo).tdiv a.step * a.step:=(by simp only [decide_eq_true_eq,decide_eq_false_iff_not] at *;simp only [turnV,lastM,Bool.false_eq_true,if_false,if_true];(repeat' split)<;>omega);rw [ev];exact pc_stA (xs:=(s.sets.set k (a.lo+(a.hi-a.lo).tdiv a.step * a.step)).map I64) (blk:=⟨1,true,cellsL ((s.sets.set k (a.lo+(a.hi-a.lo).tdiv a.step * a.step)).map I64)⟩) (by first|exact h_same|rfl) rfl (by simp) (ints_unit _) ⟨[],by simp⟩)
   | (have ev:turnV a v0 true=v0+a.step:=(by simp only [decide_eq_true_eq,decide_eq_false_iff_not] at *;simp only [turnV,lastM,Bool.false_eq_true,if_false,if_true];(repeat' split)<;>omega);rw [ev];exact pc_stA (xs:=(s.sets.set k (v0+a.step)).map I64) (blk:=⟨1,true,cellsL ((s.sets.set k (v0+a.step)).map I64)⟩) (by first|exact h_same|rfl) rfl (by simp) (ints_unit _) ⟨[],by simp⟩)
end Go.Proofs.YtndjhpjcankkaaaGreatDoor
end
