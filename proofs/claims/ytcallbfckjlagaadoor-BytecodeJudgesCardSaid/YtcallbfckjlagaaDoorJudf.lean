/-
  HELPERS of the claim: part 6 of its texts.
-/
import Derived.Shelf.Strings.OnBuilder
import Derived.Shelf.Strconv.Itoa3
import Derived.Test.YtcallbfckjlagaaDoorProg
import Derived.Test.YtcallbfckjlagaaDoorJude
noncomputable section
set_option linter.unusedVariables false
namespace Go.Proofs
open Go.Shelf
def Tryd.lays156_ren:Go.Shelf.Ren:=⟨fun | 156=>50 | 165=>64 | 166=>65 | 169=>66 | 240=>83 | 241=>84 | 276=>92 | 277=>93|n=>n,fun | 31=>24 | 9=>9 | 3=>3 | 4=>4 | 0=>0 | 20=>20 | 72=>100 | 76=>104 | 70=>98 | 37=>22 | 75=>103 | 127=>117 | 164=>126 | 5=>5 | 80=>106|n=>n,fun|n=>n⟩
theorem Tryd.lays156:Go.Proofs.Lays.n156 Tryd.prog Tryd.lays156_ren:={
 mixed:=by kernel_rfl
 f156:=Tryd.func50.trans (congrArg some (by kernel_rfl))
 f165:=Tryd.func64.trans (congrArg some (by kernel_rfl))
 f166:=Tryd.func65.trans (congrArg some (by kernel_rfl))
 f169:=Tryd.func66.trans (congrArg some (by kernel_rfl))
 f240:=Tryd.func83.trans (congrArg some (by kernel_rfl))
 f241:=Tryd.func84.trans (congrArg some (by kernel_rfl))
 f276:=Tryd.func92.trans (congrArg some (by kernel_rfl))
 f277:=Tryd.func93.trans (congrArg some (by kernel_rfl))
 t0:=Tryd.underlying0
 a0:=Tryd.isAgg0
 z0:=Tryd.sizeOf0
 v0:=Tryd.zeroValue0
 t3:=Tryd.underlying3
 a3:=Tryd.isAgg3
 z3:=Tryd.sizeOf3
 v3:=Tryd.zeroValue3
 t4:=Tryd.underlying4
 a4:=Tryd.isAgg4
 z4:=Tryd.sizeOf4
 v4:=Tryd.zeroValue4
 t9:=Tryd.underlying9
 a9:=Tryd.isAgg9
 z9:=Tryd.sizeOf9
 v9:=Tryd.zeroValue9
 t20:=Tryd.underlying20
 a20:=Tryd.isAgg20
 z20:=Tryd.sizeOf20
 v20:=Tryd.zeroValue20
 t31:=Tryd.underlying24
 a31:=Tryd.isAgg24
 z31:=Tryd.sizeOf24
 v31:=Tryd.zeroValue24
 t37:=Tryd.underlying22
 a37:=Tryd.isAgg22
 z37:=Tryd.sizeOf22
 v37:=Tryd.zeroValue22
 t70:=Tryd.underlying98
 a70:=Tryd.isAgg98
 z70:=Tryd.sizeOf98
 v70:=Tryd.zeroValue98
 t72:=Tryd.underlying100
 a72:=Tryd.isAgg100
 z72:=Tryd.sizeOf100
 v72:=Tryd.zeroValue100
 t75:=Tryd.underlying103
 a75:=Tryd.isAgg103
 z75:=Tryd.sizeOf103
 v75:=Tryd.zeroValue103
 t76:=Tryd.underlying104
 a76:=Tryd.isAgg104
 z76:=Tryd.sizeOf104
 v76:=Tryd.zeroValue104
 t127:=Tryd.underlying117
 a127:=Tryd.isAgg117
 z127:=Tryd.sizeOf117
 v127:=Tryd.zeroValue117
 t164:=Tryd.underlying126
 a164:=Tryd.isAgg126
 z164:=Tryd.sizeOf126
 v164:=Tryd.zeroValue126 }
theorem Tryd.Builder_Extra_156:Builder.Extra Tryd.prog Tryd.lays156_ren:={
 sizeBuilder:=by kernel_rfl
 liesBuilder:=by kernel_rfl
 t5:=Tryd.underlying5
 a5:=Tryd.isAgg5
 z5:=Tryd.sizeOf5
 v5:=Tryd.zeroValue5
 infoByte:=by kernel_rfl
 cellsByte:=by kernel_rfl
 sizeByte:=by kernel_rfl
 neB5:=by decide }
open Go.RowKit in
theorem Tryd.strings_Join_none (a:Option Addr) (c:Nat) (sep:ByteArray) (w:World) :
  Calls Tryd.prog 50 #[.slice a 0 c,.string sep] w fun e w'=>e=.returned (.string ⟨#[]⟩)∧w'=w:=Any.strings_Join_none Tryd.lays156 Tryd.Builder_Extra_156 a c sep w
open Go.RowKit in
theorem Tryd.strings_Join (bk o c:Nat) (xs:List ByteArray) (sep:ByteArray) (w:World) (hcells:∀ (j:Nat) x,xs[j]? = some x→w.cell? ⟨bk,o+j,none⟩=some (.string x)) (hbk:bk<w.heap.size) (hN:xs.length≤140737488355328) (hcap:xs.length≤c) (hlen:(Lib.join (xs.map (·.data.toList)) sep.data.toList).length≤140737488355328) :
  Calls Tryd.prog 50 #[.slice (some ⟨bk,o,none⟩) xs.length c,.string sep] w fun e w'=>e=.returned (.string ⟨(Lib.join (xs.map (·.data.toList)) sep.data.toList).toArray⟩)∧Below w.heap.size w w':=Any.strings_Join Tryd.lays156 Tryd.Builder_Extra_156 bk o c xs sep w hcells hbk hN hcap hlen
def Tryd.lays171_ren:Go.Shelf.Ren:=⟨fun | 171=>49 | 243=>63 | 246=>82 | 283=>88 | 284=>89 | 285=>90 | 286=>91 | 129=>95 | 317=>94 | 318=>96 | 319=>97 | 320=>98 | 337=>99 | 338=>100|n=>n,fun | 3=>3 | 9=>9 | 2=>2 | 4=>4 | 171=>121 | 0=>0 | 53=>87 | 37=>22 | 5=>5 | 173=>124 | 212=>130 | 51=>131 | 20=>20 | 213=>132 | 46=>88 | 232=>135 | 233=>136|n=>n,fun | 17=>0 | 18=>2 | 19=>3|n=>n⟩
theorem Tryd.lays171:Go.Proofs.Lays.n171 Tryd.prog Tryd.lays171_ren:={
 mixed:=by kernel_rfl
 f129:=Tryd.func95.trans (congrArg some (by kernel_rfl))
 f171:=Tryd.func49.trans (congrArg some (by kernel_rfl))
 f243:=Tryd.func63.trans (congrArg some (by kernel_rfl))
 f246:=Tryd.func82.trans (congrArg some (by kernel_rfl))
 f283:=Tryd.func88.trans (congrArg some (by kernel_rfl))
 f284:=Tryd.func89.trans (congrArg some (by kernel_rfl))
 f285:=Tryd.func90.trans (congrArg some (by kernel_rfl))
 f286:=Tryd.func91.trans (congrArg some (by kernel_rfl))
 f317:=Tryd.func94.trans (congrArg some (by kernel_rfl))
 f318:=Tryd.func96.trans (congrArg some (by kernel_rfl))
 f319:=Tryd.func97.trans (congrArg some (by kernel_rfl))
 f320:=Tryd.func98.trans (congrArg some (by kernel_rfl))
 f337:=Tryd.func99.trans (congrArg some (by kernel_rfl))
 f338:=Tryd.func100.trans (congrArg some (by kernel_rfl))
 t0:=Tryd.underlying0
 a0:=Tryd.isAgg0
 z0:=Tryd.sizeOf0
 v0:=Tryd.zeroValue0
 t2:=Tryd.underlying2
 a2:=Tryd.isAgg2
 z2:=Tryd.sizeOf2
 v2:=Tryd.zeroValue2
 t3:=Tryd.underlying3
 a3:=Tryd.isAgg3
 z3:=Tryd.sizeOf3
 v3:=Tryd.zeroValue3
 t4:=Tryd.underlying4
 a4:=Tryd.isAgg4
 z4:=Tryd.sizeOf4
 v4:=Tryd.zeroValue4
 t5:=Tryd.underlying5
 a5:=Tryd.isAgg5
 z5:=Tryd.sizeOf5
 v5:=Tryd.zeroValue5
 t9:=Tryd.underlying9
 a9:=Tryd.isAgg9
 z9:=Tryd.sizeOf9
 v9:=Tryd.zeroValue9
 t20:=Tryd.underlying20
 a20:=Tryd.isAgg20
 z20:=Tryd.sizeOf20
 v20:=Tryd.zeroValue20
 t37:=Tryd.underlying22
 a37:=Tryd.isAgg22
 z37:=Tryd.sizeOf22
 v37:=Tryd.zeroValue22
 t46:=Tryd.underlying88
 a46:=Tryd.isAgg88
 z46:=Tryd.sizeOf88
 v46:=Tryd.zeroValue88
 t51:=Tryd.underlying131
 a51:=Tryd.isAgg131
 z51:=Tryd.sizeOf131
 v51:=Tryd.zeroValue131
 t53:=Tryd.underlying87
 a53:=Tryd.isAgg87
 z53:=Tryd.sizeOf87
 v53:=Tryd.zeroValue87
 t171:=Tryd.underlying121
 a171:=Tryd.isAgg121
 z171:=Tryd.sizeOf121
 v171:=Tryd.zeroValue121
 t173:=Tryd.underlying124
 a173:=Tryd.isAgg124
 z173:=Tryd.sizeOf124
 v173:=Tryd.zeroValue124
 t212:=Tryd.underlying130
 a212:=Tryd.isAgg130
 z212:=Tryd.sizeOf130
 v212:=Tryd.zeroValue130
 t213:=Tryd.underlying132
 a213:=Tryd.isAgg132
 z213:=Tryd.sizeOf132
 t232:=Tryd.underlying135
 a232:=Tryd.isAgg135
 z232:=Tryd.sizeOf135
 v232:=Tryd.zeroValue135
 t233:=Tryd.underlying136
 a233:=Tryd.isAgg136
 z233:=Tryd.sizeOf136
 v233:=Tryd.zeroValue136
 g17:=by kernel_rfl
 g18:=by kernel_rfl
 g19:=by kernel_rfl }
theorem Tryd.laysM171:Go.Proofs.LaysM.n171 Tryd.prog Tryd.lays171_ren:={ Tryd.lays171 with
 i0:=by kernel_rfl
 i2:=by kernel_rfl
 i3:=by kernel_rfl
 i4:=by kernel_rfl
 i5:=by kernel_rfl
 i9:=by kernel_rfl
 i20:=by kernel_rfl
 i37:=by kernel_rfl
 i46:=by kernel_rfl
 i51:=by kernel_rfl
 i53:=by kernel_rfl
 i171:=by kernel_rfl
 i173:=by kernel_rfl
 i212:=by kernel_rfl
 i232:=by kernel_rfl
 i233:=by kernel_rfl
 m17:=by kernel_rfl
 m18:=by kernel_rfl
 m19:=by kernel_rfl }
theorem Tryd.strconv_Itoa (n : Int) (h0 : -9223372036854775808 ≤ n) (h1 : n ≤ 9223372036854775807) (w : World) (htab : Lib.TabIs Tryd.prog w "internal/strconv.uint64pow10" .u64 Lib.pow10Tab) :
  Calls Tryd.prog 49 #[.int .i64 n] w fun e w'=>e=.returned (.string ⟨(Lib.itoa n).toArray⟩)∧∃ k os,w'=Sort.grow (w.drewN k) os:=Any.strconv_Itoa Tryd.laysM171 n h0 h1 w htab
end Go.Proofs
set_option maxHeartbeats 4000000
set_option maxRecDepth 100000
set_option linter.unusedSimpArgs false
namespace Go.Proofs.YtcallbfckjlagaaDoor
open Go.Eng (IC IOper DReg IFn IsFn Callable)
open Go.Sym Go.Pb Go.RowKit
section
abbrev u25_10:IC:=qG [oM 14 3,oM 15 4,oC 16 49 [.t 15],oP 17 (.bin .add (.t 16) (.k (.string ⟨#[32]⟩))),oF 18 5 0,oL 19 18,oC 20 49 [.t 19],oB 21 17 20 .add,oP 22 (.bin .add (.t 21) (.k (.string ⟨#[32]⟩))),oF 23 5 1,oL 24 23,oC 25 49 [.t 24],oB 26 22 25 .add,oP 27 (.bin .add (.t 26) (.k (.string ⟨#[10]⟩))),⟨some 28,.new (.bsl 1 1 #[.string ⟨#[]⟩] [(0,.t 27)]),none⟩,oT 29 14 28 1 16,oM 3 29] [(0,none),(1,none),(4,none),(5,none),(9,none),(10,none),(2,some [0,4,5,9,10]),(3,none),(6,some [0,9,10,3]),(7,none),(8,none),(11,some [0,3,7,8]),(12,none),(13,none),(14,none),(15,some []),(16,some [])] 17 [3,4,5,7,8,9]
abbrev u25_9:IC:=qS [oM 11 9,oA 12 7 9 2,oD 13 12 2,oW 5 (.agg #[.int .i64 0,.int .i64 0]),oM 4 11,oS 5 13 2] u25_10 [3,7,8,9]
abbrev u25_11:IC:=qE [oK 30 9 .add 1,oM 9 30] [3,7,8,9]
abbrev u25_8:IC:=qB u25_9 u25_11 1 [3,7,8,9]
abbrev u25_7:IC:=qC .skip u25_8 (.exit 0) (.t 10) [3,7,8,9,10]
abbrev u25_6:IC:=qS [oB 10 9 8 .lss] u25_7 [3,7,8,9]
abbrev u25_5:IC:=qJ (.loop u25_6) 0 [3,7,8,9]
abbrev u25_4:IC:=qS [oF 6 1 0,oL 7 6,oH 8 7,oI 9 0] u25_5 [1,3]
abbrev u25_12:IC:=qS [oM 31 3,oC 32 50 [.t 31,.k (.string ⟨#[]⟩)],oM 2 32] .ret [3]
abbrev u25_3:IC:=qQ u25_4 u25_12 [1,3]
abbrev u25_2:IC:=qS [oV 3 (.slice none 0 0)] u25_3 [1]
abbrev u25_1:IC:=qS [oX 1 0,oV 2 (.string ⟨#[]⟩)] u25_2 [0]
def u25:IFn:=⟨33,u25_1,[.tmp 2]⟩
end
theorem isU25:IsFn Tryd.prog 25 u25:=by unfold IsFn;kernel_rfl
theorem dec_eq:∀ (m u:Nat),u<m→Lib.decDigits u=decB u:=by
 intro m
 induction m with
 | zero=>intro u h;omega
 | succ m ih =>
  intro u h
  unfold Lib.decDigits
  by_cases h0:u<10
  ·rw [dif_pos h0,decB_lt h0];rfl
  ·rw [dif_neg h0,decB_ge h0,ih (u / 10) (by omega)];rfl
theorem itoa_eq (n:Int):Lib.itoa n=decI n:=by
 unfold Lib.itoa decI
 by_cases h:n<0
 ·rw [if_pos h,if_pos h,dec_eq (n.natAbs+1) _ (by omega)]
 ·rw [if_neg h,if_neg h,dec_eq (n.toNat+1) _ (by omega)]
  congr 1;omega
theorem c_Itoa (n:Int) (h0 : -9223372036854775808≤n) (h1:n≤9223372036854775807):PC Tryd.prog 49 [I64 n] (.str (decI n)):=by
 refine PC.of_calls (by kernel_rfl) rfl rfl fun ρ w vs hf hA=>?_
 have hvs:vs = #[.int .i64 n]:=by
  obtain ⟨y,h1,h2⟩:=hA.get (i:=0) rfl
  have hs:vs.size=1:=hA.1.symm
  cases h2
  cases vs with|mk l=>match l,hs,h1 with
   | [a],_,h1=>simp at h1;subst h1;rfl
 rw [hvs]
 obtain ⟨e,fr,hb⟩:=hf 0 _ (ρ.tab ((0:Nat),(Lib.pow10Tab.map fun z=>Value.int .u64 z).toArray) (List.mem_cons_self))
 have ht : Lib.TabIs Tryd.prog w "internal/strconv.uint64pow10" .u64 Lib.pow10Tab := by
  unfold Lib.TabIs World.var?
  rw [Tryd.laysM171.m17]
  show (match w.heap[0]? with|some (.cells cs _ _)=>some cs|_=>none)=_
  rw [hb]
 refine (Tryd.strconv_Itoa n h0 h1 w ht).mono ?_
 rintro e w' ⟨rfl,k,os,rfl⟩
 exact ⟨_,rfl,fun ρ'=>by rw [itoa_eq];exact .mkStr,⟨rfl,rfl,rfl,by show w.heap.size≤(w.heap++os).size;rw [Array.size_append];omega,fun j hj=>by
  show (w.heap++os)[j]? = w.heap[j]?
  rw [Array.getElem?_append,if_pos hj]⟩⟩
theorem c_Join (l:List (List UInt8)) (h1:l.length≤140737488355328) (h2:l.flatten.length≤140737488355328):PC Tryd.prog 50 [strs l,.str []] (.str l.flatten):=by
 refine PC.of_calls (by kernel_rfl) (by simp [DV.nlL,DV.nl,nlL_strs]) rfl fun ρ w vs hf hA=>?_
 obtain ⟨y,g1,g2⟩:=hA.get (i:=0) rfl
 obtain ⟨z,g3,g4⟩:=hA.get (i:=1) rfl
 obtain rfl:=g4.str_inv
 have hvs:vs = #[y,.string ⟨#[]⟩]:=by
  have hs:vs.size=2:=hA.1.symm
  cases vs with|mk r=>match r,hs,g1,g3 with
   | [a,b],_,h1,h3=>simp at h1 h3;subst h1 h3;rfl
 rw [hvs]
 rcases g2.lst_inv with ⟨e0,e1|⟨a,c,e1⟩⟩|⟨u,b,off,c,row,e1,e2,e3,e4,e5,e6⟩
 ·subst e1
  have:l=[]:=by simpa using e0
  subst this
  refine (Tryd.strings_Join_none none 0 ⟨#[]⟩ w).mono ?_
  rintro e w' ⟨rfl,rfl⟩
  exact ⟨_,rfl,fun ρ'=>.mkStr,Below.refl _ _⟩
 ·subst e1
  have:l=[]:=by simpa using e0
  subst this
  refine (Tryd.strings_Join_none (some a) c ⟨#[]⟩ w).mono ?_
  rintro e w' ⟨rfl,rfl⟩
  exact ⟨_,rfl,fun ρ'=>.mkStr,Below.refl _ _⟩
 ·subst e1
  obtain ⟨e,fr,hb⟩:=hf b row e2
  obtain ⟨bs,hbs⟩:∃ bs:List ByteArray,bs=l.map fun s=>(⟨s.toArray⟩:ByteArray):=⟨_,rfl⟩
  have hL:(l.map DV.str).length=bs.length:=by rw [hbs];simp
  have hmap:bs.map (fun x=>x.data.toList)=l:=by
   rw [hbs,List.map_map]
   exact (List.map_congr_left fun s _=>rfl).trans (List.map_id l)
  have hj:Lib.join l []=l.flatten:=by
   unfold Lib.join
   cases l with
   | nil=>rfl
   | cons x r=>exact (Lib.join_cons x r []).trans (by simp [Lib.joinTail])
  have hmap2:bs.map (·.data.toList)=l:=hmap
  have p1:∀ (j:Nat) x,bs[j]? = some x→w.cell? ⟨b,off+j,none⟩=some (.string x):=by
   intro j x hx
   rw [hbs,List.getElem?_map] at hx
   obtain ⟨s,hs,rfl⟩:=Option.map_eq_some_iff.1 hx
   have hc:(cellsL (l.map DV.str))[j]? = some (DV.str s):=by rw [cellsL_map1 (fun _=>rfl),List.getElem?_map,hs];rfl
   obtain ⟨v,v1,v2⟩:=e6.get hc
   rw [v2.str_inv] at v1
   simp only [World.cell?,hb]
   exact v1
  have p2:b<w.heap.size:=(Array.getElem?_eq_some_iff.1 hb).1
  have p3:bs.length≤140737488355328:=by rw [hbs];simpa using h1
  have p4:bs.length≤c:=by rw [← hL];exact e3
  have p5:(Lib.join (bs.map (·.data.toList)) (⟨#[]⟩:ByteArray).data.toList).length≤140737488355328:=by
   rw [hmap2];exact hj▸h2
  rw [hL]
  have key:=Tryd.strings_Join b off c bs ⟨#[]⟩ w p1 p2 p3 p4 p5
  rw [hmap2] at key
  refine key.mono fun e w' hq=>⟨_,hq.1,fun ρ'=>?_,hq.2⟩
  have e7:Lib.join l (⟨#[]⟩:ByteArray).data.toList=l.flatten:=hj
  rw [e7];exact .mkStr
theorem c_Listing (c:Prg) (hl:c.instrs.length≤4000) (hb:∀ i∈c.instrs,I6 i.op∧I6 i.A):PC Tryd.prog 25 [c.v] (.str (lstF c.instrs 0)):=by
 refine PC.of mixedU isU25 (Nat.le_of_ble_eq_true rfl) (by simp [DV.nlL,DV.nl,nlL_ints,nlL_strs,nlL_instrs,nlL_entries,nlL_stp]) (by simp [DV.nlL,DV.nl,nlL_ints,nlL_strs,nlL_instrs,nlL_entries,nlL_stp]) ?_
 show IW Tryd.prog 33 u25_1 ⟨argT _,_,_⟩ (rt [.tmp 2] _)
 repeat' ((with_reducible first|refine wr ?_|refine wb2 ?_ ?_<;>(intro hb;try simp only [hb])|fail)<;>try simp only [go_sem,seval])
 refine i_loop (fun q:Nat × Option Nat=>[(3,todoV q.2 q.1),(7,inssV c.instrs),(8,I64 c.instrs.length),(9,I64 q.1)]) (fun q=>optH Sym.nil q.2 ⟨1,true,cellsL ((lnM (c.instrs.take q.1) 0).map DV.str)⟩) (fun q cc=>q.1≤c.instrs.length∧(q.2=none→q.1=0)∧∀ i,q.2=some i→i<cc) (fun q=>c.instrs.length-q.1) (0,none)
  (by simp [tmLe,tm,Tm.upd,todoV]) (Sub.nil _) ⟨by simp,by simp,by simp⟩ ?_
 rintro ⟨k,o⟩ cc ⟨hk,hno,hso⟩
 simp only at hk hno hso
 have hkl:(lnM (c.instrs.take k) 0).length=k:=by rw [lnM_len,List.length_take];omega
 by_cases hlt:k<c.instrs.length
 ·have hd:decide ((k:Int)<c.instrs.length)=true:=by simpa using hlt
  have hg:=List.getElem?_eq_getElem hlt
  have hw:IntKind.i64.wrap ((k:Int)+1)=((k+1:Nat):Int):=by rw [w64 (by omega) (by omega)];omega
  have hx:=hb _ (List.getElem_mem hlt)
  have l1:=decI_len (n:=(k:Int)) (by omega) (by omega)
  have l2:=decI_len (n:=c.instrs[k].op) hx.1.1 hx.1.2
  have l3:=decI_len (n:=c.instrs[k].A) hx.2.1 hx.2.2
  have a1:=sadd (s:=decI k) (t:=[32]) (by first|omega|(simp only [List.length_append,List.length_singleton];omega))
  have a2:=sadd (s:=decI k++[32]) (t:=decI c.instrs[k].op) (by first|omega|(simp only [List.length_append,List.length_singleton];omega))
  have a3:=sadd (s:=decI k++[32]++decI c.instrs[k].op) (t:=[32]) (by first|omega|(simp only [List.length_append,List.length_singleton];omega))
  have a4:=sadd (s:=decI k++[32]++decI c.instrs[k].op++[32]) (t:=decI c.instrs[k].A) (by first|omega|(simp only [List.length_append,List.length_singleton];omega))
  have a5:=sadd (s:=decI k++[32]++decI c.instrs[k].op++[32]++decI c.instrs[k].A) (t:=[10]) (by first|omega|(simp only [List.length_append,List.length_singleton];omega))
  have est:cellsL ((lnM (c.instrs.take (k+1)) 0).map DV.str)=cellsL ((lnM (c.instrs.take k) 0).map DV.str)++[DV.str (lineB k c.instrs[k])]:=by
   rw [lnM_step hg,List.map_append,cellsL_append];rfl
  have hL:=strC_len (lnM (c.instrs.take k) 0)
  rw [hkl] at hL
  have fa1:¬cc+1=cc:=by omega
  have fa2:¬cc+2=cc:=by omega
  have fa3:¬cc+3=cc:=by omega
  have fa4:¬cc+4=cc:=by omega
  have fa5:¬cc+5=cc:=by omega
  have fa6:¬cc+6=cc:=by omega
  have fa7:¬cc+7=cc:=by omega
  have fa8:¬cc+8=cc:=by omega
  have fa9:¬cc+9=cc:=by omega
  have fa10:¬cc+10=cc:=by omega
  have fa11:¬cc+11=cc:=by omega
  have fa12:¬cc+12=cc:=by omega
  have fa13:¬cc+13=cc:=by omega
  have fa14:¬cc+14=cc:=by omega
  have fa15:¬cc+15=cc:=by omega
  have fa16:¬cc+16=cc:=by omega
  have fa17:¬cc+17=cc:=by omega
  have fa18:¬cc+18=cc:=by omega
  rcases o with _|id
  ·obtain rfl:=hno rfl
   have z0:((0:Nat):Int)=0:=rfl
   have hw0:=w64 (n:=1) (by omega) (by omega)
   simp only [z0] at hd a1 a2 a3 a4 a5
   repeat' ((first|(with_reducible first|refine wr ?_|refine cpc (c_Itoa 0 (by omega) (by omega)) ?_|refine cpc (c_Itoa _ hx.1.1 hx.1.2) ?_|refine cpc (c_Itoa _ hx.2.1 hx.2.2) ?_)|(with_reducible refine wb2 ?_ ?_<;>(intro hb;try simp only [hb]))|((with_reducible refine k_eval (r_appn' (by decide) (by decide) (by decide)) ?_))|((with_reducible refine x_eval (r_appn' (by decide) (by decide) (by decide)) ?_))|fail)<;>try simp only [go_sem,seval,hd,hg,hw0,a1,a2,a3,a4,a5,fa1,fa2,fa3,fa4,fa5,fa6,fa7,fa8,fa9,fa10,fa11,fa12,fa13,fa14,fa15,fa16,fa17,fa18])
   have est0:cellsL ((lnM (c.instrs.take 1) 0).map DV.str)=[DV.str (decI 0++([32]:List UInt8)++decI (c.instrs[0]'hlt).op++([32]:List UInt8)++decI (c.instrs[0]'hlt).A++([10]:List UInt8))]:=est
   exact ⟨(1,some (cc+1+17)),⟨rfl,rfl⟩,by simp only [est0];(intro j b hj;simp only [optH,Hp.upd,Hp.del,Sym.nil] at hj ⊢;(repeat' split at hj)<;>(repeat' split)<;>first|exact hj|(exfalso;omega)|cases hj),inv ⟨hlt,by simp,fun i hi=>by cases hi;omega⟩,by simp only;omega⟩
  ·have hid:=hso id rfl
   have fb1:¬cc+1=id:=by omega
   have fb2:¬cc+2=id:=by omega
   have fb3:¬cc+3=id:=by omega
   have fb4:¬cc+4=id:=by omega
   have fb5:¬cc+5=id:=by omega
   have fb6:¬cc+6=id:=by omega
   have fb7:¬cc+7=id:=by omega
   have fb8:¬cc+8=id:=by omega
   have fb9:¬cc+9=id:=by omega
   have fb10:¬cc+10=id:=by omega
   have fb11:¬cc+11=id:=by omega
   have fb12:¬cc+12=id:=by omega
   have fb13:¬cc+13=id:=by omega
   have fb14:¬cc+14=id:=by omega
   have fb15:¬cc+15=id:=by omega
   have fb16:¬cc+16=id:=by omega
   have fb17:¬cc+17=id:=by omega
   have fb18:¬cc+18=id:=by omega
   have fb0:¬cc=id:=by omega
   have fc1:¬id=cc+1:=by omega
   have fc2:¬id=cc+2:=by omega
   have fc3:¬id=cc+3:=by omega
   have fc4:¬id=cc+4:=by omega
   have fc5:¬id=cc+5:=by omega
   have fc6:¬id=cc+6:=by omega
   have fc7:¬id=cc+7:=by omega
   have fc8:¬id=cc+8:=by omega
   have fc9:¬id=cc+9:=by omega
   have fc10:¬id=cc+10:=by omega
   have fc11:¬id=cc+11:=by omega
   have fc12:¬id=cc+12:=by omega
   have fc13:¬id=cc+13:=by omega
   have fc14:¬id=cc+14:=by omega
   have fc15:¬id=cc+15:=by omega
   have fc16:¬id=cc+16:=by omega
   have fc17:¬id=cc+17:=by omega
   have fc18:¬id=cc+18:=by omega
   have fc0:¬id=cc:=by omega
   repeat' ((first|(with_reducible first|refine wr ?_|refine cpc (c_Itoa (k:Int) (by omega) (by omega)) ?_|refine cpc (c_Itoa _ hx.1.1 hx.1.2) ?_|refine cpc (c_Itoa _ hx.2.1 hx.2.2) ?_)|(with_reducible refine wb2 ?_ ?_<;>(intro hb;try simp only [hb]))|((with_reducible refine k_eval (b_appx hL (by omega) (by omega)) ?_))|((with_reducible refine x_eval (b_appx hL (by omega) (by omega)) ?_))|fail)<;>try simp only [go_sem,seval,hd,hg,hw,a1,a2,a3,a4,a5,fa1,fa2,fa3,fa4,fa5,fa6,fa7,fa8,fa9,fa10,fa11,fa12,fa13,fa14,fa15,fa16,fa17,fa18,fb0,fc0,fb1,fc1,fb2,fc2,fb3,fc3,fb4,fc4,fb5,fc5,fb6,fc6,fb7,fc7,fb8,fc8,fb9,fc9,fb10,fc10,fb11,fc11,fb12,fc12,fb13,fc13,fb14,fc14,fb15,fc15,fb16,fc16,fb17,fc17,fb18,fc18])
   exact ⟨(k+1,some (cc+1+17)),⟨rfl,rfl⟩,by simp only [est,lineB];(intro j b hj;simp only [optH,Hp.upd,Hp.del,Sym.nil] at hj ⊢;(repeat' split at hj)<;>(repeat' split)<;>first|exact hj|(exfalso;omega)|cases hj),inv ⟨hlt,by simp,fun i hi=>by cases hi;omega⟩,by simp only;omega⟩
 have hd:decide ((k:Int)<c.instrs.length)=false:=by simpa using hlt
 rw [List.take_of_length_le (by omega)] at hkl ⊢
 have hll:=lstF_len c.instrs 0 (by omega) hb
 have hj:=c_Join (lnM c.instrs 0) (by omega) (by rw [lnM_flat];omega)
 rw [lnM_flat] at hj
 have hkn:k=c.instrs.length:=by omega
 rcases o with _|id
 ·have hk0:=hno rfl
  have h00:c.instrs=[]:=List.eq_nil_of_length_eq_zero (by omega)
  repeat' ((with_reducible first|refine wr ?_|refine wb2 ?_ ?_<;>(intro hb;try simp only [hb])|fail)<;>try simp only [go_sem,seval,hd])
  refine AC.call (hj.give (H0:=Sym.nil) ⟨fun _ h=>h,fun ρ w vs h1 h2=>⟨ρ,rfl,h1,?_,Ext.refl _ _ _⟩⟩) ?_
  ·rw [h00]
   exact ⟨h2.1,fun i x y hx hy=>by
    match i with
    | 0=>cases hx;exact (h2.2 0 _ y rfl hy).snil_lst
    | 1=>cases hx;exact h2.2 1 _ y rfl hy
    | _+2=>cases hx⟩
  ·rintro v H' c' ⟨rfl,rfl,rfl⟩ -
   simp only [go_sem,seval]
   repeat' ((with_reducible first|refine wr ?_|refine wb2 ?_ ?_<;>(intro hb;try simp only [hb])|fail)<;>try simp only [go_sem,seval])
   exact pc_ret rfl
 ·repeat' ((with_reducible first|refine wr ?_|refine wb2 ?_ ?_<;>(intro hb;try simp only [hb])|fail)<;>try simp only [go_sem,seval,hd])
  refine AC.call (hj.give (H0:=Sym.nil) (GL.one (id:=id) h_same rfl (.cons _ _ _ _ (fz_slc (u:=1) (by rw [List.length_map,hkl]) (str_unit _) ⟨[],by simp⟩) (.cons _ _ _ _ (.same _) .nil)))) ?_
  rintro v H' c' ⟨rfl,rfl,rfl⟩ -
  simp only [go_sem,seval]
  repeat' ((with_reducible first|refine wr ?_|refine wb2 ?_ ?_<;>(intro hb;try simp only [hb])|fail)<;>try simp only [go_sem,seval])
  exact pc_ret rfl
end Go.Proofs.YtcallbfckjlagaaDoor
namespace Go.Proofs.YtcallbfckjlagaaDoor
open Go.Eng (IC IOper DReg IFn IsFn Callable)
open Go.Sym Go.Pb Go.RowKit
section
abbrev u13_9:IC:=qS [oM 44 3,oK 45 44 .eql 0,oM 46 45,gM 47 2 46,⟨some 48,.new (.bsl 1 3 #[.int .i64 0] [(0,.k (.int .i64 0)),(1,.k (.int .i64 1)),(2,.k (.int .i64 0))]),some (46,true)⟩,⟨some 49,.call 24 [.t 47,.t 48],some (46,true)⟩,oJ 50 46 49,oM 51 50,oG 52 (.ld 7 true (.t 4)) 51,⟨some 53,.call 14 [.t 52],some (51,true)⟩,gK 54 53 51 .eql 53,oJ 55 51 54,oM 56 55,gM 57 6 56,gK 58 57 56 .eql 0,oJ 59 56 58,oM 60 59,gM 61 5 60,oG 62 (.lens (.t 61)) 60,gK 63 62 60 .eql 18,oJ 64 60 63,oM 65 64,gM 66 8 65,gK 67 66 65 .eql 0,oJ 68 65 67,oM 69 68,oG 70 (.ld 7 true (.t 7)) 69,oG 71 (.ld 7 true (.t 1)) 69,⟨some 72,.call 18 [.t 70,.t 71],some (69,true)⟩,oJ 73 69 72,oM 74 73,gM 75 9 74,gK 76 75 74 .eql 0,oJ 77 74 76,oM 78 77,gM 79 10 78,oJ 80 78 79,oM 81 80,oG 82 (.ld 7 true (.t 4)) 81,⟨some 83,.call 25 [.t 82],some (81,true)⟩,oG 84 (.bin .eql (.t 83) (.k (.string ⟨#[48,32,49,53,32,48,10,49,32,51,49,32,48,10]⟩))) 81,oJ 85 81 84,oM 0 85] .ret [1,2,3,4,5,6,7,8,9,10]
abbrev u13_8:IC:=qS [oD 40 1 7,oC 41 29 [.t 40,.k (.int .i64 0),.k (.int .i64 1),.k (.int .i64 0)],oM 39 41,oE 42 39 0,oE 43 39 1,oM 9 42,oM 10 43] u13_9 [1,2,3,4,5,6,7,8]
abbrev u13_7:IC:=qS [oM 35 5,oC 36 16 [.t 35],oM 34 36,oE 37 34 0,oE 38 34 1,oW 7 (.agg #[.slice none 0 0,.slice none 0 0,.slice none 0 0,.slice none 0 0,.slice none 0 0,.int .i64 0,.int .i64 0]),oS 7 37 7,oM 8 38] u13_8 [1,2,3,4,5,6]
abbrev u13_6:IC:=qS [oD 30 1 7,oC 31 19 [.t 30],oM 29 31,oE 32 29 0,oE 33 29 1,oM 5 32,oM 6 33] u13_7 [1,2,3,4]
abbrev u13_5:IC:=qS [oF 25 1 0,oL 26 25,oP 27 (.slc 2 (.t 26) (some (.k (.int .i64 1))) none),oF 28 4 0,oS 28 27 1] u13_6 [1,2,3,4]
abbrev u13_4:IC:=qS [oD 24 1 7,oW 4 (.agg #[.slice none 0 0,.slice none 0 0,.slice none 0 0,.slice none 0 0,.slice none 0 0,.int .i64 0,.int .i64 0]),oS 4 24 7] u13_5 [1,2,3]
abbrev u13_3:IC:=qS [oD 20 1 7,oC 21 20 [.t 20],oM 19 21,oE 22 19 0,oE 23 19 1,oM 2 22,oM 3 23] u13_4 [1]
abbrev u13_2:IC:=qS [oP 11 (.bld #[.int .i64 0,.int .i64 0] [(0,1),(1,1)] [(0,.k (.int .i64 1)),(1,.k (.int .i64 5))]),oP 12 (.bld #[.int .i64 0,.int .i64 0] [(0,1),(1,1)] [(0,.k (.int .i64 15))]),oP 13 (.bld #[.int .i64 0,.int .i64 0] [(0,1),(1,1)] [(0,.k (.int .i64 31))]),⟨some 14,.new (.bsl 2 3 #[.int .i64 0,.int .i64 0] [(0,.t 11),(1,.t 12),(2,.t 13)]),none⟩,oP 15 (.bld #[.int .i64 0,.int .i64 0,.int .i64 0,.int .i64 0] [(0,1),(1,1),(2,1),(3,1)] [(1,.k (.int .i64 1))]),⟨some 16,.new (.bsl 4 1 #[.int .i64 0,.int .i64 0,.int .i64 0,.int .i64 0] [(0,.t 15)]),none⟩,⟨some 17,.new (.bsl 1 1 #[.int .i64 0] [(0,.k (.int .i64 1))]),none⟩,oP 18 (.bld #[.slice none 0 0,.slice none 0 0,.slice none 0 0,.slice none 0 0,.slice none 0 0,.int .i64 0,.int .i64 0] [(0,1),(1,1),(2,1),(3,1),(4,1),(5,1),(6,1)] [(0,.t 14),(2,.t 16),(3,.t 17)]),oW 1 (.agg #[.slice none 0 0,.slice none 0 0,.slice none 0 0,.slice none 0 0,.slice none 0 0,.int .i64 0,.int .i64 0]),oS 1 18 7] u13_3 []
abbrev u13_1:IC:=qS [oV 0 (.bool false)] u13_2 []
def u13:IFn:=⟨86,u13_1,[.tmp 0]⟩
end
theorem isU13:IsFn Tryd.prog 13 u13:=by unfold IsFn;kernel_rfl
def sn1:Prg:=⟨[⟨1,5⟩,⟨15,0⟩,⟨31,0⟩],[],[⟨0,1,0,0⟩],[1],[],0,0⟩
def sn2:Prg:=⟨[⟨15,0⟩,⟨31,0⟩],[],[⟨0,1,0,0⟩],[1],[],0,0⟩
theorem sn1_valid:validM sn1=0:=by decide +kernel
theorem sn2_valid:validM sn2=53:=by decide +kernel
theorem sn1_hts:vHts sn1=[0,1,0]:=by decide +kernel
theorem numI_lt {n:Int} (h:zig n<128):numI n=[UInt8.ofNat (zig n)]:=numB_lt h
theorem sn1_enc:encV sn1=[6,2,10,30,0,62,0,0,2,0,2,0,0,2,2,0,0,0]:=by
 rw [encV,if_pos sn1_valid]
 simp [encM,sn1,insB,entB,numsB,numI_lt,zig]
theorem sn1_dec:decP [6,2,10,30,0,62,0,0,2,0,2,0,0,2,2,0,0,0]=some sn1:=by
 have e:rdPrg ([6,2,10,30,0,62,0,0,2,0,2,0,0,2,2,0,0,0],false)=(sn1,([],false)):=by decide +kernel
 rw [decP,e]
 simp [sn1_valid,sn1_enc]
theorem sn2_list:lstF sn2.instrs 0=[48,32,49,53,32,48,10,49,32,51,49,32,48,10]:=by
 have d0:decI 0=[48]:=by rw [decI,if_neg (by omega),decB_lt (by decide)];rfl
 have d1:decI 1=[49]:=by rw [decI,if_neg (by omega),decB_lt (by decide)];rfl
 have d15:decI 15=[49,53]:=by rw [decI,if_neg (by omega),decB_ge (by decide),decB_lt (by decide)];rfl
 have d31:decI 31=[51,49]:=by rw [decI,if_neg (by omega),decB_ge (by decide),decB_lt (by decide)];rfl
 simp [lstF,sn2,lineB,d0,d1,d15,d31]
theorem c_sane:PC Tryd.prog 13 [] (.bool true):=by
 refine PC.of mixedU isU13 (Nat.le_of_ble_eq_true rfl) (by simp [DV.nlL,DV.nl,nlL_ints,nlL_strs,nlL_instrs,nlL_entries,nlL_stp]) (by simp [DV.nlL,DV.nl,nlL_ints,nlL_strs,nlL_instrs,nlL_entries,nlL_stp]) ?_
 show IW Tryd.prog 86 u13_1 ⟨argT _,_,_⟩ (rt [.tmp 0] _)
 repeat' ((with_reducible first|refine wr ?_|refine wb2 ?_ ?_<;>(intro hb;try simp only [hb])|fail)<;>try simp only [go_sem,seval])
 refine AC.ghost ((g_one (a:=0) (k:=3) (u:=2) (u':=2) (pre:=[]) (suf:=[.snil,.slc 1 0 1,.slc 2 0 1,.snil,I64 0,I64 0]) (xs:=sn1.instrs.map Ins.v) (junk:=[]) rfl rfl (by simp [DV.one]) rfl (ins_unit _) (by decide)).trans
  ((g_one (a:=1) (k:=3) (u:=4) (u':=4) (pre:=[inssV sn1.instrs,.snil]) (suf:=[.slc 2 0 1,.snil,I64 0,I64 0]) (xs:=sn1.entries.map Ent.v) (junk:=[]) rfl rfl (by simp [DV.one]) rfl (ent_unit _) (by decide)).trans
  ((g_one (a:=2) (k:=3) (u:=1) (u':=1) (pre:=[inssV sn1.instrs,.snil,entsV sn1.entries]) (suf:=[.snil,I64 0,I64 0]) (xs:=sn1.prios.map I64) (junk:=[]) rfl rfl (by simp [DV.one]) rfl (ints_unit _) (by decide)).trans
  ((g_nil (k:=3) (pre:=[inssV sn1.instrs]) (suf:=[entsV sn1.entries,ints sn1.prios,.snil,I64 0,I64 0]) rfl).trans
  ((g_nil (k:=3) (pre:=[inssV sn1.instrs,strs [],entsV sn1.entries,ints sn1.prios]) (suf:=[I64 0,I64 0]) rfl).trans
  (GL.less (H0:=Sym.nil.upd 3 ⟨0,true,[inssV sn1.instrs,strs [],entsV sn1.entries,ints sn1.prios,ints [],I64 0,I64 0]⟩) fun j=>?_)))))) ?_
 ·by_cases ej:j=3
  ·subst ej;exact .inr rfl
  ·left;rw [h_ne ej];rfl
 have h18:(((18:Nat):Int) == 18)=true:=rfl
 have hsl:∀ H,slcR H 2 (inssV sn1.instrs) (some (I64 1)) none=some (inssV sn2.instrs):=fun H=>rfl
 refine AC.call ((c_Heights sn1 (by simp [sn1]) (by simp [sn1])).at _ _) ?_
 rintro _ _ _ ⟨rfl,rfl,rfl⟩ -
 rw [sn1_valid,sn1_hts]
 simp only [go_sem,seval,h18]
 repeat' ((with_reducible first|refine wr ?_|refine wb2 ?_ ?_<;>(intro hb;try simp only [hb])|fail)<;>try simp only [go_sem,seval,hsl,h18])
 refine AC.call ((c_Encode sn1 (by simp [sn1]) (by simp [sn1])).at _ _) ?_
 rintro _ _ _ ⟨rfl,rfl,rfl⟩ -
 rw [sn1_valid,sn1_enc]
 simp only [go_sem,seval,h18]
 repeat' ((with_reducible first|refine wr ?_|refine wb2 ?_ ?_<;>(intro hb;try simp only [hb])|fail)<;>try simp only [go_sem,seval,hsl,h18])
 refine AC.call ((c_Decode _ (by simp)).at _ _) ?_
 rintro _ _ _ ⟨rfl,rfl,rfl⟩ -
 have hdv:decV (some sn1)=.tup [.agg [inssV sn1.instrs,strs [],entsV sn1.entries,ints sn1.prios,ints [],I64 0,I64 0],I64 0]:=rfl
 rw [sn1_dec,hdv]
 simp only [go_sem,seval,h18]
 repeat' ((with_reducible first|refine wr ?_|refine wb2 ?_ ?_<;>(intro hb;try simp only [hb])|fail)<;>try simp only [go_sem,seval,hsl,h18])
 refine AC.call ((c_Find sn1 (by simp [sn1]) 0 1 0).at _ _) ?_
 rintro _ _ _ ⟨rfl,rfl,rfl⟩ -
 have hfd:findV (findM 0 1 0 sn1.entries)=.tup [I64 0,.bool true]:=rfl
 rw [hfd]
 simp only [go_sem,seval,h18]
 repeat' ((with_reducible first|refine wr ?_|refine wb2 ?_ ?_<;>(intro hb;try simp only [hb])|fail)<;>try simp only [go_sem,seval,hsl,h18])
 refine AC.call ((c_SameInts [0,1,0] [0,1,0] (by simp)).lend (H0:=Sym.nil) rfl (GL.one (id:=6) h_same rfl (.cons _ _ _ _ (.same _) (.cons _ _ _ _ (fz_slc (u:=1) rfl (ints_unit [0,1,0]) ⟨[],rfl⟩) .nil)))) ?_
 rintro _ _ _ ⟨rfl,rfl,rfl⟩ -
 simp only [go_sem,seval,h18]
 repeat' ((with_reducible first|refine wr ?_|refine wb2 ?_ ?_<;>(intro hb;try simp only [hb])|fail)<;>try simp only [go_sem,seval,hsl,h18])
 refine AC.call ((c_valid sn2 (by simp [sn2]) (by simp [sn2])).at _ _) ?_
 rintro _ _ _ ⟨rfl,rfl,rfl⟩ -
 rw [sn2_valid]
 simp only [go_sem,seval,h18]
 repeat' ((with_reducible first|refine wr ?_|refine wb2 ?_ ?_<;>(intro hb;try simp only [hb])|fail)<;>try simp only [go_sem,seval,hsl,h18])
 refine AC.call ((c_SameR sn1 sn1 (by simp [sn1]) (by simp [sn1]) (by simp [sn1]) (by simp [sn1]) (by simp [sn1])).at _ _) ?_
 rintro _ _ _ ⟨rfl,rfl,rfl⟩ -
 simp only [go_sem,seval,h18]
 repeat' ((with_reducible first|refine wr ?_|refine wb2 ?_ ?_<;>(intro hb;try simp only [hb])|fail)<;>try simp only [go_sem,seval,hsl,h18])
 refine AC.call ((c_Listing sn2 (by simp [sn2]) (by simp [sn2,I6])).at _ _) ?_
 rintro _ _ _ ⟨rfl,rfl,rfl⟩ -
 rw [sn2_list]
 simp only [go_sem,seval,h18]
 repeat' ((with_reducible first|refine wr ?_|refine wb2 ?_ ?_<;>(intro hb;try simp only [hb])|fail)<;>try simp only [go_sem,seval,hsl,h18])
 exact pc_ret rfl
end Go.Proofs.YtcallbfckjlagaaDoor
set_option linter.unusedSectionVars false
namespace Go.Pb
variable [Go.Sym.Tab]
open Go.Sym
theorem valueM_l0 (l:List UInt8) (p:Nat):(valueM l 0 p).1.length≤1:=by have:=valueM_len l 0 p;omega
theorem valueM_l1 (l:List UInt8) (p:Nat):(valueM l 1 p).1.length≤3:=by
 have:=valueM_len l 1 p
 have e:2 ^ (1+1)=4:=rfl
 omega
theorem valueM_l2 (l:List UInt8) (p:Nat):(valueM l 2 p).1.length≤7:=by
 have:=valueM_len l 2 p
 have e:2 ^ (2+1)=8:=rfl
 omega
def stK (l:List UInt8) (rec:Nat→Nat→List Ins × Nat) (base k p:Nat):List Ins × Nat :=
 match k with
 | 1=>((valueM l 1 p).1++[⟨15,0⟩],(valueM l 1 p).2)
 | 2=>([⟨16+((nextM l p 3).1:Int),((nextM l (nextM l p 3).2 32).1:Int)⟩],(nextM l (nextM l p 3).2 32).2)
 | 3=>((valueM l 0 p).1++[⟨19,((nextM l (valueM l 0 p).2 64).1:Int)⟩],(nextM l (valueM l 0 p).2 64).2)
 | 4=>((valueM l 0 p).1++(valueM l 0 (valueM l 0 p).2).1++[⟨20,((nextM l (valueM l 0 (valueM l 0 p).2).2 64).1:Int)⟩],(nextM l (valueM l 0 (valueM l 0 p).2).2 64).2)
 | 5=>((valueM l 1 p).1++[⟨21,((nextM l (valueM l 1 p).2 2).1:Int)⟩],(nextM l (valueM l 1 p).2 2).2)
 | 6=>([⟨22,((nextM l p 2).1:Int)⟩],(nextM l p 2).2)
 | 7=>([⟨23+((nextM l p 2).1:Int),((nextM l (nextM l p 2).2 2).1:Int)⟩],(nextM l (nextM l p 2).2 2).2)
 | 8=>([⟨25,((nextM l p 2).1:Int)⟩],(nextM l p 2).2)
 | 9=>([⟨26+((nextM l p 3).1:Int),((nextM l (nextM l p 3).2 64).1:Int)⟩],(nextM l (nextM l p 3).2 64).2)
 | 10=>((valueM l 1 p).1++[⟨29,((nextM l (valueM l 1 p).2 2).1:Int)⟩],(nextM l (valueM l 1 p).2 2).2)
 | 11=>([⟨30,0⟩],p)
 | 12=>((valueM l 1 p).1++[⟨13,((base+(valueM l 1 p).1.length+1+(rec (base+(valueM l 1 p).1.length+1) (valueM l 1 p).2).1.length:Nat):Int)⟩]++(rec (base+(valueM l 1 p).1.length+1) (valueM l 1 p).2).1,(rec (base+(valueM l 1 p).1.length+1) (valueM l 1 p).2).2)
 | 13 | 14=>((valueM l 0 p).1++[⟨14,((base+(valueM l 0 p).1.length+2+(rec (base+(valueM l 0 p).1.length+1) (valueM l 0 p).2).1.length:Nat):Int)⟩]++(rec (base+(valueM l 0 p).1.length+1) (valueM l 0 p).2).1++[⟨12,((base+(valueM l 0 p).1.length:Nat):Int)⟩],(rec (base+(valueM l 0 p).1.length+1) (valueM l 0 p).2).2)
 | _=>((valueM l 2 p).1++[⟨3,((nextM l (valueM l 2 p).2 3).1:Int)⟩],(nextM l (valueM l 2 p).2 3).2)
def stmtM (l:List UInt8):Nat→Nat→Nat→List Ins × Nat
 | 0,base,p=>stK l (fun _ p=>([],p)) base (if 11<(nextM l p 15).1 then 0 else (nextM l p 15).1) (nextM l p 15).2
 | d+1,base,p=>stK l (stmtM l d) base (nextM l p 15).1 (nextM l p 15).2
theorem stK_pos {l:List UInt8} {rec:Nat→Nat→List Ins × Nat} (hr:∀ b p,p≤l.length→(rec b p).2≤l.length) (base k p:Nat) (h:p≤l.length):(stK l rec base k p).2≤l.length:=by
 unfold stK
 split
 all_goals first
  | exact h
  | exact nextM_le h
  | exact nextM_le (nextM_le h)
  | exact valueM_le _ _ _ h
  | exact nextM_le (valueM_le _ _ _ h)
  | exact nextM_le (valueM_le _ _ _ (valueM_le _ _ _ h))
  | exact hr _ _ (valueM_le _ _ _ h)
theorem stmtM_le (l:List UInt8):∀ (d base p:Nat),p≤l.length→(stmtM l d base p).2≤l.length
 | 0,base,p,h=>stK_pos (fun _ _ h=>h) _ _ _ (nextM_le h)
 | d+1,base,p,h=>stK_pos (fun b p h=>stmtM_le l d b p h) _ _ _ (nextM_le h)
theorem stK_len {l:List UInt8} {rec:Nat→Nat→List Ins × Nat} {m:Nat} (hr:∀ b p,(rec b p).1.length≤m) (h8:4≤m) (base k p:Nat):(stK l rec base k p).1.length≤m+4:=by
 have a:=valueM_l0 l
 have b:=valueM_l1 l
 have c:=valueM_l2 l
 unfold stK
 split
 all_goals simp only [List.length_append,List.length_singleton]
 ·have:=b p;omega
 ·omega
 ·have:=a p;omega
 ·have:=a p;have:=a (valueM l 0 p).2;omega
 ·have:=b p;omega
 ·omega
 ·omega
 ·omega
 ·omega
 ·have:=b p;omega
 ·omega
 ·have:=b p;have:=hr (base+(valueM l 1 p).1.length+1) (valueM l 1 p).2;omega
 ·have:=a p;have:=hr (base+(valueM l 0 p).1.length+1) (valueM l 0 p).2;omega
 ·have:=a p;have:=hr (base+(valueM l 0 p).1.length+1) (valueM l 0 p).2;omega
 ·have:=c p;omega
theorem stmtM_len (l:List UInt8):∀ (d base p:Nat),(stmtM l d base p).1.length≤8+4 * d
 | 0,base,p=>by
  have:=stK_len (l:=l) (rec:=fun _ p=>([],p)) (m:=4) (fun _ _=>by simp) (by omega) base (if 11<(nextM l p 15).1 then 0 else (nextM l p 15).1) (nextM l p 15).2
  simp only [stmtM];omega
 | d+1,base,p=>by
  have:=stK_len (l:=l) (rec:=stmtM l d) (m:=8+4 * d) (fun b p=>stmtM_len l d b p) (by omega) base (nextM l p 15).1 (nextM l p 15).2
  simp only [stmtM];omega
theorem w_sum {a b:Nat} (h:a+b≤1000000):IntKind.i64.wrap ((a:Int)+(b:Int))=((a+b:Nat):Int):=by rw [w64 (by omega) (by omega)];omega
theorem insL1 (a:List Ins) (x y:DV):(insC a++[x,y]).length=(a.length+1) * 2:=by rw [List.length_append,insC_len];simp;omega
theorem insL2 (a b:List Ins):(insC a++insC b).length=(a.length+b.length) * 2:=by rw [List.length_append,insC_len,insC_len];omega
theorem insL3 (a b:List Ins) (x y:DV):(insC a++[x,y]++insC b).length=(a.length+1+b.length) * 2:=by rw [List.length_append,insL1,insC_len];omega
end Go.Pb
namespace Go.Pb
variable [Go.Sym.Tab]
open Go.Sym
theorem stK_ne {l:List UInt8} {rec:Nat→Nat→List Ins × Nat} {base k p:Nat}:1≤(stK l rec base k p).1.length:=by
 unfold stK
 split<;>simp only [List.length_append,List.length_singleton]<;>omega
theorem stmtM_ne {l:List UInt8} {d base p:Nat}:1≤(stmtM l d base p).1.length:=by
 cases d with
 | zero=>simp only [stmtM];exact stK_ne
 | succ d=>simp only [stmtM];exact stK_ne
def keysM:List Ent:=[⟨0,1,0,0⟩,⟨0,2,0,0⟩,⟨0,3,3,0⟩,⟨0,5,1,0⟩,⟨0,6,0,0⟩,⟨1,1,0,0⟩,⟨1,3,3,0⟩,⟨1,4,63,0⟩,⟨1,6,1,0⟩]
def mdB (l:List UInt8):Nat→List Ins × Nat→List Ins × Nat
 | 0,x=>x
 | n+1,x=>((mdB l n x).1++(stmtM l 2 (mdB l n x).1.length (mdB l n x).2).1,(stmtM l 2 (mdB l n x).1.length (mdB l n x).2).2)
structure MS where
 I:List Ins
 E:List Ent
 p:Nat
def mdH (l:List UInt8) (key:Ent) (x:MS) (p:Nat):MS :=
 ⟨(mdB l (nextM l p 4).1 (x.I,(nextM l p 4).2)).1++[⟨31,0⟩],x.E++[⟨key.mode,key.trigger,key.index,(x.I.length:Int)⟩],(mdB l (nextM l p 4).1 (x.I,(nextM l p 4).2)).2⟩
def mdI (l:List UInt8) (key:Ent) (i:Nat) (x:MS):MS :=
 if i=0 then mdH l key x x.p else if (nextM l x.p 2).1=0 then ⟨x.I,x.E,(nextM l x.p 2).2⟩ else mdH l key x (nextM l x.p 2).2
def mdK (l:List UInt8):Nat→MS
 | 0=>⟨[],[],(nextM l (nextM l 0 4).2 4).2⟩
 | i+1=>mdI l (keysM.getD i ⟨0,0,0,0⟩) i (mdK l i)
def mdP (l:List UInt8):List Int:=[((nextM l 0 4).1:Int),((nextM l (nextM l 0 4).2 4).1:Int)]
def mdS:List (List UInt8):=[[103,111],[111,118,101,114]]
def mdV:List Int:=[0,5, -3]
def madeT (t:List UInt8):Prg:=⟨(mdK t 9).I,mdS,(mdK t 9).E,mdP t,mdV,2,2⟩
def madeM (l:List UInt8):Prg:=madeT (l.take 200)
theorem mdB_pos {l:List UInt8} {x:List Ins × Nat} (h:x.2≤l.length):∀ n,(mdB l n x).2≤l.length
 | 0=>h
 | n+1=>stmtM_le l 2 _ _ (mdB_pos h n)
theorem mdB_len {l:List UInt8} {x:List Ins × Nat}:∀ n,(mdB l n x).1.length≤x.1.length+16 * n
 | 0=>by simp [mdB]
 | n+1=>by
  have:=mdB_len (l:=l) (x:=x) n
  have:=stmtM_len l 2 (mdB l n x).1.length (mdB l n x).2
  simp only [mdB,List.length_append];omega
theorem mdH_p {l:List UInt8} {key:Ent} {x:MS} {p:Nat} (h:p≤l.length):(mdH l key x p).p≤l.length:=mdB_pos (x:=(x.I,(nextM l p 4).2)) (nextM_le h) _
theorem mdH_I {l:List UInt8} {key:Ent} {x:MS} {p:Nat}:(mdH l key x p).I.length≤x.I.length+49:=by
 have:=mdB_len (l:=l) (x:=(x.I,(nextM l p 4).2)) (nextM l p 4).1
 have:=nextM_lt (l:=l) (p:=p) (n:=4) (by omega)
 simp only [mdH,List.length_append,List.length_singleton];simp only at *;omega
theorem mdK_bd {l:List UInt8}:∀ i,(mdK l i).p≤l.length∧(mdK l i).I.length≤49 * i∧(mdK l i).E.length≤i
 | 0=>⟨nextM_le (nextM_le (Nat.zero_le _)),by simp [mdK],by simp [mdK]⟩
 | i+1=>by
  obtain ⟨a,b,c⟩:=mdK_bd (l:=l) i
  simp only [mdK,mdI]
  split
  ·exact ⟨mdH_p a,by have:=mdH_I (l:=l) (key:=keysM.getD i ⟨0,0,0,0⟩) (x:=mdK l i) (p:=(mdK l i).p);omega,by simp only [mdH,List.length_append,List.length_singleton];omega⟩
  ·split
   ·exact ⟨nextM_le a,by simp only;omega,by simp only;omega⟩
   ·exact ⟨mdH_p (nextM_le a),by have:=mdH_I (l:=l) (key:=keysM.getD i ⟨0,0,0,0⟩) (x:=mdK l i) (p:=(nextM l (mdK l i).p 2).2);omega,by simp only [mdH,List.length_append,List.length_singleton];omega⟩
theorem entC_snoc (l:List Ent) (e:Ent):cellsL ((l++[e]).map Ent.v)=cellsL (l.map Ent.v)++[I64 e.mode,I64 e.trigger,I64 e.index,I64 e.pos]:=by
 rw [List.map_append,cellsL_append];simp [cellsL,DV.cells]
theorem entC_nil {l:List Ent} (h:l=[]):cellsL (l.map Ent.v)=[]:=by rw [h];rfl
theorem insC_nil {l:List Ins} (h:l=[]):insC l=[]:=by rw [h];rfl
theorem len_nil {α : Type} {l:List α} (h:l=[]):l.length=0:=by rw [h];rfl
theorem slc_to {H:Hp} {sz n:Nat} {xs:List DV} (h:n≤xs.length) (hu:unit sz xs=true):slcR H sz (.lst xs) none (some (.int .i64 (n:Int)))=some (.lst (xs.take n)):=by
 have h1:boundOf xs.length (some (.int .i64 (n:Int)))=some n:=by simp [boundOf]
 have h2:boundOf 0 none=some 0:=by simp [boundOf]
 simp only [slcR,h1,h2,hu,h,Nat.zero_le,and_self,if_true,List.drop_zero,Nat.sub_zero]
theorem unit_bytes (l:List UInt8):unit 1 (bytesC l)=true:=unit_iff.2 (fun x hx=>by obtain ⟨b, -,rfl⟩:=List.mem_map.1 hx;rfl)
theorem slc_bytes {H:Hp} {n:Nat} {l:List UInt8} (h:n≤l.length):slcR H 1 (.lst (bytesC l)) none (some (.int .i64 (n:Int)))=some (.lst (bytesC (l.take n))):=by
 rw [slc_to (by rw [bytesC_len];exact h) (unit_bytes l)]
 simp [bytesC,List.map_take]
def delO (H:Hp):Option Nat→Hp
 | none=>H
 | some i=>H.del i
theorem r_lentodo {o:Option Nat} {n:Nat} (h:o=none→n=0):lenR (todoV o n)=some (I64 (n:Int)):=by
 cases o with
 | none=>rw [h rfl];rfl
 | some i=>rfl
theorem r_apptodo {H:Hp} {c sz bytes n m:Nat} {o:Option Nat} {cs src:List DV} (hn:o=none→n=0∧cs=[]) (hb:∀ i,o=some i→H i=some ⟨sz,true,cs⟩) (hl:cs.length=n * sz) (hm:1≤m) (h2:(n+m) * bytes≤140737488355328) (h3:n+m≤9223372036854775807) :
  appR H c sz bytes (todoV o n) m src=some (.slc c 0 (n+m),(delO H o).upd c ⟨sz,true,cs++src⟩,c+1):=by
 cases o with
 | none =>
  obtain ⟨rfl,rfl⟩:=hn rfl
  rw [todo_n,r_appn' (by omega) (by simpa using h2) (by omega)]
  simp [delO]
 | some i=>rw [todo_s,r_apps,hb i rfl,b_appx hl h2 h3];rfl
theorem delO_ne {H:Hp} {o:Option Nat} {j:Nat} (h:∀ i,o=some i→¬ j=i):delO H o j=H j:=by
 cases o with
 | none=>rfl
 | some i=>exact h_dne (h i rfl)
def MH (k:Nat) (l:List UInt8) (p:Nat) (S P V:DV) (I:List Ins) (E:List Ent) (o1 o2:Option Nat):Hp :=
 optH (optH (((Sym.nil.upd 0 ⟨0,true,[.snil,.snil,.snil,.snil,.snil,I64 0,I64 0]⟩).upd 1 (tapeB l p)).upd k ⟨0,true,[todoV o1 I.length,S,todoV o2 E.length,P,V,I64 2,I64 2]⟩) o1 ⟨2,true,insC I⟩) o2 ⟨4,true,cellsL (E.map Ent.v)⟩
structure MO (k:Nat) (o1 o2:Option Nat) (cc:Nat):Prop where
 k2:2≤k
 kc:k<cc
 a:∀ i,o1=some i→k<i∧i<cc
 b:∀ i,o2=some i→k<i∧i<cc
 ne:∀ i,o1=some i→o2≠some i
theorem optH_ne {H:Hp} {o:Option Nat} {b:Blk} {j:Nat} (h:∀ i,o=some i→¬ j=i):optH H o b j=H j:=by
 cases o with
 | none=>rfl
 | some i=>exact h_ne (h i rfl)
section
variable {l:List UInt8} {k p:Nat} {S P V:DV} {I:List Ins} {E:List Ent} {o1 o2:Option Nat} {cc:Nat}
theorem MH_0 (h:MO k o1 o2 cc):MH k l p S P V I E o1 o2 0=some ⟨0,true,[.snil,.snil,.snil,.snil,.snil,I64 0,I64 0]⟩:=by
 have:=h.k2
 unfold MH;rw [optH_ne (fun i hi=>by have:=h.b i hi;omega),optH_ne (fun i hi=>by have:=h.a i hi;omega),h_ne (by omega)];rfl
theorem MH_1 (h:MO k o1 o2 cc):MH k l p S P V I E o1 o2 1=some (tapeB l p):=by
 have:=h.k2
 unfold MH;rw [optH_ne (fun i hi=>by have:=h.b i hi;omega),optH_ne (fun i hi=>by have:=h.a i hi;omega),h_ne (by omega)];rfl
theorem MH_k (h:MO k o1 o2 cc):MH k l p S P V I E o1 o2 k=some ⟨0,true,[todoV o1 I.length,S,todoV o2 E.length,P,V,I64 2,I64 2]⟩:=by
 unfold MH;rw [optH_ne (fun i hi=>by have:=h.b i hi;omega),optH_ne (fun i hi=>by have:=h.a i hi;omega),h_same]
theorem MH_a (h:MO k o1 o2 cc) {i:Nat} (hi:o1=some i):MH k l p S P V I E o1 o2 i=some ⟨2,true,insC I⟩:=by
 unfold MH;rw [optH_ne (fun j hj e=>h.ne i hi (by rw [e];exact hj))];subst hi;exact h_same
theorem MH_b {i:Nat} (hi:o2=some i):MH k l p S P V I E o1 o2 i=some ⟨4,true,cellsL (E.map Ent.v)⟩:=by
 unfold MH;subst hi;exact h_same
theorem MH_n (h:MO k o1 o2 cc) {j:Nat} (hc:cc≤j):MH k l p S P V I E o1 o2 j=none:=by
 have:=h.k2
 have:=h.kc
 unfold MH;rw [optH_ne (fun i hi=>by have:=h.b i hi;omega),optH_ne (fun i hi=>by have:=h.a i hi;omega),h_ne (by omega),h_ne (by omega),h_ne (by omega)];rfl
theorem MH_t {p':Nat} (h:MO k o1 o2 cc):(MH k l p S P V I E o1 o2).upd 1 (tapeB l p')=MH k l p' S P V I E o1 o2:=by
 have hk:=h.k2
 funext j
 by_cases e:j=1
 ·subst e;rw [h_same,MH_1 h]
 ·rw [h_ne e]
  unfold MH
  by_cases e2:o2=some j
  ·subst e2;simp only [optH,h_same]
  ·have q2:∀ (X:Hp) b,optH X o2 b j=X j:=fun X b=>optH_ne (fun i hi e3=>e2 (by rw [e3];exact hi))
   rw [q2,q2]
   by_cases e1:o1=some j
   ·subst e1;simp only [optH,h_same]
   ·have q1:∀ (X:Hp) b,optH X o1 b j=X j:=fun X b=>optH_ne (fun i hi e3=>e1 (by rw [e3];exact hi))
    rw [q1,q1]
    by_cases ek:j=k
    ·subst ek;rw [h_same,h_same]
    ·rw [h_ne ek,h_ne ek,h_ne e,h_ne e]
theorem MH_sub {H:Hp} (h0:H 0=some ⟨0,true,[.snil,.snil,.snil,.snil,.snil,I64 0,I64 0]⟩) (h1:H 1=some (tapeB l p)) (hk:H k=some ⟨0,true,[todoV o1 I.length,S,todoV o2 E.length,P,V,I64 2,I64 2]⟩)
  (ha:∀ i,o1=some i→H i=some ⟨2,true,insC I⟩) (hb:∀ i,o2=some i→H i=some ⟨4,true,cellsL (E.map Ent.v)⟩):Sub (MH k l p S P V I E o1 o2) H:=by
 intro j b hj
 unfold MH at hj
 by_cases e2:o2=some j
 ·subst e2;simp only [optH,h_same] at hj;rw [hb j rfl];exact hj
 ·rw [optH_ne (fun i hi e3=>e2 (by rw [e3];exact hi))] at hj
  by_cases e1:o1=some j
  ·subst e1;simp only [optH,h_same] at hj;rw [ha j rfl];exact hj
  ·rw [optH_ne (fun i hi e3=>e1 (by rw [e3];exact hi))] at hj
   by_cases ek:j=k
   ·subst ek;rw [h_same] at hj;rw [hk];exact hj
   ·rw [h_ne ek] at hj
    by_cases e:j=1
    ·subst e;rw [h_same] at hj;rw [h1];exact hj
    ·rw [h_ne e] at hj
     by_cases e0:j=0
     ·subst e0;rw [h_same] at hj;rw [h0];exact hj
     ·rw [h_ne e0] at hj;cases hj
theorem MO.mono (h:MO k o1 o2 cc) {c2:Nat} (hc:cc≤c2):MO k o1 o2 c2 :=
 ⟨h.k2,by have:=h.kc;omega,fun i hi=>by have:=h.a i hi;omega,fun i hi=>by have:=h.b i hi;omega,h.ne⟩
end
end Go.Pb
namespace Go.Sym
variable [Go.Sym.Tab]
variable {P:Program}
theorem AC.own {f:Nat} {args:List DV} {V:Nat→DV} {u:Nat} {cs:List DV} (h:AC P f args nil 0 (fun v H' _ => ∃ id,v=V id∧H'=nil.upd id ⟨u,true,cs⟩)) (hn:DV.nlL args=true) (hcs:∀ d∈cs,d.nl=true)
  (hV:∀ (ρ ρ':Ren) (id id':Nat) (v:Value), ρ.nm id = ρ'.nm id'→(∀ b r, ρ.fz b=some r → ρ'.fz b=some r)→VRel ρ (V id) v→VRel ρ' (V id') v) (H:Hp) (c:Nat) :
  AC P f args H c (fun v H' c'=>v=V c∧H'=H.upd c ⟨u,true,cs⟩∧c'=c+1):=by
 refine ⟨h.1,fun ρ w vs hR hf hA=>?_⟩
 refine (h.2 ⟨fun _=>none, ρ.fz, ρ.tab⟩ w vs hR.nil (fun _ _=>rfl) (hA.nl (ρ := ρ) (ρ':=⟨fun _=>none, ρ.fz, ρ.tab⟩) (fun _ _ h=>h) hn)).mono ?_
 rintro e w' ⟨v,v',H1,c1, ρ1,rfl,⟨id,rfl,rfl⟩,d⟩
 have hb:=d.ext.below (fun id b hb=>by cases hb)
 obtain ⟨b1,b2,b3,b4,b5⟩:=hb
 obtain ⟨t,ht,hbr⟩:=d.rep.blk id _ h_same
 have hsz:w.heap.size≤t.block:=by
  rcases d.ext.mine id _ t h_same ht with h1|⟨i,b0,t0,e1, -⟩
  ·exact h1
  ·cases e1
 obtain ⟨ρ2,hρ⟩:∃ ρ2:Ren, ρ2=⟨fun j=>if j=c then some t else ρ.nm j, ρ1.fz, ρ1.tab⟩:=⟨_,rfl⟩
 have n1 : ρ2.nm c=some t:=by rw [hρ];simp
 have n2:∀ {j},¬ j=c → ρ2.nm j = ρ.nm j:=fun {j} hj=>by rw [hρ];simp [hj]
 have n3 : ρ2.fz = ρ1.fz:=by rw [hρ]
 have hle : ρ.le ρ2:=⟨fun j x hj=>by
  rw [n2 (fun e=>by subst e;rw [hf j (Nat.le_refl _)] at hj;cases hj)];exact hj,fun b r hb=>by rw [n3];exact d.ext.le.fz b r hb⟩
 refine ⟨V c,v',_,_, ρ2,rfl,⟨rfl,rfl,rfl⟩,hV ρ1 ρ2 id c v' (by rw [ht,n1]) (fun b r hb=>by rw [n3];exact hb) d.val,?_,fun j hj=>by rw [n2 (by omega)];exact hf j (by omega),by omega,
  fun j hj hne=>by rw [h_ne (by omega)] at hne;exact hne,fun j hj=>n2 (by omega),?_⟩
 ·refine ⟨fun j b hb=>?_,fun i j bi bj ti tj hi hj hij h1 h2 ho=>?_,by rw [n3];exact d.rep.frz,fun j b t2 hb ho ht2=>?_⟩
  ·by_cases e:j=c
   ·subst e;rw [h_same] at hb;cases hb
    refine ⟨t,n1,?_⟩
    obtain ⟨c0,e0,fr,g1,g2,g3,g4,g5,g6⟩:=hbr
    refine ⟨c0,e0,fr,g1,g2,g3,g4,fun i x hx=>?_,g6⟩
    obtain ⟨q1,x',q2,q3⟩:=g5 i x hx
    exact ⟨q1,x',q2,q3.nl (ρ := ρ1) (ρ' := ρ2) (fun b r hb=>by rw [n3];exact hb) (hcs x (List.mem_of_getElem? hx))⟩
   ·rw [h_ne e] at hb
    obtain ⟨t2,ht2,hb2⟩:=hR.blk j b hb
    exact ⟨t2,by rw [n2 e];exact ht2,(hb2.mono hle).world (b5 _ hb2.lt)⟩
  ·by_cases e1:i=c
   ·subst e1
    have e2:¬ j=i:=fun e=>hij e.symm
    rw [h_ne e2] at hj
    rw [n1] at h1;cases h1
    rw [n2 e2] at h2
    have:=(hR.blk j bj hj)
    obtain ⟨t2,ht2,hb2⟩:=this
    rw [h2] at ht2;cases ht2
    have:=hb2.lt
    omega
   ·rw [h_ne e1] at hi
    rw [n2 e1] at h1
    by_cases e2:j=c
    ·subst e2
     rw [n1] at h2;cases h2
     obtain ⟨t2,ht2,hb2⟩:=hR.blk i bi hi
     rw [h1] at ht2;cases ht2
     have:=hb2.lt
     omega
    ·rw [h_ne e2] at hj
     rw [n2 e2] at h2
     exact hR.sep i j bi bj ti tj hi hj hij h1 h2 ho
  ·rw [n3]
   by_cases e:j=c
   ·subst e;rw [h_same] at hb;cases hb
    rw [n1] at ht2;cases ht2
    exact d.rep.dis id _ t h_same rfl ht
   ·rw [h_ne e] at hb
    rw [n2 e] at ht2
    cases hf1 : ρ1.fz t2.block with
    | none=>rfl
    | some r =>
     rcases d.ext.fzn _ _ hf1 with h1|h1|⟨i,b0,t0,e1, -⟩
     ·rw [hR.dis j b t2 hb ho ht2] at h1;cases h1
     ·have:=(hR.look hb ht2).lt;omega
     ·cases e1
 ·refine ⟨hle,b1,b2,b3,b4,fun k hk _=>b5 k hk,fun j b t2 h1 h2=>?_,fun k r hk=>?_⟩
  ·by_cases e:j=c
   ·subst e;rw [n1] at h2;cases h2;exact .inl hsz
   ·rw [h_ne e] at h1
    rw [n2 e] at h2
    exact .inr ⟨j,b,t2,h1,fun h=>h,h2,rfl⟩
  ·rw [n3] at hk
   rcases d.ext.fzn k r hk with h1|h1|⟨i,b0,t0,e1, -⟩
   ·exact .inl h1
   ·exact .inr (.inl h1)
   ·cases e1
theorem VRel.head {ρ ρ':Ren} {id id' n:Nat} {rest:List DV} (hn:DV.nlL rest=true) (hi : ρ.nm id = ρ'.nm id') (hf:∀ b r, ρ.fz b=some r → ρ'.fz b=some r) {v:Value}
  (h:VRel ρ (.agg (.slc id 0 n :: rest)) v):VRel ρ' (.agg (.slc id' 0 n :: rest)) v:=by
 obtain ⟨b,rfl,hs,hA⟩:=h.agg_inv
 refine .mkAgg ⟨hs,fun i x y hx hy=>?_⟩
 cases i with
 | zero =>
  simp only [List.getElem?_cons_zero,Option.some.injEq] at hx
  subst hx
  have:=hA 0 _ y rfl hy
  cases this with
  | slc _ _ _ c t h1 h2 h3 h4=>exact .slc id' 0 n c t (by rw [← hi];exact h1) h2 h3 h4
 | succ i =>
  have:=hA (i+1) x y hx hy
  simp only [List.getElem?_cons_succ] at hx
  exact this.nl hf (nlL_mem hn x (List.mem_of_getElem? hx))
section
open Go.Eng (IC)
variable {N:Nat} {x:IC} {T:Tm} {H:Hp} {c:Nat} {Q:Exit→St→Prop}
theorem IW.gl {s:St} (h:IW P N x s (fun e s'=>Q e s'∨∃ (ks:List Nat) (ds':List DV) (H2:Hp),GL s'.H (ks.map s'.T) H2 ds'∧Q e ⟨tm (ks.zip ds'),H2,s'.c⟩)):IW P N x s Q:=by
 intro hm cd hc ρ a w hS
 refine wp_mono (h hm cd hc ρ a w hS) fun e a' w' hq=>?_
 obtain ⟨ρ2,s2,q,hS2,hst⟩:=hq
 rcases q with q|⟨ks,ds',H2,g,q⟩
 ·exact ⟨ρ2,s2,q,hS2,hst⟩
 have hA:ARel ρ2 (ks.map s2.T) ((ks.map fun k=>a'.tmps.getD k undef)).toArray:=by
  refine ⟨by simp,fun i x y hx hy=>?_⟩
  simp only [List.getElem?_map,Option.map_eq_some_iff,List.getElem?_toArray] at hx hy
  obtain ⟨k,hk,rfl⟩:=hx
  obtain ⟨k',hk',rfl⟩:=hy
  rw [hk] at hk';cases hk'
  exact hS2.tm k
 obtain ⟨ρ1,e1,r1,a1,x1⟩:=g.2 ρ2 w' _ hS2.rep hA
 refine ⟨ρ1,⟨tm (ks.zip ds'),H2,s2.c⟩,q,⟨tm_of fun i k d hk hd=>a1.2 i d _ hd (by simp [hk]),r1,by rw [e1];exact hS2.fresh,hS2.size,hS2.dfr⟩,?_⟩
 exact ⟨hst.up,fun id hid hne=>hst.dom id hid (g.1 id hne),fun id hid=>by rw [e1];exact hst.same id hid,hst.ext.trans x1⟩
theorem tmLe_map:∀ {L:List (Nat × DV)} {T:Tm},tmLe L T→(L.map Prod.fst).map T=L.map Prod.snd
 | [],_,_=>rfl
 | (k,v) :: r,T,⟨h1,h2⟩=>by simp only [List.map_cons,h1,tmLe_map h2]
theorem zip_fs (L:List (Nat × DV)):(L.map Prod.fst).zip (L.map Prod.snd)=L:=by
 induction L with
 | nil=>rfl
 | cons a r ih=>simp [ih]
def lpG {σ : Type} (L : σ → List (Nat × DV)) (h : σ → Hp) (I : σ → Nat→Prop) (μ : σ → Nat) (m:Nat) (Q:Exit→St→Prop):Exit→St→Prop
 | .normal,⟨T,H,c⟩ => ∃ b,tmLe (L b) T∧GL H ((L b).map Prod.snd) (h b) ((L b).map Prod.snd)∧I b c ∧ μ b<m
 | e,s=>Q e s
theorem i_loopG {σ : Type} (L : σ → List (Nat × DV)) (h : σ → Hp) (I : σ → Nat→Prop) (μ : σ → Nat) (a : σ) (hL:∀ b,tmLe (L b) (tm (L b))) (h0:tmLe (L a) T) (hH:Sub (h a) H) (hI:I a c)
  (step:∀ a c,I a c→IW P N x ⟨tm (L a),h a,c⟩ (lpG L h I μ (μ a) Q)):IW P N (.loop x) ⟨T,H,c⟩ Q:=by
 refine i_loop L h I μ a h0 hH hI fun a c hI=>IW.gl ((step a c hI).mono fun e s' q=>?_)
 obtain ⟨T',H',c'⟩:=s'
 cases e with
 | normal =>
  obtain ⟨b,q1,q2,q3,q4⟩:=q
  refine .inr ⟨(L b).map Prod.fst,(L b).map Prod.snd,h b,by rw [tmLe_map q1];exact q2,?_⟩
  rw [zip_fs]
  exact ⟨b,hL b,Sub.refl _,q3,q4⟩
 | _=>exact .inl q
theorem k_lnG {σ : Type} {L : σ → List (Nat × DV)} {h : σ → Hp} {I : σ → Nat→Prop} {μ : σ → Nat} {m:Nat}:lpG L h I μ m Q .normal ⟨T,H,c⟩ = ∃ b,tmLe (L b) T∧GL H ((L b).map Prod.snd) (h b) ((L b).map Prod.snd)∧Keep I b c ∧ μ b<m:=propext Iff.rfl
theorem k_leG {σ : Type} {L : σ → List (Nat × DV)} {h : σ → Hp} {I : σ → Nat→Prop} {μ : σ → Nat} {m i:Nat}:lpG L h I μ m Q (.exit i) ⟨T,H,c⟩=Q (.exit i) ⟨T,H,c⟩:=propext Iff.rfl
end
section
open Go.Eng (AOp)
variable {c0:Nat} {T:Tm} {H:Hp}
def agN (T:Tm) (H:Hp) (d n:Nat):Option (Option Nat × Blk)→Prop
 | some (k,b)=>T d=mkv n k∧H n=some b
 | none=>False
theorem ag_n' {j d:Nat} {f:AOp}:agK c0 j T H (some d) (.new f) (some true)=agN T H d (c0+j) (aev (ev T) f):=by
 simp only [agK,agN]
 cases aev (ev T) f with
 | none=>simp
 | some x=>obtain ⟨k,b⟩:=x;simp
theorem agN_s {d n:Nat} {k:Option Nat} {b:Blk}:agN T H d n (some (k,b))=(T d=mkv n k∧H n=some b):=propext Iff.rfl
end
attribute [go_sem] ag_n' agN_s
attribute [go_sem] k_lnG k_leG
end Go.Sym
namespace Go.Pb
variable [Go.Sym.Tab]
open Go.Sym
def bkR (c:Prg) (r k:Nat) (v:Int) (x z:UInt8):Prg :=
 match r with
 | 0=>{ c with instrs:=c.instrs.set k ⟨v.tmod 34,(c.instrs.getD k ⟨0,0⟩).A⟩ }
 | 1=>{ c with instrs:=c.instrs.set k ⟨(c.instrs.getD k ⟨0,0⟩).op,v⟩ }
 | 2=>{ c with instrs:=c.instrs.set k ⟨(c.instrs.getD k ⟨0,0⟩).op,v.tmod 12⟩ }
 | 3=>{ c with instrs:=c.instrs.take k++c.instrs.drop (k+1) }
 | 4=>{ c with instrs:=c.instrs.take k++[⟨1,v⟩]++c.instrs.drop k }
 | 5=>{ c with entries:=c.entries++[⟨v.tmod 3,((x.toNat % 8:Nat):Int),v.tmod 5,(k:Int)⟩] }
 | 6=>{ c with timers:=v.tmod 5 }
 | 7=>{ c with prios:=c.prios++[v] }
 | _=>{ c with strings:=c.strings++[[z]] }
def bkStep (c:Prg) (x y z:UInt8):Prg:=bkR c (y.toNat % 9) (x.toNat * c.instrs.length / 256) ((z.toNat:Int)-3) x z
def bkGo:Nat→List UInt8→Prg→Prg
 | 0,_,c=>c
 | n+1,m,c=>match m with
  | x :: y :: z :: r=>if (bkStep c x y z).instrs=[] then bkStep c x y z else bkGo n r (bkStep c x y z)
  | _=>c
def brokenM (l m:List UInt8):Prg:=bkGo 3 m (madeM l)
structure BB (c:Prg) (j:Nat):Prop where
 i:c.instrs.length≤441+j
 e:c.entries.length≤9+j
 s:c.strings.length≤2+j
 p:c.prios.length≤2+j
 w:∀ s∈c.strings,s.length≤4
 v:c.vars=mdV
 t:c.events=2
 e1:c.entries.length≠0
 s1:c.strings.length≠0
 p1:c.prios.length≠0
theorem BB.step {c:Prg} {j:Nat} (h:BB c j) (x y z:UInt8):BB (bkStep c x y z) (j+1):=by
 obtain ⟨h1,h2,h3,h4,h5,h6,h7,h8,h9,h10⟩:=h
 unfold bkStep bkR
 split<;>refine ⟨?_,?_,?_,?_,?_,h6,h7,?_,?_,?_⟩<;>simp only [List.length_set,List.length_append,List.length_singleton,List.length_take,List.length_drop]<;>try omega
 all_goals (first|exact h5|skip)
 all_goals
  intro s hs
  rw [List.mem_append] at hs
  rcases hs with hs|hs
  ·exact h5 s hs
  ·rw [List.mem_singleton] at hs;subst hs;simp
theorem mdE_ne {l:List UInt8}:∀ i,(mdK l (i+1)).E.length≠0
 | 0=>by simp [mdK,mdI,mdH]
 | i+1=>by
  have h:=mdE_ne (l:=l) i
  show (mdI l _ (i+1) (mdK l (i+1))).E.length≠0
  unfold mdI
  split
  ·simp [mdH]
  ·split
   ·exact h
   ·simp [mdH]
theorem BB.made (l:List UInt8):BB (madeM l) 0:=by
 obtain ⟨b1,b2,b3⟩:=mdK_bd (l:=l.take 200) 9
 exact ⟨by show (mdK (l.take 200) 9).I.length≤_;omega,by show (mdK (l.take 200) 9).E.length≤_;omega,by show mdS.length≤_;simp [mdS],by show (mdP (l.take 200)).length≤_;simp [mdP],by show ∀ s∈mdS,_;simp [mdS],rfl,rfl,mdE_ne (l:=l.take 200) 8,by show mdS.length≠0;simp [mdS],by show (mdP (l.take 200)).length≠0;simp [mdP]⟩
theorem BB.go {n:Nat}:∀ {m:List UInt8} {c:Prg} {j:Nat},BB c j→BB (bkGo n m c) (j+n):=by
 have up:∀ {c:Prg} {j j':Nat},j≤j'→BB c j→BB c j':=fun hj h=>⟨by have:=h.i;omega,by have:=h.e;omega,by have:=h.s;omega,by have:=h.p;omega,h.w,h.v,h.t,h.e1,h.s1,h.p1⟩
 induction n with
 | zero=>intro m c j h;exact h
 | succ n ih =>
  intro m c j h
  match m with
  | x :: y :: z :: r =>
   simp only [bkGo]
   split
   ·exact up (by omega) (h.step x y z)
   ·have:=ih (m:=r) (h.step x y z)
    rw [show j+(n+1)=j+1+n by omega];exact this
  | []=>exact up (by omega) h
  | [_]=>exact up (by omega) h
  | [_,_]=>exact up (by omega) h
theorem BB.broken (l m:List UInt8):BB (brokenM l m) 3:=by
 have:=(BB.made l).go (n:=3) (m:=m)
 rw [Nat.zero_add] at this;exact this
theorem mdK_ne {l:List UInt8}:∀ i,(mdK l (i+1)).I≠[]
 | 0=>by simp [mdK,mdI,mdH]
 | i+1=>by
  have h:=mdK_ne (l:=l) i
  show (mdI l _ (i+1) (mdK l (i+1))).I≠[]
  unfold mdI
  split
  ·simp [mdH]
  ·split
   ·exact h
   ·simp [mdH]
theorem madeM_ne (l:List UInt8):(madeM l).instrs≠[]:=mdK_ne (l:=l.take 200) 8
theorem go_next {m:List UInt8} {c:Prg} {j:Nat} {x y z:UInt8} (hj:j<3) (hx:m[3 * j]? = some x) (hy:m[3 * j+1]? = some y) (hz:m[3 * j+2]? = some z) :
  bkGo (3-j) (m.drop (3 * j)) c=if (bkStep c x y z).instrs=[] then bkStep c x y z else bkGo (3-(j+1)) (m.drop (3 * (j+1))) (bkStep c x y z):=by
 have e:∀ {i:Nat} {w:UInt8},m[i]? = some w→m.drop i=w :: m.drop (i+1):=fun {i w} h=>by
  obtain ⟨hi,hw⟩:=List.getElem?_eq_some_iff.1 h
  rw [List.drop_eq_getElem_cons hi,hw]
 obtain ⟨n,hn⟩:∃ n,3-j=n+1:=⟨2-j,by omega⟩
 rw [e hx,e hy,e hz,hn,show 3-(j+1)=n by omega,show 3 * (j+1)=3 * j+1+1+1 by omega]
 rfl
theorem go_end {m:List UInt8} {c:Prg} {j:Nat} (h:¬ (3 * j+2<m.length∧j<3)):bkGo (3-j) (m.drop (3 * j)) c=c:=by
 by_cases hj:j<3
 ·have hl:(m.drop (3 * j)).length≤2:=by rw [List.length_drop];omega
  generalize m.drop (3 * j)=d at hl
  obtain ⟨n,hn⟩:∃ n,3-j=n+1:=⟨2-j,by omega⟩
  rw [hn]
  match d,hl with
  | [],_=>rfl
  | [_],_=>rfl
  | [_,_],_=>rfl
 ·have:3-j=0:=by omega
  rw [this];rfl
theorem insC_set0 {I:List Ins} {k:Nat} {v:Int} (h:k<I.length):insC (I.set k ⟨v,(I.getD k ⟨0,0⟩).A⟩)=(insC I).take (k * 2)++[I64 v]++(insC I).drop (k * 2+1):=by
 induction I generalizing k with
 | nil=>simp at h
 | cons a r ih =>
  cases k with
  | zero=>simp [insC,cellsL,DV.cells]
  | succ k =>
   have:=ih (k:=k) (by simpa using h)
   have e1:insC (a :: r)=I64 a.op :: I64 a.A :: insC r:=rfl
   have e2:∀ x,insC (a :: x)=I64 a.op :: I64 a.A :: insC x:=fun _=>rfl
   rw [e1,List.set_cons_succ,e2,show (k+1) * 2=k * 2+1+1 by omega]
   simp only [List.take_succ_cons,List.drop_succ_cons,List.cons_append,List.getD_cons_succ,List.cons.injEq,true_and]
   exact this
theorem insC_set1 {I:List Ins} {k:Nat} {v:Int} (h:k<I.length):insC (I.set k ⟨(I.getD k ⟨0,0⟩).op,v⟩)=(insC I).take (k * 2+1)++[I64 v]++(insC I).drop (k * 2+1+1):=by
 induction I generalizing k with
 | nil=>simp at h
 | cons a r ih =>
  cases k with
  | zero=>simp [insC,cellsL,DV.cells]
  | succ k =>
   have:=ih (k:=k) (by simpa using h)
   have e1:insC (a :: r)=I64 a.op :: I64 a.A :: insC r:=rfl
   have e2:∀ x,insC (a :: x)=I64 a.op :: I64 a.A :: insC x:=fun _=>rfl
   rw [e1,List.set_cons_succ,e2,show (k+1) * 2=k * 2+1+1 by omega]
   simp only [List.take_succ_cons,List.drop_succ_cons,List.cons_append,List.getD_cons_succ,List.cons.injEq,true_and]
   exact this
theorem insC_take {I:List Ins} {k:Nat}:(insC I).take (k * 2)=insC (I.take k):=by
 induction I generalizing k with
 | nil=>simp [insC,cellsL]
 | cons a r ih =>
  cases k with
  | zero=>simp [insC,cellsL]
  | succ k =>
   have e2:∀ x,insC (a :: x)=I64 a.op :: I64 a.A :: insC x:=fun _=>rfl
   rw [List.take_succ_cons,e2,e2,show (k+1) * 2=k * 2+1+1 by omega,List.take_succ_cons,List.take_succ_cons,ih]
theorem insC_drop {I:List Ins} {k:Nat}:(insC I).drop (k * 2)=insC (I.drop k):=by
 induction I generalizing k with
 | nil=>simp [insC,cellsL]
 | cons a r ih =>
  cases k with
  | zero=>simp
  | succ k =>
   have e2:∀ x,insC (a :: x)=I64 a.op :: I64 a.A :: insC x:=fun _=>rfl
   rw [List.drop_succ_cons,e2,show (k+1) * 2=k * 2+1+1 by omega,List.drop_succ_cons,List.drop_succ_cons,ih]
def bCells (o:Option Nat) (c:Prg):List DV:=[todoV o c.instrs.length,strs c.strings,entsV c.entries,ints c.prios,ints c.vars,I64 c.timers,I64 c.events]
def BH (o:Option Nat) (c:Prg):Hp :=
 optH ((Sym.nil.upd 0 ⟨0,true,[.snil,.snil,.snil,.snil,.snil,I64 0,I64 0]⟩).upd 2 ⟨0,true,bCells o c⟩) o ⟨2,true,insC c.instrs⟩
structure BO (o:Option Nat) (cc:Nat):Prop where
 c:3≤cc
 a:∀ i,o=some i→1≤i∧i≠2∧i<cc
section
variable {o:Option Nat} {c:Prg} {cc:Nat}
theorem BH_0 (h:BO o cc):BH o c 0=some ⟨0,true,[.snil,.snil,.snil,.snil,.snil,I64 0,I64 0]⟩:=by
 unfold BH;rw [optH_ne (fun i hi=>by have:=h.a i hi;omega),h_ne (by omega)];rfl
theorem BH_2 (h:BO o cc):BH o c 2=some ⟨0,true,bCells o c⟩:=by
 unfold BH;rw [optH_ne (fun i hi=>by have:=h.a i hi;omega),h_same]
theorem BH_a {i:Nat} (hi:o=some i):BH o c i=some ⟨2,true,insC c.instrs⟩:=by
 unfold BH;subst hi;exact h_same
theorem BH_n (h:BO o cc) {j:Nat} (hc:cc≤j):BH o c j=none:=by
 have:=h.c
 unfold BH;rw [optH_ne (fun i hi=>by have:=h.a i hi;omega),h_ne (by omega),h_ne (by omega)];rfl
theorem BH_sub {H:Hp} (h0:H 0=some ⟨0,true,[.snil,.snil,.snil,.snil,.snil,I64 0,I64 0]⟩) (h2:H 2=some ⟨0,true,bCells o c⟩) (ha:∀ i,o=some i→H i=some ⟨2,true,insC c.instrs⟩):Sub (BH o c) H:=by
 intro j b hj
 unfold BH at hj
 by_cases e2:o=some j
 ·subst e2;simp only [optH,h_same] at hj;rw [ha j rfl];exact hj
 ·rw [optH_ne (fun i hi e3=>e2 (by rw [e3];exact hi))] at hj
  by_cases ek:j=2
  ·subst ek;rw [h_same] at hj;rw [h2];exact hj
  ·rw [h_ne ek] at hj
   by_cases e0:j=0
   ·subst e0;rw [h_same] at hj;rw [h0];exact hj
   ·rw [h_ne e0] at hj;cases hj
end
theorem b_fin {o:Option Nat} {c:Prg} {H:Hp} (h0:H 0=some ⟨0,true,bCells o c⟩) (ha:∀ i,o=some i→i≠0∧H i=some ⟨2,true,insC c.instrs⟩) (hn:o=none→c.instrs=[]) :
  ∃ H2,GL H [.agg (bCells o c)] H2 [c.v]:=by
 cases o with
 | none =>
  have e:c.v=.agg ([]++[.lst []]++[strs c.strings,entsV c.entries,ints c.prios,ints c.vars,I64 c.timers,I64 c.events]):=by
   show DV.agg c.cs=_
   unfold Prg.cs
   rw [hn rfl];rfl
  rw [e]
  exact ⟨_,g_nil (k:=0) (pre:=[]) (suf:=[strs c.strings,entsV c.entries,ints c.prios,ints c.vars,I64 c.timers,I64 c.events]) h0⟩
 | some a =>
  obtain ⟨h1,h2⟩:=ha a rfl
  exact ⟨_,g_one (a:=a) (k:=0) (u:=2) (u':=2) (pre:=[]) (suf:=[strs c.strings,entsV c.entries,ints c.prios,ints c.vars,I64 c.timers,I64 c.events]) (xs:=c.instrs.map Ins.v) (junk:=[]) h0 (by rw [List.append_nil];exact h2) (by simp [DV.one]) (by simp) (ins_unit _) h1⟩
theorem hs_app {sz bytes n:Nat} {xs:List DV} (hu:∀ x∈xs,x.cells.length=sz) (hn:xs.length=n) (h0:n≠0) (h1:n * bytes≤140737488355328) (h2:n≤9223372036854775807) (H:Hp) (c':Nat) :
  apX H c' sz bytes .snil (srcOf H sz (.lst xs))=some (.slc c' 0 n,H.upd c' ⟨sz,true,cellsL xs⟩,c'+1):=by
 rw [r_srcl (unit_iff.2 hu),r_apx,hn,r_appn' h0 h1 h2]
theorem hs_one {sz bytes n:Nat} {cs ds:List DV} (h0:cs.length=n * sz) (h1:(n+1) * bytes≤140737488355328) (h2:n+1≤9223372036854775807) (H:Hp) (c' id:Nat) :
  apB H c' id sz bytes n 1 ds (some ⟨sz,true,cs⟩)=some (.slc c' 0 (n+1),(H.del id).upd c' ⟨sz,true,cs++ds⟩,c'+1):=b_appx h0 h1 h2
def slB (id off sz l h:Nat):Option Blk→Option DV
 | some b=>if b.unit=sz∨b.unit=0 then some (.slc id (off+l * sz) (h-l)) else none
 | none=>none
theorem r_slclo {id off n l sz:Nat} {k:IntKind} (h0:l≠0) (h1:l<n) (H:Hp):slcR H sz (.slc id off n) (some (.int k (l:Int))) none=slB id off sz l n (H id):=by
 have e1:boundOf n none=some n:=by simp [boundOf]
 have e2:boundOf 0 (some (.int k (l:Int)))=some l:=by simp [boundOf]
 simp only [slcR,e1,e2,Nat.le_refl,Nat.le_of_lt h1,and_self,if_true,h0,if_false,Nat.ne_of_lt h1,slB]
 cases H id<;>rfl
theorem r_slcall {id off n sz:Nat} {k:IntKind} (H:Hp):slcR H sz (.slc id off n) (some (.int k ((0:Nat):Int))) none=some (.slc id off n):=by
 have e1:boundOf n none=some n:=by simp [boundOf]
 have e2:boundOf 0 (some (.int k ((0:Nat):Int)))=some 0:=by simp [boundOf]
 simp only [slcR,e1,e2,Nat.le_refl,Nat.zero_le,and_self,if_true]
theorem r_slcend {id off n sz:Nat} {k:IntKind} (h0:n≠0) (H:Hp):slcR H sz (.slc id off n) (some (.int k (n:Int))) none=some (.lst []):=by
 have e1:boundOf n none=some n:=by simp [boundOf]
 have e2:boundOf 0 (some (.int k (n:Int)))=some n:=by simp [boundOf]
 simp only [slcR,e1,e2,Nat.le_refl,and_self,if_true,h0,if_false]
theorem b_slB {id off sz l h:Nat} {o:Bool} {cs:List DV}:slB id off sz l h (some ⟨sz,o,cs⟩)=some (.slc id (off+l * sz) (h-l)):=by simp [slB]
theorem b_srcI {I:List Ins} {k m:Nat} {o:Bool} (h:k+m≤I.length):srB 2 (k * 2) m (some ⟨2,o,insC I⟩)=some (m,insC ((I.drop k).take m)):=by
 rw [b_src (by rw [insC_len2];omega),insC_drop,insC_take]
theorem hm_upd1 {k a:Nat} (h:¬ a=k) (H:Hp) (b:Blk):merge [k] H ((hide H [k]).upd a b)=H.upd a b:=by
 funext j
 by_cases e:j=k
 ·subst e;rw [h_ne (Ne.symm h)];simp [merge]
 ·by_cases ea:j=a
  ·subst ea;rw [h_same];simp [merge,e,h_same]
  ·rw [h_ne ea];simp [merge,e,h_ne ea,hide]
theorem hm_upd2 {k k' a:Nat} (h:¬ a=k) (h':¬ a=k') (H:Hp) (b:Blk):merge [k,k'] H ((hide H [k,k']).upd a b)=H.upd a b:=by
 funext j
 by_cases e:j=k∨j=k'
 ·rw [h_ne (fun ea=>by subst ea;rcases e with e|e;exact h e;exact h' e)];simp [merge,e]
 ·by_cases ea:j=a
  ·subst ea;rw [h_same];simp [merge,h,h',h_same]
  ·rw [h_ne ea]
   have e1:¬ j=k:=fun x=>e (.inl x)
   have e2:¬ j=k':=fun x=>e (.inr x)
   simp [merge,e1,e2,h_ne ea,hide]
theorem cv_one {z:UInt8} {n:Nat} (hn:n=z.toNat) (H:Hp) (id:Nat):cvbsR (H.upd id ⟨1,true,[.int .u8 (n:Int)]⟩) (.slc id 0 1)=some (.str [z]) :=
 cv_own h_same (by rw [hn];rfl) rfl
end Go.Pb
namespace Go.Pb
variable [Go.Sym.Tab]
open Go.Sym
theorem vHts_hts {c:Prg} (h0:validM c=0):Hts c (vHts c)∧jumpsM c=true∧c.instrs.length≤4000:=by
 obtain ⟨hL,hj,h,hh⟩:=valid_0 h0
 have hl:=(Lim.of hL).li
 have hs:=hR_says hl hj
 rw [hh] at hs
 have e:vHts c=h:=by unfold vHts;rw [if_pos h0,hh];rfl
 rw [e];exact ⟨hs,hj,hl⟩
end Go.Pb
namespace Go.Proofs.YtcallbfckjlagaaDoor
open Go.Eng (IC IOper DReg IFn IsFn)
open Go.Sym Go.Pb
section
abbrev u9_6:IC:=qD [oD 31 1 7,oC 32 14 [.t 31],oD 33 1 7,oC 34 23 [.t 33],oB 35 32 34 .eql,oM 36 35,gM 37 4 36,gM 38 6 36,oG 39 (.bin .eql (.t 37) (.t 38)) 36,oJ 40 36 39,oM 41 40,gM 42 3 41,gM 43 5 41,⟨some 44,.call 24 [.t 42,.t 43],some (41,true)⟩,oJ 45 41 44,oM 46 45,gM 47 8 46,gM 48 10 46,oG 49 (.bin .eql (.t 47) (.t 48)) 46,oJ 50 46 49,oM 51 50,gM 52 7 51,gM 53 9 51,oG 54 (.bin .eql (.t 52) (.t 53)) 51,oJ 55 51 54,oM 56 55,oG 57 (.ld 7 true (.t 1)) 56,⟨some 58,.call 25 [.t 57],some (56,true)⟩,oG 59 (.ld 7 true (.t 1)) 56,⟨some 60,.call 26 [.t 59],some (56,true)⟩,oG 61 (.bin .eql (.t 58) (.t 60)) 56,oJ 62 56 61,oM 2 62] .ret [(0,none),(2,none),(1,some [2]),(3,some []),(4,none),(5,none),(6,none),(7,none),(8,none),(9,none),(10,none),(11,none),(12,none),(13,some []),(14,none),(15,none),(16,none),(17,none),(18,none),(19,none),(20,none),(21,none),(22,none),(23,none),(24,none),(25,none),(26,none),(28,none),(27,some [28]),(29,some []),(30,none),(31,none),(32,some [])] 33 [1,3,4,5,6,7,8,9,10]
abbrev u9_5:IC:=qS [oD 27 1 7,oC 28 15 [.t 27],oM 26 28,oE 29 26 0,oE 30 26 1,oM 9 29,oM 10 30] u9_6 [1,3,4,5,6,7,8]
abbrev u9_4:IC:=qS [oD 22 1 7,oC 23 19 [.t 22],oM 21 23,oE 24 21 0,oE 25 21 1,oM 7 24,oM 8 25] u9_5 [1,3,4,5,6]
abbrev u9_3:IC:=qS [oD 17 1 7,oC 18 22 [.t 17],oM 16 18,oE 19 16 0,oE 20 16 1,oM 5 19,oM 6 20] u9_4 [1,3,4]
abbrev u9_2:IC:=qS [oD 12 1 7,oC 13 20 [.t 12],oM 11 13,oE 14 11 0,oE 15 11 1,oM 3 14,oM 4 15] u9_3 [1]
abbrev u9_1:IC:=qS [oX 1 0,oV 2 (.bool false)] u9_2 [0]
def u9:IFn:=⟨63,u9_1,[.tmp 2]⟩
end
theorem isU9:IsFn Tryd.prog 9 u9:=by unfold IsFn;kernel_rfl
section
abbrev u12_8:IC:=qK .skip (.exit 0) (.t 13) [1,3,4,13]
abbrev u12_7:IC:=qS [oM 5 4,oF 6 1 1,oL 7 6,oH 8 7,oB 9 5 8 .lss,oM 10 9,gM 11 4 10,gK 12 11 10 .lss 50,oJ 13 10 12] u12_8 [1,3,4]
abbrev u12_10:IC:=qE [oM 16 3,oF 17 1 1,oL 18 17,oM 19 4,oA 20 18 19 1,oL 21 20,oP 22 (.lens (.t 21)),oP 23 (.mx (.t 16) (.t 22)),oM 3 23] [1,3,4]
abbrev u12_11:IC:=qE [oM 14 4,oK 15 14 .add 1,oM 4 15] [1,3,4]
abbrev u12_9:IC:=qB u12_10 u12_11 1 [1,3,4]
abbrev u12_6:IC:=qQ u12_7 u12_9 [1,3,4]
abbrev u12_5:IC:=qJ (.loop u12_6) 0 [1,3,4]
abbrev u12_4:IC:=qS [oI 4 0] u12_5 [1,3]
abbrev u12_12:IC:=qS [oM 24 3,oK 25 24 .leq 200,oM 26 25,gF 27 1 0 26,gL 28 27 26,oG 29 (.len (.t 28)) 26,gK 30 29 26 .leq 400,oJ 31 26 30,oM 32 31,gF 33 1 1 32,gL 34 33 32,oG 35 (.len (.t 34)) 32,gK 36 35 32 .leq 40,oJ 37 32 36,oM 38 37,gF 39 1 2 38,gL 40 39 38,oG 41 (.len (.t 40)) 38,gK 42 41 38 .leq 60,oJ 43 38 42,oM 44 43,gF 45 1 3 44,gL 46 45 44,oG 47 (.len (.t 46)) 44,gK 48 47 44 .leq 40,oJ 49 44 48,oM 50 49,gF 51 1 4 50,gL 52 51 50,oG 53 (.len (.t 52)) 50,gK 54 53 50 .leq 200,oJ 55 50 54,oM 2 55] .ret [1,3]
abbrev u12_3:IC:=qQ u12_4 u12_12 [1,3]
abbrev u12_2:IC:=qS [oI 3 0] u12_3 [1]
abbrev u12_1:IC:=qS [oX 1 0,oV 2 (.bool false)] u12_2 [0]
def u12:IFn:=⟨56,u12_1,[.tmp 2]⟩
end
theorem isU12:IsFn Tryd.prog 12 u12:=by unfold IsFn;kernel_rfl
theorem vHts_len (c:Prg):(vHts c).length≤4000:=by
 by_cases h0:validM c=0
 ·obtain ⟨hH,hj,hl⟩:=vHts_hts h0
  have:=hH.len
  omega
 ·unfold vHts;rw [if_neg h0];simp
theorem c_judged (c:Prg) (hs:∀ s∈c.strings,s.length≤140737488355328) (n1:c.instrs.length≤4000) (hb:∀ i∈c.instrs,I6 i.op∧I6 i.A):PC Tryd.prog 9 [c.v] (.bool true):=by
 refine PC.of mixedU isU9 (Nat.le_of_ble_eq_true rfl) (by simp [DV.nlL,DV.nl,nlL_ints,nlL_strs,nlL_instrs,nlL_entries]) rfl ?_
 show IW Tryd.prog 63 u9_1 ⟨argT _,_,_⟩ (rt [.tmp 2] _)
 have c1:=c_Heights c hs (by omega)
 have c2:=c_HeightsR c hs (by omega)
 have c3:=c_Encode c hs (by omega)
 have c4:=c_EncodeR c hs (by omega)
 have c5:=c_valid c hs (by omega)
 have c6:=c_validR c hs (by omega)
 have c7:=c_Listing c n1 hb
 have c8:=c_ListingR c (by omega) hb
 have hv:=vHts_len c
 have c9:=c_SameInts (vHts c) (vHts c) (by omega)
 rw [decide_eq_true rfl] at c9
 have r1:∀ i:Int,(i == i)=true:=fun i=>by simp
 have r2:∀ s:List UInt8,(s == s)=true:=fun s=>by simp
 generalize lstF c.instrs 0=s1 at *
 generalize encV c=s2 at *
 generalize vHts c=s3 at *
 generalize validM c=s4 at *
 repeat' ((with_reducible first|refine wr ?_|refine cpc c1 ?_|refine cpc c2 ?_|refine cpc c3 ?_|refine cpc c4 ?_|refine cpc c5 ?_|refine cpc c6 ?_|refine cpc c7 ?_|refine cpc c8 ?_|refine cpc c9 ?_|refine wb2 ?_ ?_<;>(intro hb;try simp only [hb])|fail)<;>try simp only [go_sem,seval,r1,r2])
 exact pc_ret rfl
def mxM (l:List (List UInt8)):Int:=l.foldl (fun n s=>if n<(s.length:Int) then (s.length:Int) else n) 0
theorem mxM_step {l:List (List UInt8)} {k:Nat} {s:List UInt8} (h:l[k]? = some s):mxM (l.take (k+1))=if mxM (l.take k)<(s.length:Int) then (s.length:Int) else mxM (l.take k):=by
 unfold mxM
 rw [List.take_add_one,h,List.foldl_append]
 rfl
theorem mxM_ge:∀ (l:List (List UInt8)) (n:Int),n≤l.foldl (fun n s=>if n<(s.length:Int) then (s.length:Int) else n) n∧∀ s∈l,(s.length:Int)≤l.foldl (fun n s=>if n<(s.length:Int) then (s.length:Int) else n) n
 | [],n=>⟨Int.le_refl _,fun s h=>by cases h⟩
 | x :: r,n=>by
  obtain ⟨h1,h2⟩:=mxM_ge r (if n<(x.length:Int) then (x.length:Int) else n)
  simp only [List.foldl_cons]
  refine ⟨by split at h1<;>rename_i h<;>simp only [h,if_true,if_false]<;>omega,fun s hs=>?_⟩
  rcases List.mem_cons.1 hs with rfl|hs
  ·split at h1<;>rename_i h<;>simp only [h,if_true,if_false]<;>omega
  ·exact h2 s hs
def fitsM (c:Prg):Bool:=decide (mxM (c.strings.take 50)≤200) && decide ((c.instrs.length:Int)≤400) && decide ((c.strings.length:Int)≤40) && decide ((c.entries.length:Int)≤60) && decide ((c.prios.length:Int)≤40) && decide ((c.vars.length:Int)≤200)
theorem fits_1 {c:Prg} (h:fitsM c=true):(∀ s∈c.strings,s.length≤140737488355328)∧c.instrs.length≤4000:=by
 simp only [fitsM,Bool.and_eq_true,decide_eq_true_eq] at h
 obtain ⟨⟨⟨⟨⟨h1,h2⟩,h3⟩,h4⟩,h5⟩,h6⟩:=h
 rw [List.take_of_length_le (by omega)] at h1
 refine ⟨fun s hs=>?_,by omega⟩
 have:=(mxM_ge c.strings 0).2 s hs
 unfold mxM at h1
 omega
theorem c_fits (c:Prg):PC Tryd.prog 12 [c.v] (.bool (fitsM c)):=by
 refine PC.of mixedU isU12 (Nat.le_of_ble_eq_true rfl) (by simp [DV.nlL,DV.nl,nlL_ints,nlL_strs,nlL_instrs,nlL_entries]) rfl ?_
 show IW Tryd.prog 56 u12_1 ⟨argT _,_,_⟩ (rt [.tmp 2] _)
 repeat' ((with_reducible first|refine wr ?_|refine wb2 ?_ ?_<;>(intro hb;try simp only [hb])|fail)<;>try simp only [go_sem,seval])
 refine i_loop (fun k:Nat=>[(1,.ptr 0 0),(3,I64 (mxM (c.strings.take k))),(4,I64 (k:Int))]) (fun _=>Sym.nil.upd 0 ⟨0,true,c.cs⟩) (fun k cc=>k≤50∧k≤c.strings.length) (fun k=>50-k) 0
  (by simp [tmLe,tm,Tm.upd,mxM]) (Sub.refl _) ⟨by omega,by omega⟩ ?_
 rintro k cc ⟨hk,hk2⟩
 have hsl:(c.strings.map DV.str).length=c.strings.length:=by simp
 have out:(k=50∨k=c.strings.length)→c.strings.take k=c.strings.take 50:=fun h=>by
  rcases h with h|h
  ·rw [h]
  ·rw [h,List.take_of_length_le (Nat.le_refl _),List.take_of_length_le (by omega)]
 have fin:∀ b1 b2 b3 b4 b5 b6:Bool,b1=decide (mxM (c.strings.take 50)≤200)→b2=decide ((c.instrs.length:Int)≤400)→b3=decide ((c.strings.length:Int)≤40)→b4=decide ((c.entries.length:Int)≤60)→b5=decide ((c.prios.length:Int)≤40)→b6=decide ((c.vars.length:Int)≤200) →
   fitsM c=(b1 && b2 && b3 && b4 && b5 && b6):=by
  rintro _ _ _ _ _ _ rfl rfl rfl rfl rfl rfl
  rfl
 by_cases hlt:k<c.strings.length
 ·have hd:decide ((k:Int)<(c.strings.length:Int))=true:=by simpa using hlt
  by_cases h50:k<50
  ·have hd2:decide ((k:Int)<50)=true:=by simp;omega
   obtain ⟨s,hs⟩:∃ s,c.strings[k]? = some s:=⟨_,List.getElem?_eq_getElem hlt⟩
   have hg:(c.strings.map DV.str)[k]? = some (.str s):=by rw [List.getElem?_map,hs];rfl
   have hw:IntKind.i64.wrap ((k:Int)+1)=((k+1:Nat):Int):=by rw [w64 (by omega) (by omega)];omega
   have hm:=mxM_step hs
   repeat' ((with_reducible first|refine wr ?_|refine wb2 ?_ ?_<;>(intro hb;try simp only [hb])|fail)<;>try simp only [go_sem,seval,hd,hd2,hg,hw,hsl])
   exact ⟨k+1,by rw [hm];simp [gt_iff_lt],Sub.refl _,inv ⟨by omega,hlt⟩,by omega⟩
  ·have hd2:decide ((k:Int)<50)=false:=by simp;omega
   rw [out (.inl (by omega))]
   repeat' ((with_reducible first|refine wr ?_|refine wb2 ?_ ?_<;>(intro hb;try simp only [hb])|fail)<;>try simp only [go_sem,seval,hd,hd2,hsl,List.length_map])
   all_goals (refine pc_ret ?_;simp_all [fitsM]<;>(intros;omega))
 ·have hd:decide ((k:Int)<(c.strings.length:Int))=false:=by simpa using hlt
  rw [out (.inr (by omega))]
  repeat' ((with_reducible first|refine wr ?_|refine wb2 ?_ ?_<;>(intro hb;try simp only [hb])|fail)<;>try simp only [go_sem,seval,hd,hsl,List.length_map])
  all_goals (refine pc_ret ?_;simp_all [fitsM]<;>(intros;omega))
end Go.Proofs.YtcallbfckjlagaaDoor
namespace Go.Proofs.YtcallbfckjlagaaDoor
open Go.Eng (IC IOper DReg IFn IsFn)
open Go.Sym Go.Pb
section
abbrev u52_6:IC:=qE [oI 5 0] [0,1]
abbrev u52_5:IC:=qK u52_6 .skip (.t 15) [0,1,5,15]
abbrev u52_4:IC:=qS [oM 10 1,oK 11 10 .leq 0,oM 12 11,gM 13 5 12,gK 14 13 12 .gtr 5,oJ 15 12 14] u52_5 [0,1,5]
abbrev u52_12:IC:=qS [oM 19 0,oC 20 27 [.t 19,.k (.int .i64 3)],oP 21 (.bld #[.int .i64 0,.int .i64 0] [(0,1),(1,1)] [(0,.k (.int .i64 2)),(1,.t 20)]),⟨some 22,.new (.bsl 2 1 #[.int .i64 0,.int .i64 0] [(0,.t 21)]),none⟩,oM 4 22] .ret [0]
abbrev u52_15:IC:=qS [oM 25 0,oC 26 27 [.t 25,.k (.int .i64 64)],oP 27 (.bld #[.int .i64 0,.int .i64 0] [(0,1),(1,1)] [(0,.k (.int .i64 4)),(1,.t 26)]),⟨some 28,.new (.bsl 2 1 #[.int .i64 0,.int .i64 0] [(0,.t 27)]),none⟩,oM 4 28] .ret [0]
abbrev u52_18:IC:=qS [oM 31 0,oC 32 27 [.t 31,.k (.int .i64 2)],oP 33 (.bld #[.int .i64 0,.int .i64 0] [(0,1),(1,1)] [(0,.k (.int .i64 5)),(1,.t 32)]),⟨some 34,.new (.bsl 2 1 #[.int .i64 0,.int .i64 0] [(0,.t 33)]),none⟩,oM 4 34] .ret [0]
abbrev u52_21:IC:=qS [oM 37 0,oC 38 27 [.t 37,.k (.int .i64 2)],oP 39 (.bld #[.int .i64 0,.int .i64 0] [(0,1),(1,1)] [(0,.k (.int .i64 6)),(1,.t 38)]),⟨some 40,.new (.bsl 2 1 #[.int .i64 0,.int .i64 0] [(0,.t 39)]),none⟩,oM 4 40] .ret [0]
abbrev u52_24:IC:=qS [oM 43 0,oC 44 27 [.t 43,.k (.int .i64 2)],oP 45 (.bin .add (.k (.int .i64 7)) (.t 44)),oP 46 (.bld #[.int .i64 0,.int .i64 0] [(0,1),(1,1)] [(0,.t 45)]),⟨some 47,.new (.bsl 2 1 #[.int .i64 0,.int .i64 0] [(0,.t 46)]),none⟩,oM 4 47] .ret [0]
abbrev u52_27:IC:=qS [oM 50 0,oM 51 1,oK 52 51 .sub 1,oC 53 52 [.t 50,.t 52],oM 54 0,oC 55 27 [.t 54,.k (.int .i64 2)],oP 56 (.bin .add (.k (.int .i64 9)) (.t 55)),oP 57 (.bld #[.int .i64 0,.int .i64 0] [(0,1),(1,1)] [(0,.t 56)]),⟨some 58,.new (.bsl 2 1 #[.int .i64 0,.int .i64 0] [(0,.t 57)]),none⟩,oT 59 53 58 2 16,oM 4 59] .ret [0,1]
abbrev u52_31:IC:=qE [oK 62 16 .eql 8,oM 60 62] [0,1,16]
abbrev u52_30:IC:=qK .skip u52_31 (.t 60) [0,1,16,60]
abbrev u52_29:IC:=qS [oK 61 16 .eql 7,oM 60 61] u52_30 [0,1,16]
abbrev u52_35:IC:=qS [oM 71 6,oM 72 7,oT 73 71 72 2 16,oM 74 0,oC 75 27 [.t 74,.k (.int .i64 13)],oP 76 (.bin .add (.k (.int .i64 12)) (.t 75)),oP 77 (.bld #[.int .i64 0,.int .i64 0] [(0,1),(1,1)] [(0,.k (.int .i64 11)),(1,.t 76)]),⟨some 78,.new (.bsl 2 1 #[.int .i64 0,.int .i64 0] [(0,.t 77)]),none⟩,oT 79 73 78 2 16,oM 4 79] .ret [0,6,7]
abbrev u52_34:IC:=qS [oM 67 0,oM 68 1,oK 69 68 .sub 1,oC 70 52 [.t 67,.t 69],oM 7 70] u52_35 [0,1,6]
abbrev u52_33:IC:=qS [oM 63 0,oM 64 1,oK 65 64 .sub 1,oC 66 52 [.t 63,.t 65],oM 6 66] u52_34 [0,1]
abbrev u52_32:IC:=qK u52_33 .skip (.t 60) [0,1,60]
abbrev u52_28:IC:=qQ u52_29 u52_32 [0,1,16]
abbrev u52_26:IC:=qK u52_27 u52_28 (.t 48) [0,1,16,48]
abbrev u52_25:IC:=qS [oK 49 16 .eql 6,oM 48 49] u52_26 [0,1,16]
abbrev u52_23:IC:=qK u52_24 u52_25 (.t 41) [0,1,16,41]
abbrev u52_22:IC:=qS [oK 42 16 .eql 5,oM 41 42] u52_23 [0,1,16]
abbrev u52_20:IC:=qK u52_21 u52_22 (.t 35) [0,1,16,35]
abbrev u52_19:IC:=qS [oK 36 16 .eql 4,oM 35 36] u52_20 [0,1,16]
abbrev u52_17:IC:=qK u52_18 u52_19 (.t 29) [0,1,16,29]
abbrev u52_16:IC:=qS [oK 30 16 .eql 3,oM 29 30] u52_17 [0,1,16]
abbrev u52_14:IC:=qK u52_15 u52_16 (.t 23) [0,1,16,23]
abbrev u52_13:IC:=qS [oK 24 16 .eql 2,oM 23 24] u52_14 [0,1,16]
abbrev u52_11:IC:=qK u52_12 u52_13 (.t 17) [0,1,16,17]
abbrev u52_10:IC:=qS [oK 18 16 .eql 1,oM 17 18] u52_11 [0,1,16]
abbrev u52_9:IC:=qJ u52_10 0 [0,1,16]
abbrev u52_8:IC:=qS [oM 16 5] u52_9 [0,1,5]
abbrev u52_36:IC:=qS [⟨some 80,.new (.bsl 1 10 #[.int .i64 0] [(0,.k (.int .i64 0)),(1,.k (.int .i64 1)),(2,.k (.int .i64 2)),(3,.k (.int .i64 3)),(4,.k (.int .i64 (-1))),(5,.k (.int .i64 7)),(6,.k (.int .i64 1000)),(7,.k (.int .i64 2147483647)),(8,.k (.int .i64 (-2147483647))),(9,.k (.int .i64 65536))]),none⟩,oM 81 0,oC 82 27 [.t 81,.k (.int .i64 10)],oA 83 80 82 1,oL 84 83,oP 85 (.bld #[.int .i64 0,.int .i64 0] [(0,1),(1,1)] [(0,.k (.int .i64 1)),(1,.t 84)]),⟨some 86,.new (.bsl 2 1 #[.int .i64 0,.int .i64 0] [(0,.t 85)]),none⟩,oM 4 86] .ret [0]
abbrev u52_7:IC:=qQ u52_8 u52_36 [0,1,5]
abbrev u52_3:IC:=qQ u52_4 u52_7 [0,1,5]
abbrev u52_2:IC:=qS [oM 8 0,oC 9 27 [.t 8,.k (.int .i64 9)],oM 5 9] u52_3 [0,1]
abbrev u52_1:IC:=qS [oV 4 (.slice none 0 0)] u52_2 [0,1]
def u52:IFn:=⟨87,u52_1,[.tmp 4]⟩
end
theorem isU52:IsFn Tryd.prog 52 u52:=by unfold IsFn;kernel_rfl
theorem v_end {l:List UInt8} {H H':Hp} {cc t id c' p:Nat} {L:List Ins} {d:DV} (hfr:∀ id,cc≤id→H id=none) (h1:cc≤id) (h2:id<c') (htc:t<cc) (hd:d=.slc id 0 L.length)
  (hT:H' t=some (tapeB l p)) (hI:H' id=some ⟨2,true,insC L⟩) (hO:∀ j,j<cc→j≠t→H' j=H j) :
  ∃ v2 H2,GL H' [d] H2 [v2]∧∃ id,cc≤id∧id<c'∧v2=.slc id 0 L.length∧H2=(H.upd t (tapeB l p)).upd id ⟨2,true,insC L⟩:=by
 subst hd
 refine ⟨_,(H.upd t (tapeB l p)).upd id ⟨2,true,insC L⟩,GL.less fun j=>?_,id,h1,h2,rfl,rfl⟩
 by_cases e1:j=id
 ·subst e1;right;rw [h_same,hI]
 rw [h_ne e1]
 by_cases e2:j=t
 ·subst e2;right;rw [h_same,hT]
 rw [h_ne e2]
 by_cases e3:j<cc
 ·right;exact (hO j e3 e2).symm
 ·left;exact hfr j (by omega)
theorem c_value (l:List UInt8) (hl:l.length≤100000):∀ (d:Nat),d≤2→∀ (p:Nat),p≤l.length→∀ (H:Hp) (cc t:Nat),H t=some (tapeB l p)→t<cc →
  AC Tryd.prog 52 [.ptr t 0,I64 d] H cc (fun v H' c' => ∃ id,cc≤id∧id<c'∧v=.slc id 0 (valueM l d p).1.length∧H'=(H.upd t (tapeB l (valueM l d p).2)).upd id ⟨2,true,insC (valueM l d p).1⟩):=by
 intro d
 induction d with
 | zero =>
  intro hd2 p hp H cc t ht htc
  refine AC.body mixedU isU52 (Nat.le_of_ble_eq_true rfl) fun hfr=>?_
  show IW Tryd.prog 87 u52_1 ⟨argT _,_,_⟩ (rt [.tmp 4] _)
  repeat' ((with_reducible first|refine wr ?_|refine wb2 ?_ ?_<;>(intro hb;try simp only [hb])|fail)<;>try simp only [go_sem,seval])
  refine AC.call (c_next l hl p hp 9 (by omega) (by omega) H cc t ht htc) ?_
  rintro v H' c' ⟨rfl,rfl⟩ hcc
  have hp1:=nextM_le (n:=9) hp
  have hk:=nextM_lt (l:=l) (p:=p) (n:=9) (by omega)
  obtain ⟨k0,p1,e0⟩:∃ k0 p1,nextM l p 9=(k0,p1):=⟨_,_,rfl⟩
  rw [e0] at hp1 hk ⊢
  simp only at hp1 hk
  have hv:k0=1∨k0=2∨k0=3∨k0=4∨k0=5∨(k0=0∨k0=6∨k0=7∨k0=8):=by omega
  have n0:((0:Nat):Int)=0:=rfl
  have n1:((1:Nat):Int)=1:=rfl
  have n2:((2:Nat):Int)=2:=rfl
  have n3:((3:Nat):Int)=3:=rfl
  have n4:((4:Nat):Int)=4:=rfl
  have n5:((5:Nat):Int)=5:=rfl
  have n6:((6:Nat):Int)=6:=rfl
  have n7:((7:Nat):Int)=7:=rfl
  have n8:((8:Nat):Int)=8:=rfl
  rcases hv with rfl|rfl|rfl|rfl|rfl|hv
  ·simp only [go_sem,seval,n0,n1,n2,n3,n4,n5,Int.reduceGT,Int.reduceBEq,Int.reduceLE,decide_true,decide_false]
   repeat' ((with_reducible first|refine wr ?_|refine wb2 ?_ ?_<;>(intro hb;try simp only [hb])|fail)<;>try simp only [go_sem,seval,n0,n1,n2,n3,n4,n5,Int.reduceGT,Int.reduceBEq,Int.reduceLE,decide_true,decide_false])
   refine AC.call (c_next l hl p1 hp1 3 (by omega) (by omega) (H.upd t (tapeB l p1)) c' t h_same (by omega)) ?_
   rintro v H' c2 ⟨rfl,rfl⟩ hcc2
   have hq:=nextM_lt (l:=l) (p:=p1) (n:=3) (by omega)
   have hadd:=w64 (n:=7+((nextM l p1 3).1:Int)) (by omega) (by omega)
   simp only [go_sem,seval]
   repeat' ((with_reducible first|refine wr ?_|refine wb2 ?_ ?_<;>(intro hb;try simp only [hb])|fail)<;>try simp only [go_sem,seval,hadd])
   have ev:valueM l 0 p=([⟨2,((nextM l p1 3).1:Int)⟩],(nextM l p1 3).2):=by simp [valueM,e0]
   rw [ev]
   refine v_end hfr (by omega) (by omega) htc rfl ?_ ?_ fun j h1 h2=>?_
   ·rw [h_ne (by omega),h_same]
   ·rw [h_same,insC_one]
   ·rw [h_ne (by omega),h_ne h2,h_ne h2]
  ·simp only [go_sem,seval,n0,n1,n2,n3,n4,n5,Int.reduceGT,Int.reduceBEq,Int.reduceLE,decide_true,decide_false]
   repeat' ((with_reducible first|refine wr ?_|refine wb2 ?_ ?_<;>(intro hb;try simp only [hb])|fail)<;>try simp only [go_sem,seval,n0,n1,n2,n3,n4,n5,Int.reduceGT,Int.reduceBEq,Int.reduceLE,decide_true,decide_false])
   refine AC.call (c_next l hl p1 hp1 64 (by omega) (by omega) (H.upd t (tapeB l p1)) c' t h_same (by omega)) ?_
   rintro v H' c2 ⟨rfl,rfl⟩ hcc2
   have hq:=nextM_lt (l:=l) (p:=p1) (n:=64) (by omega)
   have hadd:=w64 (n:=7+((nextM l p1 64).1:Int)) (by omega) (by omega)
   simp only [go_sem,seval]
   repeat' ((with_reducible first|refine wr ?_|refine wb2 ?_ ?_<;>(intro hb;try simp only [hb])|fail)<;>try simp only [go_sem,seval,hadd])
   have ev:valueM l 0 p=([⟨4,((nextM l p1 64).1:Int)⟩],(nextM l p1 64).2):=by simp [valueM,e0]
   rw [ev]
   refine v_end hfr (by omega) (by omega) htc rfl ?_ ?_ fun j h1 h2=>?_
   ·rw [h_ne (by omega),h_same]
   ·rw [h_same,insC_one]
   ·rw [h_ne (by omega),h_ne h2,h_ne h2]
  ·simp only [go_sem,seval,n0,n1,n2,n3,n4,n5,Int.reduceGT,Int.reduceBEq,Int.reduceLE,decide_true,decide_false]
   repeat' ((with_reducible first|refine wr ?_|refine wb2 ?_ ?_<;>(intro hb;try simp only [hb])|fail)<;>try simp only [go_sem,seval,n0,n1,n2,n3,n4,n5,Int.reduceGT,Int.reduceBEq,Int.reduceLE,decide_true,decide_false])
   refine AC.call (c_next l hl p1 hp1 2 (by omega) (by omega) (H.upd t (tapeB l p1)) c' t h_same (by omega)) ?_
   rintro v H' c2 ⟨rfl,rfl⟩ hcc2
   have hq:=nextM_lt (l:=l) (p:=p1) (n:=2) (by omega)
   have hadd:=w64 (n:=7+((nextM l p1 2).1:Int)) (by omega) (by omega)
   simp only [go_sem,seval]
   repeat' ((with_reducible first|refine wr ?_|refine wb2 ?_ ?_<;>(intro hb;try simp only [hb])|fail)<;>try simp only [go_sem,seval,hadd])
   have ev:valueM l 0 p=([⟨5,((nextM l p1 2).1:Int)⟩],(nextM l p1 2).2):=by simp [valueM,e0]
   rw [ev]
   refine v_end hfr (by omega) (by omega) htc rfl ?_ ?_ fun j h1 h2=>?_
   ·rw [h_ne (by omega),h_same]
   ·rw [h_same,insC_one]
   ·rw [h_ne (by omega),h_ne h2,h_ne h2]
  ·simp only [go_sem,seval,n0,n1,n2,n3,n4,n5,Int.reduceGT,Int.reduceBEq,Int.reduceLE,decide_true,decide_false]
   repeat' ((with_reducible first|refine wr ?_|refine wb2 ?_ ?_<;>(intro hb;try simp only [hb])|fail)<;>try simp only [go_sem,seval,n0,n1,n2,n3,n4,n5,Int.reduceGT,Int.reduceBEq,Int.reduceLE,decide_true,decide_false])
   refine AC.call (c_next l hl p1 hp1 2 (by omega) (by omega) (H.upd t (tapeB l p1)) c' t h_same (by omega)) ?_
   rintro v H' c2 ⟨rfl,rfl⟩ hcc2
   have hq:=nextM_lt (l:=l) (p:=p1) (n:=2) (by omega)
   have hadd:=w64 (n:=7+((nextM l p1 2).1:Int)) (by omega) (by omega)
   simp only [go_sem,seval]
   repeat' ((with_reducible first|refine wr ?_|refine wb2 ?_ ?_<;>(intro hb;try simp only [hb])|fail)<;>try simp only [go_sem,seval,hadd])
   have ev:valueM l 0 p=([⟨6,((nextM l p1 2).1:Int)⟩],(nextM l p1 2).2):=by simp [valueM,e0]
   rw [ev]
   refine v_end hfr (by omega) (by omega) htc rfl ?_ ?_ fun j h1 h2=>?_
   ·rw [h_ne (by omega),h_same]
   ·rw [h_same,insC_one]
   ·rw [h_ne (by omega),h_ne h2,h_ne h2]
  ·simp only [go_sem,seval,n0,n1,n2,n3,n4,n5,Int.reduceGT,Int.reduceBEq,Int.reduceLE,decide_true,decide_false]
   repeat' ((with_reducible first|refine wr ?_|refine wb2 ?_ ?_<;>(intro hb;try simp only [hb])|fail)<;>try simp only [go_sem,seval,n0,n1,n2,n3,n4,n5,Int.reduceGT,Int.reduceBEq,Int.reduceLE,decide_true,decide_false])
   refine AC.call (c_next l hl p1 hp1 2 (by omega) (by omega) (H.upd t (tapeB l p1)) c' t h_same (by omega)) ?_
   rintro v H' c2 ⟨rfl,rfl⟩ hcc2
   have hq:=nextM_lt (l:=l) (p:=p1) (n:=2) (by omega)
   have hadd:=w64 (n:=7+((nextM l p1 2).1:Int)) (by omega) (by omega)
   simp only [go_sem,seval]
   repeat' ((with_reducible first|refine wr ?_|refine wb2 ?_ ?_<;>(intro hb;try simp only [hb])|fail)<;>try simp only [go_sem,seval,hadd])
   have ev:valueM l 0 p=([⟨7+((nextM l p1 2).1:Int),0⟩],(nextM l p1 2).2):=by simp [valueM,e0]
   rw [ev]
   refine v_end hfr (by omega) (by omega) htc rfl ?_ ?_ fun j h1 h2=>?_
   ·rw [h_ne (by omega),h_same]
   ·rw [h_same,insC_one]
   ·rw [h_ne (by omega),h_ne h2,h_ne h2]
  ·rcases hv with rfl|rfl|rfl|rfl
   all_goals
    simp only [go_sem,seval,n0,n1,n2,n3,n4,n5,n6,n7,n8,Int.reduceGT,Int.reduceBEq,Int.reduceLE,decide_true,decide_false]
    repeat' ((with_reducible first|refine wr ?_|refine wb2 ?_ ?_<;>(intro hb;try simp only [hb])|fail)<;>try simp only [go_sem,seval,n0,n1,n2,n3,n4,n5,n6,n7,n8,Int.reduceGT,Int.reduceBEq,Int.reduceLE,decide_true,decide_false])
    refine AC.call (c_next l hl p1 hp1 10 (by omega) (by omega) _ (c'+1) t ((h_ne (by omega)).trans h_same) (by omega)) ?_
    rintro v H' c2 ⟨rfl,rfl⟩ hcc2
    have hq:=nextM_lt (l:=l) (p:=p1) (n:=10) (by omega)
    have hget:=push_get hq
    have ne0:=nes3 t c' c2 (by omega)
    simp only [go_sem,seval,hget,hq,ne0]
    repeat' ((with_reducible first|refine wr ?_|refine wb2 ?_ ?_<;>(intro hb;try simp only [hb])|fail)<;>try simp only [go_sem,seval,hget,hq,ne0])
    have ev:valueM l 0 p=([⟨1,pushT.getD (nextM l p1 10).1 0⟩],(nextM l p1 10).2):=by simp [valueM,e0]
    rw [ev]
    refine v_end hfr (by omega) (by omega) htc rfl ?_ ?_ fun j h1 h2=>?_
    ·rw [h_ne (by omega),h_same]
    ·rw [h_same,insC_one]
    ·rw [h_ne (by omega),h_ne h2,h_ne (by omega),h_ne h2]
 | succ d ih =>
  intro hd2 p hp H cc t ht htc
  refine AC.body mixedU isU52 (Nat.le_of_ble_eq_true rfl) fun hfr=>?_
  show IW Tryd.prog 87 u52_1 ⟨argT _,_,_⟩ (rt [.tmp 4] _)
  repeat' ((with_reducible first|refine wr ?_|refine wb2 ?_ ?_<;>(intro hb;try simp only [hb])|fail)<;>try simp only [go_sem,seval])
  refine AC.call (c_next l hl p hp 9 (by omega) (by omega) H cc t ht htc) ?_
  rintro v H' c' ⟨rfl,rfl⟩ hcc
  have hp1:=nextM_le (n:=9) hp
  have hk:=nextM_lt (l:=l) (p:=p) (n:=9) (by omega)
  have hdl:decide (((d+1:Nat):Int)≤0)=false:=decide_eq_false (by omega)
  have hw1:=w64 (n:=((d+1:Nat):Int)-1) (by omega) (by omega)
  have hw2:((d+1:Nat):Int)-1=(d:Int):=by omega
  rw [hw2] at hw1
  obtain ⟨k0,p1,e0⟩:∃ k0 p1,nextM l p 9=(k0,p1):=⟨_,_,rfl⟩
  rw [e0] at hp1 hk ⊢
  simp only at hp1 hk
  have hv:k0=1∨k0=2∨k0=3∨k0=4∨k0=5∨k0=6∨k0=7∨k0=8∨k0=0:=by omega
  have n0:((0:Nat):Int)=0:=rfl
  have n1:((1:Nat):Int)=1:=rfl
  have n2:((2:Nat):Int)=2:=rfl
  have n3:((3:Nat):Int)=3:=rfl
  have n4:((4:Nat):Int)=4:=rfl
  have n5:((5:Nat):Int)=5:=rfl
  have n6:((6:Nat):Int)=6:=rfl
  have n7:((7:Nat):Int)=7:=rfl
  have n8:((8:Nat):Int)=8:=rfl
  rcases hv with rfl|rfl|rfl|rfl|rfl|rfl|rfl|rfl|rfl
  ·simp only [go_sem,seval,hdl,hw2,hw1,n0,n1,n2,n3,n4,n5,Int.reduceGT,Int.reduceBEq,Int.reduceLE,decide_true,decide_false]
   repeat' ((with_reducible first|refine wr ?_|refine wb2 ?_ ?_<;>(intro hb;try simp only [hb])|fail)<;>try simp only [go_sem,seval,hdl,hw2,hw1,n0,n1,n2,n3,n4,n5,Int.reduceGT,Int.reduceBEq,Int.reduceLE,decide_true,decide_false])
   refine AC.call (c_next l hl p1 hp1 3 (by omega) (by omega) (H.upd t (tapeB l p1)) c' t h_same (by omega)) ?_
   rintro v H' c2 ⟨rfl,rfl⟩ hcc2
   have hq:=nextM_lt (l:=l) (p:=p1) (n:=3) (by omega)
   have hadd:=w64 (n:=7+((nextM l p1 3).1:Int)) (by omega) (by omega)
   simp only [go_sem,seval]
   repeat' ((with_reducible first|refine wr ?_|refine wb2 ?_ ?_<;>(intro hb;try simp only [hb])|fail)<;>try simp only [go_sem,seval,hadd])
   have ev:valueM l (d+1) p=([⟨2,((nextM l p1 3).1:Int)⟩],(nextM l p1 3).2):=by simp [valueM,e0]
   rw [ev]
   refine v_end hfr (by omega) (by omega) htc rfl ?_ ?_ fun j h1 h2=>?_
   ·rw [h_ne (by omega),h_same]
   ·rw [h_same,insC_one]
   ·rw [h_ne (by omega),h_ne h2,h_ne h2]
  ·simp only [go_sem,seval,hdl,hw2,hw1,n0,n1,n2,n3,n4,n5,Int.reduceGT,Int.reduceBEq,Int.reduceLE,decide_true,decide_false]
   repeat' ((with_reducible first|refine wr ?_|refine wb2 ?_ ?_<;>(intro hb;try simp only [hb])|fail)<;>try simp only [go_sem,seval,hdl,hw2,hw1,n0,n1,n2,n3,n4,n5,Int.reduceGT,Int.reduceBEq,Int.reduceLE,decide_true,decide_false])
   refine AC.call (c_next l hl p1 hp1 64 (by omega) (by omega) (H.upd t (tapeB l p1)) c' t h_same (by omega)) ?_
   rintro v H' c2 ⟨rfl,rfl⟩ hcc2
   have hq:=nextM_lt (l:=l) (p:=p1) (n:=64) (by omega)
   have hadd:=w64 (n:=7+((nextM l p1 64).1:Int)) (by omega) (by omega)
   simp only [go_sem,seval]
   repeat' ((with_reducible first|refine wr ?_|refine wb2 ?_ ?_<;>(intro hb;try simp only [hb])|fail)<;>try simp only [go_sem,seval,hadd])
   have ev:valueM l (d+1) p=([⟨4,((nextM l p1 64).1:Int)⟩],(nextM l p1 64).2):=by simp [valueM,e0]
   rw [ev]
   refine v_end hfr (by omega) (by omega) htc rfl ?_ ?_ fun j h1 h2=>?_
   ·rw [h_ne (by omega),h_same]
   ·rw [h_same,insC_one]
   ·rw [h_ne (by omega),h_ne h2,h_ne h2]
  ·simp only [go_sem,seval,hdl,hw2,hw1,n0,n1,n2,n3,n4,n5,Int.reduceGT,Int.reduceBEq,Int.reduceLE,decide_true,decide_false]
   repeat' ((with_reducible first|refine wr ?_|refine wb2 ?_ ?_<;>(intro hb;try simp only [hb])|fail)<;>try simp only [go_sem,seval,hdl,hw2,hw1,n0,n1,n2,n3,n4,n5,Int.reduceGT,Int.reduceBEq,Int.reduceLE,decide_true,decide_false])
   refine AC.call (c_next l hl p1 hp1 2 (by omega) (by omega) (H.upd t (tapeB l p1)) c' t h_same (by omega)) ?_
   rintro v H' c2 ⟨rfl,rfl⟩ hcc2
   have hq:=nextM_lt (l:=l) (p:=p1) (n:=2) (by omega)
   have hadd:=w64 (n:=7+((nextM l p1 2).1:Int)) (by omega) (by omega)
   simp only [go_sem,seval]
   repeat' ((with_reducible first|refine wr ?_|refine wb2 ?_ ?_<;>(intro hb;try simp only [hb])|fail)<;>try simp only [go_sem,seval,hadd])
   have ev:valueM l (d+1) p=([⟨5,((nextM l p1 2).1:Int)⟩],(nextM l p1 2).2):=by simp [valueM,e0]
   rw [ev]
   refine v_end hfr (by omega) (by omega) htc rfl ?_ ?_ fun j h1 h2=>?_
   ·rw [h_ne (by omega),h_same]
   ·rw [h_same,insC_one]
   ·rw [h_ne (by omega),h_ne h2,h_ne h2]
  ·simp only [go_sem,seval,hdl,hw2,hw1,n0,n1,n2,n3,n4,n5,Int.reduceGT,Int.reduceBEq,Int.reduceLE,decide_true,decide_false]
   repeat' ((with_reducible first|refine wr ?_|refine wb2 ?_ ?_<;>(intro hb;try simp only [hb])|fail)<;>try simp only [go_sem,seval,hdl,hw2,hw1,n0,n1,n2,n3,n4,n5,Int.reduceGT,Int.reduceBEq,Int.reduceLE,decide_true,decide_false])
   refine AC.call (c_next l hl p1 hp1 2 (by omega) (by omega) (H.upd t (tapeB l p1)) c' t h_same (by omega)) ?_
   rintro v H' c2 ⟨rfl,rfl⟩ hcc2
   have hq:=nextM_lt (l:=l) (p:=p1) (n:=2) (by omega)
   have hadd:=w64 (n:=7+((nextM l p1 2).1:Int)) (by omega) (by omega)
   simp only [go_sem,seval]
   repeat' ((with_reducible first|refine wr ?_|refine wb2 ?_ ?_<;>(intro hb;try simp only [hb])|fail)<;>try simp only [go_sem,seval,hadd])
   have ev:valueM l (d+1) p=([⟨6,((nextM l p1 2).1:Int)⟩],(nextM l p1 2).2):=by simp [valueM,e0]
   rw [ev]
   refine v_end hfr (by omega) (by omega) htc rfl ?_ ?_ fun j h1 h2=>?_
   ·rw [h_ne (by omega),h_same]
   ·rw [h_same,insC_one]
   ·rw [h_ne (by omega),h_ne h2,h_ne h2]
  ·simp only [go_sem,seval,hdl,hw2,hw1,n0,n1,n2,n3,n4,n5,Int.reduceGT,Int.reduceBEq,Int.reduceLE,decide_true,decide_false]
   repeat' ((with_reducible first|refine wr ?_|refine wb2 ?_ ?_<;>(intro hb;try simp only [hb])|fail)<;>try simp only [go_sem,seval,hdl,hw2,hw1,n0,n1,n2,n3,n4,n5,Int.reduceGT,Int.reduceBEq,Int.reduceLE,decide_true,decide_false])
   refine AC.call (c_next l hl p1 hp1 2 (by omega) (by omega) (H.upd t (tapeB l p1)) c' t h_same (by omega)) ?_
   rintro v H' c2 ⟨rfl,rfl⟩ hcc2
   have hq:=nextM_lt (l:=l) (p:=p1) (n:=2) (by omega)
   have hadd:=w64 (n:=7+((nextM l p1 2).1:Int)) (by omega) (by omega)
   simp only [go_sem,seval]
   repeat' ((with_reducible first|refine wr ?_|refine wb2 ?_ ?_<;>(intro hb;try simp only [hb])|fail)<;>try simp only [go_sem,seval,hadd])
   have ev:valueM l (d+1) p=([⟨7+((nextM l p1 2).1:Int),0⟩],(nextM l p1 2).2):=by simp [valueM,e0]
   rw [ev]
   refine v_end hfr (by omega) (by omega) htc rfl ?_ ?_ fun j h1 h2=>?_
   ·rw [h_ne (by omega),h_same]
   ·rw [h_same,insC_one]
   ·rw [h_ne (by omega),h_ne h2,h_ne h2]
  ·simp only [go_sem,seval,hdl,hw2,hw1,n0,n1,n2,n3,n4,n5,n6,n7,n8,Int.reduceGT,Int.reduceBEq,Int.reduceLE,decide_true,decide_false]
   repeat' ((with_reducible first|refine wr ?_|refine wb2 ?_ ?_<;>(intro hb;try simp only [hb])|fail)<;>try simp only [go_sem,seval,hdl,hw2,hw1,n0,n1,n2,n3,n4,n5,n6,n7,n8,Int.reduceGT,Int.reduceBEq,Int.reduceLE,decide_true,decide_false])
   refine AC.call (ih (by omega) p1 hp1 (H.upd t (tapeB l p1)) c' t h_same (by omega)) ?_
   rintro v H' c2 ⟨id1,i1,i2,rfl,rfl⟩ hcc2
   have hp2:=valueM_le l d p1 hp1
   simp only [go_sem,seval]
   repeat' ((with_reducible first|refine wr ?_|refine wb2 ?_ ?_<;>(intro hb;try simp only [hb])|fail)<;>try simp only [go_sem,seval])
   refine AC.call (c_next l hl _ hp2 2 (by omega) (by omega) _ c2 t ((h_ne (by omega)).trans h_same) (by omega)) ?_
   rintro v H' c3 ⟨rfl,rfl⟩ hcc3
   have hq:=nextM_lt (l:=l) (p:=(valueM l d p1).2) (n:=2) (by omega)
   have hadd:=w64 (n:=9+((nextM l (valueM l d p1).2 2).1:Int)) (by omega) (by omega)
   have hvl:=valueM_len l d p1
   have hpw:2 ^ (d+1)≤2 ^ 3:=Nat.pow_le_pow_right (by omega) (by omega)
   have ne0:=nes4 t id1 c3 (c3+1) (by omega)
   simp only [go_sem,seval,hadd,ne0]
   repeat' ((first|(with_reducible first|refine wr ?_)|(with_reducible refine wb2 ?_ ?_<;>(intro hb;try simp only [hb]))|((with_reducible refine k_eval (b_appx (insC_len2 _) (by omega) (by omega)) ?_))|fail)<;>try simp only [go_sem,seval,hadd,ne0])
   rw [valueM_6 e0]
   refine v_end (id:=c3+1) hfr (by omega) (by omega) htc (by rw [List.length_append];rfl) ?_ ?_ fun j h1 h2=>?_
   ·simp only [go_sem,seval,ne0]
   ·rw [h_same,insC_app,insC_one]
   ·have q1:¬j=id1:=by omega
    have q2:¬j=c3:=by omega
    have q3:¬j=c3+1:=by omega
    simp only [go_sem,seval,h2,q1,q2,q3]
  ·simp only [go_sem,seval,hdl,hw2,hw1,n0,n1,n2,n3,n4,n5,n6,n7,n8,Int.reduceGT,Int.reduceBEq,Int.reduceLE,decide_true,decide_false]
   repeat' ((with_reducible first|refine wr ?_|refine wb2 ?_ ?_<;>(intro hb;try simp only [hb])|fail)<;>try simp only [go_sem,seval,hdl,hw2,hw1,n0,n1,n2,n3,n4,n5,n6,n7,n8,Int.reduceGT,Int.reduceBEq,Int.reduceLE,decide_true,decide_false])
   refine AC.call (ih (by omega) p1 hp1 (H.upd t (tapeB l p1)) c' t h_same (by omega)) ?_
   rintro v H' c2 ⟨id1,i1,i2,rfl,rfl⟩ hcc2
   have hp2:=valueM_le l d p1 hp1
   simp only [go_sem,seval,hw2,hw1]
   repeat' ((with_reducible first|refine wr ?_|refine wb2 ?_ ?_<;>(intro hb;try simp only [hb])|fail)<;>try simp only [go_sem,seval,hw2,hw1])
   refine AC.call (ih (by omega) _ hp2 _ c2 t ((h_ne (by omega)).trans h_same) (by omega)) ?_
   rintro v H' c3 ⟨id2,j1,j2,rfl,rfl⟩ hcc3
   have hp3:=valueM_le l d _ hp2
   have hvl:=valueM_len l d p1
   have hvl2:=valueM_len l d (valueM l d p1).2
   have hpw:2 ^ (d+1)≤2 ^ 3:=Nat.pow_le_pow_right (by omega) (by omega)
   have hl2:=insC_len2 (valueM l d (valueM l d p1).2).1
   have hle2:(valueM l d (valueM l d p1).2).1.length * 2≤(insC (valueM l d (valueM l d p1).2).1).length:=by omega
   have htk:=List.take_of_length_le (l:=insC (valueM l d (valueM l d p1).2).1) (i:=(valueM l d (valueM l d p1).2).1.length * 2) (by omega)
   have ne0:=nes4 t id1 id2 c3 (by omega)
   simp only [go_sem,seval,ne0,hle2,htk]
   repeat' ((first|(with_reducible first|refine wr ?_)|(with_reducible refine wb2 ?_ ?_<;>(intro hb;try simp only [hb]))|((with_reducible refine k_eval (b_appx (insC_len2 _) (by omega) (by omega)) ?_))|fail)<;>try simp only [go_sem,seval,ne0,hle2,htk])
   refine AC.call (c_next l hl _ hp3 13 (by omega) (by omega) _ (c3+1) t (by repeat (first|exact h_same|rw [h_ne (by omega)]|rw [h_dne (by omega)])) (by omega)) ?_
   rintro v H' c4 ⟨rfl,rfl⟩ hcc4
   have hq:=nextM_lt (l:=l) (p:=(valueM l d (valueM l d p1).2).2) (n:=13) (by omega)
   have hadd:=w64 (n:=12+((nextM l (valueM l d (valueM l d p1).2).2 13).1:Int)) (by omega) (by omega)
   have hl3:(insC (valueM l d p1).1++insC (valueM l d (valueM l d p1).2).1).length=((valueM l d p1).1.length+(valueM l d (valueM l d p1).2).1.length) * 2:=by rw [List.length_append,insC_len,insC_len];omega
   have ne0:=nes4 t c3 c4 (c4+1) (by omega)
   simp only [go_sem,seval,hadd,ne0]
   repeat' ((first|(with_reducible first|refine wr ?_)|(with_reducible refine wb2 ?_ ?_<;>(intro hb;try simp only [hb]))|((with_reducible refine k_eval (b_appx hl3 (by omega) (by omega)) ?_))|fail)<;>try simp only [go_sem,seval,hadd,ne0])
   rw [valueM_7 e0]
   refine v_end (id:=c4+1) hfr (by omega) (by omega) htc (by simp only [List.length_append,List.length_singleton]) ?_ ?_ fun j h1 h2=>?_
   ·repeat (first|exact h_same|rw [h_ne (by omega)]|rw [h_dne (by omega)])
   ·rw [h_same,insC_app,insC_app,insC_one]
   ·repeat (first|rfl|rw [h_ne (by omega)]|rw [h_dne (by omega)])
  ·simp only [go_sem,seval,hdl,hw2,hw1,n0,n1,n2,n3,n4,n5,n6,n7,n8,Int.reduceGT,Int.reduceBEq,Int.reduceLE,decide_true,decide_false]
   repeat' ((with_reducible first|refine wr ?_|refine wb2 ?_ ?_<;>(intro hb;try simp only [hb])|fail)<;>try simp only [go_sem,seval,hdl,hw2,hw1,n0,n1,n2,n3,n4,n5,n6,n7,n8,Int.reduceGT,Int.reduceBEq,Int.reduceLE,decide_true,decide_false])
   refine AC.call (ih (by omega) p1 hp1 (H.upd t (tapeB l p1)) c' t h_same (by omega)) ?_
   rintro v H' c2 ⟨id1,i1,i2,rfl,rfl⟩ hcc2
   have hp2:=valueM_le l d p1 hp1
   simp only [go_sem,seval,hw2,hw1]
   repeat' ((with_reducible first|refine wr ?_|refine wb2 ?_ ?_<;>(intro hb;try simp only [hb])|fail)<;>try simp only [go_sem,seval,hw2,hw1])
   refine AC.call (ih (by omega) _ hp2 _ c2 t ((h_ne (by omega)).trans h_same) (by omega)) ?_
   rintro v H' c3 ⟨id2,j1,j2,rfl,rfl⟩ hcc3
   have hp3:=valueM_le l d _ hp2
   have hvl:=valueM_len l d p1
   have hvl2:=valueM_len l d (valueM l d p1).2
   have hpw:2 ^ (d+1)≤2 ^ 3:=Nat.pow_le_pow_right (by omega) (by omega)
   have hl2:=insC_len2 (valueM l d (valueM l d p1).2).1
   have hle2:(valueM l d (valueM l d p1).2).1.length * 2≤(insC (valueM l d (valueM l d p1).2).1).length:=by omega
   have htk:=List.take_of_length_le (l:=insC (valueM l d (valueM l d p1).2).1) (i:=(valueM l d (valueM l d p1).2).1.length * 2) (by omega)
   have ne0:=nes4 t id1 id2 c3 (by omega)
   simp only [go_sem,seval,ne0,hle2,htk]
   repeat' ((first|(with_reducible first|refine wr ?_)|(with_reducible refine wb2 ?_ ?_<;>(intro hb;try simp only [hb]))|((with_reducible refine k_eval (b_appx (insC_len2 _) (by omega) (by omega)) ?_))|fail)<;>try simp only [go_sem,seval,ne0,hle2,htk])
   refine AC.call (c_next l hl _ hp3 13 (by omega) (by omega) _ (c3+1) t (by repeat (first|exact h_same|rw [h_ne (by omega)]|rw [h_dne (by omega)])) (by omega)) ?_
   rintro v H' c4 ⟨rfl,rfl⟩ hcc4
   have hq:=nextM_lt (l:=l) (p:=(valueM l d (valueM l d p1).2).2) (n:=13) (by omega)
   have hadd:=w64 (n:=12+((nextM l (valueM l d (valueM l d p1).2).2 13).1:Int)) (by omega) (by omega)
   have hl3:(insC (valueM l d p1).1++insC (valueM l d (valueM l d p1).2).1).length=((valueM l d p1).1.length+(valueM l d (valueM l d p1).2).1.length) * 2:=by rw [List.length_append,insC_len,insC_len];omega
   have ne0:=nes4 t c3 c4 (c4+1) (by omega)
   simp only [go_sem,seval,hadd,ne0]
   repeat' ((first|(with_reducible first|refine wr ?_)|(with_reducible refine wb2 ?_ ?_<;>(intro hb;try simp only [hb]))|((with_reducible refine k_eval (b_appx hl3 (by omega) (by omega)) ?_))|fail)<;>try simp only [go_sem,seval,hadd,ne0])
   rw [valueM_8 e0]
   refine v_end (id:=c4+1) hfr (by omega) (by omega) htc (by simp only [List.length_append,List.length_singleton]) ?_ ?_ fun j h1 h2=>?_
   ·repeat (first|exact h_same|rw [h_ne (by omega)]|rw [h_dne (by omega)])
   ·rw [h_same,insC_app,insC_app,insC_one]
   ·repeat (first|rfl|rw [h_ne (by omega)]|rw [h_dne (by omega)])
  ·simp only [go_sem,seval,hdl,hw2,hw1,n0,n1,n2,n3,n4,n5,n6,n7,n8,Int.reduceGT,Int.reduceBEq,Int.reduceLE,decide_true,decide_false]
   repeat' ((with_reducible first|refine wr ?_|refine wb2 ?_ ?_<;>(intro hb;try simp only [hb])|fail)<;>try simp only [go_sem,seval,hdl,hw2,hw1,n0,n1,n2,n3,n4,n5,n6,n7,n8,Int.reduceGT,Int.reduceBEq,Int.reduceLE,decide_true,decide_false])
   refine AC.call (c_next l hl p1 hp1 10 (by omega) (by omega) _ (c'+1) t ((h_ne (by omega)).trans h_same) (by omega)) ?_
   rintro v H' c2 ⟨rfl,rfl⟩ hcc2
   have hq:=nextM_lt (l:=l) (p:=p1) (n:=10) (by omega)
   have hget:=push_get hq
   have ne0:=nes3 t c' c2 (by omega)
   simp only [go_sem,seval,hget,hq,ne0]
   repeat' ((with_reducible first|refine wr ?_|refine wb2 ?_ ?_<;>(intro hb;try simp only [hb])|fail)<;>try simp only [go_sem,seval,hget,hq,ne0])
   have ev:valueM l (d+1) p=([⟨1,pushT.getD (nextM l p1 10).1 0⟩],(nextM l p1 10).2):=by simp [valueM,e0]
   rw [ev]
   refine v_end hfr (by omega) (by omega) htc rfl ?_ ?_ fun j h1 h2=>?_
   ·rw [h_ne (by omega),h_same]
   ·rw [h_same,insC_one]
   ·rw [h_ne (by omega),h_ne h2,h_ne (by omega),h_ne h2]
end Go.Proofs.YtcallbfckjlagaaDoor
namespace Go.Proofs.YtcallbfckjlagaaDoor
open Go.Eng (IC IOper DReg IFn IsFn)
open Go.Sym Go.Pb
section
abbrev u28_6:IC:=qE [oI 7 0] [0,1,2]
abbrev u28_5:IC:=qK u28_6 .skip (.t 21) [0,1,2,7,21]
abbrev u28_4:IC:=qS [oM 16 2,oK 17 16 .leq 0,oM 18 17,gM 19 7 18,gK 20 19 18 .gtr 11,oJ 21 18 20] u28_5 [0,1,2,7]
abbrev u28_12:IC:=qS [oM 25 0,oC 26 52 [.t 25,.k (.int .i64 1)],oP 27 (.bld #[.int .i64 0,.int .i64 0] [(0,1),(1,1)] [(0,.k (.int .i64 15))]),⟨some 28,.new (.bsl 2 1 #[.int .i64 0,.int .i64 0] [(0,.t 27)]),none⟩,oT 29 26 28 2 16,oM 6 29] .ret [0]
abbrev u28_15:IC:=qS [oM 32 0,oC 33 27 [.t 32,.k (.int .i64 3)],oP 34 (.bin .add (.k (.int .i64 16)) (.t 33)),oM 35 0,oC 36 27 [.t 35,.k (.int .i64 32)],oP 37 (.bld #[.int .i64 0,.int .i64 0] [(0,1),(1,1)] [(0,.t 34),(1,.t 36)]),⟨some 38,.new (.bsl 2 1 #[.int .i64 0,.int .i64 0] [(0,.t 37)]),none⟩,oM 6 38] .ret [0]
abbrev u28_18:IC:=qS [oM 41 0,oC 42 52 [.t 41,.k (.int .i64 0)],oM 43 0,oC 44 27 [.t 43,.k (.int .i64 64)],oP 45 (.bld #[.int .i64 0,.int .i64 0] [(0,1),(1,1)] [(0,.k (.int .i64 19)),(1,.t 44)]),⟨some 46,.new (.bsl 2 1 #[.int .i64 0,.int .i64 0] [(0,.t 45)]),none⟩,oT 47 42 46 2 16,oM 6 47] .ret [0]
abbrev u28_22:IC:=qS [oM 52 8,oM 53 0,oC 54 52 [.t 53,.k (.int .i64 0)],oT 55 52 54 2 16,oM 56 0,oC 57 27 [.t 56,.k (.int .i64 64)],oP 58 (.bld #[.int .i64 0,.int .i64 0] [(0,1),(1,1)] [(0,.k (.int .i64 20)),(1,.t 57)]),⟨some 59,.new (.bsl 2 1 #[.int .i64 0,.int .i64 0] [(0,.t 58)]),none⟩,oT 60 55 59 2 16,oM 6 60] .ret [0,8]
abbrev u28_21:IC:=qS [oM 50 0,oC 51 52 [.t 50,.k (.int .i64 0)],oM 8 51] u28_22 [0]
abbrev u28_25:IC:=qS [oM 63 0,oC 64 52 [.t 63,.k (.int .i64 1)],oM 65 0,oC 66 27 [.t 65,.k (.int .i64 2)],oP 67 (.bld #[.int .i64 0,.int .i64 0] [(0,1),(1,1)] [(0,.k (.int .i64 21)),(1,.t 66)]),⟨some 68,.new (.bsl 2 1 #[.int .i64 0,.int .i64 0] [(0,.t 67)]),none⟩,oT 69 64 68 2 16,oM 6 69] .ret [0]
abbrev u28_28:IC:=qS [oM 72 0,oC 73 27 [.t 72,.k (.int .i64 2)],oP 74 (.bld #[.int .i64 0,.int .i64 0] [(0,1),(1,1)] [(0,.k (.int .i64 22)),(1,.t 73)]),⟨some 75,.new (.bsl 2 1 #[.int .i64 0,.int .i64 0] [(0,.t 74)]),none⟩,oM 6 75] .ret [0]
abbrev u28_31:IC:=qS [oM 78 0,oC 79 27 [.t 78,.k (.int .i64 2)],oP 80 (.bin .add (.k (.int .i64 23)) (.t 79)),oM 81 0,oC 82 27 [.t 81,.k (.int .i64 2)],oP 83 (.bld #[.int .i64 0,.int .i64 0] [(0,1),(1,1)] [(0,.t 80),(1,.t 82)]),⟨some 84,.new (.bsl 2 1 #[.int .i64 0,.int .i64 0] [(0,.t 83)]),none⟩,oM 6 84] .ret [0]
abbrev u28_34:IC:=qS [oM 87 0,oC 88 27 [.t 87,.k (.int .i64 2)],oP 89 (.bld #[.int .i64 0,.int .i64 0] [(0,1),(1,1)] [(0,.k (.int .i64 25)),(1,.t 88)]),⟨some 90,.new (.bsl 2 1 #[.int .i64 0,.int .i64 0] [(0,.t 89)]),none⟩,oM 6 90] .ret [0]
abbrev u28_37:IC:=qS [oM 93 0,oC 94 27 [.t 93,.k (.int .i64 3)],oP 95 (.bin .add (.k (.int .i64 26)) (.t 94)),oM 96 0,oC 97 27 [.t 96,.k (.int .i64 64)],oP 98 (.bld #[.int .i64 0,.int .i64 0] [(0,1),(1,1)] [(0,.t 95),(1,.t 97)]),⟨some 99,.new (.bsl 2 1 #[.int .i64 0,.int .i64 0] [(0,.t 98)]),none⟩,oM 6 99] .ret [0]
abbrev u28_40:IC:=qS [oM 102 0,oC 103 52 [.t 102,.k (.int .i64 1)],oM 104 0,oC 105 27 [.t 104,.k (.int .i64 2)],oP 106 (.bld #[.int .i64 0,.int .i64 0] [(0,1),(1,1)] [(0,.k (.int .i64 29)),(1,.t 105)]),⟨some 107,.new (.bsl 2 1 #[.int .i64 0,.int .i64 0] [(0,.t 106)]),none⟩,oT 108 103 107 2 16,oM 6 108] .ret [0]
abbrev u28_43:IC:=qS [oP 111 (.bld #[.int .i64 0,.int .i64 0] [(0,1),(1,1)] [(0,.k (.int .i64 30))]),⟨some 112,.new (.bsl 2 1 #[.int .i64 0,.int .i64 0] [(0,.t 111)]),none⟩,oM 6 112] .ret []
abbrev u28_48:IC:=qS [oM 126 9,oM 127 1,oM 128 9,oH 129 128,oB 130 127 129 .add,oK 131 130 .add 1,oM 132 10,oH 133 132,oB 134 131 133 .add,oP 135 (.bld #[.int .i64 0,.int .i64 0] [(0,1),(1,1)] [(0,.k (.int .i64 13)),(1,.t 134)]),⟨some 136,.new (.bsl 2 1 #[.int .i64 0,.int .i64 0] [(0,.t 135)]),none⟩,oT 137 126 136 2 16,oM 138 10,oT 139 137 138 2 16,oM 6 139] .ret [1,9,10]
abbrev u28_47:IC:=qS [oM 117 0,oM 118 1,oM 119 9,oH 120 119,oB 121 118 120 .add,oK 122 121 .add 1,oM 123 2,oK 124 123 .sub 1,oC 125 28 [.t 117,.t 122,.t 124],oM 10 125] u28_48 [0,1,2,9]
abbrev u28_46:IC:=qS [oM 115 0,oC 116 52 [.t 115,.k (.int .i64 1)],oM 9 116] u28_47 [0,1,2]
abbrev u28_52:IC:=qE [oK 142 22 .eql 14,oM 140 142] [0,1,2,22]
abbrev u28_51:IC:=qK .skip u28_52 (.t 140) [0,1,2,22,140]
abbrev u28_50:IC:=qS [oK 141 22 .eql 13,oM 140 141] u28_51 [0,1,2,22]
abbrev u28_57:IC:=qS [oM 162 11,oM 163 13,oP 164 (.bld #[.int .i64 0,.int .i64 0] [(0,1),(1,1)] [(0,.k (.int .i64 14)),(1,.t 163)]),⟨some 165,.new (.bsl 2 1 #[.int .i64 0,.int .i64 0] [(0,.t 164)]),none⟩,oT 166 162 165 2 16,oM 167 12,oT 168 166 167 2 16,oM 169 1,oM 170 11,oH 171 170,oB 172 169 171 .add,oP 173 (.bld #[.int .i64 0,.int .i64 0] [(0,1),(1,1)] [(0,.k (.int .i64 12)),(1,.t 172)]),⟨some 174,.new (.bsl 2 1 #[.int .i64 0,.int .i64 0] [(0,.t 173)]),none⟩,oT 175 168 174 2 16,oM 6 175] .ret [1,11,12,13]
abbrev u28_56:IC:=qS [oM 154 1,oM 155 11,oH 156 155,oB 157 154 156 .add,oK 158 157 .add 2,oM 159 12,oH 160 159,oB 161 158 160 .add,oM 13 161] u28_57 [1,11,12]
abbrev u28_55:IC:=qS [oM 145 0,oM 146 1,oM 147 11,oH 148 147,oB 149 146 148 .add,oK 150 149 .add 1,oM 151 2,oK 152 151 .sub 1,oC 153 28 [.t 145,.t 150,.t 152],oM 12 153] u28_56 [0,1,2,11]
abbrev u28_54:IC:=qS [oM 143 0,oC 144 52 [.t 143,.k (.int .i64 0)],oM 11 144] u28_55 [0,1,2]
abbrev u28_53:IC:=qK u28_54 .skip (.t 140) [0,1,2,140]
abbrev u28_49:IC:=qQ u28_50 u28_53 [0,1,2,22]
abbrev u28_45:IC:=qK u28_46 u28_49 (.t 113) [0,1,2,22,113]
abbrev u28_44:IC:=qS [oK 114 22 .eql 12,oM 113 114] u28_45 [0,1,2,22]
abbrev u28_42:IC:=qK u28_43 u28_44 (.t 109) [0,1,2,22,109]
abbrev u28_41:IC:=qS [oK 110 22 .eql 11,oM 109 110] u28_42 [0,1,2,22]
abbrev u28_39:IC:=qK u28_40 u28_41 (.t 100) [0,1,2,22,100]
abbrev u28_38:IC:=qS [oK 101 22 .eql 10,oM 100 101] u28_39 [0,1,2,22]
abbrev u28_36:IC:=qK u28_37 u28_38 (.t 91) [0,1,2,22,91]
abbrev u28_35:IC:=qS [oK 92 22 .eql 9,oM 91 92] u28_36 [0,1,2,22]
abbrev u28_33:IC:=qK u28_34 u28_35 (.t 85) [0,1,2,22,85]
abbrev u28_32:IC:=qS [oK 86 22 .eql 8,oM 85 86] u28_33 [0,1,2,22]
abbrev u28_30:IC:=qK u28_31 u28_32 (.t 76) [0,1,2,22,76]
abbrev u28_29:IC:=qS [oK 77 22 .eql 7,oM 76 77] u28_30 [0,1,2,22]
abbrev u28_27:IC:=qK u28_28 u28_29 (.t 70) [0,1,2,22,70]
abbrev u28_26:IC:=qS [oK 71 22 .eql 6,oM 70 71] u28_27 [0,1,2,22]
abbrev u28_24:IC:=qK u28_25 u28_26 (.t 61) [0,1,2,22,61]
abbrev u28_23:IC:=qS [oK 62 22 .eql 5,oM 61 62] u28_24 [0,1,2,22]
abbrev u28_20:IC:=qK u28_21 u28_23 (.t 48) [0,1,2,22,48]
abbrev u28_19:IC:=qS [oK 49 22 .eql 4,oM 48 49] u28_20 [0,1,2,22]
abbrev u28_17:IC:=qK u28_18 u28_19 (.t 39) [0,1,2,22,39]
abbrev u28_16:IC:=qS [oK 40 22 .eql 3,oM 39 40] u28_17 [0,1,2,22]
abbrev u28_14:IC:=qK u28_15 u28_16 (.t 30) [0,1,2,22,30]
abbrev u28_13:IC:=qS [oK 31 22 .eql 2,oM 30 31] u28_14 [0,1,2,22]
abbrev u28_11:IC:=qK u28_12 u28_13 (.t 23) [0,1,2,22,23]
abbrev u28_10:IC:=qS [oK 24 22 .eql 1,oM 23 24] u28_11 [0,1,2,22]
abbrev u28_9:IC:=qJ u28_10 0 [0,1,2,22]
abbrev u28_8:IC:=qS [oM 22 7] u28_9 [0,1,2,7]
abbrev u28_58:IC:=qS [oM 176 0,oC 177 52 [.t 176,.k (.int .i64 2)],oM 178 0,oC 179 27 [.t 178,.k (.int .i64 3)],oP 180 (.bld #[.int .i64 0,.int .i64 0] [(0,1),(1,1)] [(0,.k (.int .i64 3)),(1,.t 179)]),⟨some 181,.new (.bsl 2 1 #[.int .i64 0,.int .i64 0] [(0,.t 180)]),none⟩,oT 182 177 181 2 16,oM 6 182] .ret [0]
abbrev u28_7:IC:=qQ u28_8 u28_58 [0,1,2,7]
abbrev u28_3:IC:=qQ u28_4 u28_7 [0,1,2,7]
abbrev u28_2:IC:=qS [oM 14 0,oC 15 27 [.t 14,.k (.int .i64 15)],oM 7 15] u28_3 [0,1,2]
abbrev u28_1:IC:=qS [oV 6 (.slice none 0 0)] u28_2 [0,1,2]
def u28:IFn:=⟨183,u28_1,[.tmp 6]⟩
end
theorem isU28:IsFn Tryd.prog 28 u28:=by unfold IsFn;kernel_rfl
theorem c_stmt (l:List UInt8) (hl:l.length≤100000):∀ (d:Nat),d≤2→∀ (base p:Nat),base+10 * d≤100000→p≤l.length→∀ (H:Hp) (cc t:Nat),H t=some (tapeB l p)→t<cc →
  AC Tryd.prog 28 [.ptr t 0,I64 (base:Int),I64 (d:Int)] H cc (fun v H' c' => ∃ id,cc≤id∧id<c'∧v=.slc id 0 (stmtM l d base p).1.length∧H'=(H.upd t (tapeB l (stmtM l d base p).2)).upd id ⟨2,true,insC (stmtM l d base p).1⟩):=by
 intro d
 induction d with
 | zero =>
  intro hd2 base p hbase hp H cc t ht htc
  refine AC.body mixedU isU28 (Nat.le_of_ble_eq_true rfl) fun hfr=>?_
  show IW Tryd.prog 183 u28_1 ⟨argT _,_,_⟩ (rt [.tmp 6] _)
  repeat' ((with_reducible first|refine wr ?_|refine wb2 ?_ ?_<;>(intro hb;try simp only [hb])|fail)<;>try simp only [go_sem,seval])
  refine AC.call (c_next l hl p hp 15 (by omega) (by omega) H cc t ht htc) ?_
  rintro v H' c1 ⟨rfl,rfl⟩ hcc
  have hp1:=nextM_le (n:=15) hp
  have hk:=nextM_lt (l:=l) (p:=p) (n:=15) (by omega)
  have hdl:decide (((0:Nat):Int)≤0)=true:=rfl
  obtain ⟨k0,p1,e0⟩:∃ k0 p1,nextM l p 15=(k0,p1):=⟨_,_,rfl⟩
  rw [e0] at hp1 hk ⊢
  simp only at hp1 hk
  have hv:k0=1∨k0=2∨k0=3∨k0=4∨k0=5∨k0=6∨k0=7∨k0=8∨k0=9∨k0=10∨k0=11∨k0=0∨k0=12∨k0=13∨k0=14:=by omega
  rcases hv with rfl|rfl|rfl|rfl|rfl|rfl|rfl|rfl|rfl|rfl|rfl|rfl|rfl|rfl|rfl
  ·have nk:((1:Nat):Int)=1:=rfl
   simp only [go_sem,seval,hdl,nk,Int.reduceGT,Int.reduceBEq,Int.reduceLE,decide_true,decide_false]
   repeat' ((with_reducible first|refine wr ?_|refine wb2 ?_ ?_<;>(intro hb;try simp only [hb])|fail)<;>try simp only [go_sem,seval,hdl,nk,Int.reduceGT,Int.reduceBEq,Int.reduceLE,decide_true,decide_false])
   refine AC.call (c_value l hl 1 (by omega) (p1) hp1 _ _ t (by repeat (first|exact h_same|rw [h_ne (by omega)]|rw [h_dne (by omega)])) (by omega)) ?_
   rintro v H' c2 ⟨id1,ia1,ib1,rfl,rfl⟩ hcc2
   have hb1:=valueM_l1 l (p1)
   have hp2:=valueM_le l 1 (p1) hp1
   have ne0:=nes4 t id1 c2 (c2+1) (by omega)
   simp only [go_sem,seval,ne0]
   repeat' ((first|(with_reducible first|refine wr ?_)|(with_reducible refine wb2 ?_ ?_<;>(intro hb;try simp only [hb]))|((with_reducible refine k_eval (b_appx (insC_len2 _) (by omega) (by omega)) ?_))|fail)<;>try simp only [go_sem,seval,ne0])
   have es:stmtM l 0 base p=stK l (fun _ p=>([],p)) base 1 p1:=by simp only [stmtM];rw [e0];try rfl
   rw [es]
   refine v_end (id:=c2+1) hfr (by omega) (by omega) htc (by first|rfl|simp only [stK,List.length_append,List.length_singleton]) ?_ ?_ fun j h1 h2=>?_
   ·repeat (first|exact h_same|rw [h_ne (by omega)]|rw [h_dne (by omega)])
   ·rw [h_same];simp only [stK,insC_app,insC_one]
   ·repeat (first|rfl|rw [h_ne (by omega)]|rw [h_dne (by omega)])
  ·have nk:((2:Nat):Int)=2:=rfl
   simp only [go_sem,seval,hdl,nk,Int.reduceGT,Int.reduceBEq,Int.reduceLE,decide_true,decide_false]
   repeat' ((with_reducible first|refine wr ?_|refine wb2 ?_ ?_<;>(intro hb;try simp only [hb])|fail)<;>try simp only [go_sem,seval,hdl,nk,Int.reduceGT,Int.reduceBEq,Int.reduceLE,decide_true,decide_false])
   refine AC.call (c_next l hl (p1) hp1 3 (by omega) (by omega) _ _ t (by repeat (first|exact h_same|rw [h_ne (by omega)]|rw [h_dne (by omega)])) (by omega)) ?_
   rintro v H' c2 ⟨rfl,rfl⟩ hcc2
   have hq2:=nextM_lt (l:=l) (p:=p1) (n:=3) (by omega)
   have hp2:=nextM_le (l:=l) (p:=p1) (n:=3) hp1
   have hadd:=w64 (n:=16+((nextM l p1 3).1:Int)) (by omega) (by omega)
   have ne0:=nes3 t c2 (c2+1) (by omega)
   simp only [go_sem,seval,hadd,ne0]
   repeat' ((first|(with_reducible first|refine wr ?_)|(with_reducible refine wb2 ?_ ?_<;>(intro hb;try simp only [hb]))|((with_reducible refine k_eval (b_appx (insC_len2 _) (by omega) (by omega)) ?_))|fail)<;>try simp only [go_sem,seval,hadd,ne0])
   refine AC.call (c_next l hl ((nextM l p1 3).2) hp2 32 (by omega) (by omega) _ _ t (by repeat (first|exact h_same|rw [h_ne (by omega)]|rw [h_dne (by omega)])) (by omega)) ?_
   rintro v H' c3 ⟨rfl,rfl⟩ hcc3
   have hq3:=nextM_lt (l:=l) (p:=(nextM l p1 3).2) (n:=32) (by omega)
   have hp3:=nextM_le (l:=l) (p:=(nextM l p1 3).2) (n:=32) hp2
   have ne0:=nes3 t c3 (c3+1) (by omega)
   simp only [go_sem,seval,hadd,ne0]
   repeat' ((first|(with_reducible first|refine wr ?_)|(with_reducible refine wb2 ?_ ?_<;>(intro hb;try simp only [hb]))|((with_reducible refine k_eval (b_appx (insC_len2 _) (by omega) (by omega)) ?_))|fail)<;>try simp only [go_sem,seval,hadd,ne0])
   have es:stmtM l 0 base p=stK l (fun _ p=>([],p)) base 2 p1:=by simp only [stmtM];rw [e0];try rfl
   rw [es]
   refine v_end (id:=c3) hfr (by omega) (by omega) htc (by first|rfl|simp only [stK,List.length_append,List.length_singleton]) ?_ ?_ fun j h1 h2=>?_
   ·repeat (first|exact h_same|rw [h_ne (by omega)]|rw [h_dne (by omega)])
   ·rw [h_same];simp only [stK,insC_app,insC_one]
   ·repeat (first|rfl|rw [h_ne (by omega)]|rw [h_dne (by omega)])
  ·have nk:((3:Nat):Int)=3:=rfl
   simp only [go_sem,seval,hdl,nk,Int.reduceGT,Int.reduceBEq,Int.reduceLE,decide_true,decide_false]
   repeat' ((with_reducible first|refine wr ?_|refine wb2 ?_ ?_<;>(intro hb;try simp only [hb])|fail)<;>try simp only [go_sem,seval,hdl,nk,Int.reduceGT,Int.reduceBEq,Int.reduceLE,decide_true,decide_false])
   refine AC.call (c_value l hl 0 (by omega) (p1) hp1 _ _ t (by repeat (first|exact h_same|rw [h_ne (by omega)]|rw [h_dne (by omega)])) (by omega)) ?_
   rintro v H' c2 ⟨id1,ia1,ib1,rfl,rfl⟩ hcc2
   have hb1:=valueM_l0 l (p1)
   have hp2:=valueM_le l 0 (p1) hp1
   have ne0:=nes4 t id1 c2 (c2+1) (by omega)
   simp only [go_sem,seval,ne0]
   repeat' ((first|(with_reducible first|refine wr ?_)|(with_reducible refine wb2 ?_ ?_<;>(intro hb;try simp only [hb]))|((with_reducible refine k_eval (b_appx (insC_len2 _) (by omega) (by omega)) ?_))|fail)<;>try simp only [go_sem,seval,ne0])
   refine AC.call (c_next l hl ((valueM l 0 p1).2) hp2 64 (by omega) (by omega) _ _ t (by repeat (first|exact h_same|rw [h_ne (by omega)]|rw [h_dne (by omega)])) (by omega)) ?_
   rintro v H' c3 ⟨rfl,rfl⟩ hcc3
   have hq3:=nextM_lt (l:=l) (p:=(valueM l 0 p1).2) (n:=64) (by omega)
   have hp3:=nextM_le (l:=l) (p:=(valueM l 0 p1).2) (n:=64) hp2
   have ne0:=nes4 t id1 c3 (c3+1) (by omega)
   simp only [go_sem,seval,ne0]
   repeat' ((first|(with_reducible first|refine wr ?_)|(with_reducible refine wb2 ?_ ?_<;>(intro hb;try simp only [hb]))|((with_reducible refine k_eval (b_appx (insC_len2 _) (by omega) (by omega)) ?_))|fail)<;>try simp only [go_sem,seval,ne0])
   have es:stmtM l 0 base p=stK l (fun _ p=>([],p)) base 3 p1:=by simp only [stmtM];rw [e0];try rfl
   rw [es]
   refine v_end (id:=c3+1) hfr (by omega) (by omega) htc (by first|rfl|simp only [stK,List.length_append,List.length_singleton]) ?_ ?_ fun j h1 h2=>?_
   ·repeat (first|exact h_same|rw [h_ne (by omega)]|rw [h_dne (by omega)])
   ·rw [h_same];simp only [stK,insC_app,insC_one]
   ·repeat (first|rfl|rw [h_ne (by omega)]|rw [h_dne (by omega)])
  ·have nk:((4:Nat):Int)=4:=rfl
   simp only [go_sem,seval,hdl,nk,Int.reduceGT,Int.reduceBEq,Int.reduceLE,decide_true,decide_false]
   repeat' ((with_reducible first|refine wr ?_|refine wb2 ?_ ?_<;>(intro hb;try simp only [hb])|fail)<;>try simp only [go_sem,seval,hdl,nk,Int.reduceGT,Int.reduceBEq,Int.reduceLE,decide_true,decide_false])
   refine AC.call (c_value l hl 0 (by omega) (p1) hp1 _ _ t (by repeat (first|exact h_same|rw [h_ne (by omega)]|rw [h_dne (by omega)])) (by omega)) ?_
   rintro v H' c2 ⟨id1,ia1,ib1,rfl,rfl⟩ hcc2
   have hb1:=valueM_l0 l (p1)
   have hp2:=valueM_le l 0 (p1) hp1
   have ne0:=nes4 t id1 c2 (c2+1) (by omega)
   simp only [go_sem,seval,ne0]
   repeat' ((first|(with_reducible first|refine wr ?_)|(with_reducible refine wb2 ?_ ?_<;>(intro hb;try simp only [hb]))|((with_reducible refine k_eval (b_appx (insC_len2 _) (by omega) (by omega)) ?_))|fail)<;>try simp only [go_sem,seval,ne0])
   refine AC.call (c_value l hl 0 (by omega) ((valueM l 0 p1).2) hp2 _ _ t (by repeat (first|exact h_same|rw [h_ne (by omega)]|rw [h_dne (by omega)])) (by omega)) ?_
   rintro v H' c3 ⟨id2,ia2,ib2,rfl,rfl⟩ hcc3
   have hb2:=valueM_l0 l ((valueM l 0 p1).2)
   have hp3:=valueM_le l 0 ((valueM l 0 p1).2) hp2
   have hl2:=insC_len2 (valueM l 0 ((valueM l 0 p1).2)).1
   have hle2:(valueM l 0 ((valueM l 0 p1).2)).1.length * 2≤(insC (valueM l 0 ((valueM l 0 p1).2)).1).length:=by omega
   have htk:=List.take_of_length_le (l:=insC (valueM l 0 ((valueM l 0 p1).2)).1) (i:=(valueM l 0 ((valueM l 0 p1).2)).1.length * 2) (by omega)
   have ne0:=nes5 t id1 id2 c3 (c3+1) (by omega)
   simp only [go_sem,seval,hle2,htk,ne0]
   repeat' ((first|(with_reducible first|refine wr ?_)|(with_reducible refine wb2 ?_ ?_<;>(intro hb;try simp only [hb]))|((with_reducible refine k_eval (b_appx (insC_len2 _) (by omega) (by omega)) ?_))|fail)<;>try simp only [go_sem,seval,hle2,htk,ne0])
   refine AC.call (c_next l hl ((valueM l 0 ((valueM l 0 p1).2)).2) hp3 64 (by omega) (by omega) _ _ t (by repeat (first|exact h_same|rw [h_ne (by omega)]|rw [h_dne (by omega)])) (by omega)) ?_
   rintro v H' c4 ⟨rfl,rfl⟩ hcc4
   have hq4:=nextM_lt (l:=l) (p:=(valueM l 0 ((valueM l 0 p1).2)).2) (n:=64) (by omega)
   have hp4:=nextM_le (l:=l) (p:=(valueM l 0 ((valueM l 0 p1).2)).2) (n:=64) hp3
   have hl3:=insL2 (valueM l 0 p1).1 (valueM l 0 ((valueM l 0 p1).2)).1
   have ne0:=nes4 t c3 c4 (c4+1) (by omega)
   simp only [go_sem,seval,ne0]
   repeat' ((first|(with_reducible first|refine wr ?_)|(with_reducible refine wb2 ?_ ?_<;>(intro hb;try simp only [hb]))|((with_reducible refine k_eval (b_appx (insC_len2 _) (by omega) (by omega)) ?_))|((with_reducible refine k_eval (b_appx hl3 (by omega) (by omega)) ?_))|fail)<;>try simp only [go_sem,seval,ne0])
   have es:stmtM l 0 base p=stK l (fun _ p=>([],p)) base 4 p1:=by simp only [stmtM];rw [e0];try rfl
   rw [es]
   refine v_end (id:=c4+1) hfr (by omega) (by omega) htc (by first|rfl|simp only [stK,List.length_append,List.length_singleton]) ?_ ?_ fun j h1 h2=>?_
   ·repeat (first|exact h_same|rw [h_ne (by omega)]|rw [h_dne (by omega)])
   ·rw [h_same];simp only [stK,insC_app,insC_one]
   ·repeat (first|rfl|rw [h_ne (by omega)]|rw [h_dne (by omega)])
  ·have nk:((5:Nat):Int)=5:=rfl
   simp only [go_sem,seval,hdl,nk,Int.reduceGT,Int.reduceBEq,Int.reduceLE,decide_true,decide_false]
   repeat' ((with_reducible first|refine wr ?_|refine wb2 ?_ ?_<;>(intro hb;try simp only [hb])|fail)<;>try simp only [go_sem,seval,hdl,nk,Int.reduceGT,Int.reduceBEq,Int.reduceLE,decide_true,decide_false])
   refine AC.call (c_value l hl 1 (by omega) (p1) hp1 _ _ t (by repeat (first|exact h_same|rw [h_ne (by omega)]|rw [h_dne (by omega)])) (by omega)) ?_
   rintro v H' c2 ⟨id1,ia1,ib1,rfl,rfl⟩ hcc2
   have hb1:=valueM_l1 l (p1)
   have hp2:=valueM_le l 1 (p1) hp1
   have ne0:=nes4 t id1 c2 (c2+1) (by omega)
   simp only [go_sem,seval,ne0]
   repeat' ((first|(with_reducible first|refine wr ?_)|(with_reducible refine wb2 ?_ ?_<;>(intro hb;try simp only [hb]))|((with_reducible refine k_eval (b_appx (insC_len2 _) (by omega) (by omega)) ?_))|fail)<;>try simp only [go_sem,seval,ne0])
   refine AC.call (c_next l hl ((valueM l 1 p1).2) hp2 2 (by omega) (by omega) _ _ t (by repeat (first|exact h_same|rw [h_ne (by omega)]|rw [h_dne (by omega)])) (by omega)) ?_
   rintro v H' c3 ⟨rfl,rfl⟩ hcc3
   have hq3:=nextM_lt (l:=l) (p:=(valueM l 1 p1).2) (n:=2) (by omega)
   have hp3:=nextM_le (l:=l) (p:=(valueM l 1 p1).2) (n:=2) hp2
   have ne0:=nes4 t id1 c3 (c3+1) (by omega)
   simp only [go_sem,seval,ne0]
   repeat' ((first|(with_reducible first|refine wr ?_)|(with_reducible refine wb2 ?_ ?_<;>(intro hb;try simp only [hb]))|((with_reducible refine k_eval (b_appx (insC_len2 _) (by omega) (by omega)) ?_))|fail)<;>try simp only [go_sem,seval,ne0])
   have es:stmtM l 0 base p=stK l (fun _ p=>([],p)) base 5 p1:=by simp only [stmtM];rw [e0];try rfl
   rw [es]
   refine v_end (id:=c3+1) hfr (by omega) (by omega) htc (by first|rfl|simp only [stK,List.length_append,List.length_singleton]) ?_ ?_ fun j h1 h2=>?_
   ·repeat (first|exact h_same|rw [h_ne (by omega)]|rw [h_dne (by omega)])
   ·rw [h_same];simp only [stK,insC_app,insC_one]
   ·repeat (first|rfl|rw [h_ne (by omega)]|rw [h_dne (by omega)])
  ·have nk:((6:Nat):Int)=6:=rfl
   simp only [go_sem,seval,hdl,nk,Int.reduceGT,Int.reduceBEq,Int.reduceLE,decide_true,decide_false]
   repeat' ((with_reducible first|refine wr ?_|refine wb2 ?_ ?_<;>(intro hb;try simp only [hb])|fail)<;>try simp only [go_sem,seval,hdl,nk,Int.reduceGT,Int.reduceBEq,Int.reduceLE,decide_true,decide_false])
   refine AC.call (c_next l hl (p1) hp1 2 (by omega) (by omega) _ _ t (by repeat (first|exact h_same|rw [h_ne (by omega)]|rw [h_dne (by omega)])) (by omega)) ?_
   rintro v H' c2 ⟨rfl,rfl⟩ hcc2
   have hq2:=nextM_lt (l:=l) (p:=p1) (n:=2) (by omega)
   have hp2:=nextM_le (l:=l) (p:=p1) (n:=2) hp1
   have ne0:=nes3 t c2 (c2+1) (by omega)
   simp only [go_sem,seval,ne0]
   repeat' ((first|(with_reducible first|refine wr ?_)|(with_reducible refine wb2 ?_ ?_<;>(intro hb;try simp only [hb]))|((with_reducible refine k_eval (b_appx (insC_len2 _) (by omega) (by omega)) ?_))|fail)<;>try simp only [go_sem,seval,ne0])
   have es:stmtM l 0 base p=stK l (fun _ p=>([],p)) base 6 p1:=by simp only [stmtM];rw [e0];try rfl
   rw [es]
   refine v_end (id:=c2) hfr (by omega) (by omega) htc (by first|rfl|simp only [stK,List.length_append,List.length_singleton]) ?_ ?_ fun j h1 h2=>?_
   ·repeat (first|exact h_same|rw [h_ne (by omega)]|rw [h_dne (by omega)])
   ·rw [h_same];simp only [stK,insC_app,insC_one]
   ·repeat (first|rfl|rw [h_ne (by omega)]|rw [h_dne (by omega)])
  ·have nk:((7:Nat):Int)=7:=rfl
   simp only [go_sem,seval,hdl,nk,Int.reduceGT,Int.reduceBEq,Int.reduceLE,decide_true,decide_false]
   repeat' ((with_reducible first|refine wr ?_|refine wb2 ?_ ?_<;>(intro hb;try simp only [hb])|fail)<;>try simp only [go_sem,seval,hdl,nk,Int.reduceGT,Int.reduceBEq,Int.reduceLE,decide_true,decide_false])
   refine AC.call (c_next l hl (p1) hp1 2 (by omega) (by omega) _ _ t (by repeat (first|exact h_same|rw [h_ne (by omega)]|rw [h_dne (by omega)])) (by omega)) ?_
   rintro v H' c2 ⟨rfl,rfl⟩ hcc2
   have hq2:=nextM_lt (l:=l) (p:=p1) (n:=2) (by omega)
   have hp2:=nextM_le (l:=l) (p:=p1) (n:=2) hp1
   have hadd:=w64 (n:=23+((nextM l p1 2).1:Int)) (by omega) (by omega)
   have ne0:=nes3 t c2 (c2+1) (by omega)
   simp only [go_sem,seval,hadd,ne0]
   repeat' ((first|(with_reducible first|refine wr ?_)|(with_reducible refine wb2 ?_ ?_<;>(intro hb;try simp only [hb]))|((with_reducible refine k_eval (b_appx (insC_len2 _) (by omega) (by omega)) ?_))|fail)<;>try simp only [go_sem,seval,hadd,ne0])
   refine AC.call (c_next l hl ((nextM l p1 2).2) hp2 2 (by omega) (by omega) _ _ t (by repeat (first|exact h_same|rw [h_ne (by omega)]|rw [h_dne (by omega)])) (by omega)) ?_
   rintro v H' c3 ⟨rfl,rfl⟩ hcc3
   have hq3:=nextM_lt (l:=l) (p:=(nextM l p1 2).2) (n:=2) (by omega)
   have hp3:=nextM_le (l:=l) (p:=(nextM l p1 2).2) (n:=2) hp2
   have ne0:=nes3 t c3 (c3+1) (by omega)
   simp only [go_sem,seval,hadd,ne0]
   repeat' ((first|(with_reducible first|refine wr ?_)|(with_reducible refine wb2 ?_ ?_<;>(intro hb;try simp only [hb]))|((with_reducible refine k_eval (b_appx (insC_len2 _) (by omega) (by omega)) ?_))|fail)<;>try simp only [go_sem,seval,hadd,ne0])
   have es:stmtM l 0 base p=stK l (fun _ p=>([],p)) base 7 p1:=by simp only [stmtM];rw [e0];try rfl
   rw [es]
   refine v_end (id:=c3) hfr (by omega) (by omega) htc (by first|rfl|simp only [stK,List.length_append,List.length_singleton]) ?_ ?_ fun j h1 h2=>?_
   ·repeat (first|exact h_same|rw [h_ne (by omega)]|rw [h_dne (by omega)])
   ·rw [h_same];simp only [stK,insC_app,insC_one]
   ·repeat (first|rfl|rw [h_ne (by omega)]|rw [h_dne (by omega)])
  ·have nk:((8:Nat):Int)=8:=rfl
   simp only [go_sem,seval,hdl,nk,Int.reduceGT,Int.reduceBEq,Int.reduceLE,decide_true,decide_false]
   repeat' ((with_reducible first|refine wr ?_|refine wb2 ?_ ?_<;>(intro hb;try simp only [hb])|fail)<;>try simp only [go_sem,seval,hdl,nk,Int.reduceGT,Int.reduceBEq,Int.reduceLE,decide_true,decide_false])
   refine AC.call (c_next l hl (p1) hp1 2 (by omega) (by omega) _ _ t (by repeat (first|exact h_same|rw [h_ne (by omega)]|rw [h_dne (by omega)])) (by omega)) ?_
   rintro v H' c2 ⟨rfl,rfl⟩ hcc2
   have hq2:=nextM_lt (l:=l) (p:=p1) (n:=2) (by omega)
   have hp2:=nextM_le (l:=l) (p:=p1) (n:=2) hp1
   have ne0:=nes3 t c2 (c2+1) (by omega)
   simp only [go_sem,seval,ne0]
   repeat' ((first|(with_reducible first|refine wr ?_)|(with_reducible refine wb2 ?_ ?_<;>(intro hb;try simp only [hb]))|((with_reducible refine k_eval (b_appx (insC_len2 _) (by omega) (by omega)) ?_))|fail)<;>try simp only [go_sem,seval,ne0])
   have es:stmtM l 0 base p=stK l (fun _ p=>([],p)) base 8 p1:=by simp only [stmtM];rw [e0];try rfl
   rw [es]
   refine v_end (id:=c2) hfr (by omega) (by omega) htc (by first|rfl|simp only [stK,List.length_append,List.length_singleton]) ?_ ?_ fun j h1 h2=>?_
   ·repeat (first|exact h_same|rw [h_ne (by omega)]|rw [h_dne (by omega)])
   ·rw [h_same];simp only [stK,insC_app,insC_one]
   ·repeat (first|rfl|rw [h_ne (by omega)]|rw [h_dne (by omega)])
  ·have nk:((9:Nat):Int)=9:=rfl
   simp only [go_sem,seval,hdl,nk,Int.reduceGT,Int.reduceBEq,Int.reduceLE,decide_true,decide_false]
   repeat' ((with_reducible first|refine wr ?_|refine wb2 ?_ ?_<;>(intro hb;try simp only [hb])|fail)<;>try simp only [go_sem,seval,hdl,nk,Int.reduceGT,Int.reduceBEq,Int.reduceLE,decide_true,decide_false])
   refine AC.call (c_next l hl (p1) hp1 3 (by omega) (by omega) _ _ t (by repeat (first|exact h_same|rw [h_ne (by omega)]|rw [h_dne (by omega)])) (by omega)) ?_
   rintro v H' c2 ⟨rfl,rfl⟩ hcc2
   have hq2:=nextM_lt (l:=l) (p:=p1) (n:=3) (by omega)
   have hp2:=nextM_le (l:=l) (p:=p1) (n:=3) hp1
   have hadd:=w64 (n:=26+((nextM l p1 3).1:Int)) (by omega) (by omega)
   have ne0:=nes3 t c2 (c2+1) (by omega)
   simp only [go_sem,seval,hadd,ne0]
   repeat' ((first|(with_reducible first|refine wr ?_)|(with_reducible refine wb2 ?_ ?_<;>(intro hb;try simp only [hb]))|((with_reducible refine k_eval (b_appx (insC_len2 _) (by omega) (by omega)) ?_))|fail)<;>try simp only [go_sem,seval,hadd,ne0])
   refine AC.call (c_next l hl ((nextM l p1 3).2) hp2 64 (by omega) (by omega) _ _ t (by repeat (first|exact h_same|rw [h_ne (by omega)]|rw [h_dne (by omega)])) (by omega)) ?_
   rintro v H' c3 ⟨rfl,rfl⟩ hcc3
   have hq3:=nextM_lt (l:=l) (p:=(nextM l p1 3).2) (n:=64) (by omega)
   have hp3:=nextM_le (l:=l) (p:=(nextM l p1 3).2) (n:=64) hp2
   have ne0:=nes3 t c3 (c3+1) (by omega)
   simp only [go_sem,seval,hadd,ne0]
   repeat' ((first|(with_reducible first|refine wr ?_)|(with_reducible refine wb2 ?_ ?_<;>(intro hb;try simp only [hb]))|((with_reducible refine k_eval (b_appx (insC_len2 _) (by omega) (by omega)) ?_))|fail)<;>try simp only [go_sem,seval,hadd,ne0])
   have es:stmtM l 0 base p=stK l (fun _ p=>([],p)) base 9 p1:=by simp only [stmtM];rw [e0];try rfl
   rw [es]
   refine v_end (id:=c3) hfr (by omega) (by omega) htc (by first|rfl|simp only [stK,List.length_append,List.length_singleton]) ?_ ?_ fun j h1 h2=>?_
   ·repeat (first|exact h_same|rw [h_ne (by omega)]|rw [h_dne (by omega)])
   ·rw [h_same];simp only [stK,insC_app,insC_one]
   ·repeat (first|rfl|rw [h_ne (by omega)]|rw [h_dne (by omega)])
  ·have nk:((10:Nat):Int)=10:=rfl
   simp only [go_sem,seval,hdl,nk,Int.reduceGT,Int.reduceBEq,Int.reduceLE,decide_true,decide_false]
   repeat' ((with_reducible first|refine wr ?_|refine wb2 ?_ ?_<;>(intro hb;try simp only [hb])|fail)<;>try simp only [go_sem,seval,hdl,nk,Int.reduceGT,Int.reduceBEq,Int.reduceLE,decide_true,decide_false])
   refine AC.call (c_value l hl 1 (by omega) (p1) hp1 _ _ t (by repeat (first|exact h_same|rw [h_ne (by omega)]|rw [h_dne (by omega)])) (by omega)) ?_
   rintro v H' c2 ⟨id1,ia1,ib1,rfl,rfl⟩ hcc2
   have hb1:=valueM_l1 l (p1)
   have hp2:=valueM_le l 1 (p1) hp1
   have ne0:=nes4 t id1 c2 (c2+1) (by omega)
   simp only [go_sem,seval,ne0]
   repeat' ((first|(with_reducible first|refine wr ?_)|(with_reducible refine wb2 ?_ ?_<;>(intro hb;try simp only [hb]))|((with_reducible refine k_eval (b_appx (insC_len2 _) (by omega) (by omega)) ?_))|fail)<;>try simp only [go_sem,seval,ne0])
   refine AC.call (c_next l hl ((valueM l 1 p1).2) hp2 2 (by omega) (by omega) _ _ t (by repeat (first|exact h_same|rw [h_ne (by omega)]|rw [h_dne (by omega)])) (by omega)) ?_
   rintro v H' c3 ⟨rfl,rfl⟩ hcc3
   have hq3:=nextM_lt (l:=l) (p:=(valueM l 1 p1).2) (n:=2) (by omega)
   have hp3:=nextM_le (l:=l) (p:=(valueM l 1 p1).2) (n:=2) hp2
   have ne0:=nes4 t id1 c3 (c3+1) (by omega)
   simp only [go_sem,seval,ne0]
   repeat' ((first|(with_reducible first|refine wr ?_)|(with_reducible refine wb2 ?_ ?_<;>(intro hb;try simp only [hb]))|((with_reducible refine k_eval (b_appx (insC_len2 _) (by omega) (by omega)) ?_))|fail)<;>try simp only [go_sem,seval,ne0])
   have es:stmtM l 0 base p=stK l (fun _ p=>([],p)) base 10 p1:=by simp only [stmtM];rw [e0];try rfl
   rw [es]
   refine v_end (id:=c3+1) hfr (by omega) (by omega) htc (by first|rfl|simp only [stK,List.length_append,List.length_singleton]) ?_ ?_ fun j h1 h2=>?_
   ·repeat (first|exact h_same|rw [h_ne (by omega)]|rw [h_dne (by omega)])
   ·rw [h_same];simp only [stK,insC_app,insC_one]
   ·repeat (first|rfl|rw [h_ne (by omega)]|rw [h_dne (by omega)])
  ·have nk:((11:Nat):Int)=11:=rfl
   simp only [go_sem,seval,hdl,nk,Int.reduceGT,Int.reduceBEq,Int.reduceLE,decide_true,decide_false]
   repeat' ((with_reducible first|refine wr ?_|refine wb2 ?_ ?_<;>(intro hb;try simp only [hb])|fail)<;>try simp only [go_sem,seval,hdl,nk,Int.reduceGT,Int.reduceBEq,Int.reduceLE,decide_true,decide_false])
   have es:stmtM l 0 base p=stK l (fun _ p=>([],p)) base 11 p1:=by simp only [stmtM];rw [e0];try rfl
   rw [es]
   refine v_end (id:=c1) hfr (by omega) (by omega) htc (by first|rfl|simp only [stK,List.length_append,List.length_singleton]) ?_ ?_ fun j h1 h2=>?_
   ·repeat (first|exact h_same|rw [h_ne (by omega)]|rw [h_dne (by omega)])
   ·rw [h_same];simp only [stK,insC_app,insC_one]
   ·repeat (first|rfl|rw [h_ne (by omega)]|rw [h_dne (by omega)])
  ·have nk:((0:Nat):Int)=0:=rfl
   simp only [go_sem,seval,hdl,nk,Int.reduceGT,Int.reduceBEq,Int.reduceLE,decide_true,decide_false]
   repeat' ((with_reducible first|refine wr ?_|refine wb2 ?_ ?_<;>(intro hb;try simp only [hb])|fail)<;>try simp only [go_sem,seval,hdl,nk,Int.reduceGT,Int.reduceBEq,Int.reduceLE,decide_true,decide_false])
   refine AC.call (c_value l hl 2 (by omega) (p1) hp1 _ _ t (by repeat (first|exact h_same|rw [h_ne (by omega)]|rw [h_dne (by omega)])) (by omega)) ?_
   rintro v H' c2 ⟨id1,ia1,ib1,rfl,rfl⟩ hcc2
   have hb1:=valueM_l2 l (p1)
   have hp2:=valueM_le l 2 (p1) hp1
   have ne0:=nes4 t id1 c2 (c2+1) (by omega)
   simp only [go_sem,seval,ne0]
   repeat' ((first|(with_reducible first|refine wr ?_)|(with_reducible refine wb2 ?_ ?_<;>(intro hb;try simp only [hb]))|((with_reducible refine k_eval (b_appx (insC_len2 _) (by omega) (by omega)) ?_))|fail)<;>try simp only [go_sem,seval,ne0])
   refine AC.call (c_next l hl ((valueM l 2 p1).2) hp2 3 (by omega) (by omega) _ _ t (by repeat (first|exact h_same|rw [h_ne (by omega)]|rw [h_dne (by omega)])) (by omega)) ?_
   rintro v H' c3 ⟨rfl,rfl⟩ hcc3
   have hq3:=nextM_lt (l:=l) (p:=(valueM l 2 p1).2) (n:=3) (by omega)
   have hp3:=nextM_le (l:=l) (p:=(valueM l 2 p1).2) (n:=3) hp2
   have ne0:=nes4 t id1 c3 (c3+1) (by omega)
   simp only [go_sem,seval,ne0]
   repeat' ((first|(with_reducible first|refine wr ?_)|(with_reducible refine wb2 ?_ ?_<;>(intro hb;try simp only [hb]))|((with_reducible refine k_eval (b_appx (insC_len2 _) (by omega) (by omega)) ?_))|fail)<;>try simp only [go_sem,seval,ne0])
   have es:stmtM l 0 base p=stK l (fun _ p=>([],p)) base 0 p1:=by simp only [stmtM];rw [e0];try rfl
   rw [es]
   refine v_end (id:=c3+1) hfr (by omega) (by omega) htc (by first|rfl|simp only [stK,List.length_append,List.length_singleton]) ?_ ?_ fun j h1 h2=>?_
   ·repeat (first|exact h_same|rw [h_ne (by omega)]|rw [h_dne (by omega)])
   ·rw [h_same];simp only [stK,insC_app,insC_one]
   ·repeat (first|rfl|rw [h_ne (by omega)]|rw [h_dne (by omega)])
  ·have nk:((12:Nat):Int)=12:=rfl
   simp only [go_sem,seval,hdl,nk,Int.reduceGT,Int.reduceBEq,Int.reduceLE,decide_true,decide_false]
   repeat' ((with_reducible first|refine wr ?_|refine wb2 ?_ ?_<;>(intro hb;try simp only [hb])|fail)<;>try simp only [go_sem,seval,hdl,nk,Int.reduceGT,Int.reduceBEq,Int.reduceLE,decide_true,decide_false])
   refine AC.call (c_value l hl 2 (by omega) (p1) hp1 _ _ t (by repeat (first|exact h_same|rw [h_ne (by omega)]|rw [h_dne (by omega)])) (by omega)) ?_
   rintro v H' c2 ⟨id1,ia1,ib1,rfl,rfl⟩ hcc2
   have hb1:=valueM_l2 l (p1)
   have hp2:=valueM_le l 2 (p1) hp1
   have ne0:=nes4 t id1 c2 (c2+1) (by omega)
   simp only [go_sem,seval,ne0]
   repeat' ((first|(with_reducible first|refine wr ?_)|(with_reducible refine wb2 ?_ ?_<;>(intro hb;try simp only [hb]))|((with_reducible refine k_eval (b_appx (insC_len2 _) (by omega) (by omega)) ?_))|fail)<;>try simp only [go_sem,seval,ne0])
   refine AC.call (c_next l hl ((valueM l 2 p1).2) hp2 3 (by omega) (by omega) _ _ t (by repeat (first|exact h_same|rw [h_ne (by omega)]|rw [h_dne (by omega)])) (by omega)) ?_
   rintro v H' c3 ⟨rfl,rfl⟩ hcc3
   have hq3:=nextM_lt (l:=l) (p:=(valueM l 2 p1).2) (n:=3) (by omega)
   have hp3:=nextM_le (l:=l) (p:=(valueM l 2 p1).2) (n:=3) hp2
   have ne0:=nes4 t id1 c3 (c3+1) (by omega)
   simp only [go_sem,seval,ne0]
   repeat' ((first|(with_reducible first|refine wr ?_)|(with_reducible refine wb2 ?_ ?_<;>(intro hb;try simp only [hb]))|((with_reducible refine k_eval (b_appx (insC_len2 _) (by omega) (by omega)) ?_))|fail)<;>try simp only [go_sem,seval,ne0])
   have es:stmtM l 0 base p=stK l (fun _ p=>([],p)) base 0 p1:=by simp only [stmtM];rw [e0];try rfl
   rw [es]
   refine v_end (id:=c3+1) hfr (by omega) (by omega) htc (by first|rfl|simp only [stK,List.length_append,List.length_singleton]) ?_ ?_ fun j h1 h2=>?_
   ·repeat (first|exact h_same|rw [h_ne (by omega)]|rw [h_dne (by omega)])
   ·rw [h_same];simp only [stK,insC_app,insC_one]
   ·repeat (first|rfl|rw [h_ne (by omega)]|rw [h_dne (by omega)])
  ·have nk:((13:Nat):Int)=13:=rfl
   simp only [go_sem,seval,hdl,nk,Int.reduceGT,Int.reduceBEq,Int.reduceLE,decide_true,decide_false]
   repeat' ((with_reducible first|refine wr ?_|refine wb2 ?_ ?_<;>(intro hb;try simp only [hb])|fail)<;>try simp only [go_sem,seval,hdl,nk,Int.reduceGT,Int.reduceBEq,Int.reduceLE,decide_true,decide_false])
   refine AC.call (c_value l hl 2 (by omega) (p1) hp1 _ _ t (by repeat (first|exact h_same|rw [h_ne (by omega)]|rw [h_dne (by omega)])) (by omega)) ?_
   rintro v H' c2 ⟨id1,ia1,ib1,rfl,rfl⟩ hcc2
   have hb1:=valueM_l2 l (p1)
   have hp2:=valueM_le l 2 (p1) hp1
   have ne0:=nes4 t id1 c2 (c2+1) (by omega)
   simp only [go_sem,seval,ne0]
   repeat' ((first|(with_reducible first|refine wr ?_)|(with_reducible refine wb2 ?_ ?_<;>(intro hb;try simp only [hb]))|((with_reducible refine k_eval (b_appx (insC_len2 _) (by omega) (by omega)) ?_))|fail)<;>try simp only [go_sem,seval,ne0])
   refine AC.call (c_next l hl ((valueM l 2 p1).2) hp2 3 (by omega) (by omega) _ _ t (by repeat (first|exact h_same|rw [h_ne (by omega)]|rw [h_dne (by omega)])) (by omega)) ?_
   rintro v H' c3 ⟨rfl,rfl⟩ hcc3
   have hq3:=nextM_lt (l:=l) (p:=(valueM l 2 p1).2) (n:=3) (by omega)
   have hp3:=nextM_le (l:=l) (p:=(valueM l 2 p1).2) (n:=3) hp2
   have ne0:=nes4 t id1 c3 (c3+1) (by omega)
   simp only [go_sem,seval,ne0]
   repeat' ((first|(with_reducible first|refine wr ?_)|(with_reducible refine wb2 ?_ ?_<;>(intro hb;try simp only [hb]))|((with_reducible refine k_eval (b_appx (insC_len2 _) (by omega) (by omega)) ?_))|fail)<;>try simp only [go_sem,seval,ne0])
   have es:stmtM l 0 base p=stK l (fun _ p=>([],p)) base 0 p1:=by simp only [stmtM];rw [e0];try rfl
   rw [es]
   refine v_end (id:=c3+1) hfr (by omega) (by omega) htc (by first|rfl|simp only [stK,List.length_append,List.length_singleton]) ?_ ?_ fun j h1 h2=>?_
   ·repeat (first|exact h_same|rw [h_ne (by omega)]|rw [h_dne (by omega)])
   ·rw [h_same];simp only [stK,insC_app,insC_one]
   ·repeat (first|rfl|rw [h_ne (by omega)]|rw [h_dne (by omega)])
  ·have nk:((14:Nat):Int)=14:=rfl
   simp only [go_sem,seval,hdl,nk,Int.reduceGT,Int.reduceBEq,Int.reduceLE,decide_true,decide_false]
   repeat' ((with_reducible first|refine wr ?_|refine wb2 ?_ ?_<;>(intro hb;try simp only [hb])|fail)<;>try simp only [go_sem,seval,hdl,nk,Int.reduceGT,Int.reduceBEq,Int.reduceLE,decide_true,decide_false])
   refine AC.call (c_value l hl 2 (by omega) (p1) hp1 _ _ t (by repeat (first|exact h_same|rw [h_ne (by omega)]|rw [h_dne (by omega)])) (by omega)) ?_
   rintro v H' c2 ⟨id1,ia1,ib1,rfl,rfl⟩ hcc2
   have hb1:=valueM_l2 l (p1)
   have hp2:=valueM_le l 2 (p1) hp1
   have ne0:=nes4 t id1 c2 (c2+1) (by omega)
   simp only [go_sem,seval,ne0]
   repeat' ((first|(with_reducible first|refine wr ?_)|(with_reducible refine wb2 ?_ ?_<;>(intro hb;try simp only [hb]))|((with_reducible refine k_eval (b_appx (insC_len2 _) (by omega) (by omega)) ?_))|fail)<;>try simp only [go_sem,seval,ne0])
   refine AC.call (c_next l hl ((valueM l 2 p1).2) hp2 3 (by omega) (by omega) _ _ t (by repeat (first|exact h_same|rw [h_ne (by omega)]|rw [h_dne (by omega)])) (by omega)) ?_
   rintro v H' c3 ⟨rfl,rfl⟩ hcc3
   have hq3:=nextM_lt (l:=l) (p:=(valueM l 2 p1).2) (n:=3) (by omega)
   have hp3:=nextM_le (l:=l) (p:=(valueM l 2 p1).2) (n:=3) hp2
   have ne0:=nes4 t id1 c3 (c3+1) (by omega)
   simp only [go_sem,seval,ne0]
   repeat' ((first|(with_reducible first|refine wr ?_)|(with_reducible refine wb2 ?_ ?_<;>(intro hb;try simp only [hb]))|((with_reducible refine k_eval (b_appx (insC_len2 _) (by omega) (by omega)) ?_))|fail)<;>try simp only [go_sem,seval,ne0])
   have es:stmtM l 0 base p=stK l (fun _ p=>([],p)) base 0 p1:=by simp only [stmtM];rw [e0];try rfl
   rw [es]
   refine v_end (id:=c3+1) hfr (by omega) (by omega) htc (by first|rfl|simp only [stK,List.length_append,List.length_singleton]) ?_ ?_ fun j h1 h2=>?_
   ·repeat (first|exact h_same|rw [h_ne (by omega)]|rw [h_dne (by omega)])
   ·rw [h_same];simp only [stK,insC_app,insC_one]
   ·repeat (first|rfl|rw [h_ne (by omega)]|rw [h_dne (by omega)])
 | succ d ih =>
  intro hd2 base p hbase hp H cc t ht htc
  refine AC.body mixedU isU28 (Nat.le_of_ble_eq_true rfl) fun hfr=>?_
  show IW Tryd.prog 183 u28_1 ⟨argT _,_,_⟩ (rt [.tmp 6] _)
  repeat' ((with_reducible first|refine wr ?_|refine wb2 ?_ ?_<;>(intro hb;try simp only [hb])|fail)<;>try simp only [go_sem,seval])
  refine AC.call (c_next l hl p hp 15 (by omega) (by omega) H cc t ht htc) ?_
  rintro v H' c1 ⟨rfl,rfl⟩ hcc
  have hp1:=nextM_le (n:=15) hp
  have hk:=nextM_lt (l:=l) (p:=p) (n:=15) (by omega)
  have hdl:decide (((d+1:Nat):Int)≤0)=false:=decide_eq_false (by omega)
  have hw1:=w64 (n:=((d+1:Nat):Int)-1) (by omega) (by omega)
  have hw2:((d+1:Nat):Int)-1=(d:Int):=by omega
  rw [hw2] at hw1
  obtain ⟨k0,p1,e0⟩:∃ k0 p1,nextM l p 15=(k0,p1):=⟨_,_,rfl⟩
  rw [e0] at hp1 hk ⊢
  simp only at hp1 hk
  have hv:k0=1∨k0=2∨k0=3∨k0=4∨k0=5∨k0=6∨k0=7∨k0=8∨k0=9∨k0=10∨k0=11∨k0=0∨k0=12∨k0=13∨k0=14:=by omega
  rcases hv with rfl|rfl|rfl|rfl|rfl|rfl|rfl|rfl|rfl|rfl|rfl|rfl|rfl|rfl|rfl
  ·have nk:((1:Nat):Int)=1:=rfl
   simp only [go_sem,seval,hdl,nk,Int.reduceGT,Int.reduceBEq,Int.reduceLE,decide_true,decide_false,hw2,hw1]
   repeat' ((with_reducible first|refine wr ?_|refine wb2 ?_ ?_<;>(intro hb;try simp only [hb])|fail)<;>try simp only [go_sem,seval,hdl,nk,Int.reduceGT,Int.reduceBEq,Int.reduceLE,decide_true,decide_false,hw2,hw1])
   refine AC.call (c_value l hl 1 (by omega) (p1) hp1 _ _ t (by repeat (first|exact h_same|rw [h_ne (by omega)]|rw [h_dne (by omega)])) (by omega)) ?_
   rintro v H' c2 ⟨id1,ia1,ib1,rfl,rfl⟩ hcc2
   have hb1:=valueM_l1 l (p1)
   have hp2:=valueM_le l 1 (p1) hp1
   have ne0:=nes4 t id1 c2 (c2+1) (by omega)
   simp only [go_sem,seval,ne0]
   repeat' ((first|(with_reducible first|refine wr ?_)|(with_reducible refine wb2 ?_ ?_<;>(intro hb;try simp only [hb]))|((with_reducible refine k_eval (b_appx (insC_len2 _) (by omega) (by omega)) ?_))|fail)<;>try simp only [go_sem,seval,ne0])
   have es:stmtM l (d+1) base p=stK l (stmtM l d) base 1 p1:=by simp only [stmtM];rw [e0];try rfl
   rw [es]
   refine v_end (id:=c2+1) hfr (by omega) (by omega) htc (by first|rfl|simp only [stK,List.length_append,List.length_singleton]) ?_ ?_ fun j h1 h2=>?_
   ·repeat (first|exact h_same|rw [h_ne (by omega)]|rw [h_dne (by omega)])
   ·rw [h_same];simp only [stK,insC_app,insC_one]
   ·repeat (first|rfl|rw [h_ne (by omega)]|rw [h_dne (by omega)])
  ·have nk:((2:Nat):Int)=2:=rfl
   simp only [go_sem,seval,hdl,nk,Int.reduceGT,Int.reduceBEq,Int.reduceLE,decide_true,decide_false,hw2,hw1]
   repeat' ((with_reducible first|refine wr ?_|refine wb2 ?_ ?_<;>(intro hb;try simp only [hb])|fail)<;>try simp only [go_sem,seval,hdl,nk,Int.reduceGT,Int.reduceBEq,Int.reduceLE,decide_true,decide_false,hw2,hw1])
   refine AC.call (c_next l hl (p1) hp1 3 (by omega) (by omega) _ _ t (by repeat (first|exact h_same|rw [h_ne (by omega)]|rw [h_dne (by omega)])) (by omega)) ?_
   rintro v H' c2 ⟨rfl,rfl⟩ hcc2
   have hq2:=nextM_lt (l:=l) (p:=p1) (n:=3) (by omega)
   have hp2:=nextM_le (l:=l) (p:=p1) (n:=3) hp1
   have hadd:=w64 (n:=16+((nextM l p1 3).1:Int)) (by omega) (by omega)
   have ne0:=nes3 t c2 (c2+1) (by omega)
   simp only [go_sem,seval,hadd,ne0]
   repeat' ((first|(with_reducible first|refine wr ?_)|(with_reducible refine wb2 ?_ ?_<;>(intro hb;try simp only [hb]))|((with_reducible refine k_eval (b_appx (insC_len2 _) (by omega) (by omega)) ?_))|fail)<;>try simp only [go_sem,seval,hadd,ne0])
   refine AC.call (c_next l hl ((nextM l p1 3).2) hp2 32 (by omega) (by omega) _ _ t (by repeat (first|exact h_same|rw [h_ne (by omega)]|rw [h_dne (by omega)])) (by omega)) ?_
   rintro v H' c3 ⟨rfl,rfl⟩ hcc3
   have hq3:=nextM_lt (l:=l) (p:=(nextM l p1 3).2) (n:=32) (by omega)
   have hp3:=nextM_le (l:=l) (p:=(nextM l p1 3).2) (n:=32) hp2
   have ne0:=nes3 t c3 (c3+1) (by omega)
   simp only [go_sem,seval,hadd,ne0]
   repeat' ((first|(with_reducible first|refine wr ?_)|(with_reducible refine wb2 ?_ ?_<;>(intro hb;try simp only [hb]))|((with_reducible refine k_eval (b_appx (insC_len2 _) (by omega) (by omega)) ?_))|fail)<;>try simp only [go_sem,seval,hadd,ne0])
   have es:stmtM l (d+1) base p=stK l (stmtM l d) base 2 p1:=by simp only [stmtM];rw [e0];try rfl
   rw [es]
   refine v_end (id:=c3) hfr (by omega) (by omega) htc (by first|rfl|simp only [stK,List.length_append,List.length_singleton]) ?_ ?_ fun j h1 h2=>?_
   ·repeat (first|exact h_same|rw [h_ne (by omega)]|rw [h_dne (by omega)])
   ·rw [h_same];simp only [stK,insC_app,insC_one]
   ·repeat (first|rfl|rw [h_ne (by omega)]|rw [h_dne (by omega)])
  ·have nk:((3:Nat):Int)=3:=rfl
   simp only [go_sem,seval,hdl,nk,Int.reduceGT,Int.reduceBEq,Int.reduceLE,decide_true,decide_false,hw2,hw1]
   repeat' ((with_reducible first|refine wr ?_|refine wb2 ?_ ?_<;>(intro hb;try simp only [hb])|fail)<;>try simp only [go_sem,seval,hdl,nk,Int.reduceGT,Int.reduceBEq,Int.reduceLE,decide_true,decide_false,hw2,hw1])
   refine AC.call (c_value l hl 0 (by omega) (p1) hp1 _ _ t (by repeat (first|exact h_same|rw [h_ne (by omega)]|rw [h_dne (by omega)])) (by omega)) ?_
   rintro v H' c2 ⟨id1,ia1,ib1,rfl,rfl⟩ hcc2
   have hb1:=valueM_l0 l (p1)
   have hp2:=valueM_le l 0 (p1) hp1
   have ne0:=nes4 t id1 c2 (c2+1) (by omega)
   simp only [go_sem,seval,ne0]
   repeat' ((first|(with_reducible first|refine wr ?_)|(with_reducible refine wb2 ?_ ?_<;>(intro hb;try simp only [hb]))|((with_reducible refine k_eval (b_appx (insC_len2 _) (by omega) (by omega)) ?_))|fail)<;>try simp only [go_sem,seval,ne0])
   refine AC.call (c_next l hl ((valueM l 0 p1).2) hp2 64 (by omega) (by omega) _ _ t (by repeat (first|exact h_same|rw [h_ne (by omega)]|rw [h_dne (by omega)])) (by omega)) ?_
   rintro v H' c3 ⟨rfl,rfl⟩ hcc3
   have hq3:=nextM_lt (l:=l) (p:=(valueM l 0 p1).2) (n:=64) (by omega)
   have hp3:=nextM_le (l:=l) (p:=(valueM l 0 p1).2) (n:=64) hp2
   have ne0:=nes4 t id1 c3 (c3+1) (by omega)
   simp only [go_sem,seval,ne0]
   repeat' ((first|(with_reducible first|refine wr ?_)|(with_reducible refine wb2 ?_ ?_<;>(intro hb;try simp only [hb]))|((with_reducible refine k_eval (b_appx (insC_len2 _) (by omega) (by omega)) ?_))|fail)<;>try simp only [go_sem,seval,ne0])
   have es:stmtM l (d+1) base p=stK l (stmtM l d) base 3 p1:=by simp only [stmtM];rw [e0];try rfl
   rw [es]
   refine v_end (id:=c3+1) hfr (by omega) (by omega) htc (by first|rfl|simp only [stK,List.length_append,List.length_singleton]) ?_ ?_ fun j h1 h2=>?_
   ·repeat (first|exact h_same|rw [h_ne (by omega)]|rw [h_dne (by omega)])
   ·rw [h_same];simp only [stK,insC_app,insC_one]
   ·repeat (first|rfl|rw [h_ne (by omega)]|rw [h_dne (by omega)])
  ·have nk:((4:Nat):Int)=4:=rfl
   simp only [go_sem,seval,hdl,nk,Int.reduceGT,Int.reduceBEq,Int.reduceLE,decide_true,decide_false,hw2,hw1]
   repeat' ((with_reducible first|refine wr ?_|refine wb2 ?_ ?_<;>(intro hb;try simp only [hb])|fail)<;>try simp only [go_sem,seval,hdl,nk,Int.reduceGT,Int.reduceBEq,Int.reduceLE,decide_true,decide_false,hw2,hw1])
   refine AC.call (c_value l hl 0 (by omega) (p1) hp1 _ _ t (by repeat (first|exact h_same|rw [h_ne (by omega)]|rw [h_dne (by omega)])) (by omega)) ?_
   rintro v H' c2 ⟨id1,ia1,ib1,rfl,rfl⟩ hcc2
   have hb1:=valueM_l0 l (p1)
   have hp2:=valueM_le l 0 (p1) hp1
   have ne0:=nes4 t id1 c2 (c2+1) (by omega)
   simp only [go_sem,seval,ne0]
   repeat' ((first|(with_reducible first|refine wr ?_)|(with_reducible refine wb2 ?_ ?_<;>(intro hb;try simp only [hb]))|((with_reducible refine k_eval (b_appx (insC_len2 _) (by omega) (by omega)) ?_))|fail)<;>try simp only [go_sem,seval,ne0])
   refine AC.call (c_value l hl 0 (by omega) ((valueM l 0 p1).2) hp2 _ _ t (by repeat (first|exact h_same|rw [h_ne (by omega)]|rw [h_dne (by omega)])) (by omega)) ?_
   rintro v H' c3 ⟨id2,ia2,ib2,rfl,rfl⟩ hcc3
   have hb2:=valueM_l0 l ((valueM l 0 p1).2)
   have hp3:=valueM_le l 0 ((valueM l 0 p1).2) hp2
   have hl2:=insC_len2 (valueM l 0 ((valueM l 0 p1).2)).1
   have hle2:(valueM l 0 ((valueM l 0 p1).2)).1.length * 2≤(insC (valueM l 0 ((valueM l 0 p1).2)).1).length:=by omega
   have htk:=List.take_of_length_le (l:=insC (valueM l 0 ((valueM l 0 p1).2)).1) (i:=(valueM l 0 ((valueM l 0 p1).2)).1.length * 2) (by omega)
   have ne0:=nes5 t id1 id2 c3 (c3+1) (by omega)
   simp only [go_sem,seval,hle2,htk,ne0]
   repeat' ((first|(with_reducible first|refine wr ?_)|(with_reducible refine wb2 ?_ ?_<;>(intro hb;try simp only [hb]))|((with_reducible refine k_eval (b_appx (insC_len2 _) (by omega) (by omega)) ?_))|fail)<;>try simp only [go_sem,seval,hle2,htk,ne0])
   refine AC.call (c_next l hl ((valueM l 0 ((valueM l 0 p1).2)).2) hp3 64 (by omega) (by omega) _ _ t (by repeat (first|exact h_same|rw [h_ne (by omega)]|rw [h_dne (by omega)])) (by omega)) ?_
   rintro v H' c4 ⟨rfl,rfl⟩ hcc4
   have hq4:=nextM_lt (l:=l) (p:=(valueM l 0 ((valueM l 0 p1).2)).2) (n:=64) (by omega)
   have hp4:=nextM_le (l:=l) (p:=(valueM l 0 ((valueM l 0 p1).2)).2) (n:=64) hp3
   have hl3:=insL2 (valueM l 0 p1).1 (valueM l 0 ((valueM l 0 p1).2)).1
   have ne0:=nes4 t c3 c4 (c4+1) (by omega)
   simp only [go_sem,seval,ne0]
   repeat' ((first|(with_reducible first|refine wr ?_)|(with_reducible refine wb2 ?_ ?_<;>(intro hb;try simp only [hb]))|((with_reducible refine k_eval (b_appx (insC_len2 _) (by omega) (by omega)) ?_))|((with_reducible refine k_eval (b_appx hl3 (by omega) (by omega)) ?_))|fail)<;>try simp only [go_sem,seval,ne0])
   have es:stmtM l (d+1) base p=stK l (stmtM l d) base 4 p1:=by simp only [stmtM];rw [e0];try rfl
   rw [es]
   refine v_end (id:=c4+1) hfr (by omega) (by omega) htc (by first|rfl|simp only [stK,List.length_append,List.length_singleton]) ?_ ?_ fun j h1 h2=>?_
   ·repeat (first|exact h_same|rw [h_ne (by omega)]|rw [h_dne (by omega)])
   ·rw [h_same];simp only [stK,insC_app,insC_one]
   ·repeat (first|rfl|rw [h_ne (by omega)]|rw [h_dne (by omega)])
  ·have nk:((5:Nat):Int)=5:=rfl
   simp only [go_sem,seval,hdl,nk,Int.reduceGT,Int.reduceBEq,Int.reduceLE,decide_true,decide_false,hw2,hw1]
   repeat' ((with_reducible first|refine wr ?_|refine wb2 ?_ ?_<;>(intro hb;try simp only [hb])|fail)<;>try simp only [go_sem,seval,hdl,nk,Int.reduceGT,Int.reduceBEq,Int.reduceLE,decide_true,decide_false,hw2,hw1])
   refine AC.call (c_value l hl 1 (by omega) (p1) hp1 _ _ t (by repeat (first|exact h_same|rw [h_ne (by omega)]|rw [h_dne (by omega)])) (by omega)) ?_
   rintro v H' c2 ⟨id1,ia1,ib1,rfl,rfl⟩ hcc2
   have hb1:=valueM_l1 l (p1)
   have hp2:=valueM_le l 1 (p1) hp1
   have ne0:=nes4 t id1 c2 (c2+1) (by omega)
   simp only [go_sem,seval,ne0]
   repeat' ((first|(with_reducible first|refine wr ?_)|(with_reducible refine wb2 ?_ ?_<;>(intro hb;try simp only [hb]))|((with_reducible refine k_eval (b_appx (insC_len2 _) (by omega) (by omega)) ?_))|fail)<;>try simp only [go_sem,seval,ne0])
   refine AC.call (c_next l hl ((valueM l 1 p1).2) hp2 2 (by omega) (by omega) _ _ t (by repeat (first|exact h_same|rw [h_ne (by omega)]|rw [h_dne (by omega)])) (by omega)) ?_
   rintro v H' c3 ⟨rfl,rfl⟩ hcc3
   have hq3:=nextM_lt (l:=l) (p:=(valueM l 1 p1).2) (n:=2) (by omega)
   have hp3:=nextM_le (l:=l) (p:=(valueM l 1 p1).2) (n:=2) hp2
   have ne0:=nes4 t id1 c3 (c3+1) (by omega)
   simp only [go_sem,seval,ne0]
   repeat' ((first|(with_reducible first|refine wr ?_)|(with_reducible refine wb2 ?_ ?_<;>(intro hb;try simp only [hb]))|((with_reducible refine k_eval (b_appx (insC_len2 _) (by omega) (by omega)) ?_))|fail)<;>try simp only [go_sem,seval,ne0])
   have es:stmtM l (d+1) base p=stK l (stmtM l d) base 5 p1:=by simp only [stmtM];rw [e0];try rfl
   rw [es]
   refine v_end (id:=c3+1) hfr (by omega) (by omega) htc (by first|rfl|simp only [stK,List.length_append,List.length_singleton]) ?_ ?_ fun j h1 h2=>?_
   ·repeat (first|exact h_same|rw [h_ne (by omega)]|rw [h_dne (by omega)])
   ·rw [h_same];simp only [stK,insC_app,insC_one]
   ·repeat (first|rfl|rw [h_ne (by omega)]|rw [h_dne (by omega)])
  ·have nk:((6:Nat):Int)=6:=rfl
   simp only [go_sem,seval,hdl,nk,Int.reduceGT,Int.reduceBEq,Int.reduceLE,decide_true,decide_false,hw2,hw1]
   repeat' ((with_reducible first|refine wr ?_|refine wb2 ?_ ?_<;>(intro hb;try simp only [hb])|fail)<;>try simp only [go_sem,seval,hdl,nk,Int.reduceGT,Int.reduceBEq,Int.reduceLE,decide_true,decide_false,hw2,hw1])
   refine AC.call (c_next l hl (p1) hp1 2 (by omega) (by omega) _ _ t (by repeat (first|exact h_same|rw [h_ne (by omega)]|rw [h_dne (by omega)])) (by omega)) ?_
   rintro v H' c2 ⟨rfl,rfl⟩ hcc2
   have hq2:=nextM_lt (l:=l) (p:=p1) (n:=2) (by omega)
   have hp2:=nextM_le (l:=l) (p:=p1) (n:=2) hp1
   have ne0:=nes3 t c2 (c2+1) (by omega)
   simp only [go_sem,seval,ne0]
   repeat' ((first|(with_reducible first|refine wr ?_)|(with_reducible refine wb2 ?_ ?_<;>(intro hb;try simp only [hb]))|((with_reducible refine k_eval (b_appx (insC_len2 _) (by omega) (by omega)) ?_))|fail)<;>try simp only [go_sem,seval,ne0])
   have es:stmtM l (d+1) base p=stK l (stmtM l d) base 6 p1:=by simp only [stmtM];rw [e0];try rfl
   rw [es]
   refine v_end (id:=c2) hfr (by omega) (by omega) htc (by first|rfl|simp only [stK,List.length_append,List.length_singleton]) ?_ ?_ fun j h1 h2=>?_
   ·repeat (first|exact h_same|rw [h_ne (by omega)]|rw [h_dne (by omega)])
   ·rw [h_same];simp only [stK,insC_app,insC_one]
   ·repeat (first|rfl|rw [h_ne (by omega)]|rw [h_dne (by omega)])
  ·have nk:((7:Nat):Int)=7:=rfl
   simp only [go_sem,seval,hdl,nk,Int.reduceGT,Int.reduceBEq,Int.reduceLE,decide_true,decide_false,hw2,hw1]
   repeat' ((with_reducible first|refine wr ?_|refine wb2 ?_ ?_<;>(intro hb;try simp only [hb])|fail)<;>try simp only [go_sem,seval,hdl,nk,Int.reduceGT,Int.reduceBEq,Int.reduceLE,decide_true,decide_false,hw2,hw1])
   refine AC.call (c_next l hl (p1) hp1 2 (by omega) (by omega) _ _ t (by repeat (first|exact h_same|rw [h_ne (by omega)]|rw [h_dne (by omega)])) (by omega)) ?_
   rintro v H' c2 ⟨rfl,rfl⟩ hcc2
   have hq2:=nextM_lt (l:=l) (p:=p1) (n:=2) (by omega)
   have hp2:=nextM_le (l:=l) (p:=p1) (n:=2) hp1
   have hadd:=w64 (n:=23+((nextM l p1 2).1:Int)) (by omega) (by omega)
   have ne0:=nes3 t c2 (c2+1) (by omega)
   simp only [go_sem,seval,hadd,ne0]
   repeat' ((first|(with_reducible first|refine wr ?_)|(with_reducible refine wb2 ?_ ?_<;>(intro hb;try simp only [hb]))|((with_reducible refine k_eval (b_appx (insC_len2 _) (by omega) (by omega)) ?_))|fail)<;>try simp only [go_sem,seval,hadd,ne0])
   refine AC.call (c_next l hl ((nextM l p1 2).2) hp2 2 (by omega) (by omega) _ _ t (by repeat (first|exact h_same|rw [h_ne (by omega)]|rw [h_dne (by omega)])) (by omega)) ?_
   rintro v H' c3 ⟨rfl,rfl⟩ hcc3
   have hq3:=nextM_lt (l:=l) (p:=(nextM l p1 2).2) (n:=2) (by omega)
   have hp3:=nextM_le (l:=l) (p:=(nextM l p1 2).2) (n:=2) hp2
   have ne0:=nes3 t c3 (c3+1) (by omega)
   simp only [go_sem,seval,hadd,ne0]
   repeat' ((first|(with_reducible first|refine wr ?_)|(with_reducible refine wb2 ?_ ?_<;>(intro hb;try simp only [hb]))|((with_reducible refine k_eval (b_appx (insC_len2 _) (by omega) (by omega)) ?_))|fail)<;>try simp only [go_sem,seval,hadd,ne0])
   have es:stmtM l (d+1) base p=stK l (stmtM l d) base 7 p1:=by simp only [stmtM];rw [e0];try rfl
   rw [es]
   refine v_end (id:=c3) hfr (by omega) (by omega) htc (by first|rfl|simp only [stK,List.length_append,List.length_singleton]) ?_ ?_ fun j h1 h2=>?_
   ·repeat (first|exact h_same|rw [h_ne (by omega)]|rw [h_dne (by omega)])
   ·rw [h_same];simp only [stK,insC_app,insC_one]
   ·repeat (first|rfl|rw [h_ne (by omega)]|rw [h_dne (by omega)])
  ·have nk:((8:Nat):Int)=8:=rfl
   simp only [go_sem,seval,hdl,nk,Int.reduceGT,Int.reduceBEq,Int.reduceLE,decide_true,decide_false,hw2,hw1]
   repeat' ((with_reducible first|refine wr ?_|refine wb2 ?_ ?_<;>(intro hb;try simp only [hb])|fail)<;>try simp only [go_sem,seval,hdl,nk,Int.reduceGT,Int.reduceBEq,Int.reduceLE,decide_true,decide_false,hw2,hw1])
   refine AC.call (c_next l hl (p1) hp1 2 (by omega) (by omega) _ _ t (by repeat (first|exact h_same|rw [h_ne (by omega)]|rw [h_dne (by omega)])) (by omega)) ?_
   rintro v H' c2 ⟨rfl,rfl⟩ hcc2
   have hq2:=nextM_lt (l:=l) (p:=p1) (n:=2) (by omega)
   have hp2:=nextM_le (l:=l) (p:=p1) (n:=2) hp1
   have ne0:=nes3 t c2 (c2+1) (by omega)
   simp only [go_sem,seval,ne0]
   repeat' ((first|(with_reducible first|refine wr ?_)|(with_reducible refine wb2 ?_ ?_<;>(intro hb;try simp only [hb]))|((with_reducible refine k_eval (b_appx (insC_len2 _) (by omega) (by omega)) ?_))|fail)<;>try simp only [go_sem,seval,ne0])
   have es:stmtM l (d+1) base p=stK l (stmtM l d) base 8 p1:=by simp only [stmtM];rw [e0];try rfl
   rw [es]
   refine v_end (id:=c2) hfr (by omega) (by omega) htc (by first|rfl|simp only [stK,List.length_append,List.length_singleton]) ?_ ?_ fun j h1 h2=>?_
   ·repeat (first|exact h_same|rw [h_ne (by omega)]|rw [h_dne (by omega)])
   ·rw [h_same];simp only [stK,insC_app,insC_one]
   ·repeat (first|rfl|rw [h_ne (by omega)]|rw [h_dne (by omega)])
  ·have nk:((9:Nat):Int)=9:=rfl
   simp only [go_sem,seval,hdl,nk,Int.reduceGT,Int.reduceBEq,Int.reduceLE,decide_true,decide_false,hw2,hw1]
   repeat' ((with_reducible first|refine wr ?_|refine wb2 ?_ ?_<;>(intro hb;try simp only [hb])|fail)<;>try simp only [go_sem,seval,hdl,nk,Int.reduceGT,Int.reduceBEq,Int.reduceLE,decide_true,decide_false,hw2,hw1])
   refine AC.call (c_next l hl (p1) hp1 3 (by omega) (by omega) _ _ t (by repeat (first|exact h_same|rw [h_ne (by omega)]|rw [h_dne (by omega)])) (by omega)) ?_
   rintro v H' c2 ⟨rfl,rfl⟩ hcc2
   have hq2:=nextM_lt (l:=l) (p:=p1) (n:=3) (by omega)
   have hp2:=nextM_le (l:=l) (p:=p1) (n:=3) hp1
   have hadd:=w64 (n:=26+((nextM l p1 3).1:Int)) (by omega) (by omega)
   have ne0:=nes3 t c2 (c2+1) (by omega)
   simp only [go_sem,seval,hadd,ne0]
   repeat' ((first|(with_reducible first|refine wr ?_)|(with_reducible refine wb2 ?_ ?_<;>(intro hb;try simp only [hb]))|((with_reducible refine k_eval (b_appx (insC_len2 _) (by omega) (by omega)) ?_))|fail)<;>try simp only [go_sem,seval,hadd,ne0])
   refine AC.call (c_next l hl ((nextM l p1 3).2) hp2 64 (by omega) (by omega) _ _ t (by repeat (first|exact h_same|rw [h_ne (by omega)]|rw [h_dne (by omega)])) (by omega)) ?_
   rintro v H' c3 ⟨rfl,rfl⟩ hcc3
   have hq3:=nextM_lt (l:=l) (p:=(nextM l p1 3).2) (n:=64) (by omega)
   have hp3:=nextM_le (l:=l) (p:=(nextM l p1 3).2) (n:=64) hp2
   have ne0:=nes3 t c3 (c3+1) (by omega)
   simp only [go_sem,seval,hadd,ne0]
   repeat' ((first|(with_reducible first|refine wr ?_)|(with_reducible refine wb2 ?_ ?_<;>(intro hb;try simp only [hb]))|((with_reducible refine k_eval (b_appx (insC_len2 _) (by omega) (by omega)) ?_))|fail)<;>try simp only [go_sem,seval,hadd,ne0])
   have es:stmtM l (d+1) base p=stK l (stmtM l d) base 9 p1:=by simp only [stmtM];rw [e0];try rfl
   rw [es]
   refine v_end (id:=c3) hfr (by omega) (by omega) htc (by first|rfl|simp only [stK,List.length_append,List.length_singleton]) ?_ ?_ fun j h1 h2=>?_
   ·repeat (first|exact h_same|rw [h_ne (by omega)]|rw [h_dne (by omega)])
   ·rw [h_same];simp only [stK,insC_app,insC_one]
   ·repeat (first|rfl|rw [h_ne (by omega)]|rw [h_dne (by omega)])
  ·have nk:((10:Nat):Int)=10:=rfl
   simp only [go_sem,seval,hdl,nk,Int.reduceGT,Int.reduceBEq,Int.reduceLE,decide_true,decide_false,hw2,hw1]
   repeat' ((with_reducible first|refine wr ?_|refine wb2 ?_ ?_<;>(intro hb;try simp only [hb])|fail)<;>try simp only [go_sem,seval,hdl,nk,Int.reduceGT,Int.reduceBEq,Int.reduceLE,decide_true,decide_false,hw2,hw1])
   refine AC.call (c_value l hl 1 (by omega) (p1) hp1 _ _ t (by repeat (first|exact h_same|rw [h_ne (by omega)]|rw [h_dne (by omega)])) (by omega)) ?_
   rintro v H' c2 ⟨id1,ia1,ib1,rfl,rfl⟩ hcc2
   have hb1:=valueM_l1 l (p1)
   have hp2:=valueM_le l 1 (p1) hp1
   have ne0:=nes4 t id1 c2 (c2+1) (by omega)
   simp only [go_sem,seval,ne0]
   repeat' ((first|(with_reducible first|refine wr ?_)|(with_reducible refine wb2 ?_ ?_<;>(intro hb;try simp only [hb]))|((with_reducible refine k_eval (b_appx (insC_len2 _) (by omega) (by omega)) ?_))|fail)<;>try simp only [go_sem,seval,ne0])
   refine AC.call (c_next l hl ((valueM l 1 p1).2) hp2 2 (by omega) (by omega) _ _ t (by repeat (first|exact h_same|rw [h_ne (by omega)]|rw [h_dne (by omega)])) (by omega)) ?_
   rintro v H' c3 ⟨rfl,rfl⟩ hcc3
   have hq3:=nextM_lt (l:=l) (p:=(valueM l 1 p1).2) (n:=2) (by omega)
   have hp3:=nextM_le (l:=l) (p:=(valueM l 1 p1).2) (n:=2) hp2
   have ne0:=nes4 t id1 c3 (c3+1) (by omega)
   simp only [go_sem,seval,ne0]
   repeat' ((first|(with_reducible first|refine wr ?_)|(with_reducible refine wb2 ?_ ?_<;>(intro hb;try simp only [hb]))|((with_reducible refine k_eval (b_appx (insC_len2 _) (by omega) (by omega)) ?_))|fail)<;>try simp only [go_sem,seval,ne0])
   have es:stmtM l (d+1) base p=stK l (stmtM l d) base 10 p1:=by simp only [stmtM];rw [e0];try rfl
   rw [es]
   refine v_end (id:=c3+1) hfr (by omega) (by omega) htc (by first|rfl|simp only [stK,List.length_append,List.length_singleton]) ?_ ?_ fun j h1 h2=>?_
   ·repeat (first|exact h_same|rw [h_ne (by omega)]|rw [h_dne (by omega)])
   ·rw [h_same];simp only [stK,insC_app,insC_one]
   ·repeat (first|rfl|rw [h_ne (by omega)]|rw [h_dne (by omega)])
  ·have nk:((11:Nat):Int)=11:=rfl
   simp only [go_sem,seval,hdl,nk,Int.reduceGT,Int.reduceBEq,Int.reduceLE,decide_true,decide_false,hw2,hw1]
   repeat' ((with_reducible first|refine wr ?_|refine wb2 ?_ ?_<;>(intro hb;try simp only [hb])|fail)<;>try simp only [go_sem,seval,hdl,nk,Int.reduceGT,Int.reduceBEq,Int.reduceLE,decide_true,decide_false,hw2,hw1])
   have es:stmtM l (d+1) base p=stK l (stmtM l d) base 11 p1:=by simp only [stmtM];rw [e0];try rfl
   rw [es]
   refine v_end (id:=c1) hfr (by omega) (by omega) htc (by first|rfl|simp only [stK,List.length_append,List.length_singleton]) ?_ ?_ fun j h1 h2=>?_
   ·repeat (first|exact h_same|rw [h_ne (by omega)]|rw [h_dne (by omega)])
   ·rw [h_same];simp only [stK,insC_app,insC_one]
   ·repeat (first|rfl|rw [h_ne (by omega)]|rw [h_dne (by omega)])
  ·have nk:((0:Nat):Int)=0:=rfl
   simp only [go_sem,seval,hdl,nk,Int.reduceGT,Int.reduceBEq,Int.reduceLE,decide_true,decide_false,hw2,hw1]
   repeat' ((with_reducible first|refine wr ?_|refine wb2 ?_ ?_<;>(intro hb;try simp only [hb])|fail)<;>try simp only [go_sem,seval,hdl,nk,Int.reduceGT,Int.reduceBEq,Int.reduceLE,decide_true,decide_false,hw2,hw1])
   refine AC.call (c_value l hl 2 (by omega) (p1) hp1 _ _ t (by repeat (first|exact h_same|rw [h_ne (by omega)]|rw [h_dne (by omega)])) (by omega)) ?_
   rintro v H' c2 ⟨id1,ia1,ib1,rfl,rfl⟩ hcc2
   have hb1:=valueM_l2 l (p1)
   have hp2:=valueM_le l 2 (p1) hp1
   have ne0:=nes4 t id1 c2 (c2+1) (by omega)
   simp only [go_sem,seval,ne0]
   repeat' ((first|(with_reducible first|refine wr ?_)|(with_reducible refine wb2 ?_ ?_<;>(intro hb;try simp only [hb]))|((with_reducible refine k_eval (b_appx (insC_len2 _) (by omega) (by omega)) ?_))|fail)<;>try simp only [go_sem,seval,ne0])
   refine AC.call (c_next l hl ((valueM l 2 p1).2) hp2 3 (by omega) (by omega) _ _ t (by repeat (first|exact h_same|rw [h_ne (by omega)]|rw [h_dne (by omega)])) (by omega)) ?_
   rintro v H' c3 ⟨rfl,rfl⟩ hcc3
   have hq3:=nextM_lt (l:=l) (p:=(valueM l 2 p1).2) (n:=3) (by omega)
   have hp3:=nextM_le (l:=l) (p:=(valueM l 2 p1).2) (n:=3) hp2
   have ne0:=nes4 t id1 c3 (c3+1) (by omega)
   simp only [go_sem,seval,ne0]
   repeat' ((first|(with_reducible first|refine wr ?_)|(with_reducible refine wb2 ?_ ?_<;>(intro hb;try simp only [hb]))|((with_reducible refine k_eval (b_appx (insC_len2 _) (by omega) (by omega)) ?_))|fail)<;>try simp only [go_sem,seval,ne0])
   have es:stmtM l (d+1) base p=stK l (stmtM l d) base 0 p1:=by simp only [stmtM];rw [e0];try rfl
   rw [es]
   refine v_end (id:=c3+1) hfr (by omega) (by omega) htc (by first|rfl|simp only [stK,List.length_append,List.length_singleton]) ?_ ?_ fun j h1 h2=>?_
   ·repeat (first|exact h_same|rw [h_ne (by omega)]|rw [h_dne (by omega)])
   ·rw [h_same];simp only [stK,insC_app,insC_one]
   ·repeat (first|rfl|rw [h_ne (by omega)]|rw [h_dne (by omega)])
  ·have nk:((12:Nat):Int)=12:=rfl
   simp only [go_sem,seval,hdl,nk,Int.reduceGT,Int.reduceBEq,Int.reduceLE,decide_true,decide_false,hw2,hw1]
   repeat' ((with_reducible first|refine wr ?_|refine wb2 ?_ ?_<;>(intro hb;try simp only [hb])|fail)<;>try simp only [go_sem,seval,hdl,nk,Int.reduceGT,Int.reduceBEq,Int.reduceLE,decide_true,decide_false,hw2,hw1])
   refine AC.call (c_value l hl 1 (by omega) (p1) hp1 _ _ t (by repeat (first|exact h_same|rw [h_ne (by omega)]|rw [h_dne (by omega)])) (by omega)) ?_
   rintro v H' c2 ⟨id1,ia1,ib1,rfl,rfl⟩ hcc2
   have hb1:=valueM_l1 l (p1)
   have hp2:=valueM_le l 1 (p1) hp1
   have hs1:=w_sum (a:=base) (b:=(valueM l 1 p1).1.length) (by omega)
   have hs2:=w_sum (a:=base+(valueM l 1 p1).1.length) (b:=1) (by omega)
   have one:((1:Nat):Int)=1:=rfl
   rw [one] at hs2
   have ne0:=nes4 t id1 c2 (c2+1) (by omega)
   simp only [go_sem,seval,hs1,hs2,hw2,hw1,ne0]
   repeat' ((first|(with_reducible first|refine wr ?_)|(with_reducible refine wb2 ?_ ?_<;>(intro hb;try simp only [hb]))|((with_reducible refine k_eval (b_appx (insC_len2 _) (by omega) (by omega)) ?_))|fail)<;>try simp only [go_sem,seval,hs1,hs2,hw2,hw1,ne0])
   refine AC.call (ih (by omega) (base+(valueM l 1 p1).1.length+1) ((valueM l 1 p1).2) (by omega) hp2 _ _ t (by repeat (first|exact h_same|rw [h_ne (by omega)]|rw [h_dne (by omega)])) (by omega)) ?_
   rintro v H' c3 ⟨id2,ia2,ib2,rfl,rfl⟩ hcc3
   have hb2:=stmtM_len l d (base+(valueM l 1 p1).1.length+1) ((valueM l 1 p1).2)
   have hs3:=w_sum (a:=base+(valueM l 1 p1).1.length+1) (b:=(stmtM l d (base+(valueM l 1 p1).1.length+1) (valueM l 1 p1).2).1.length) (by omega)
   have hl2:=insC_len2 (stmtM l d (base+(valueM l 1 p1).1.length+1) (valueM l 1 p1).2).1
   have hle2:(stmtM l d (base+(valueM l 1 p1).1.length+1) (valueM l 1 p1).2).1.length * 2≤(insC (stmtM l d (base+(valueM l 1 p1).1.length+1) (valueM l 1 p1).2).1).length:=by omega
   have htk:=List.take_of_length_le (l:=insC (stmtM l d (base+(valueM l 1 p1).1.length+1) (valueM l 1 p1).2).1) (i:=(stmtM l d (base+(valueM l 1 p1).1.length+1) (valueM l 1 p1).2).1.length * 2) (by omega)
   have hl3:=fun x y=>insL1 (valueM l 1 p1).1 x y
   have hl4:=fun x y=>insL3 (valueM l 1 p1).1 (stmtM l d (base+(valueM l 1 p1).1.length+1) (valueM l 1 p1).2).1 x y
   have ne0:=nes6 t id1 id2 c3 (c3+1) (c3+2) (by omega)
   simp only [go_sem,seval,hs1,hs2,hs3,hle2,htk,ne0]
   repeat' ((first|(with_reducible first|refine wr ?_)|(with_reducible refine wb2 ?_ ?_<;>(intro hb;try simp only [hb]))|((with_reducible refine k_eval (b_appx (insC_len2 _) (by omega) (by omega)) ?_))|((with_reducible refine k_eval (b_appx (hl3 _ _) (by omega) (by omega)) ?_))|((with_reducible refine k_eval (b_appx (hl4 _ _) (by omega) (by omega)) ?_))|fail)<;>try simp only [go_sem,seval,hs1,hs2,hs3,hle2,htk,ne0])
   have es:stmtM l (d+1) base p=stK l (stmtM l d) base 12 p1:=by simp only [stmtM];rw [e0];try rfl
   rw [es]
   refine v_end (id:=c3+2) hfr (by omega) (by omega) htc (by first|rfl|simp only [stK,List.length_append,List.length_singleton]) ?_ ?_ fun j h1 h2=>?_
   ·repeat (first|exact h_same|rw [h_ne (by omega)]|rw [h_dne (by omega)])
   ·rw [h_same];simp only [stK,insC_app,insC_one]
   ·repeat (first|rfl|rw [h_ne (by omega)]|rw [h_dne (by omega)])
  ·have nk:((13:Nat):Int)=13:=rfl
   simp only [go_sem,seval,hdl,nk,Int.reduceGT,Int.reduceBEq,Int.reduceLE,decide_true,decide_false,hw2,hw1]
   repeat' ((with_reducible first|refine wr ?_|refine wb2 ?_ ?_<;>(intro hb;try simp only [hb])|fail)<;>try simp only [go_sem,seval,hdl,nk,Int.reduceGT,Int.reduceBEq,Int.reduceLE,decide_true,decide_false,hw2,hw1])
   refine AC.call (c_value l hl 0 (by omega) (p1) hp1 _ _ t (by repeat (first|exact h_same|rw [h_ne (by omega)]|rw [h_dne (by omega)])) (by omega)) ?_
   rintro v H' c2 ⟨id1,ia1,ib1,rfl,rfl⟩ hcc2
   have hb1:=valueM_l0 l (p1)
   have hp2:=valueM_le l 0 (p1) hp1
   have hs1:=w_sum (a:=base) (b:=(valueM l 0 p1).1.length) (by omega)
   have hs2:=w_sum (a:=base+(valueM l 0 p1).1.length) (b:=1) (by omega)
   have one:((1:Nat):Int)=1:=rfl
   rw [one] at hs2
   have ne0:=nes4 t id1 c2 (c2+1) (by omega)
   simp only [go_sem,seval,hs1,hs2,hw2,hw1,ne0]
   repeat' ((first|(with_reducible first|refine wr ?_)|(with_reducible refine wb2 ?_ ?_<;>(intro hb;try simp only [hb]))|((with_reducible refine k_eval (b_appx (insC_len2 _) (by omega) (by omega)) ?_))|fail)<;>try simp only [go_sem,seval,hs1,hs2,hw2,hw1,ne0])
   refine AC.call (ih (by omega) (base+(valueM l 0 p1).1.length+1) ((valueM l 0 p1).2) (by omega) hp2 _ _ t (by repeat (first|exact h_same|rw [h_ne (by omega)]|rw [h_dne (by omega)])) (by omega)) ?_
   rintro v H' c3 ⟨id2,ia2,ib2,rfl,rfl⟩ hcc3
   have hb2:=stmtM_len l d (base+(valueM l 0 p1).1.length+1) ((valueM l 0 p1).2)
   have hs4:=w_sum (a:=base+(valueM l 0 p1).1.length) (b:=2) (by omega)
   have two:((2:Nat):Int)=2:=rfl
   rw [two] at hs4
   have hs3:=w_sum (a:=base+(valueM l 0 p1).1.length+2) (b:=(stmtM l d (base+(valueM l 0 p1).1.length+1) (valueM l 0 p1).2).1.length) (by omega)
   have hl2:=insC_len2 (stmtM l d (base+(valueM l 0 p1).1.length+1) (valueM l 0 p1).2).1
   have hle2:(stmtM l d (base+(valueM l 0 p1).1.length+1) (valueM l 0 p1).2).1.length * 2≤(insC (stmtM l d (base+(valueM l 0 p1).1.length+1) (valueM l 0 p1).2).1).length:=by omega
   have htk:=List.take_of_length_le (l:=insC (stmtM l d (base+(valueM l 0 p1).1.length+1) (valueM l 0 p1).2).1) (i:=(stmtM l d (base+(valueM l 0 p1).1.length+1) (valueM l 0 p1).2).1.length * 2) (by omega)
   have hl3:=fun x y=>insL1 (valueM l 0 p1).1 x y
   have hl4:=fun x y=>insL3 (valueM l 0 p1).1 (stmtM l d (base+(valueM l 0 p1).1.length+1) (valueM l 0 p1).2).1 x y
   have ne0:¬t=id1∧¬t=id2∧¬t=c3∧¬t=c3+1∧¬t=c3+2∧¬t=c3+3∧¬t=c3+4∧¬id1=t∧¬id1=id2∧¬id1=c3∧¬id1=c3+1∧¬id1=c3+2∧¬id1=c3+3∧¬id1=c3+4∧¬id2=t∧¬id2=id1∧¬id2=c3∧¬id2=c3+1∧¬id2=c3+2∧¬id2=c3+3∧¬id2=c3+4∧¬c3=t∧¬c3=id1∧¬c3=id2∧¬c3=c3+1∧¬c3=c3+2∧¬c3=c3+3∧¬c3=c3+4∧¬c3+1=t∧¬c3+1=id1∧¬c3+1=id2∧¬c3+1=c3∧¬c3+1=c3+2∧¬c3+1=c3+3∧¬c3+1=c3+4∧¬c3+2=t∧¬c3+2=id1∧¬c3+2=id2∧¬c3+2=c3∧¬c3+2=c3+1∧¬c3+2=c3+3∧¬c3+2=c3+4∧¬c3+3=t∧¬c3+3=id1∧¬c3+3=id2∧¬c3+3=c3∧¬c3+3=c3+1∧¬c3+3=c3+2∧¬c3+3=c3+4∧¬c3+4=t∧¬c3+4=id1∧¬c3+4=id2∧¬c3+4=c3∧¬c3+4=c3+1∧¬c3+4=c3+2∧¬c3+4=c3+3:=by and_intros<;>omega
   simp only [go_sem,seval,hs1,hs2,hs3,hs4,hle2,htk,ne0]
   repeat' ((first|(with_reducible first|refine wr ?_)|(with_reducible refine wb2 ?_ ?_<;>(intro hb;try simp only [hb]))|((with_reducible refine k_eval (b_appx (insC_len2 _) (by omega) (by omega)) ?_))|((with_reducible refine k_eval (b_appx (hl3 _ _) (by omega) (by omega)) ?_))|((with_reducible refine k_eval (b_appx (hl4 _ _) (by omega) (by omega)) ?_))|fail)<;>try simp only [go_sem,seval,hs1,hs2,hs3,hs4,hle2,htk,ne0])
   have es:stmtM l (d+1) base p=stK l (stmtM l d) base 13 p1:=by simp only [stmtM];rw [e0];try rfl
   rw [es]
   refine v_end (id:=c3+4) hfr (by omega) (by omega) htc (by first|rfl|simp only [stK,List.length_append,List.length_singleton]) ?_ ?_ fun j h1 h2=>?_
   ·repeat (first|exact h_same|rw [h_ne (by omega)]|rw [h_dne (by omega)])
   ·rw [h_same];simp only [stK,insC_app,insC_one]
   ·repeat (first|rfl|rw [h_ne (by omega)]|rw [h_dne (by omega)])
  ·have nk:((14:Nat):Int)=14:=rfl
   simp only [go_sem,seval,hdl,nk,Int.reduceGT,Int.reduceBEq,Int.reduceLE,decide_true,decide_false,hw2,hw1]
   repeat' ((with_reducible first|refine wr ?_|refine wb2 ?_ ?_<;>(intro hb;try simp only [hb])|fail)<;>try simp only [go_sem,seval,hdl,nk,Int.reduceGT,Int.reduceBEq,Int.reduceLE,decide_true,decide_false,hw2,hw1])
   refine AC.call (c_value l hl 0 (by omega) (p1) hp1 _ _ t (by repeat (first|exact h_same|rw [h_ne (by omega)]|rw [h_dne (by omega)])) (by omega)) ?_
   rintro v H' c2 ⟨id1,ia1,ib1,rfl,rfl⟩ hcc2
   have hb1:=valueM_l0 l (p1)
   have hp2:=valueM_le l 0 (p1) hp1
   have hs1:=w_sum (a:=base) (b:=(valueM l 0 p1).1.length) (by omega)
   have hs2:=w_sum (a:=base+(valueM l 0 p1).1.length) (b:=1) (by omega)
   have one:((1:Nat):Int)=1:=rfl
   rw [one] at hs2
   have ne0:=nes4 t id1 c2 (c2+1) (by omega)
   simp only [go_sem,seval,hs1,hs2,hw2,hw1,ne0]
   repeat' ((first|(with_reducible first|refine wr ?_)|(with_reducible refine wb2 ?_ ?_<;>(intro hb;try simp only [hb]))|((with_reducible refine k_eval (b_appx (insC_len2 _) (by omega) (by omega)) ?_))|fail)<;>try simp only [go_sem,seval,hs1,hs2,hw2,hw1,ne0])
   refine AC.call (ih (by omega) (base+(valueM l 0 p1).1.length+1) ((valueM l 0 p1).2) (by omega) hp2 _ _ t (by repeat (first|exact h_same|rw [h_ne (by omega)]|rw [h_dne (by omega)])) (by omega)) ?_
   rintro v H' c3 ⟨id2,ia2,ib2,rfl,rfl⟩ hcc3
   have hb2:=stmtM_len l d (base+(valueM l 0 p1).1.length+1) ((valueM l 0 p1).2)
   have hs4:=w_sum (a:=base+(valueM l 0 p1).1.length) (b:=2) (by omega)
   have two:((2:Nat):Int)=2:=rfl
   rw [two] at hs4
   have hs3:=w_sum (a:=base+(valueM l 0 p1).1.length+2) (b:=(stmtM l d (base+(valueM l 0 p1).1.length+1) (valueM l 0 p1).2).1.length) (by omega)
   have hl2:=insC_len2 (stmtM l d (base+(valueM l 0 p1).1.length+1) (valueM l 0 p1).2).1
   have hle2:(stmtM l d (base+(valueM l 0 p1).1.length+1) (valueM l 0 p1).2).1.length * 2≤(insC (stmtM l d (base+(valueM l 0 p1).1.length+1) (valueM l 0 p1).2).1).length:=by omega
   have htk:=List.take_of_length_le (l:=insC (stmtM l d (base+(valueM l 0 p1).1.length+1) (valueM l 0 p1).2).1) (i:=(stmtM l d (base+(valueM l 0 p1).1.length+1) (valueM l 0 p1).2).1.length * 2) (by omega)
   have hl3:=fun x y=>insL1 (valueM l 0 p1).1 x y
   have hl4:=fun x y=>insL3 (valueM l 0 p1).1 (stmtM l d (base+(valueM l 0 p1).1.length+1) (valueM l 0 p1).2).1 x y
   have ne0:¬t=id1∧¬t=id2∧¬t=c3∧¬t=c3+1∧¬t=c3+2∧¬t=c3+3∧¬t=c3+4∧¬id1=t∧¬id1=id2∧¬id1=c3∧¬id1=c3+1∧¬id1=c3+2∧¬id1=c3+3∧¬id1=c3+4∧¬id2=t∧¬id2=id1∧¬id2=c3∧¬id2=c3+1∧¬id2=c3+2∧¬id2=c3+3∧¬id2=c3+4∧¬c3=t∧¬c3=id1∧¬c3=id2∧¬c3=c3+1∧¬c3=c3+2∧¬c3=c3+3∧¬c3=c3+4∧¬c3+1=t∧¬c3+1=id1∧¬c3+1=id2∧¬c3+1=c3∧¬c3+1=c3+2∧¬c3+1=c3+3∧¬c3+1=c3+4∧¬c3+2=t∧¬c3+2=id1∧¬c3+2=id2∧¬c3+2=c3∧¬c3+2=c3+1∧¬c3+2=c3+3∧¬c3+2=c3+4∧¬c3+3=t∧¬c3+3=id1∧¬c3+3=id2∧¬c3+3=c3∧¬c3+3=c3+1∧¬c3+3=c3+2∧¬c3+3=c3+4∧¬c3+4=t∧¬c3+4=id1∧¬c3+4=id2∧¬c3+4=c3∧¬c3+4=c3+1∧¬c3+4=c3+2∧¬c3+4=c3+3:=by and_intros<;>omega
   simp only [go_sem,seval,hs1,hs2,hs3,hs4,hle2,htk,ne0]
   repeat' ((first|(with_reducible first|refine wr ?_)|(with_reducible refine wb2 ?_ ?_<;>(intro hb;try simp only [hb]))|((with_reducible refine k_eval (b_appx (insC_len2 _) (by omega) (by omega)) ?_))|((with_reducible refine k_eval (b_appx (hl3 _ _) (by omega) (by omega)) ?_))|((with_reducible refine k_eval (b_appx (hl4 _ _) (by omega) (by omega)) ?_))|fail)<;>try simp only [go_sem,seval,hs1,hs2,hs3,hs4,hle2,htk,ne0])
   have es:stmtM l (d+1) base p=stK l (stmtM l d) base 14 p1:=by simp only [stmtM];rw [e0];try rfl
   rw [es]
   refine v_end (id:=c3+4) hfr (by omega) (by omega) htc (by first|rfl|simp only [stK,List.length_append,List.length_singleton]) ?_ ?_ fun j h1 h2=>?_
   ·repeat (first|exact h_same|rw [h_ne (by omega)]|rw [h_dne (by omega)])
   ·rw [h_same];simp only [stK,insC_app,insC_one]
   ·repeat (first|rfl|rw [h_ne (by omega)]|rw [h_dne (by omega)])
end Go.Proofs.YtcallbfckjlagaaDoor
namespace Go.Proofs.YtcallbfckjlagaaDoor
open Go.Eng (IC IOper DReg IFn IsFn)
open Go.Sym Go.Pb
section
abbrev u10_10:IC:=qK .skip (.exit 0) (.t 37) [2,3,4,5,6,37]
abbrev u10_9:IC:=qS [oM 34 6,oM 35 5,oH 36 35,oB 37 34 36 .lss] u10_10 [2,3,4,5,6]
abbrev u10_14:IC:=qK (.exit 1) .skip (.t 46) [2,3,4,5,6,46]
abbrev u10_13:IC:=qS [oM 40 6,oK 41 40 .gtr 0,oM 42 41,gM 43 3 42,⟨some 44,.call 27 [.t 43,.k (.int .i64 2)],some (42,true)⟩,gK 45 44 42 .eql 0,oJ 46 42 45] u10_14 [2,3,4,5,6]
abbrev u10_23:IC:=qK .skip (.exit 2) (.t 64) [2,3,4,5,6,8,64]
abbrev u10_22:IC:=qS [oM 63 8,oK 64 63 .gtr 0] u10_23 [2,3,4,5,6,8]
abbrev u10_25:IC:=qG [oF 67 4 0,oL 68 67,oM 69 3,oF 70 4 0,oL 71 70,oH 72 71,oC 73 28 [.t 69,.t 72,.k (.int .i64 2)],oT 74 68 73 2 16,oF 75 4 0,oS 75 74 1] [(0,none),(1,none),(2,none),(3,none),(4,none),(5,none),(6,some [0,1]),(7,some []),(8,none),(9,some [])] 10 [2,3,4,5,6,8]
abbrev u10_26:IC:=qE [oM 65 8,oK 66 65 .sub 1,oM 8 66] [2,3,4,5,6,8]
abbrev u10_24:IC:=qB u10_25 u10_26 3 [2,3,4,5,6,8]
abbrev u10_21:IC:=qQ u10_22 u10_24 [2,3,4,5,6,8]
abbrev u10_20:IC:=qJ (.loop u10_21) 2 [2,3,4,5,6,8]
abbrev u10_19:IC:=qS [oM 61 3,oC 62 27 [.t 61,.k (.int .i64 4)],oM 8 62] u10_20 [2,3,4,5,6]
abbrev u10_27:IC:=qE [oF 76 4 0,oL 77 76,oP 78 (.bld #[.int .i64 0,.int .i64 0] [(0,1),(1,1)] [(0,.k (.int .i64 31))]),⟨some 79,.new (.bsl 2 1 #[.int .i64 0,.int .i64 0] [(0,.t 78)]),none⟩,oT 80 77 79 2 16,oF 81 4 0,oS 81 80 1] [2,3,4,5,6]
abbrev u10_18:IC:=qQ u10_19 u10_27 [2,3,4,5,6]
abbrev u10_17:IC:=qS [oF 55 4 2,oL 56 55,oD 57 7 4,⟨some 58,.new (.bsl 4 1 #[.int .i64 0,.int .i64 0,.int .i64 0,.int .i64 0] [(0,.t 57)]),none⟩,oT 59 56 58 4 32,oF 60 4 2,oS 60 59 1] u10_18 [2,3,4,5,6,7]
abbrev u10_16:IC:=qS [oF 51 4 0,oL 52 51,oH 53 52,oF 54 7 3,oS 54 53 1] u10_17 [2,3,4,5,6,7]
abbrev u10_15:IC:=qS [oM 47 5,oM 48 6,oA 49 47 48 4,oD 50 49 4,oW 7 (.agg #[.int .i64 0,.int .i64 0,.int .i64 0,.int .i64 0]),oS 7 50 4] u10_16 [2,3,4,5,6]
abbrev u10_12:IC:=qQ u10_13 u10_15 [2,3,4,5,6]
abbrev u10_28:IC:=qE [oM 38 6,oK 39 38 .add 1,oM 6 39] [2,3,4,5,6]
abbrev u10_11:IC:=qB u10_12 u10_28 1 [2,3,4,5,6]
abbrev u10_8:IC:=qQ u10_9 u10_11 [2,3,4,5,6]
abbrev u10_7:IC:=qJ (.loop u10_8) 0 [2,3,4,5,6]
abbrev u10_6:IC:=qS [oI 6 0] u10_7 [2,3,4,5]
abbrev u10_29:IC:=qS [oD 82 4 7,oS 2 82 7] .ret [2,4]
abbrev u10_5:IC:=qQ u10_6 u10_29 [2,3,4,5]
abbrev u10_4:IC:=qS [oP 24 (.bld #[.int .i64 0,.int .i64 0,.int .i64 0,.int .i64 0] [(0,1),(1,1),(2,1),(3,1)] [(1,.k (.int .i64 1))]),oP 25 (.bld #[.int .i64 0,.int .i64 0,.int .i64 0,.int .i64 0] [(0,1),(1,1),(2,1),(3,1)] [(1,.k (.int .i64 2))]),oP 26 (.bld #[.int .i64 0,.int .i64 0,.int .i64 0,.int .i64 0] [(0,1),(1,1),(2,1),(3,1)] [(1,.k (.int .i64 3)),(2,.k (.int .i64 3))]),oP 27 (.bld #[.int .i64 0,.int .i64 0,.int .i64 0,.int .i64 0] [(0,1),(1,1),(2,1),(3,1)] [(1,.k (.int .i64 5)),(2,.k (.int .i64 1))]),oP 28 (.bld #[.int .i64 0,.int .i64 0,.int .i64 0,.int .i64 0] [(0,1),(1,1),(2,1),(3,1)] [(1,.k (.int .i64 6))]),oP 29 (.bld #[.int .i64 0,.int .i64 0,.int .i64 0,.int .i64 0] [(0,1),(1,1),(2,1),(3,1)] [(0,.k (.int .i64 1)),(1,.k (.int .i64 1))]),oP 30 (.bld #[.int .i64 0,.int .i64 0,.int .i64 0,.int .i64 0] [(0,1),(1,1),(2,1),(3,1)] [(0,.k (.int .i64 1)),(1,.k (.int .i64 3)),(2,.k (.int .i64 3))]),oP 31 (.bld #[.int .i64 0,.int .i64 0,.int .i64 0,.int .i64 0] [(0,1),(1,1),(2,1),(3,1)] [(0,.k (.int .i64 1)),(1,.k (.int .i64 4)),(2,.k (.int .i64 63))]),oP 32 (.bld #[.int .i64 0,.int .i64 0,.int .i64 0,.int .i64 0] [(0,1),(1,1),(2,1),(3,1)] [(0,.k (.int .i64 1)),(1,.k (.int .i64 6)),(2,.k (.int .i64 1))]),⟨some 33,.new (.bsl 4 9 #[.int .i64 0,.int .i64 0,.int .i64 0,.int .i64 0] [(0,.t 24),(1,.t 25),(2,.t 26),(3,.t 27),(4,.t 28),(5,.t 29),(6,.t 30),(7,.t 31),(8,.t 32)]),none⟩,oM 5 33] u10_5 [2,3,4]
abbrev u10_3:IC:=qS [⟨some 16,.new (.bsl 1 2 #[.string ⟨#[]⟩] [(0,.k (.string ⟨#[103,111]⟩)),(1,.k (.string ⟨#[111,118,101,114]⟩))]),none⟩,oM 17 3,oC 18 27 [.t 17,.k (.int .i64 4)],oM 19 3,oC 20 27 [.t 19,.k (.int .i64 4)],⟨some 21,.new (.bsl 1 2 #[.int .i64 0] [(0,.t 18),(1,.t 20)]),none⟩,⟨some 22,.new (.bsl 1 3 #[.int .i64 0] [(0,.k (.int .i64 0)),(1,.k (.int .i64 5)),(2,.k (.int .i64 (-3)))]),none⟩,oP 23 (.bld #[.slice none 0 0,.slice none 0 0,.slice none 0 0,.slice none 0 0,.slice none 0 0,.int .i64 0,.int .i64 0] [(0,1),(1,1),(2,1),(3,1),(4,1),(5,1),(6,1)] [(1,.t 16),(3,.t 21),(4,.t 22),(5,.k (.int .i64 2)),(6,.k (.int .i64 2))]),oW 4 (.agg #[.slice none 0 0,.slice none 0 0,.slice none 0 0,.slice none 0 0,.slice none 0 0,.int .i64 0,.int .i64 0]),oS 4 23 7] u10_4 [2,3]
abbrev u10_2:IC:=qS [oM 9 0,oM 10 0,oH 11 10,oP 12 (.mn (.t 11) (.k (.int .i64 200))),oP 13 (.slc 1 (.t 9) none (some (.t 12))),oP 14 (.bld #[.slice none 0 0,.int .i64 0] [(0,1),(1,1)] [(0,.t 13)]),oX 15 14,oM 3 15] u10_3 [0,2]
abbrev u10_1:IC:=qS [oW 2 (.agg #[.slice none 0 0,.slice none 0 0,.slice none 0 0,.slice none 0 0,.slice none 0 0,.int .i64 0,.int .i64 0])] u10_2 [0]
def u10:IFn:=⟨83,u10_1,[.cell 2 7 true]⟩
end
theorem isU10:IsFn Tryd.prog 10 u10:=by unfold IsFn;kernel_rfl
def madeO (l:List UInt8) (id:Nat):DV:=.agg (.slc id 0 (madeM l).instrs.length :: [strs mdS,entsV (madeM l).entries,ints (mdP (l.take 200)),ints mdV,I64 2,I64 2])
theorem c_MadeN (l:List UInt8) (hl:l.length≤9223372036854775807):AC Tryd.prog 10 [.lst (bytesC l)] nil 0 (fun v H' _ => ∃ id,v=madeO l id∧H'=nil.upd id ⟨2,true,insC (madeM l).instrs⟩):=by
 refine AC.body mixedU isU10 (Nat.le_of_ble_eq_true rfl) fun hfr=>?_
 show IW Tryd.prog 83 u10_1 ⟨argT _,_,_⟩ (rt [.cell 2 7 true] _)
 have hlen:=bytesC_len l
 obtain ⟨t,ht⟩:∃ t,t=l.take 200:=⟨_,rfl⟩
 have htl:t.length≤200:=by rw [ht,List.length_take];omega
 have hmn:(if (200:Int)<((l.length:Nat):Int) then (200:Int) else ((l.length:Nat):Int))=((t.length:Nat):Int):=by
  rw [ht,List.length_take];split<;>omega
 have hsl:∀ H,slcR H 1 (.lst (bytesC l)) none (some (I64 (t.length:Int)))=some (.lst (bytesC t)):=fun H=>by
  have e:l.take t.length=t:=by
   rw [ht,List.length_take]
   by_cases h:200≤l.length
   ·rw [Nat.min_eq_left h]
   ·rw [Nat.min_eq_right (by omega),List.take_of_length_le (Nat.le_refl _),List.take_of_length_le (by omega)]
  rw [slc_bytes (by rw [ht,List.length_take];omega),e]
 repeat' ((with_reducible first|refine wr ?_|refine wb2 ?_ ?_<;>(intro hb;try simp only [hb])|fail)<;>try simp only [go_sem,seval,hlen,hmn,hsl])
 refine AC.call (c_next t (by omega) 0 (by omega) 4 (by omega) (by omega) _ _ 1 rfl (by omega)) ?_
 rintro v H' c1 ⟨rfl,rfl⟩ hc1
 have hp1:=nextM_le (l:=t) (p:=0) (n:=4) (by omega)
 simp only [go_sem,seval]
 repeat' ((with_reducible first|refine wr ?_|refine wb2 ?_ ?_<;>(intro hb;try simp only [hb])|fail)<;>try simp only [go_sem,seval])
 refine AC.call (c_next t (by omega) _ hp1 4 (by omega) (by omega) _ _ 1 h_same (by omega)) ?_
 rintro v H' c2 ⟨rfl,rfl⟩ hc2
 have hp2:=nextM_le (l:=t) (p:=(nextM t 0 4).2) (n:=4) hp1
 rw [h_upd2]
 have ne0:=nes7 0 1 2 c2 (c2+1) (c2+2) (c2+3) (by omega)
 simp only [go_sem,seval,ne0]
 repeat' ((with_reducible first|refine wr ?_|refine wb2 ?_ ?_<;>(intro hb;try simp only [hb])|fail)<;>try simp only [go_sem,seval,ne0])
 have hkk:∃ k,k=c2+1+1:=⟨_,rfl⟩
 have hkeys:(entsV keysM)=entsV keysM:=rfl
 refine IW.keep [2,3,4,5,6] [.ptr 0 0,.ptr 1 0,.ptr (c2+1+1) 0,entsV keysM,I64 0]
  (H':=MH (c2+1+1) t (nextM t (nextM t 0 4).2 4).2 (strs mdS) (ints (mdP t)) (ints mdV) [] [] none none)
  ((g_cell (a:=2) (k:=c2+1+1) (u:=1) (u':=1) (pre:=[.snil]) (suf:=[.snil,.slc c2 0 2,.slc (c2+1) 0 3,I64 2,I64 2]) (xs:=mdS.map DV.str) (junk:=[]) (by simp only [go_sem,ne0,List.cons_append,List.nil_append];rfl) (by simp only [go_sem,ne0];rfl) (by simp [DV.one]) rfl (str_unit _) (by omega)).trans
  ((g_cell (a:=c2) (k:=c2+1+1) (u:=1) (u':=1) (pre:=[.snil,strs mdS,.snil]) (suf:=[.slc (c2+1) 0 3,I64 2,I64 2]) (xs:=(mdP t).map I64) (junk:=[]) (by simp only [go_sem,ne0,List.cons_append,List.nil_append];rfl) (by simp only [go_sem,ne0];rfl) (by simp [DV.one]) rfl (ints_unit _) (by omega)).trans
  ((g_cell (a:=c2+1) (k:=c2+1+1) (u:=1) (u':=1) (pre:=[.snil,strs mdS,.snil,ints (mdP t)]) (suf:=[I64 2,I64 2]) (xs:=mdV.map I64) (junk:=[]) (by simp only [go_sem,ne0,List.cons_append,List.nil_append];rfl) (by simp only [go_sem,ne0];rfl) (by simp [DV.one]) rfl (ints_unit _) (by omega)).trans
  (GL.frzS (id:=c2+1+1+1) (b:=⟨4,true,cellsL (keysM.map Ent.v)⟩) (by simp only [go_sem,ne0];rfl) rfl (fun j=>?_) (.cons _ _ _ _ (.same _) (.cons _ _ _ _ (.same _) (.cons _ _ _ _ (.same _) (.cons _ _ _ _ (fz_slc (u:=4) rfl (ent_unit _) ⟨[],by simp⟩) (.cons _ _ _ _ (.same _) .nil))))))))) ?_
 ·by_cases e1:j=c2+1+1
  ·subst e1;right;refine ⟨by omega,?_⟩;rw [h_same];unfold MH;simp only [optH];rw [h_same];rfl
  ·by_cases e2:j=1
   ·subst e2;right;refine ⟨by omega,?_⟩;rw [h_ne (by omega),h_dne (by omega),h_ne (by omega),h_dne (by omega),h_ne (by omega),h_dne (by omega)];simp only [go_sem,ne0];rfl
   ·by_cases e3:j=0
    ·subst e3;right;refine ⟨by omega,?_⟩;rw [h_ne (by omega),h_dne (by omega),h_ne (by omega),h_dne (by omega),h_ne (by omega),h_dne (by omega)];simp only [go_sem,ne0];rfl
    ·left;unfold MH;simp only [optH];rw [h_ne e1,h_ne e2,h_ne e3];rfl
 obtain ⟨k,hk⟩:∃ k,k=c2+1+1:=⟨_,rfl⟩
 rw [← hk]
 have hkl:keysM.length=9:=rfl
 refine i_loop (fun q:Nat × Option Nat × Option Nat=>[(2,.ptr 0 0),(3,.ptr 1 0),(4,.ptr k 0),(5,entsV keysM),(6,I64 q.1)]) (fun q=>MH k t (mdK t q.1).p (strs mdS) (ints (mdP t)) (ints mdV) (mdK t q.1).I (mdK t q.1).E q.2.1 q.2.2)
  (fun q cc=>MO k q.2.1 q.2.2 cc∧q.1≤9∧(q.2.1=none→(mdK t q.1).I=[])∧(q.2.2=none→(mdK t q.1).E=[])∧(q.1≠0→q.2.1≠none∧q.2.2≠none)) (fun q=>9-q.1) (0,none,none)
  (by simp [tmLe,tm,Tm.upd]) (Sub.refl _) ⟨⟨by omega,by omega,by simp,by simp,by simp⟩,by simp,fun _=>rfl,fun _=>rfl,by simp⟩ ?_
 clear hkeys hkk
 rintro ⟨i,o1,o2⟩ cc ⟨hO,hi9,hn1,hn2,hne⟩
 simp only at hO hi9 hn1 hn2 hne
 obtain ⟨B1,B2,B3⟩:=mdK_bd (l:=t) i
 by_cases hlt:i<9
 ·have hd:decide ((i:Int)<9)=true:=by simp;omega
  have hw:IntKind.i64.wrap ((i:Int)+1)=((i+1:Nat):Int):=by rw [w64 (by omega) (by omega)];omega
  obtain ⟨e,he⟩:∃ e,e=keysM.getD i ⟨0,0,0,0⟩:=⟨_,rfl⟩
  have hg:keysM[i]? = some e:=by rw [he,List.getD,List.getElem?_eq_getElem (by rw [hkl];exact hlt)];rfl
  obtain ⟨x,hx⟩:∃ x,x=mdK t i:=⟨_,rfl⟩
  have hmd:mdK t (i+1)=mdI t e i x:=by rw [he,hx];rfl
  rw [← hx] at B1 B2 B3 hn1 hn2
  simp only
  rw [← hx]
  obtain ⟨I,E,p⟩:=x
  simp only at B1 B2 B3 hn1 hn2 ⊢
  by_cases hi0:i=0
  ·have hgt:decide ((i:Int)>0)=false:=by simp;omega
   obtain ⟨pp,hpp⟩:∃ pp,pp=p:=⟨_,rfl⟩
   have hmd2:mdK t (i+1)=mdH t e ⟨I,E,p⟩ pp:=by rw [hmd,mdI,if_pos hi0,hpp]
   have Hpp:pp≤t.length:=by rw [hpp];exact B1
   rw [← hpp]
   have hlt1:=r_lentodo (o:=o1) (n:=I.length) (fun e=>len_nil (hn1 e))
   have hD:=fun (p:Nat)=>MH_k (l:=t) (p:=p) (S:=strs mdS) (P:=ints (mdP t)) (V:=ints mdV) (I:=I) (E:=E) hO
   have hcc:=hO.kc
   have hk2:=hO.k2
   have hdk:∀ X,delO X o2 k=X k:=fun X=>delO_ne (fun i hi e=>by have:=hO.b i hi;omega)
   have hd1:∀ X,delO X o2 1=X 1:=fun X=>delO_ne (fun i hi e=>by have:=hO.b i hi;omega)
   have hd0:∀ X,delO X o2 0=X 0:=fun X=>delO_ne (fun i hi e=>by have:=hO.b i hi;omega)
   have hda:∀ X j,o1=some j→delO X o2 j=X j:=fun X j hj=>delO_ne (fun i hi e=>hO.ne j hj (by rw [e];exact hi))
   have ne0:=nes6 0 1 k cc (cc+1) (cc+2) (by omega)
   repeat' ((with_reducible first|refine wr ?_|refine wb2 ?_ ?_<;>(intro hb;try simp only [hb])|fail)<;>try simp only [go_sem,seval,hkl,hd,hgt,hg,hlt1,hD,ne0])
   refine k_eval (r_apptodo (cs:=cellsL (E.map Ent.v)) (fun e=>⟨len_nil (hn2 e),entC_nil (hn2 e)⟩) (fun i hi=>?_) (entC_len' E) (by omega) (by omega) (by omega)) ?_
   ·have:=hO.b i hi
    rw [h_ne (by omega),h_ne (by omega),h_ne (by omega),h_ne (by omega)];exact MH_b hi
   simp only [go_sem,seval,hdk,hD,ne0]
   repeat' ((with_reducible first|refine wr ?_|refine wb2 ?_ ?_<;>(intro hb;try simp only [hb])|fail)<;>try simp only [go_sem,seval,hdk,hD,ne0])
   refine AC.call (c_next t (by omega) pp Hpp 4 (by omega) (by omega) _ _ 1 (by repeat (first|exact MH_1 hO|rw [h_ne (by omega)]|rw [hd1])) (by omega)) ?_
   rintro v H' c4 ⟨rfl,rfl⟩ hc4
   have hq4:=nextM_lt (l:=t) (p:=pp) (n:=4) (by omega)
   have hp4:=nextM_le (l:=t) (p:=pp) (n:=4) Hpp
   obtain ⟨n,hn⟩:∃ n,n=(nextM t pp 4).1:=⟨_,rfl⟩
   obtain ⟨p2,hp2⟩:∃ p2,p2=(nextM t pp 4).2:=⟨_,rfl⟩
   rw [← hn, ← hp2]
   rw [← hn] at hq4
   rw [← hp2] at hp4
   simp only [go_sem,seval]
   repeat' ((with_reducible first|refine wr ?_|refine wb2 ?_ ?_<;>(intro hb;try simp only [hb])|fail)<;>try simp only [go_sem,seval])
   obtain ⟨e',he'⟩:∃ e':Ent,e'=⟨e.mode,e.trigger,e.index,(I.length:Int)⟩:=⟨_,rfl⟩
   have hE':cellsL ((E++[e']).map Ent.v)=cellsL (E.map Ent.v)++[I64 e.mode,I64 e.trigger,I64 e.index,I64 (I.length:Int)]:=by rw [entC_snoc,he']
   refine i_loop (fun q:Nat × Option Nat=>[(2,.ptr 0 0),(3,.ptr 1 0),(4,.ptr k 0),(5,entsV keysM),(6,I64 i),(8,I64 ((n-q.1:Nat):Int))]) (fun q=>MH k t (mdB t q.1 (I,p2)).2 (strs mdS) (ints (mdP t)) (ints mdV) (mdB t q.1 (I,p2)).1 (E++[e']) q.2 (some (cc+1+1)))
    (fun q c=>MO k q.2 (some (cc+1+1)) c∧q.1≤n∧(q.2=none→(mdB t q.1 (I,p2)).1=[])) (fun q=>n-q.1) (0,o1) (by simp [tmLe,tm,Tm.upd]) ?_ ?_ ?_
   ·refine MH_sub (by repeat (first|exact MH_0 hO|rw [h_ne (by omega)]|rw [hd0])) h_same ?_ (fun j hj=>?_) (fun j hj=>?_)
    ·rw [h_ne (by omega),h_same,List.length_append];rfl
    ·have:=hO.a j hj
     rw [h_ne (by omega),h_ne (by omega),h_ne (by omega),hda _ j hj,h_ne (by omega),h_ne (by omega),h_ne (by omega),h_ne (by omega)];exact MH_a hO hj
    ·cases hj
     rw [h_ne (by omega),h_ne (by omega),h_same,hE']
   ·exact ⟨⟨hk2,by omega,fun j hj=>by have:=hO.a j hj;omega,fun j hj=>by cases hj;omega,fun j hj e=>by cases e;have:=hO.a _ hj;omega⟩,by simp,hn1⟩
   rintro ⟨j,oj⟩ cj ⟨hOj,hjn,hnj⟩
   simp only at hOj hjn hnj
   have hbl:=mdB_len (l:=t) (x:=(I,p2)) j
   have hbp:=mdB_pos (l:=t) (x:=(I,p2)) hp4 j
   simp only at hbl
   obtain ⟨Ij,hIj⟩:∃ x,x=(mdB t j (I,p2)).1:=⟨_,rfl⟩
   obtain ⟨pj,hpj⟩:∃ x,x=(mdB t j (I,p2)).2:=⟨_,rfl⟩
   simp only
   rw [← hIj, ← hpj]
   rw [← hIj] at hbl hnj
   rw [← hpj] at hbp
   have hDj:=fun (p:Nat)=>MH_k (l:=t) (p:=p) (S:=strs mdS) (P:=ints (mdP t)) (V:=ints mdV) (I:=Ij) (E:=E++[e']) hOj
   have hltj:=r_lentodo (o:=oj) (n:=Ij.length) (fun e=>len_nil (hnj e))
   have hckj:=hOj.kc
   by_cases hj0:j<n
   ·have hgj:decide (((n-j:Nat):Int)>0)=true:=by simp;omega
    have hwj:IntKind.i64.wrap (((n-j:Nat):Int)-1)=((n-(j+1):Nat):Int):=by rw [w64 (by omega) (by omega)];omega
    have f0:=MH_n (l:=t) (p:=pj) (S:=strs mdS) (P:=ints (mdP t)) (V:=ints mdV) (I:=Ij) (E:=E++[e']) hOj (j:=cj) (by omega)
    have f1:=MH_n (l:=t) (p:=pj) (S:=strs mdS) (P:=ints (mdP t)) (V:=ints mdV) (I:=Ij) (E:=E++[e']) hOj (j:=cj+1) (by omega)
    have ne0:=nes5 0 1 k cj (cj+1) (by omega)
    repeat' ((with_reducible first|refine wr ?_|refine wb2 ?_ ?_<;>(intro hb;try simp only [hb])|fail)<;>try simp only [go_sem,seval,hgj,hDj,hltj,ne0])
    refine AC.call (c_stmt t (by omega) 2 (by omega) Ij.length pj (by omega) hbp _ _ 1 (MH_1 hOj) (by omega)) ?_
    rintro v H' c5 ⟨id,ia,ib,rfl,rfl⟩ hc5
    have hsl:=stmtM_len t 2 Ij.length pj
    have hs1:1≤(stmtM t 2 Ij.length pj).1.length:=stmtM_ne
    have ne0:=nes7 0 1 k cj (cj+1) id c5 (by omega)
    have hl2:=insC_len2 (stmtM t 2 Ij.length pj).1
    have hle2:(stmtM t 2 Ij.length pj).1.length * 2≤(insC (stmtM t 2 Ij.length pj).1).length:=by omega
    have htk:=List.take_of_length_le (l:=insC (stmtM t 2 Ij.length pj).1) (i:=(stmtM t 2 Ij.length pj).1.length * 2) (by omega)
    have hdkj:∀ X,delO X oj k=X k:=fun X=>delO_ne (fun i hi e=>by have:=hOj.a i hi;omega)
    simp only [go_sem,seval,f0,f1,hDj,hltj,hle2,htk,ne0]
    repeat' ((with_reducible first|refine wr ?_|refine wb2 ?_ ?_<;>(intro hb;try simp only [hb])|fail)<;>try simp only [go_sem,seval,f0,f1,hDj,hltj,hle2,htk,ne0])
    refine x_eval (r_apptodo (cs:=insC Ij) (fun e=>⟨len_nil (hnj e),insC_nil (hnj e)⟩) (fun i hi=>?_) (insC_len2 Ij) (by omega) (by omega) (by omega)) ?_
    ·have:=hOj.a i hi
     rw [h_ne (by omega),h_ne (by omega)];exact MH_a hOj hi
    simp only [go_sem,seval,hdkj,hDj,ne0]
    repeat' ((with_reducible first|refine wr ?_|refine wb2 ?_ ?_<;>(intro hb;try simp only [hb])|fail)<;>try simp only [go_sem,seval,hdkj,hDj,hwj,ne0])
    have hOb:=hOj.b _ rfl
    have hd0j:∀ X,delO X oj 0=X 0:=fun X=>delO_ne (fun i hi e=>by have:=hOj.a i hi;omega)
    have hd1j:∀ X,delO X oj 1=X 1:=fun X=>delO_ne (fun i hi e=>by have:=hOj.a i hi;omega)
    have hdej:∀ X,delO X oj (cc+1+1)=X (cc+1+1):=fun X=>delO_ne (fun i hi e=>hOj.ne i hi (by rw [← e]))
    have m1:(mdB t (j+1) (I,p2)).1=Ij++(stmtM t 2 Ij.length pj).1:=by simp only [mdB];rw [← hIj, ← hpj]
    have m2:(mdB t (j+1) (I,p2)).2=(stmtM t 2 Ij.length pj).2:=by simp only [mdB];rw [← hIj, ← hpj]
    refine ⟨(j+1,some c5),rfl,?_,inv ⟨⟨hk2,by omega,fun i hi=>by cases hi;omega,fun i hi=>by cases hi;omega,fun i hi e=>by cases hi;cases e;omega⟩,hj0,by simp⟩,by simp only;omega⟩
    simp only [m1,m2]
    refine MH_sub ?_ ?_ ?_ (fun i hi=>?_) (fun i hi=>?_)
    ·rw [h_ne (by omega),h_ne (by omega),hd0j,h_ne (by omega),h_ne (by omega)];exact MH_0 hOj
    ·rw [h_ne (by omega),h_ne (by omega),hd1j,h_ne (by omega),h_same]
    ·rw [h_same];simp only [todo_s,List.length_append,List.length_singleton]
    ·cases hi;rw [h_ne (by omega),h_same,insC_app]
    ·cases hi;rw [h_ne (by omega),h_ne (by omega),hdej,h_ne (by omega),h_ne (by omega)];exact MH_b rfl
   ·have hjn2:j=n:=by omega
    have hgj:decide (((n-j:Nat):Int)>0)=false:=by simp;omega
    have hdkj:∀ X,delO X oj k=X k:=fun X=>delO_ne (fun i hi e=>by have:=hOj.a i hi;omega)
    have ne0:=nes5 0 1 k cj (cj+1) (by omega)
    repeat' ((with_reducible first|refine wr ?_|refine wb2 ?_ ?_<;>(intro hb;try simp only [hb])|fail)<;>try simp only [go_sem,seval,hgj,hDj,ne0])
    refine k_eval (r_apptodo (cs:=insC Ij) (fun e=>⟨len_nil (hnj e),insC_nil (hnj e)⟩) (fun i hi=>?_) (insC_len2 Ij) (by omega) (by omega) (by omega)) ?_
    ·have:=hOj.a i hi
     rw [h_ne (by omega)];exact MH_a hOj hi
    simp only [go_sem,seval,hdkj,hDj,ne0]
    repeat' ((with_reducible first|refine wr ?_|refine wb2 ?_ ?_<;>(intro hb;try simp only [hb])|fail)<;>try simp only [go_sem,seval,hdkj,hDj,hw,ne0])
    have hOb:=hOj.b _ rfl
    have hd0j:∀ X,delO X oj 0=X 0:=fun X=>delO_ne (fun i hi e=>by have:=hOj.a i hi;omega)
    have hd1j:∀ X,delO X oj 1=X 1:=fun X=>delO_ne (fun i hi e=>by have:=hOj.a i hi;omega)
    have hdej:∀ X,delO X oj (cc+1+1)=X (cc+1+1):=fun X=>delO_ne (fun i hi e=>hOj.ne i hi (by rw [← e]))
    have M1:(mdK t (i+1)).I=Ij++[⟨31,0⟩]:=by rw [hmd2];simp only [mdH];rw [← hn, ← hp2, ← hjn2, ← hIj]
    have M2:(mdK t (i+1)).E=E++[e']:=by rw [hmd2,he'];rfl
    have M3:(mdK t (i+1)).p=pj:=by rw [hmd2];simp only [mdH];rw [← hn, ← hp2, ← hjn2, ← hpj]
    refine ⟨(i+1,some (cj+1),some (cc+1+1)),rfl,?_,inv ⟨⟨hk2,by omega,fun i hi=>by cases hi;omega,fun i hi=>by cases hi;omega,fun i hi e=>by cases hi;cases e;omega⟩,hlt,by simp,by simp,by simp⟩,by simp only;omega⟩
    simp only [M1,M2,M3]
    refine MH_sub ?_ ?_ ?_ (fun i hi=>?_) (fun i hi=>?_)
    ·rw [h_ne (by omega),h_ne (by omega),hd0j,h_ne (by omega)];exact MH_0 hOj
    ·rw [h_ne (by omega),h_ne (by omega),hd1j,h_ne (by omega)];exact MH_1 hOj
    ·rw [h_same];simp only [todo_s,List.length_append,List.length_singleton]
    ·cases hi;rw [h_ne (by omega),h_same,insC_app,insC_one]
    ·cases hi;rw [h_ne (by omega),h_ne (by omega),hdej,h_ne (by omega)];exact MH_b rfl
  ·have hgt:decide ((i:Int)>0)=true:=by simp;omega
   repeat' ((with_reducible first|refine wr ?_|refine wb2 ?_ ?_<;>(intro hb;try simp only [hb])|fail)<;>try simp only [go_sem,seval,hkl,hd,hgt])
   refine AC.call (c_next t (by omega) p B1 2 (by omega) (by omega) _ _ 1 (MH_1 hO) (by have:=hO.kc;have:=hO.k2;omega)) ?_
   rintro v H' c3 ⟨rfl,rfl⟩ hc3
   rw [MH_t hO]
   replace hO:=hO.mono hc3
   by_cases hz:(nextM t p 2).1=0
   ·have hz1:(((nextM t p 2).1:Int) == 0)=true:=by simp [hz]
    have hmd2:mdK t (i+1)=⟨I,E,(nextM t p 2).2⟩:=by rw [hmd,mdI,if_neg hi0,if_pos hz]
    simp only [go_sem,seval,hz1]
    repeat' ((with_reducible first|refine wr ?_|refine wb2 ?_ ?_<;>(intro hb;try simp only [hb])|fail)<;>try simp only [go_sem,seval,hz1,hw])
    refine ⟨(i+1,o1,o2),rfl,?_,inv ⟨hO,hlt,?_,?_,fun _=>hne hi0⟩,by simp only;omega⟩
    ·simp only [hmd2];exact Sub.refl _
    ·simp only [hmd2];exact hn1
    ·simp only [hmd2];exact hn2
   ·have hz1:(((nextM t p 2).1:Int) == 0)=false:=by simp [hz]
    obtain ⟨pp,hpp⟩:∃ pp,pp=(nextM t p 2).2:=⟨_,rfl⟩
    have hmd2:mdK t (i+1)=mdH t e ⟨I,E,p⟩ pp:=by rw [hmd,mdI,if_neg hi0,if_neg hz,hpp]
    have Hpp:pp≤t.length:=by rw [hpp];exact nextM_le B1
    rw [← hpp]
    have hlt1:=r_lentodo (o:=o1) (n:=I.length) (fun e=>len_nil (hn1 e))
    have hD:=fun (p:Nat)=>MH_k (l:=t) (p:=p) (S:=strs mdS) (P:=ints (mdP t)) (V:=ints mdV) (I:=I) (E:=E) hO
    have hcc:=hO.kc
    have hk2:=hO.k2
    have hdk:∀ X,delO X o2 k=X k:=fun X=>delO_ne (fun i hi e=>by have:=hO.b i hi;omega)
    have hd1:∀ X,delO X o2 1=X 1:=fun X=>delO_ne (fun i hi e=>by have:=hO.b i hi;omega)
    have hd0:∀ X,delO X o2 0=X 0:=fun X=>delO_ne (fun i hi e=>by have:=hO.b i hi;omega)
    have hda:∀ X j,o1=some j→delO X o2 j=X j:=fun X j hj=>delO_ne (fun i hi e=>hO.ne j hj (by rw [e];exact hi))
    have ne0:=nes6 0 1 k c3 (c3+1) (c3+2) (by omega)
    simp only [go_sem,seval,hz1,hkl,hg,hlt1,hD,ne0]
    repeat' ((with_reducible first|refine wr ?_|refine wb2 ?_ ?_<;>(intro hb;try simp only [hb])|fail)<;>try simp only [go_sem,seval,hz1,hkl,hd,hg,hlt1,hD,ne0])
    refine k_eval (r_apptodo (cs:=cellsL (E.map Ent.v)) (fun e=>⟨len_nil (hn2 e),entC_nil (hn2 e)⟩) (fun i hi=>?_) (entC_len' E) (by omega) (by omega) (by omega)) ?_
    ·have:=hO.b i hi
     rw [h_ne (by omega),h_ne (by omega),h_ne (by omega),h_ne (by omega)];exact MH_b hi
    simp only [go_sem,seval,hdk,hD,ne0]
    repeat' ((with_reducible first|refine wr ?_|refine wb2 ?_ ?_<;>(intro hb;try simp only [hb])|fail)<;>try simp only [go_sem,seval,hdk,hD,ne0])
    refine AC.call (c_next t (by omega) pp Hpp 4 (by omega) (by omega) _ _ 1 (by repeat (first|exact MH_1 hO|rw [h_ne (by omega)]|rw [hd1])) (by omega)) ?_
    rintro v H' c4 ⟨rfl,rfl⟩ hc4
    have hq4:=nextM_lt (l:=t) (p:=pp) (n:=4) (by omega)
    have hp4:=nextM_le (l:=t) (p:=pp) (n:=4) Hpp
    obtain ⟨n,hn⟩:∃ n,n=(nextM t pp 4).1:=⟨_,rfl⟩
    obtain ⟨p2,hp2⟩:∃ p2,p2=(nextM t pp 4).2:=⟨_,rfl⟩
    rw [← hn, ← hp2]
    rw [← hn] at hq4
    rw [← hp2] at hp4
    simp only [go_sem,seval]
    repeat' ((with_reducible first|refine wr ?_|refine wb2 ?_ ?_<;>(intro hb;try simp only [hb])|fail)<;>try simp only [go_sem,seval])
    obtain ⟨e',he'⟩:∃ e':Ent,e'=⟨e.mode,e.trigger,e.index,(I.length:Int)⟩:=⟨_,rfl⟩
    have hE':cellsL ((E++[e']).map Ent.v)=cellsL (E.map Ent.v)++[I64 e.mode,I64 e.trigger,I64 e.index,I64 (I.length:Int)]:=by rw [entC_snoc,he']
    refine i_loop (fun q:Nat × Option Nat=>[(2,.ptr 0 0),(3,.ptr 1 0),(4,.ptr k 0),(5,entsV keysM),(6,I64 i),(8,I64 ((n-q.1:Nat):Int))]) (fun q=>MH k t (mdB t q.1 (I,p2)).2 (strs mdS) (ints (mdP t)) (ints mdV) (mdB t q.1 (I,p2)).1 (E++[e']) q.2 (some (c3+1+1)))
     (fun q c=>MO k q.2 (some (c3+1+1)) c∧q.1≤n∧(q.2=none→(mdB t q.1 (I,p2)).1=[])) (fun q=>n-q.1) (0,o1) (by simp [tmLe,tm,Tm.upd]) ?_ ?_ ?_
    ·refine MH_sub (by repeat (first|exact MH_0 hO|rw [h_ne (by omega)]|rw [hd0])) h_same ?_ (fun j hj=>?_) (fun j hj=>?_)
     ·rw [h_ne (by omega),h_same,List.length_append];rfl
     ·have:=hO.a j hj
      rw [h_ne (by omega),h_ne (by omega),h_ne (by omega),hda _ j hj,h_ne (by omega),h_ne (by omega),h_ne (by omega),h_ne (by omega)];exact MH_a hO hj
     ·cases hj
      rw [h_ne (by omega),h_ne (by omega),h_same,hE']
    ·exact ⟨⟨hk2,by omega,fun j hj=>by have:=hO.a j hj;omega,fun j hj=>by cases hj;omega,fun j hj e=>by cases e;have:=hO.a _ hj;omega⟩,by simp,hn1⟩
    rintro ⟨j,oj⟩ cj ⟨hOj,hjn,hnj⟩
    simp only at hOj hjn hnj
    have hbl:=mdB_len (l:=t) (x:=(I,p2)) j
    have hbp:=mdB_pos (l:=t) (x:=(I,p2)) hp4 j
    simp only at hbl
    obtain ⟨Ij,hIj⟩:∃ x,x=(mdB t j (I,p2)).1:=⟨_,rfl⟩
    obtain ⟨pj,hpj⟩:∃ x,x=(mdB t j (I,p2)).2:=⟨_,rfl⟩
    simp only
    rw [← hIj, ← hpj]
    rw [← hIj] at hbl hnj
    rw [← hpj] at hbp
    have hDj:=fun (p:Nat)=>MH_k (l:=t) (p:=p) (S:=strs mdS) (P:=ints (mdP t)) (V:=ints mdV) (I:=Ij) (E:=E++[e']) hOj
    have hltj:=r_lentodo (o:=oj) (n:=Ij.length) (fun e=>len_nil (hnj e))
    have hckj:=hOj.kc
    by_cases hj0:j<n
    ·have hgj:decide (((n-j:Nat):Int)>0)=true:=by simp;omega
     have hwj:IntKind.i64.wrap (((n-j:Nat):Int)-1)=((n-(j+1):Nat):Int):=by rw [w64 (by omega) (by omega)];omega
     have f0:=MH_n (l:=t) (p:=pj) (S:=strs mdS) (P:=ints (mdP t)) (V:=ints mdV) (I:=Ij) (E:=E++[e']) hOj (j:=cj) (by omega)
     have f1:=MH_n (l:=t) (p:=pj) (S:=strs mdS) (P:=ints (mdP t)) (V:=ints mdV) (I:=Ij) (E:=E++[e']) hOj (j:=cj+1) (by omega)
     have ne0:=nes5 0 1 k cj (cj+1) (by omega)
     repeat' ((with_reducible first|refine wr ?_|refine wb2 ?_ ?_<;>(intro hb;try simp only [hb])|fail)<;>try simp only [go_sem,seval,hgj,hDj,hltj,ne0])
     refine AC.call (c_stmt t (by omega) 2 (by omega) Ij.length pj (by omega) hbp _ _ 1 (MH_1 hOj) (by omega)) ?_
     rintro v H' c5 ⟨id,ia,ib,rfl,rfl⟩ hc5
     have hsl:=stmtM_len t 2 Ij.length pj
     have hs1:1≤(stmtM t 2 Ij.length pj).1.length:=stmtM_ne
     have ne0:=nes7 0 1 k cj (cj+1) id c5 (by omega)
     have hl2:=insC_len2 (stmtM t 2 Ij.length pj).1
     have hle2:(stmtM t 2 Ij.length pj).1.length * 2≤(insC (stmtM t 2 Ij.length pj).1).length:=by omega
     have htk:=List.take_of_length_le (l:=insC (stmtM t 2 Ij.length pj).1) (i:=(stmtM t 2 Ij.length pj).1.length * 2) (by omega)
     have hdkj:∀ X,delO X oj k=X k:=fun X=>delO_ne (fun i hi e=>by have:=hOj.a i hi;omega)
     simp only [go_sem,seval,f0,f1,hDj,hltj,hle2,htk,ne0]
     repeat' ((with_reducible first|refine wr ?_|refine wb2 ?_ ?_<;>(intro hb;try simp only [hb])|fail)<;>try simp only [go_sem,seval,f0,f1,hDj,hltj,hle2,htk,ne0])
     refine x_eval (r_apptodo (cs:=insC Ij) (fun e=>⟨len_nil (hnj e),insC_nil (hnj e)⟩) (fun i hi=>?_) (insC_len2 Ij) (by omega) (by omega) (by omega)) ?_
     ·have:=hOj.a i hi
      rw [h_ne (by omega),h_ne (by omega)];exact MH_a hOj hi
     simp only [go_sem,seval,hdkj,hDj,ne0]
     repeat' ((with_reducible first|refine wr ?_|refine wb2 ?_ ?_<;>(intro hb;try simp only [hb])|fail)<;>try simp only [go_sem,seval,hdkj,hDj,hwj,ne0])
     have hOb:=hOj.b _ rfl
     have hd0j:∀ X,delO X oj 0=X 0:=fun X=>delO_ne (fun i hi e=>by have:=hOj.a i hi;omega)
     have hd1j:∀ X,delO X oj 1=X 1:=fun X=>delO_ne (fun i hi e=>by have:=hOj.a i hi;omega)
     have hdej:∀ X,delO X oj (c3+1+1)=X (c3+1+1):=fun X=>delO_ne (fun i hi e=>hOj.ne i hi (by rw [← e]))
     have m1:(mdB t (j+1) (I,p2)).1=Ij++(stmtM t 2 Ij.length pj).1:=by simp only [mdB];rw [← hIj, ← hpj]
     have m2:(mdB t (j+1) (I,p2)).2=(stmtM t 2 Ij.length pj).2:=by simp only [mdB];rw [← hIj, ← hpj]
     refine ⟨(j+1,some c5),rfl,?_,inv ⟨⟨hk2,by omega,fun i hi=>by cases hi;omega,fun i hi=>by cases hi;omega,fun i hi e=>by cases hi;cases e;omega⟩,hj0,by simp⟩,by simp only;omega⟩
     simp only [m1,m2]
     refine MH_sub ?_ ?_ ?_ (fun i hi=>?_) (fun i hi=>?_)
     ·rw [h_ne (by omega),h_ne (by omega),hd0j,h_ne (by omega),h_ne (by omega)];exact MH_0 hOj
     ·rw [h_ne (by omega),h_ne (by omega),hd1j,h_ne (by omega),h_same]
     ·rw [h_same];simp only [todo_s,List.length_append,List.length_singleton]
     ·cases hi;rw [h_ne (by omega),h_same,insC_app]
     ·cases hi;rw [h_ne (by omega),h_ne (by omega),hdej,h_ne (by omega),h_ne (by omega)];exact MH_b rfl
    ·have hjn2:j=n:=by omega
     have hgj:decide (((n-j:Nat):Int)>0)=false:=by simp;omega
     have hdkj:∀ X,delO X oj k=X k:=fun X=>delO_ne (fun i hi e=>by have:=hOj.a i hi;omega)
     have ne0:=nes5 0 1 k cj (cj+1) (by omega)
     repeat' ((with_reducible first|refine wr ?_|refine wb2 ?_ ?_<;>(intro hb;try simp only [hb])|fail)<;>try simp only [go_sem,seval,hgj,hDj,ne0])
     refine k_eval (r_apptodo (cs:=insC Ij) (fun e=>⟨len_nil (hnj e),insC_nil (hnj e)⟩) (fun i hi=>?_) (insC_len2 Ij) (by omega) (by omega) (by omega)) ?_
     ·have:=hOj.a i hi
      rw [h_ne (by omega)];exact MH_a hOj hi
     simp only [go_sem,seval,hdkj,hDj,ne0]
     repeat' ((with_reducible first|refine wr ?_|refine wb2 ?_ ?_<;>(intro hb;try simp only [hb])|fail)<;>try simp only [go_sem,seval,hdkj,hDj,hw,ne0])
     have hOb:=hOj.b _ rfl
     have hd0j:∀ X,delO X oj 0=X 0:=fun X=>delO_ne (fun i hi e=>by have:=hOj.a i hi;omega)
     have hd1j:∀ X,delO X oj 1=X 1:=fun X=>delO_ne (fun i hi e=>by have:=hOj.a i hi;omega)
     have hdej:∀ X,delO X oj (c3+1+1)=X (c3+1+1):=fun X=>delO_ne (fun i hi e=>hOj.ne i hi (by rw [← e]))
     have M1:(mdK t (i+1)).I=Ij++[⟨31,0⟩]:=by rw [hmd2];simp only [mdH];rw [← hn, ← hp2, ← hjn2, ← hIj]
     have M2:(mdK t (i+1)).E=E++[e']:=by rw [hmd2,he'];rfl
     have M3:(mdK t (i+1)).p=pj:=by rw [hmd2];simp only [mdH];rw [← hn, ← hp2, ← hjn2, ← hpj]
     refine ⟨(i+1,some (cj+1),some (c3+1+1)),rfl,?_,inv ⟨⟨hk2,by omega,fun i hi=>by cases hi;omega,fun i hi=>by cases hi;omega,fun i hi e=>by cases hi;cases e;omega⟩,hlt,by simp,by simp,by simp⟩,by simp only;omega⟩
     simp only [M1,M2,M3]
     refine MH_sub ?_ ?_ ?_ (fun i hi=>?_) (fun i hi=>?_)
     ·rw [h_ne (by omega),h_ne (by omega),hd0j,h_ne (by omega)];exact MH_0 hOj
     ·rw [h_ne (by omega),h_ne (by omega),hd1j,h_ne (by omega)];exact MH_1 hOj
     ·rw [h_same];simp only [todo_s,List.length_append,List.length_singleton]
     ·cases hi;rw [h_ne (by omega),h_same,insC_app,insC_one]
     ·cases hi;rw [h_ne (by omega),h_ne (by omega),hdej,h_ne (by omega)];exact MH_b rfl
 ·have hi:i=9:=by omega
  have hd:decide ((i:Int)<9)=false:=by simp;omega
  obtain ⟨n1,n2⟩:=hne (by omega)
  have hD:=MH_k (l:=t) (p:=(mdK t i).p) (S:=strs mdS) (P:=ints (mdP t)) (V:=ints mdV) (I:=(mdK t i).I) (E:=(mdK t i).E) hO
  have hD0:=MH_0 (l:=t) (p:=(mdK t i).p) (S:=strs mdS) (P:=ints (mdP t)) (V:=ints mdV) (I:=(mdK t i).I) (E:=(mdK t i).E) hO
  rcases o1 with _|a
  ·exact absurd rfl n1
  rcases o2 with _|b
  ·exact absurd rfl n2
  have hDa:=MH_a (l:=t) (p:=(mdK t i).p) (S:=strs mdS) (P:=ints (mdP t)) (V:=ints mdV) (I:=(mdK t i).I) (E:=(mdK t i).E) hO rfl
  have hDb:=MH_b (k:=k) (l:=t) (p:=(mdK t i).p) (S:=strs mdS) (P:=ints (mdP t)) (V:=ints mdV) (I:=(mdK t i).I) (E:=(mdK t i).E) (o1:=some a) (o2:=some b) rfl
  simp only [todo_s] at hD
  repeat' ((with_reducible first|refine wr ?_|refine wb2 ?_ ?_<;>(intro hb;try simp only [hb])|fail)<;>try simp only [go_sem,seval,hkl,hd,hD,hD0])
  rw [k_rv (v:=.agg [.slc a 0 (mdK t i).I.length,strs mdS,.slc b 0 (mdK t i).E.length,ints (mdP t),ints mdV,I64 2,I64 2]) rfl]
  have ha:=hO.a a rfl
  have hb:=hO.b b rfl
  have hab:¬ a=b:=fun e=>hO.ne a rfl (by rw [e])
  have hm:madeM l=madeT t:=by rw [madeM,ht]
  have hI:(madeM l).instrs=(mdK t i).I:=by rw [hm,hi];rfl
  have hE:(madeM l).entries=(mdK t i).E:=by rw [hm,hi];rfl
  refine ⟨_,_,(g_one (a:=b) (k:=0) (u:=4) (u':=4) (pre:=[.slc a 0 (mdK t i).I.length,strs mdS]) (suf:=[ints (mdP t),ints mdV,I64 2,I64 2]) (xs:=(mdK t i).E.map Ent.v) (junk:=[]) h_same (by rw [h_ne (by omega),List.append_nil];exact hDb) (by simp [DV.one]) (by simp) (ent_unit _) (by omega)).trans
   (GL.less (H0:=nil.upd a ⟨2,true,insC (mdK t i).I⟩) (fun j=>?_)),a,?_,?_⟩
  ·by_cases e:j=a
   ·subst e;right;rw [h_same,h_ne (by omega),h_dne hab,h_ne (by omega)];exact hDa.symm
   ·left;rw [h_ne e];rfl
  ·unfold madeO;rw [hI,hE,ht];rfl
  ·rw [hI]
theorem c_MadeO (l:List UInt8) (hl:l.length≤9223372036854775807) (H:Hp) (c:Nat):AC Tryd.prog 10 [.lst (bytesC l)] H c (fun v H' c'=>v=madeO l c∧H'=H.upd c ⟨2,true,insC (madeM l).instrs⟩∧c'=c+1):=by
 have nlb:DV.nlL (bytesC l)=true:=nlL_map (fun _=>rfl) l
 refine AC.own (V:=madeO l) (c_MadeN l hl) (by simp [DV.nlL,DV.nl,nlb]) (nl_cellsL (nlL_map (fun _=>rfl) _)) (fun ρ ρ' id id' v h1 h2 h3=>VRel.head (by simp [DV.nlL,DV.nl,nlL_ints,nlL_strs,nlL_entries]) h1 h2 h3) H c
end Go.Proofs.YtcallbfckjlagaaDoor
namespace Go.Proofs.YtcallbfckjlagaaDoor
open Go.Eng (IC IOper DReg IFn IsFn)
open Go.Sym Go.Pb
section
abbrev u11_8:IC:=qK .skip (.exit 0) (.t 19) [1,4,5,6,19]
abbrev u11_7:IC:=qS [oM 11 6,oK 12 11 .add 2,oM 13 1,oH 14 13,oB 15 12 14 .lss,oM 16 15,gM 17 6 16,gK 18 17 16 .lss 9,oJ 19 16 18] u11_8 [1,4,5,6]
abbrev u11_17:IC:=qE [oF 60 5 0,oL 61 60,oM 62 7,oM 63 8,oK 64 63 .rem 34,oA 65 61 62 2,oF 66 65 0,oS 66 64 1] [1,4,5,6,7,8]
abbrev u11_20:IC:=qE [oF 69 5 0,oL 70 69,oM 71 7,oM 72 8,oA 73 70 71 2,oF 74 73 1,oS 74 72 1] [1,4,5,6,7,8]
abbrev u11_23:IC:=qE [oF 77 5 0,oL 78 77,oM 79 7,oM 80 8,oK 81 80 .rem 12,oA 82 78 79 2,oF 83 82 1,oS 83 81 1] [1,4,5,6,7,8]
abbrev u11_26:IC:=qG [oF 86 5 0,oL 87 86,oM 88 7,oP 89 (.slc 2 (.t 87) none (some (.t 88))),⟨some 90,.eff (.app 2 16 (.k (.slice none 0 0)) (.t 89)),none⟩,oF 91 5 0,oL 92 91,oM 93 7,oK 94 93 .add 1,oP 95 (.slc 2 (.t 92) (some (.t 94)) none),oT 96 90 95 2 16,oF 97 5 0,oS 97 96 1] [(0,none),(1,none),(2,none),(3,none),(5,none),(6,none),(7,none),(8,none),(9,none),(4,some [5,6,7,8,9]),(10,some []),(11,none),(12,some [])] 13 [1,4,5,6,7]
abbrev u11_29:IC:=qG [oF 100 5 0,oL 101 100,oM 102 7,oP 103 (.slc 2 (.t 101) none (some (.t 102))),⟨some 104,.eff (.app 2 16 (.k (.slice none 0 0)) (.t 103)),none⟩,oM 105 8,oP 106 (.bld #[.int .i64 0,.int .i64 0] [(0,1),(1,1)] [(0,.k (.int .i64 1)),(1,.t 105)]),⟨some 107,.new (.bsl 2 1 #[.int .i64 0,.int .i64 0] [(0,.t 106)]),none⟩,oT 108 104 107 2 16,oF 109 5 0,oL 110 109,oM 111 7,oP 112 (.slc 2 (.t 110) (some (.t 111)) none),oT 113 108 112 2 16,oF 114 5 0,oS 114 113 1] [(0,none),(1,none),(2,none),(3,none),(5,none),(6,none),(7,none),(9,none),(10,none),(11,none),(12,none),(4,some [5,6,7,9,10,11,12]),(8,some [9,10,11,12]),(13,some []),(14,none),(15,some [])] 16 [1,4,5,6,7,8]
abbrev u11_32:IC:=qG [oF 117 5 2,oL 118 117,⟨some 119,.eff (.app 4 32 (.k (.slice none 0 0)) (.t 118)),none⟩,oM 120 8,oK 121 120 .rem 3,oM 122 1,oM 123 6,oA 124 122 123 1,oL 125 124,oP 126 (.cvi .i64 (.t 125)),oK 127 126 .rem 8,oM 128 8,oK 129 128 .rem 5,oM 130 7,oP 131 (.bld #[.int .i64 0,.int .i64 0,.int .i64 0,.int .i64 0] [(0,1),(1,1),(2,1),(3,1)] [(0,.t 121),(1,.t 127),(2,.t 129),(3,.t 130)]),⟨some 132,.new (.bsl 4 1 #[.int .i64 0,.int .i64 0,.int .i64 0,.int .i64 0] [(0,.t 131)]),none⟩,oT 133 119 132 4 32,oF 134 5 2,oS 134 133 1] [(0,none),(1,none),(3,none),(4,none),(5,none),(6,none),(7,none),(8,none),(9,none),(10,none),(11,none),(12,none),(13,none),(14,none),(15,none),(2,some [3,4,5,6,7,8,9,10,11,12,13,14,15]),(16,some []),(17,none),(18,some [])] 19 [1,4,5,6,7,8]
abbrev u11_35:IC:=qE [oM 137 8,oK 138 137 .rem 5,oF 139 5 5,oS 139 138 1] [1,4,5,6,8]
abbrev u11_38:IC:=qE [oF 142 5 3,oL 143 142,⟨some 144,.eff (.app 1 8 (.k (.slice none 0 0)) (.t 143)),none⟩,oM 145 8,⟨some 146,.new (.bsl 1 1 #[.int .i64 0] [(0,.t 145)]),none⟩,oT 147 144 146 1 8,oF 148 5 3,oS 148 147 1] [1,4,5,6,8]
abbrev u11_39:IC:=qG [oF 45 5 1,oL 46 45,⟨some 47,.eff (.app 1 16 (.k (.slice none 0 0)) (.t 46)),none⟩,oM 48 1,oM 49 6,oK 50 49 .add 2,oA 51 48 50 1,oL 52 51,⟨some 53,.new (.bsl 1 1 #[.int .u8 0] [(0,.t 52)]),none⟩,oP 54 (.cvbs (.t 53)),⟨some 55,.new (.bsl 1 1 #[.string ⟨#[]⟩] [(0,.t 54)]),none⟩,oT 56 47 55 1 16,oF 57 5 1,oS 57 56 1] [(0,none),(1,none),(3,none),(4,none),(5,none),(6,none),(7,none),(8,none),(9,none),(10,none),(2,some [3,4,5,6,7,8,9,10]),(11,some []),(12,none),(13,some [])] 14 [1,4,5,6]
abbrev u11_37:IC:=qK u11_38 u11_39 (.t 140) [1,4,5,6,8,140]
abbrev u11_36:IC:=qS [oP 141 (.bin .eql (.t 44) (.k (.int .u8 7))),oM 140 141] u11_37 [1,4,5,6,8,44]
abbrev u11_34:IC:=qK u11_35 u11_36 (.t 135) [1,4,5,6,8,44,135]
abbrev u11_33:IC:=qS [oP 136 (.bin .eql (.t 44) (.k (.int .u8 6))),oM 135 136] u11_34 [1,4,5,6,8,44]
abbrev u11_31:IC:=qK u11_32 u11_33 (.t 115) [1,4,5,6,7,8,44,115]
abbrev u11_30:IC:=qS [oP 116 (.bin .eql (.t 44) (.k (.int .u8 5))),oM 115 116] u11_31 [1,4,5,6,7,8,44]
abbrev u11_28:IC:=qK u11_29 u11_30 (.t 98) [1,4,5,6,7,8,44,98]
abbrev u11_27:IC:=qS [oP 99 (.bin .eql (.t 44) (.k (.int .u8 4))),oM 98 99] u11_28 [1,4,5,6,7,8,44]
abbrev u11_25:IC:=qK u11_26 u11_27 (.t 84) [1,4,5,6,7,8,44,84]
abbrev u11_24:IC:=qS [oP 85 (.bin .eql (.t 44) (.k (.int .u8 3))),oM 84 85] u11_25 [1,4,5,6,7,8,44]
abbrev u11_22:IC:=qK u11_23 u11_24 (.t 75) [1,4,5,6,7,8,44,75]
abbrev u11_21:IC:=qS [oP 76 (.bin .eql (.t 44) (.k (.int .u8 2))),oM 75 76] u11_22 [1,4,5,6,7,8,44]
abbrev u11_19:IC:=qK u11_20 u11_21 (.t 67) [1,4,5,6,7,8,44,67]
abbrev u11_18:IC:=qS [oP 68 (.bin .eql (.t 44) (.k (.int .u8 1))),oM 67 68] u11_19 [1,4,5,6,7,8,44]
abbrev u11_16:IC:=qK u11_17 u11_18 (.t 58) [1,4,5,6,7,8,44,58]
abbrev u11_15:IC:=qS [oP 59 (.bin .eql (.t 44) (.k (.int .u8 0))),oM 58 59] u11_16 [1,4,5,6,7,8,44]
abbrev u11_14:IC:=qJ u11_15 2 [1,4,5,6,7,8,44]
abbrev u11_13:IC:=qS [oM 39 1,oM 40 6,oK 41 40 .add 1,oA 42 39 41 1,oL 43 42,oP 44 (.bin .rem (.t 43) (.k (.int .u8 9)))] u11_14 [1,4,5,6,7,8]
abbrev u11_41:IC:=qK (.exit 0) .skip (.t 152) [1,4,5,6,152]
abbrev u11_40:IC:=qS [oF 149 5 0,oL 150 149,oH 151 150,oK 152 151 .eql 0] u11_41 [1,4,5,6]
abbrev u11_12:IC:=qQ u11_13 u11_40 [1,4,5,6,7,8]
abbrev u11_11:IC:=qS [oM 32 1,oM 33 6,oK 34 33 .add 2,oA 35 32 34 1,oL 36 35,oP 37 (.cvi .i64 (.t 36)),oK 38 37 .sub 3,oM 8 38] u11_12 [1,4,5,6,7]
abbrev u11_10:IC:=qP [oM 22 1,oM 23 6,oA 24 22 23 1,oL 25 24,oP 26 (.cvi .i64 (.t 25)),oF 27 5 0,oL 28 27,oH 29 28,oB 30 26 29 .mul,oK 31 30 .quo 256,oM 7 31] u11_11 1024 11 [1,4,5,6]
abbrev u11_42:IC:=qE [oM 20 6,oK 21 20 .add 3,oM 6 21] [1,4,5,6]
abbrev u11_9:IC:=qB u11_10 u11_42 1 [1,4,5,6]
abbrev u11_6:IC:=qQ u11_7 u11_9 [1,4,5,6]
abbrev u11_5:IC:=qJ (.loop u11_6) 0 [1,4,5,6]
abbrev u11_4:IC:=qS [oI 6 0] u11_5 [1,4,5]
abbrev u11_43:IC:=qS [oD 153 5 7,oS 4 153 7] .ret [4,5]
abbrev u11_3:IC:=qQ u11_4 u11_43 [1,4,5]
abbrev u11_2:IC:=qS [oM 9 0,oC 10 10 [.t 9],oW 5 (.agg #[.slice none 0 0,.slice none 0 0,.slice none 0 0,.slice none 0 0,.slice none 0 0,.int .i64 0,.int .i64 0]),oS 5 10 7] u11_3 [0,1,4]
abbrev u11_1:IC:=qS [oW 4 (.agg #[.slice none 0 0,.slice none 0 0,.slice none 0 0,.slice none 0 0,.slice none 0 0,.int .i64 0,.int .i64 0])] u11_2 [0,1]
def u11:IFn:=⟨154,u11_1,[.cell 4 7 true]⟩
end
theorem isU11:IsFn Tryd.prog 11 u11:=by unfold IsFn;kernel_rfl
theorem c_Broken (l m:List UInt8) (hl:l.length≤9223372036854775807) (hm:m.length≤9223372036854775807):PC Tryd.prog 11 [.lst (bytesC l),.lst (bytesC m)] (brokenM l m).v:=by
 have nlb:∀ l,DV.nlL (bytesC l)=true:=fun l=>nlL_map (fun _=>rfl) l
 refine PC.of mixedU isU11 (Nat.le_of_ble_eq_true rfl) (by simp [DV.nlL,DV.nl,nlb]) (by simp [DV.nlL,DV.nl,nlL_ints,nlL_strs,nlL_instrs,nlL_entries]) ?_
 show IW Tryd.prog 154 u11_1 ⟨argT _,_,_⟩ (rt [.cell 4 7 true] _)
 have hlen:=bytesC_len m
 repeat' ((with_reducible first|refine wr ?_|refine wb2 ?_ ?_<;>(intro hb;try simp only [hb])|fail)<;>try simp only [go_sem,seval])
 refine AC.call (c_MadeO l hl _ _) ?_
 rintro v H' c1 ⟨rfl,rfl,rfl⟩ hc1
 have ne0:=nes3 0 1 2 (by omega)
 simp only [go_sem,seval,madeO,ne0]
 repeat' ((with_reducible first|refine wr ?_|refine wb2 ?_ ?_<;>(intro hb;try simp only [hb])|fail)<;>try simp only [go_sem,seval,madeO,ne0])
 refine i_loopG (fun q:Nat × Option Nat × Prg=>[(1,.lst (bytesC m)),(4,.ptr 0 0),(5,.ptr 2 0),(6,I64 ((3 * q.1:Nat):Int))]) (fun q=>BH q.2.1 q.2.2)
  (fun q cc=>BO q.2.1 cc∧q.1≤3∧(∃ a,q.2.1=some a)∧BB q.2.2 q.1∧q.2.2.instrs≠[]∧bkGo (3-q.1) (m.drop (3 * q.1)) q.2.2=brokenM l m) (fun q=>3-q.1) (0,some 1,madeM l)
  (fun q=>by simp [tmLe,tm,Tm.upd]) (by simp [tmLe,tm,Tm.upd]) (BH_sub (by repeat (first|exact h_same|rw [h_ne (by omega)])) h_same (fun i hi=>by cases hi;repeat (first|exact h_same|rw [h_ne (by omega)])))
  ⟨⟨by omega,fun i hi=>by cases hi;omega⟩,by simp,⟨1,rfl⟩,BB.made l,madeM_ne l,rfl⟩ ?_
 rintro ⟨j,o,c⟩ cc ⟨hO,hj3,⟨a,ha⟩,hB,hne,hgo⟩
 simp only at hO hj3 ha hB hne hgo
 subst ha
 simp only
 have h3:=hO.c
 have haa:=hO.a a rfl
 obtain ⟨B1,B2,B3,B4,B5,B6,B7,B8,B9,B10⟩:=id hB
 obtain ⟨n,hn⟩:∃ n,n=c.instrs.length:=⟨_,rfl⟩
 have hn0:n≠0:=fun e=>hne (List.length_eq_zero_iff.1 (by rw [← hn,e]))
 have hD2:=BH_2 (c:=c) hO
 have hDa:=BH_a (c:=c) (o:=some a) rfl
 have hD0:=BH_0 (c:=c) hO
 unfold bCells at hD2
 simp only [todo_s] at hD2
 rw [← hn] at hD2
 obtain ⟨i,hi⟩:∃ i,i=3 * j:=⟨_,rfl⟩
 rw [← hi]
 have hw1:IntKind.i64.wrap ((i:Int)+1)=((i+1:Nat):Int):=by rw [w64 (by omega) (by omega)];omega
 have hw2:IntKind.i64.wrap ((i:Int)+2)=((i+2:Nat):Int):=by rw [w64 (by omega) (by omega)];omega
 have hw3:IntKind.i64.wrap ((i:Int)+3)=((i+3:Nat):Int):=by rw [w64 (by omega) (by omega)];omega
 by_cases h1:i+2<m.length
 ·have hd1:decide (((i+2:Nat):Int)<((m.length:Nat):Int))=true:=by simp;omega
  by_cases h2:j<3
  ·have hd2:decide ((i:Int)<9)=true:=by simp;omega
   obtain ⟨x,hx⟩:∃ x,m[i]? = some x:=⟨_,List.getElem?_eq_getElem (by omega)⟩
   obtain ⟨y,hy⟩:∃ x,m[i+1]? = some x:=⟨_,List.getElem?_eq_getElem (by omega)⟩
   obtain ⟨z,hz⟩:∃ x,m[i+2]? = some x:=⟨_,List.getElem?_eq_getElem (by omega)⟩
   have hgo2:=go_next (c:=c) h2 (by rw [← hi];exact hx) (by rw [← hi];exact hy) (by rw [← hi];exact hz)
   rw [hgo] at hgo2
   obtain ⟨xn,hxn⟩:∃ n,n=x.toNat:=⟨_,rfl⟩
   obtain ⟨yn,hyn⟩:∃ n,n=y.toNat:=⟨_,rfl⟩
   obtain ⟨zn,hzn⟩:∃ n,n=z.toNat:=⟨_,rfl⟩
   have lx:xn<256:=by rw [hxn];exact x.toNat_lt
   have ly:yn<256:=by rw [hyn];exact y.toNat_lt
   have lz:zn<256:=by rw [hzn];exact z.toNat_lt
   have gx:(bytesC m)[i]? = some (.int .u8 (xn:Int)):=by rw [bytesC,List.getElem?_map,hx,hxn];rfl
   have gy:(bytesC m)[i+1]? = some (.int .u8 (yn:Int)):=by rw [bytesC,List.getElem?_map,hy,hyn];rfl
   have gz:(bytesC m)[i+2]? = some (.int .u8 (zn:Int)):=by rw [bytesC,List.getElem?_map,hz,hzn];rfl
   have hb:=Nat.mul_le_mul (Nat.le_of_lt lx) (show n≤450 by omega)
   have vx:IntKind.i64.wrap (xn:Int)=(xn:Int):=w64 (by omega) (by omega)
   have vz:IntKind.i64.wrap (zn:Int)=(zn:Int):=w64 (by omega) (by omega)
   have vm:IntKind.i64.wrap ((xn:Int) * (n:Int))=((xn * n:Nat):Int):=by rw [w64 (by rw [← Int.natCast_mul];omega) (by rw [← Int.natCast_mul];omega),Int.natCast_mul]
   obtain ⟨k,hk⟩:∃ k,k=xn * n / 256:=⟨_,rfl⟩
   have hkn:k<n:=by
    rw [hk,Nat.div_lt_iff_lt_mul (by omega),Nat.mul_comm n 256];exact Nat.mul_lt_mul_of_pos_right lx (by omega)
   have vk:IntKind.i64.wrap (((xn * n:Nat):Int).tdiv 256)=(k:Int):=by
    have e:((xn * n:Nat):Int).tdiv 256=(k:Int):=by rw [hk];exact (Int.ofNat_tdiv _ _).symm
    rw [e,w64 (by omega) (by omega)]
   obtain ⟨v,hv⟩:∃ v:Int,v=(zn:Int)-3:=⟨_,rfl⟩
   have vv:IntKind.i64.wrap ((zn:Int)-3)=v:=by rw [hv,w64 (by omega) (by omega)]
   obtain ⟨r,hr⟩:∃ r,r=yn % 9:=⟨_,rfl⟩
   have vr:(yn:Int).tmod 9=(r:Int):=by rw [hr];exact (Int.ofNat_tmod _ _).symm
   have q1:binR BinOp.quo (I64 ((xn * n:Nat):Int)) (I64 256)=some (I64 (k:Int)):=by rw [r_quo (by omega),vk]
   have q2:binR BinOp.rem (.int .u8 (yn:Int)) (.int .u8 9)=some (.int .u8 (r:Int)):=by rw [r_rem (by omega),vr]
   have q3:∀ d:Int,d≠0→binR BinOp.rem (I64 v) (I64 d)=some (I64 (v.tmod d)):=fun d hd=>r_rem hd
   have q34:=q3 34 (by omega)
   have q12:=q3 12 (by omega)
   have q05:=q3 5 (by omega)
   have q03:=q3 3 (by omega)
   have q08:binR BinOp.rem (I64 (xn:Int)) (I64 8)=some (I64 ((xn % 8:Nat):Int)):=by rw [r_rem (by omega)];exact congrArg (fun x=>some (I64 x)) (Int.ofNat_tmod _ _).symm
   have hst:bkStep c x y z=bkR c r k v x z:=by unfold bkStep;rw [← hxn, ← hyn, ← hzn, ← hr, ← hn, ← hk, ← hv]
   have hBn:=hB.step x y z
   rw [hst] at hgo2 hBn
   have hr9:r<9:=by omega
   have hz0:((n:Int) == 0)=false:=by simp;omega
   have hia:iadR 2 (.slc a 0 n) (I64 (k:Int))=some (.ptr a (k * 2)):=by rw [r_iadsn hkn,Nat.zero_add]
   have hIl:(insC c.instrs).length=n * 2:=by rw [insC_len2,hn]
   have hl0:k * 2+0+1≤(insC c.instrs).length:=by omega
   have hl1:k * 2+1+1≤(insC c.instrs).length:=by omega
   have hl0':k * 2+1≤(insC c.instrs).length:=by omega
   have F0:BH (some a) c (cc+11)=none:=BH_n hO (by omega)
   have F1:BH (some a) c (cc+11+1)=none:=BH_n hO (by omega)
   have F2:BH (some a) c (cc+11+2)=none:=BH_n hO (by omega)
   have F3:BH (some a) c (cc+11+3)=none:=BH_n hO (by omega)
   have F4:BH (some a) c (cc+11+4)=none:=BH_n hO (by omega)
   have F5:BH (some a) c (cc+11+5)=none:=BH_n hO (by omega)
   have F6:BH (some a) c (cc+11+6)=none:=BH_n hO (by omega)
   have F7:BH (some a) c (cc+11+7)=none:=BH_n hO (by omega)
   have F8:BH (some a) c (cc+11+8)=none:=BH_n hO (by omega)
   have F9:BH (some a) c (cc+11+9)=none:=BH_n hO (by omega)
   have F10:BH (some a) c (cc+11+10)=none:=BH_n hO (by omega)
   have F11:BH (some a) c (cc+11+11)=none:=BH_n hO (by omega)
   have F12:BH (some a) c (cc+11+12)=none:=BH_n hO (by omega)
   have F13:BH (some a) c (cc+11+13)=none:=BH_n hO (by omega)
   have F14:BH (some a) c (cc+11+14)=none:=BH_n hO (by omega)
   have F15:BH (some a) c (cc+11+15)=none:=BH_n hO (by omega)
   have F16:BH (some a) c (cc+11+16)=none:=BH_n hO (by omega)
   have F17:BH (some a) c (cc+11+17)=none:=BH_n hO (by omega)
   have F18:BH (some a) c (cc+11+18)=none:=BH_n hO (by omega)
   have F19:BH (some a) c (cc+11+19)=none:=BH_n hO (by omega)
   have hv9:r=0∨r=1∨r=2∨r=3∨r=4∨r=5∨r=6∨r=7∨r=8:=by omega
   have e3:3 * (j+1)=i+3:=by omega
   have hkle:k≤n:=by omega
   have hwk:IntKind.i64.wrap ((k:Int)+1)=((k+1:Nat):Int):=by rw [w64 (by omega) (by omega)];omega
   have hs1:∀ H,slcR H 2 (.slc a 0 n) none (some (I64 (k:Int)))=some (.slc a 0 k):=fun H=>r_slch hkle
   have hc1:srB 2 0 k (some ⟨2,true,insC c.instrs⟩)=some (k,insC (c.instrs.take k)):=by
    have:=b_srcI (I:=c.instrs) (k:=0) (m:=k) (o:=true) (by omega)
    rw [Nat.zero_mul,List.drop_zero] at this;exact this
   have htl:(c.instrs.take k).length=k:=by rw [List.length_take];omega
   have htc:(insC (c.instrs.take k)).length=k * 2:=by rw [insC_len2,htl]
   rcases hv9 with re|re|re|re|re|re|re|re|re
   ·subst re
    have nk:((0:Nat):Int)=0:=rfl
    have ne0:=nes3 0 2 a (by omega)
    repeat' ((with_reducible first|refine wr ?_|refine wb2 ?_ ?_<;>(intro hb;try simp only [hb])|fail)<;>try simp only [go_sem,seval,nk,hz0,hia,hl0,hl0',Int.reduceBEq,hw1,hw2,hw3,hd1,hd2,hlen,gx,gy,gz,vx,vz,vm,q1,q2,q34,q12,q05,q03,q08,vv,hD2,hDa,hD0,F0,F1,F2,F3,F4,F5,F6,F7,F8,F9,F10,F11,F12,F13,F14,F15,F16,F17,F18,F19,ne0])
    have hne2:(bkR c 0 k v x z).instrs≠[]:=by exact fun e=>hne (by simpa [bkR] using e)
    rw [if_neg hne2] at hgo2
    refine ⟨(j+1,some a,bkR c 0 k v x z),by rw [e3],GL.less' (BH_sub ?_ ?_ fun i hi=>?_),inv ⟨⟨by omega,fun i hi=>by cases hi;omega⟩,by simp only;omega,⟨_,rfl⟩,hBn,hne2,hgo2.symm⟩,by simp only;omega⟩
    ·rw [h_ne (by omega)];exact hD0
    ·rw [h_ne (by omega),hD2];simp only [bCells,todo_s,bkR,List.length_set, ← hn]
    ·cases hi;rw [h_same];simp only [bkR];rw [insC_set0 (by omega)]
   ·subst re
    have nk:((1:Nat):Int)=1:=rfl
    have ne0:=nes3 0 2 a (by omega)
    repeat' ((with_reducible first|refine wr ?_|refine wb2 ?_ ?_<;>(intro hb;try simp only [hb])|fail)<;>try simp only [go_sem,seval,nk,hz0,hia,hl1,Int.reduceBEq,hw1,hw2,hw3,hd1,hd2,hlen,gx,gy,gz,vx,vz,vm,q1,q2,q34,q12,q05,q03,q08,vv,hD2,hDa,hD0,F0,F1,F2,F3,F4,F5,F6,F7,F8,F9,F10,F11,F12,F13,F14,F15,F16,F17,F18,F19,ne0])
    have hne2:(bkR c 1 k v x z).instrs≠[]:=by exact fun e=>hne (by simpa [bkR] using e)
    rw [if_neg hne2] at hgo2
    refine ⟨(j+1,some a,bkR c 1 k v x z),by rw [e3],GL.less' (BH_sub ?_ ?_ fun i hi=>?_),inv ⟨⟨by omega,fun i hi=>by cases hi;omega⟩,by simp only;omega,⟨_,rfl⟩,hBn,hne2,hgo2.symm⟩,by simp only;omega⟩
    ·rw [h_ne (by omega)];exact hD0
    ·rw [h_ne (by omega),hD2];simp only [bCells,todo_s,bkR,List.length_set, ← hn]
    ·cases hi;rw [h_same];simp only [bkR];rw [insC_set1 (by omega)]
   ·subst re
    have nk:((2:Nat):Int)=2:=rfl
    have ne0:=nes3 0 2 a (by omega)
    repeat' ((with_reducible first|refine wr ?_|refine wb2 ?_ ?_<;>(intro hb;try simp only [hb])|fail)<;>try simp only [go_sem,seval,nk,hz0,hia,hl1,Int.reduceBEq,hw1,hw2,hw3,hd1,hd2,hlen,gx,gy,gz,vx,vz,vm,q1,q2,q34,q12,q05,q03,q08,vv,hD2,hDa,hD0,F0,F1,F2,F3,F4,F5,F6,F7,F8,F9,F10,F11,F12,F13,F14,F15,F16,F17,F18,F19,ne0])
    have hne2:(bkR c 2 k v x z).instrs≠[]:=by exact fun e=>hne (by simpa [bkR] using e)
    rw [if_neg hne2] at hgo2
    refine ⟨(j+1,some a,bkR c 2 k v x z),by rw [e3],GL.less' (BH_sub ?_ ?_ fun i hi=>?_),inv ⟨⟨by omega,fun i hi=>by cases hi;omega⟩,by simp only;omega,⟨_,rfl⟩,hBn,hne2,hgo2.symm⟩,by simp only;omega⟩
    ·rw [h_ne (by omega)];exact hD0
    ·rw [h_ne (by omega),hD2];simp only [bCells,todo_s,bkR,List.length_set, ← hn]
    ·cases hi;rw [h_same];simp only [bkR];rw [insC_set1 (by omega)]
   ·subst re
    have nk:((3:Nat):Int)=3:=rfl
    have P5_13:¬ cc+11+5=cc+11+13:=by omega
    have P6_13:¬ cc+11+6=cc+11+13:=by omega
    have P7_13:¬ cc+11+7=cc+11+13:=by omega
    have P8_13:¬ cc+11+8=cc+11+13:=by omega
    have P9_13:¬ cc+11+9=cc+11+13:=by omega
    have hdl:(c.instrs.drop (k+1)).length=n-(k+1):=by rw [List.length_drop,hn]
    by_cases hk0:k=0
    ·have ha1:∀ (H:Hp) c',appR H c' 2 16 .snil k (insC (c.instrs.take k))=some (.snil,H,c'):=fun H c'=>by rw [hk0];rfl
     have ht0:c.instrs.take k=[]:=by rw [hk0];rfl
     by_cases hke:k+1=n
     ·have hs2:∀ H,slcR H 2 (.slc a 0 n) (some (I64 ((k+1:Nat):Int))) none=some (.lst []):=fun H=>by rw [hke];exact r_slcend hn0 H
      have hsn:∀ H,srcOf H 2 (.lst [])=some (0,[]):=fun H=>r_srcl rfl
      have ha2:∀ (H:Hp) c',appR H c' 2 16 .snil 0 []=some (.snil,H,c'):=fun H c'=>rfl
      have ne0:=nes3 0 2 a (by omega)
      repeat' ((with_reducible first|refine wr ?_|refine wb2 ?_ ?_<;>(intro hb;try simp only [hb])|fail)<;>try simp only [go_sem,seval,nk,hs1,hs2,hwk,hc1,ha1,hsn,ha2,Int.reduceBEq,hw1,hw2,hw3,hd1,hd2,hlen,gx,gy,gz,vx,vz,vm,q1,q2,q34,q12,q05,q03,q08,vv,hD2,hDa,hD0,F0,F1,F2,F3,F4,F5,F6,F7,F8,F9,F10,F11,F12,F13,F14,F15,F16,F17,F18,F19,ne0])
      have hI:(bkR c 3 k v x z).instrs=[]:=by
       show c.instrs.take k++c.instrs.drop (k+1)=[]
       rw [ht0,List.nil_append];exact List.length_eq_zero_iff.1 (by omega)
      rw [if_pos hI] at hgo2
      rw [k_rv (v:=.agg (bCells none (bkR c 3 k v x z))) rfl,hgo2]
      dsimp only
      exact b_fin (o:=none) (by rw [h_same];rfl) (fun i hi=>by cases hi) (fun _=>hI)
     ·have hs2:∀ H,slcR H 2 (.slc a 0 n) (some (I64 ((k+1:Nat):Int))) none=slB a 0 2 (k+1) n (H a):=fun H=>r_slclo (by omega) (by omega) H
      have hs3:slB a 0 2 (k+1) n (some ⟨2,true,insC c.instrs⟩)=some (.slc a ((k+1) * 2) (n-(k+1))):=by rw [b_slB,Nat.zero_add]
      have hc3:srB 2 ((k+1) * 2) (n-(k+1)) (some ⟨2,true,insC c.instrs⟩)=some (n-(k+1),insC (c.instrs.drop (k+1))):=by rw [b_srcI (by omega),List.take_of_length_le (by omega)]
      have ha2:∀ (H:Hp) c',appR H c' 2 16 .snil (n-(k+1)) (insC (c.instrs.drop (k+1)))=some (.slc c' 0 (n-(k+1)),H.upd c' ⟨2,true,insC (c.instrs.drop (k+1))⟩,c'+1):=fun H c'=>r_appn' (by omega) (by omega) (by omega)
      have hz1:((((n-(k+1):Nat):Int)) == 0)=false:=by simp;omega
      have ne0:=nes5 0 2 a (cc+11+13) (cc+11+13+1) (by omega)
      repeat' ((with_reducible first|refine wr ?_|refine wb2 ?_ ?_<;>(intro hb;try simp only [hb])|fail)<;>try simp only [go_sem,seval,nk,hs1,hs2,hs3,hwk,hc1,hc3,ha1,ha2,hz1,Int.reduceBEq,hw1,hw2,hw3,hd1,hd2,hlen,gx,gy,gz,vx,vz,vm,q1,q2,q34,q12,q05,q03,q08,vv,hD2,hDa,hD0,F0,F1,F2,F3,F4,F5,F6,F7,F8,F9,F10,F11,F12,F13,F14,F15,F16,F17,F18,F19,ne0])
      have hI:(bkR c 3 k v x z).instrs=c.instrs.take k++c.instrs.drop (k+1):=rfl
      have hL:(bkR c 3 k v x z).instrs.length=n-(k+1):=by rw [hI,List.length_append,htl,hdl];omega
      have hne2:(bkR c 3 k v x z).instrs≠[]:=by rw [hI];exact fun e=>by have:=congrArg List.length e;simp only [List.length_append,List.length_nil] at this;omega
      rw [if_neg hne2] at hgo2
      refine ⟨(j+1,some (cc+11+13),bkR c 3 k v x z),by rw [e3],GL.less' (BH_sub ?_ ?_ fun i hi=>?_),inv ⟨⟨by omega,fun i hi=>by cases hi;omega⟩,by simp only;omega,⟨_,rfl⟩,hBn,hne2,hgo2.symm⟩,by simp only;omega⟩
      ·repeat (first|exact hD0|rw [h_ne (by omega)]|rw [h_dne (by omega)])
      ·rw [h_same];simp only [bCells,todo_s];rw [hL];rfl
      ·cases hi;rw [h_ne (by omega),h_same,hI,ht0,List.nil_append]
    ·have ha1:∀ (H:Hp) c',appR H c' 2 16 .snil k (insC (c.instrs.take k))=some (.slc c' 0 k,H.upd c' ⟨2,true,insC (c.instrs.take k)⟩,c'+1):=fun H c'=>r_appn' hk0 (by omega) (by omega)
     by_cases hke:k+1=n
     ·have hs2:∀ H,slcR H 2 (.slc a 0 n) (some (I64 ((k+1:Nat):Int))) none=some (.lst []):=fun H=>by rw [hke];exact r_slcend hn0 H
      have hsn:∀ H,srcOf H 2 (.lst [])=some (0,[]):=fun H=>r_srcl rfl
      have ha2:∀ (H:Hp) (c' id:Nat),apB H c' id 2 16 k 0 [] (some ⟨2,true,insC (c.instrs.take k)⟩)=some (.slc c' 0 k,(H.del id).upd c' ⟨2,true,insC (c.instrs.take k)⟩,c'+1):=fun H c' id=>by
       rw [b_appx htc (by omega) (by omega),List.append_nil,Nat.add_zero]
      have hz1:((k:Int) == 0)=false:=by simp;omega
      have hd0:c.instrs.drop (k+1)=[]:=List.length_eq_zero_iff.1 (by omega)
      have ne0:=nes5 0 2 a (cc+11+13) (cc+11+13+1) (by omega)
      repeat' ((with_reducible first|refine wr ?_|refine wb2 ?_ ?_<;>(intro hb;try simp only [hb])|fail)<;>try simp only [go_sem,seval,nk,hs1,hs2,hwk,hc1,ha1,hsn,ha2,hz1,P5_13,P6_13,P7_13,P8_13,P9_13,Int.reduceBEq,hw1,hw2,hw3,hd1,hd2,hlen,gx,gy,gz,vx,vz,vm,q1,q2,q34,q12,q05,q03,q08,vv,hD2,hDa,hD0,F0,F1,F2,F3,F4,F5,F6,F7,F8,F9,F10,F11,F12,F13,F14,F15,F16,F17,F18,F19,ne0])
      have hI:(bkR c 3 k v x z).instrs=c.instrs.take k++c.instrs.drop (k+1):=rfl
      have hL:(bkR c 3 k v x z).instrs.length=k:=by rw [hI,hd0,List.append_nil,htl]
      have hne2:(bkR c 3 k v x z).instrs≠[]:=by rw [hI];exact fun e=>by have:=congrArg List.length e;simp only [List.length_append,List.length_nil] at this;omega
      rw [if_neg hne2] at hgo2
      refine ⟨(j+1,some (cc+11+13+1),bkR c 3 k v x z),by rw [e3],GL.less' (BH_sub ?_ ?_ fun i hi=>?_),inv ⟨⟨by omega,fun i hi=>by cases hi;omega⟩,by simp only;omega,⟨_,rfl⟩,hBn,hne2,hgo2.symm⟩,by simp only;omega⟩
      ·repeat (first|exact hD0|rw [h_ne (by omega)]|rw [h_dne (by omega)])
      ·rw [h_same];simp only [bCells,todo_s];rw [hL];rfl
      ·cases hi;rw [h_ne (by omega),h_same,hI,hd0,List.append_nil]
     ·have hs2:∀ H,slcR H 2 (.slc a 0 n) (some (I64 ((k+1:Nat):Int))) none=slB a 0 2 (k+1) n (H a):=fun H=>r_slclo (by omega) (by omega) H
      have hs3:slB a 0 2 (k+1) n (some ⟨2,true,insC c.instrs⟩)=some (.slc a ((k+1) * 2) (n-(k+1))):=by rw [b_slB,Nat.zero_add]
      have hc3:srB 2 ((k+1) * 2) (n-(k+1)) (some ⟨2,true,insC c.instrs⟩)=some (n-(k+1),insC (c.instrs.drop (k+1))):=by rw [b_srcI (by omega),List.take_of_length_le (by omega)]
      have ha2:∀ (H:Hp) (c' id:Nat),apB H c' id 2 16 k (n-(k+1)) (insC (c.instrs.drop (k+1))) (some ⟨2,true,insC (c.instrs.take k)⟩)=some (.slc c' 0 (k+(n-(k+1))),(H.del id).upd c' ⟨2,true,insC (c.instrs.take k)++insC (c.instrs.drop (k+1))⟩,c'+1):=fun H c' id=>b_appx htc (by omega) (by omega)
      have hz1:((((k+(n-(k+1)):Nat):Int)) == 0)=false:=by simp;omega
      have ne0:=nes5 0 2 a (cc+11+13) (cc+11+13+1) (by omega)
      repeat' ((with_reducible first|refine wr ?_|refine wb2 ?_ ?_<;>(intro hb;try simp only [hb])|fail)<;>try simp only [go_sem,seval,nk,hs1,hs2,hs3,hwk,hc1,hc3,ha1,ha2,hz1,P5_13,P6_13,P7_13,P8_13,P9_13,Int.reduceBEq,hw1,hw2,hw3,hd1,hd2,hlen,gx,gy,gz,vx,vz,vm,q1,q2,q34,q12,q05,q03,q08,vv,hD2,hDa,hD0,F0,F1,F2,F3,F4,F5,F6,F7,F8,F9,F10,F11,F12,F13,F14,F15,F16,F17,F18,F19,ne0])
      have hI:(bkR c 3 k v x z).instrs=c.instrs.take k++c.instrs.drop (k+1):=rfl
      have hL:(bkR c 3 k v x z).instrs.length=k+(n-(k+1)):=by rw [hI,List.length_append,htl,hdl]
      have hne2:(bkR c 3 k v x z).instrs≠[]:=by rw [hI];exact fun e=>by have:=congrArg List.length e;simp only [List.length_append,List.length_nil] at this;omega
      rw [if_neg hne2] at hgo2
      refine ⟨(j+1,some (cc+11+13+1),bkR c 3 k v x z),by rw [e3],GL.less' (BH_sub ?_ ?_ fun i hi=>?_),inv ⟨⟨by omega,fun i hi=>by cases hi;omega⟩,by simp only;omega,⟨_,rfl⟩,hBn,hne2,hgo2.symm⟩,by simp only;omega⟩
      ·repeat (first|exact hD0|rw [h_ne (by omega)]|rw [h_dne (by omega)])
      ·rw [h_same];simp only [bCells,todo_s];rw [hL];rfl
      ·cases hi;rw [h_ne (by omega),h_same,hI,insC_app]
   ·subst re
    have nk:((4:Nat):Int)=4:=rfl
    have P5_7:¬ cc+11+5=cc+11+7:=by omega
    have P5_16:¬ cc+11+5=cc+11+16:=by omega
    have P5_16_1:¬ cc+11+5=cc+11+16+1:=by omega
    have P6_7:¬ cc+11+6=cc+11+7:=by omega
    have P6_16:¬ cc+11+6=cc+11+16:=by omega
    have P6_16_1:¬ cc+11+6=cc+11+16+1:=by omega
    have P9_7:¬ cc+11+9=cc+11+7:=by omega
    have P9_16:¬ cc+11+9=cc+11+16:=by omega
    have P9_16_1:¬ cc+11+9=cc+11+16+1:=by omega
    have P10_7:¬ cc+11+10=cc+11+7:=by omega
    have P10_16:¬ cc+11+10=cc+11+16:=by omega
    have P10_16_1:¬ cc+11+10=cc+11+16+1:=by omega
    have P11_7:¬ cc+11+11=cc+11+7:=by omega
    have P11_16:¬ cc+11+11=cc+11+16:=by omega
    have P11_16_1:¬ cc+11+11=cc+11+16+1:=by omega
    have P12_7:¬ cc+11+12=cc+11+7:=by omega
    have P12_16:¬ cc+11+12=cc+11+16:=by omega
    have P12_16_1:¬ cc+11+12=cc+11+16+1:=by omega
    have hid4:∀ H,hide H [cc+11+7] a=H a:=fun H=>by
     have:¬ a=cc+11+7:=by omega
     simp [hide,this]
    have hid4b:∀ H,hide H [cc+11+7] 2=H 2:=fun H=>by
     have:¬ 2=cc+11+7:=by omega
     simp [hide,this]
    have hdl:(c.instrs.drop k).length=n-k:=by rw [List.length_drop,hn]
    have hI:(bkR c 4 k v x z).instrs=c.instrs.take k++[⟨1,v⟩]++c.instrs.drop k:=rfl
    have hm4:=fun H b=>hm_upd1 (k:=cc+11+7) (a:=cc+11+16) (by omega) H b
    have hmb4:=fun H b=>hm_upd1 (k:=cc+11+7) (a:=cc+11+16+1) (by omega) H b
    have hne4:(bkR c 4 k v x z).instrs.length≠0:=by rw [hI];simp
    by_cases hk0:k=0
    ·have ha1:∀ (H:Hp) c',appR H c' 2 16 .snil k (insC (c.instrs.take k))=some (.snil,H,c'):=fun H c'=>by rw [hk0];rfl
     have ht0:c.instrs.take k=[]:=by rw [hk0];rfl
     have hd0:c.instrs.drop k=c.instrs:=by rw [hk0];rfl
     have ha2:∀ (H:Hp) c' cs,appR H c' 2 16 .snil 1 cs=some (.slc c' 0 1,H.upd c' ⟨2,true,cs⟩,c'+1):=fun H c' cs=>r_appn' (by omega) (by omega) (by omega)
     have hs2:∀ H,slcR H 2 (.slc a 0 n) (some (I64 (k:Int))) none=some (.slc a 0 n):=fun H=>by rw [hk0];exact r_slcall H
     have hc3:srB 2 0 n (some ⟨2,true,insC c.instrs⟩)=some (n,insC c.instrs):=by
      have:=b_srcI (I:=c.instrs) (k:=0) (m:=n) (o:=true) (by omega)
      rw [Nat.zero_mul,List.drop_zero,List.take_of_length_le (by omega)] at this;exact this
     have ha3:∀ (H:Hp) (c' id:Nat) w1 w2,apB H c' id 2 16 1 n (insC c.instrs) (some ⟨2,true,[w1,w2]⟩)=some (.slc c' 0 (1+n),(H.del id).upd c' ⟨2,true,[w1,w2]++insC c.instrs⟩,c'+1):=fun H c' id w1 w2=>b_appx rfl (by omega) (by omega)
     have hz1:((((1+n:Nat):Int)) == 0)=false:=by simp;omega
     have ne0:=nes7 0 2 a (cc+11+7) (cc+11+16) (cc+11+16+1) (cc+11+16+1+1) (by omega)
     repeat' ((with_reducible first|refine wr ?_|refine wb2 ?_ ?_<;>(intro hb;try simp only [hb])|fail)<;>try simp only [go_sem,seval,nk,hs1,hs2,hc1,hc3,ha1,ha2,ha3,hz1,hm4,hmb4,hm_same,hid4,hid4b,P5_7,P5_16,P5_16_1,P6_7,P6_16,P6_16_1,P9_7,P9_16,P9_16_1,P10_7,P10_16,P10_16_1,P11_7,P11_16,P11_16_1,P12_7,P12_16,P12_16_1,Int.reduceBEq,hw1,hw2,hw3,hd1,hd2,hlen,gx,gy,gz,vx,vz,vm,q1,q2,q34,q12,q05,q03,q08,vv,hD2,hDa,hD0,F0,F1,F2,F3,F4,F5,F6,F7,F8,F9,F10,F11,F12,F13,F14,F15,F16,F17,F18,F19,ne0])
     have hL:(bkR c 4 k v x z).instrs.length=1+n:=by rw [hI,ht0,hd0,List.nil_append,List.length_append,List.length_singleton, ← hn]
     have hne2:(bkR c 4 k v x z).instrs≠[]:=by exact fun e=>hne4 (by rw [e];rfl)
     rw [if_neg hne2] at hgo2
     refine ⟨(j+1,some (cc+11+16+1),bkR c 4 k v x z),by rw [e3],GL.less' (BH_sub ?_ ?_ fun i hi=>?_),inv ⟨⟨by omega,fun i hi=>by cases hi;omega⟩,by simp only;omega,⟨_,rfl⟩,hBn,hne2,hgo2.symm⟩,by simp only;omega⟩
     ·repeat (first|exact hD0|rw [h_ne (by omega)]|rw [h_dne (by omega)])
     ·rw [h_same];simp only [bCells,todo_s];rw [hL];rfl
     ·cases hi;rw [h_ne (by omega),h_same,hI,ht0,hd0,List.nil_append,insC_app,insC_one];rfl
    ·have ha1:∀ (H:Hp) c',appR H c' 2 16 .snil k (insC (c.instrs.take k))=some (.slc c' 0 k,H.upd c' ⟨2,true,insC (c.instrs.take k)⟩,c'+1):=fun H c'=>r_appn' hk0 (by omega) (by omega)
     have ha2:=fun ds=>hs_one (sz:=2) (bytes:=16) (n:=k) (cs:=insC (c.instrs.take k)) (ds:=ds) htc (by omega) (by omega)
     have hs2:∀ H,slcR H 2 (.slc a 0 n) (some (I64 (k:Int))) none=slB a 0 2 k n (H a):=fun H=>r_slclo hk0 (by omega) H
     have hs3:slB a 0 2 k n (some ⟨2,true,insC c.instrs⟩)=some (.slc a (k * 2) (n-k)):=by rw [b_slB,Nat.zero_add]
     have hc3:srB 2 (k * 2) (n-k) (some ⟨2,true,insC c.instrs⟩)=some (n-k,insC (c.instrs.drop k)):=by rw [b_srcI (by omega),List.take_of_length_le (by omega)]
     have ha3:∀ (H:Hp) (c' id:Nat) w1 w2,apB H c' id 2 16 (k+1) (n-k) (insC (c.instrs.drop k)) (some ⟨2,true,insC (c.instrs.take k)++[w1,w2]⟩)=some (.slc c' 0 (k+1+(n-k)),(H.del id).upd c' ⟨2,true,insC (c.instrs.take k)++[w1,w2]++insC (c.instrs.drop k)⟩,c'+1) :=
      fun H c' id w1 w2=>b_appx (by rw [List.length_append,htc];simp;omega) (by omega) (by omega)
     have hz1:((((k+1+(n-k):Nat):Int)) == 0)=false:=by simp;omega
     have ne0:=nes7 0 2 a (cc+11+7) (cc+11+16) (cc+11+16+1) (cc+11+16+1+1) (by omega)
     repeat' ((with_reducible first|refine wr ?_|refine wb2 ?_ ?_<;>(intro hb;try simp only [hb])|fail)<;>try simp only [go_sem,seval,nk,hs1,hs2,hs3,hc1,hc3,ha1,ha2,ha3,hz1,hm4,hmb4,hm_same,hid4,hid4b,P5_7,P5_16,P5_16_1,P6_7,P6_16,P6_16_1,P9_7,P9_16,P9_16_1,P10_7,P10_16,P10_16_1,P11_7,P11_16,P11_16_1,P12_7,P12_16,P12_16_1,Int.reduceBEq,hw1,hw2,hw3,hd1,hd2,hlen,gx,gy,gz,vx,vz,vm,q1,q2,q34,q12,q05,q03,q08,vv,hD2,hDa,hD0,F0,F1,F2,F3,F4,F5,F6,F7,F8,F9,F10,F11,F12,F13,F14,F15,F16,F17,F18,F19,ne0])
     have hL:(bkR c 4 k v x z).instrs.length=k+1+(n-k):=by rw [hI,List.length_append,List.length_append,htl,hdl,List.length_singleton]
     have hne2:(bkR c 4 k v x z).instrs≠[]:=by exact fun e=>hne4 (by rw [e];rfl)
     rw [if_neg hne2] at hgo2
     refine ⟨(j+1,some (cc+11+16+1+1),bkR c 4 k v x z),by rw [e3],GL.less' (BH_sub ?_ ?_ fun i hi=>?_),inv ⟨⟨by omega,fun i hi=>by cases hi;omega⟩,by simp only;omega,⟨_,rfl⟩,hBn,hne2,hgo2.symm⟩,by simp only;omega⟩
     ·repeat (first|exact hD0|rw [h_ne (by omega)]|rw [h_dne (by omega)])
     ·rw [h_same];simp only [bCells,todo_s];rw [hL];rfl
     ·cases hi;rw [h_ne (by omega),h_same,hI,insC_app,insC_app,insC_one]
   ·have hap:=hs_app (sz:=4) (bytes:=32) (n:=c.entries.length) (xs:=c.entries.map Ent.v) (ent_unit _) (by simp) B8 (by omega) (by omega)
    have hao:=fun ds=>hs_one (sz:=4) (bytes:=32) (n:=c.entries.length) (cs:=cellsL (c.entries.map Ent.v)) (ds:=ds) (entC_len' _) (by omega) (by omega)
    have hm5:=fun H b=>hm_upd1 (k:=cc+11+15) (a:=cc+11+19) (by omega) H b
    subst re
    have nk:((5:Nat):Int)=5:=rfl
    have ne0:=nes6 0 2 a (cc+11+15) (cc+11+19) (cc+11+19+1) (by omega)
    have P3_15:¬ cc+11+3=cc+11+15:=by omega
    have P3_19:¬ cc+11+3=cc+11+19:=by omega
    have P4_15:¬ cc+11+4=cc+11+15:=by omega
    have P4_19:¬ cc+11+4=cc+11+19:=by omega
    have P5_15:¬ cc+11+5=cc+11+15:=by omega
    have P5_19:¬ cc+11+5=cc+11+19:=by omega
    have P6_15:¬ cc+11+6=cc+11+15:=by omega
    have P6_19:¬ cc+11+6=cc+11+19:=by omega
    have P7_15:¬ cc+11+7=cc+11+15:=by omega
    have P7_19:¬ cc+11+7=cc+11+19:=by omega
    have P8_15:¬ cc+11+8=cc+11+15:=by omega
    have P8_19:¬ cc+11+8=cc+11+19:=by omega
    have P9_15:¬ cc+11+9=cc+11+15:=by omega
    have P9_19:¬ cc+11+9=cc+11+19:=by omega
    have P10_15:¬ cc+11+10=cc+11+15:=by omega
    have P10_19:¬ cc+11+10=cc+11+19:=by omega
    have P11_15:¬ cc+11+11=cc+11+15:=by omega
    have P11_19:¬ cc+11+11=cc+11+19:=by omega
    have P12_15:¬ cc+11+12=cc+11+15:=by omega
    have P12_19:¬ cc+11+12=cc+11+19:=by omega
    have P13_15:¬ cc+11+13=cc+11+15:=by omega
    have P13_19:¬ cc+11+13=cc+11+19:=by omega
    have P14_15:¬ cc+11+14=cc+11+15:=by omega
    have P14_19:¬ cc+11+14=cc+11+19:=by omega
    repeat' ((with_reducible first|refine wr ?_|refine wb2 ?_ ?_<;>(intro hb;try simp only [hb])|fail)<;>try simp only [go_sem,seval,nk,hz0,hap,hao,hm5,hm_same,P3_15,P3_19,P4_15,P4_19,P5_15,P5_19,P6_15,P6_19,P7_15,P7_19,P8_15,P8_19,P9_15,P9_19,P10_15,P10_19,P11_15,P11_19,P12_15,P12_19,P13_15,P13_19,P14_15,P14_19,Int.reduceBEq,hw1,hw2,hw3,hd1,hd2,hlen,gx,gy,gz,vx,vz,vm,q1,q2,q34,q12,q05,q03,q08,vv,hD2,hDa,hD0,F0,F1,F2,F3,F4,F5,F6,F7,F8,F9,F10,F11,F12,F13,F14,F15,F16,F17,F18,F19,ne0])
    have hne2:(bkR c 5 k v x z).instrs≠[]:=by exact hne
    rw [if_neg hne2] at hgo2
    refine ⟨(j+1,some a,bkR c 5 k v x z),by rw [e3],(g_cell (a:=(cc+11+19+1)) (k:=2) (u:=4) (u':=4) (pre:=[.slc a 0 n,strs c.strings]) (suf:=[ints c.prios,ints c.vars,I64 c.timers,I64 c.events]) (xs:=(c.entries++[(Ent.mk (v.tmod 3) ((xn % 8:Nat):Int) (v.tmod 5) (k:Int))]).map Ent.v) (junk:=[]) h_same (by rw [h_ne (by omega),h_same,List.append_nil,entC_snoc]) (by simp [DV.one]) (by simp) (ent_unit _) (by omega)).trans (GL.less' (BH_sub ?_ ?_ fun i hi=>?_)),inv ⟨⟨by omega,fun i hi=>by cases hi;omega⟩,by simp only;omega,⟨_,rfl⟩,hBn,hne2,hgo2.symm⟩,by simp only;omega⟩
    ·repeat (first|exact hD0|rw [h_ne (by omega)]|rw [h_dne (by omega)])
    ·rw [h_same];simp only [bCells,todo_s,bkR, ← hn, ← hxn];rfl
    ·cases hi;repeat (first|exact hDa|rw [h_ne (by omega)]|rw [h_dne (by omega)])
   ·subst re
    have nk:((6:Nat):Int)=6:=rfl
    have ne0:=nes3 0 2 a (by omega)
    repeat' ((with_reducible first|refine wr ?_|refine wb2 ?_ ?_<;>(intro hb;try simp only [hb])|fail)<;>try simp only [go_sem,seval,nk,hz0,Int.reduceBEq,hw1,hw2,hw3,hd1,hd2,hlen,gx,gy,gz,vx,vz,vm,q1,q2,q34,q12,q05,q03,q08,vv,hD2,hDa,hD0,F0,F1,F2,F3,F4,F5,F6,F7,F8,F9,F10,F11,F12,F13,F14,F15,F16,F17,F18,F19,ne0])
    have hne2:(bkR c 6 k v x z).instrs≠[]:=by exact hne
    rw [if_neg hne2] at hgo2
    refine ⟨(j+1,some a,bkR c 6 k v x z),by rw [e3],GL.less' (BH_sub ?_ ?_ fun i hi=>?_),inv ⟨⟨by omega,fun i hi=>by cases hi;omega⟩,by simp only;omega,⟨_,rfl⟩,hBn,hne2,hgo2.symm⟩,by simp only;omega⟩
    ·rw [h_ne (by omega)];exact hD0
    ·rw [h_same];simp only [bCells,todo_s,bkR, ← hn]
    ·cases hi;rw [h_ne (by omega)];exact hDa
   ·have hap:=hs_app (sz:=1) (bytes:=8) (n:=c.prios.length) (xs:=c.prios.map I64) (ints_unit _) (by simp) B10 (by omega) (by omega)
    have hao:=fun ds=>hs_one (sz:=1) (bytes:=8) (n:=c.prios.length) (cs:=cellsL (c.prios.map I64)) (ds:=ds) (by rw [cellsL_length (ints_unit _),List.length_map]) (by omega) (by omega)
    subst re
    have nk:((7:Nat):Int)=7:=rfl
    have ne0:=nes6 0 2 a (cc+11) (cc+11+1) (cc+11+1+1) (by omega)
    repeat' ((with_reducible first|refine wr ?_|refine wb2 ?_ ?_<;>(intro hb;try simp only [hb])|fail)<;>try simp only [go_sem,seval,nk,hz0,hap,hao,Int.reduceBEq,hw1,hw2,hw3,hd1,hd2,hlen,gx,gy,gz,vx,vz,vm,q1,q2,q34,q12,q05,q03,q08,vv,hD2,hDa,hD0,F0,F1,F2,F3,F4,F5,F6,F7,F8,F9,F10,F11,F12,F13,F14,F15,F16,F17,F18,F19,ne0])
    have hne2:(bkR c 7 k v x z).instrs≠[]:=by exact hne
    rw [if_neg hne2] at hgo2
    refine ⟨(j+1,some a,bkR c 7 k v x z),by rw [e3],(g_cell (a:=(cc+11+1+1)) (k:=2) (u:=1) (u':=1) (pre:=[.slc a 0 n,strs c.strings,entsV c.entries]) (suf:=[ints c.vars,I64 c.timers,I64 c.events]) (xs:=(c.prios++[v]).map I64) (junk:=[]) h_same (by rw [h_ne (by omega),h_same,List.append_nil,List.map_append,cellsL_append];simp [cellsL,DV.cells]) (by simp [DV.one]) (by simp) (ints_unit _) (by omega)).trans (GL.less' (BH_sub ?_ ?_ fun i hi=>?_)),inv ⟨⟨by omega,fun i hi=>by cases hi;omega⟩,by simp only;omega,⟨_,rfl⟩,hBn,hne2,hgo2.symm⟩,by simp only;omega⟩
    ·repeat (first|exact hD0|rw [h_ne (by omega)]|rw [h_dne (by omega)])
    ·rw [h_same];simp only [bCells,todo_s,bkR, ← hn];rfl
    ·cases hi;repeat (first|exact hDa|rw [h_ne (by omega)]|rw [h_dne (by omega)])
   ·have hap:=hs_app (sz:=1) (bytes:=16) (n:=c.strings.length) (xs:=c.strings.map DV.str) (str_unit _) (by simp) B9 (by omega) (by omega)
    have hao:=fun ds=>hs_one (sz:=1) (bytes:=16) (n:=c.strings.length) (cs:=cellsL (c.strings.map DV.str)) (ds:=ds) (strC_len _) (by omega) (by omega)
    have hcv:=cv_one hzn
    have hcv2:∀ (H:Hp) B,cvbsR ((H.upd (cc+11+8) ⟨1,true,[.int .u8 (zn:Int)]⟩).upd (cc+11+10) B) (.slc (cc+11+8) 0 1)=some (.str [z]):=fun H B=>cv_own (by rw [h_ne (by omega),h_same]) (by rw [hzn];rfl) rfl
    have hcv3:∀ (H:Hp) B B2,cvbsR (((H.upd (cc+11+8) ⟨1,true,[.int .u8 (zn:Int)]⟩).upd (cc+11+10) B).upd (cc+11+14) B2) (.slc (cc+11+8) 0 1)=some (.str [z]):=fun H B B2=>cv_own (by rw [h_ne (by omega),h_ne (by omega),h_same]) (by rw [hzn];rfl) rfl
    have hm8:=fun H b=>hm_upd2 (k:=cc+11+8) (k':=cc+11+10) (a:=cc+11+14) (by omega) (by omega) H b
    subst re
    have nk:((8:Nat):Int)=8:=rfl
    have ne0:=nes7 0 2 a (cc+11+8) (cc+11+10) (cc+11+14) (cc+11+14+1) (by omega)
    have P3_8:¬ cc+11+3=cc+11+8:=by omega
    have P3_10:¬ cc+11+3=cc+11+10:=by omega
    have P3_14:¬ cc+11+3=cc+11+14:=by omega
    have P4_8:¬ cc+11+4=cc+11+8:=by omega
    have P4_10:¬ cc+11+4=cc+11+10:=by omega
    have P4_14:¬ cc+11+4=cc+11+14:=by omega
    have P5_8:¬ cc+11+5=cc+11+8:=by omega
    have P5_10:¬ cc+11+5=cc+11+10:=by omega
    have P5_14:¬ cc+11+5=cc+11+14:=by omega
    have P6_8:¬ cc+11+6=cc+11+8:=by omega
    have P6_10:¬ cc+11+6=cc+11+10:=by omega
    have P6_14:¬ cc+11+6=cc+11+14:=by omega
    have P7_8:¬ cc+11+7=cc+11+8:=by omega
    have P7_10:¬ cc+11+7=cc+11+10:=by omega
    have P7_14:¬ cc+11+7=cc+11+14:=by omega
    have P9_8:¬ cc+11+9=cc+11+8:=by omega
    have P9_10:¬ cc+11+9=cc+11+10:=by omega
    have P9_14:¬ cc+11+9=cc+11+14:=by omega
    repeat' ((with_reducible first|refine wr ?_|refine wb2 ?_ ?_<;>(intro hb;try simp only [hb])|fail)<;>try simp only [go_sem,seval,nk,hz0,hap,hao,hcv,hcv2,hcv3,hm8,hm_same,P3_8,P3_10,P3_14,P4_8,P4_10,P4_14,P5_8,P5_10,P5_14,P6_8,P6_10,P6_14,P7_8,P7_10,P7_14,P9_8,P9_10,P9_14,Int.reduceBEq,hw1,hw2,hw3,hd1,hd2,hlen,gx,gy,gz,vx,vz,vm,q1,q2,q34,q12,q05,q03,q08,vv,hD2,hDa,hD0,F0,F1,F2,F3,F4,F5,F6,F7,F8,F9,F10,F11,F12,F13,F14,F15,F16,F17,F18,F19,ne0])
    have hne2:(bkR c 8 k v x z).instrs≠[]:=by exact hne
    rw [if_neg hne2] at hgo2
    refine ⟨(j+1,some a,bkR c 8 k v x z),by rw [e3],(g_cell (a:=(cc+11+14+1)) (k:=2) (u:=1) (u':=1) (pre:=[.slc a 0 n]) (suf:=[entsV c.entries,ints c.prios,ints c.vars,I64 c.timers,I64 c.events]) (xs:=(c.strings++[[z]]).map DV.str) (junk:=[]) h_same (by rw [h_ne (by omega),h_same,List.append_nil,List.map_append,cellsL_append];simp [cellsL,DV.cells]) (by simp [DV.one]) (by simp) (str_unit _) (by omega)).trans (GL.less' (BH_sub ?_ ?_ fun i hi=>?_)),inv ⟨⟨by omega,fun i hi=>by cases hi;omega⟩,by simp only;omega,⟨_,rfl⟩,hBn,hne2,hgo2.symm⟩,by simp only;omega⟩
    ·repeat (first|exact hD0|rw [h_ne (by omega)]|rw [h_dne (by omega)])
    ·rw [h_same];simp only [bCells,todo_s,bkR, ← hn];rfl
    ·cases hi;repeat (first|exact hDa|rw [h_ne (by omega)]|rw [h_dne (by omega)])
  ·have hd2:decide ((i:Int)<9)=false:=by simp;omega
   have hge:=go_end (m:=m) (c:=c) (j:=j) (by omega)
   repeat' ((with_reducible first|refine wr ?_|refine wb2 ?_ ?_<;>(intro hb;try simp only [hb])|fail)<;>try simp only [go_sem,seval,hw2,hlen,hd1,hd2,hD2,hD0])
   rw [k_rv (v:=.agg (bCells (some a) c)) (by simp only [bCells,todo_s, ← hn];rfl)]
   rw [← hgo,hge]
   dsimp only
   exact b_fin (o:=some a) (by rw [h_same];simp only [bCells,todo_s, ← hn]) (fun i hi=>by cases hi;exact ⟨by omega,by rw [h_ne (by omega)];exact hDa⟩) (fun h=>by cases h)
 ·have hd1:decide (((i+2:Nat):Int)<((m.length:Nat):Int))=false:=by simp;omega
  have hge:=go_end (m:=m) (c:=c) (j:=j) (by omega)
  repeat' ((with_reducible first|refine wr ?_|refine wb2 ?_ ?_<;>(intro hb;try simp only [hb])|fail)<;>try simp only [go_sem,seval,hw2,hlen,hd1,hD2,hD0])
  rw [k_rv (v:=.agg (bCells (some a) c)) (by simp only [bCells,todo_s, ← hn];rfl)]
  rw [← hgo,hge]
  dsimp only
  exact b_fin (o:=some a) (by rw [h_same];simp only [bCells,todo_s, ← hn]) (fun i hi=>by cases hi;exact ⟨by omega,by rw [h_ne (by omega)];exact hDa⟩) (fun h=>by cases h)
end Go.Proofs.YtcallbfckjlagaaDoor
end
