/-
  HELPERS of the claim: part 9 of its texts.
-/
import Derived.Test.YtmmjlijdfhkdcaaGreatDoorMmdh
import Derived.Shelf.LaysC
import Derived.Shelf.Strconv.ParseIntPublic10
import Derived.Test.YtmmjlijdfhkdcaaGreatDoorProg
noncomputable section
set_option linter.unusedVariables false
namespace Go.Proofs
open Go.Shelf
def Tryz.laysC174_ren:Go.Shelf.Ren:=⟨fun |174=>166 |247=>178 |245=>179 |287=>186 |279=>187 |280=>188 |281=>189 |282=>190 |321=>194 |322=>195 |316=>196 |171=>28 |205=>197 |243=>60 |246=>96 |283=>133 |284=>134 |285=>135 |286=>136 |129=>158 |317=>157 |318=>159 |319=>160 |320=>161 |337=>175 |338=>176|n=>n,fun |9=>9 |3=>3 |2=>2 |75=>133 |85=>186 |4=>4 |167=>210 |5=>5 |53=>158 |175=>211 |46=>178 |168=>213 |37=>22 |0=>0 |210=>220 |21=>21 |127=>163 |145=>225 |143=>223 |171=>157 |173=>161 |212=>175 |51=>176 |20=>20 |213=>177 |232=>197 |233=>198 |80=>33|n=>n,fun |15=>6 |16=>7 |17=>0 |18=>4 |19=>5|n=>n⟩
theorem Tryz.laysC174:Go.Proofs.LaysC.n174 Tryz.prog Tryz.laysC174_ren:={
 mixed:=by kernel_rfl
 f129:=Tryz.func158.trans (congrArg some (by kernel_rfl))
 f171:=Tryz.func28.trans (congrArg some (by kernel_rfl))
 f174:=Tryz.func166.trans (congrArg some (by kernel_rfl))
 f205:=Tryz.func197.trans (congrArg some (by kernel_rfl))
 f243:=Tryz.func60.trans (congrArg some (by kernel_rfl))
 f245:=Tryz.func179.trans (congrArg some (by kernel_rfl))
 f246:=Tryz.func96.trans (congrArg some (by kernel_rfl))
 f247:=Tryz.func178.trans (congrArg some (by kernel_rfl))
 f279:=Tryz.func187.trans (congrArg some (by kernel_rfl))
 f280:=Tryz.func188.trans (congrArg some (by kernel_rfl))
 f281:=Tryz.func189.trans (congrArg some (by kernel_rfl))
 f282:=Tryz.func190.trans (congrArg some (by kernel_rfl))
 f283:=Tryz.func133.trans (congrArg some (by kernel_rfl))
 f284:=Tryz.func134.trans (congrArg some (by kernel_rfl))
 f285:=Tryz.func135.trans (congrArg some (by kernel_rfl))
 f286:=Tryz.func136.trans (congrArg some (by kernel_rfl))
 f287:=Tryz.func186.trans (congrArg some (by kernel_rfl))
 f316:=Tryz.func196.trans (congrArg some (by kernel_rfl))
 f317:=Tryz.func157.trans (congrArg some (by kernel_rfl))
 f318:=Tryz.func159.trans (congrArg some (by kernel_rfl))
 f319:=Tryz.func160.trans (congrArg some (by kernel_rfl))
 f320:=Tryz.func161.trans (congrArg some (by kernel_rfl))
 f321:=Tryz.func194.trans (congrArg some (by kernel_rfl))
 f322:=Tryz.func195.trans (congrArg some (by kernel_rfl))
 f337:=Tryz.func175.trans (congrArg some (by kernel_rfl))
 f338:=Tryz.func176.trans (congrArg some (by kernel_rfl))
 t0:=Tryz.underlying0
 a0:=Tryz.isAgg0
 z0:=Tryz.sizeOf0
 v0:=Tryz.zeroValue0
 t2:=Tryz.underlying2
 a2:=Tryz.isAgg2
 z2:=Tryz.sizeOf2
 v2:=Tryz.zeroValue2
 t3:=Tryz.underlying3
 a3:=Tryz.isAgg3
 z3:=Tryz.sizeOf3
 v3:=Tryz.zeroValue3
 t4:=Tryz.underlying4
 a4:=Tryz.isAgg4
 z4:=Tryz.sizeOf4
 v4:=Tryz.zeroValue4
 t5:=Tryz.underlying5
 a5:=Tryz.isAgg5
 z5:=Tryz.sizeOf5
 v5:=Tryz.zeroValue5
 t9:=Tryz.underlying9
 a9:=Tryz.isAgg9
 z9:=Tryz.sizeOf9
 v9:=Tryz.zeroValue9
 t20:=Tryz.underlying20
 a20:=Tryz.isAgg20
 z20:=Tryz.sizeOf20
 v20:=Tryz.zeroValue20
 t21:=Tryz.underlying21
 a21:=Tryz.isAgg21
 z21:=Tryz.sizeOf21
 v21:=Tryz.zeroValue21
 t37:=Tryz.underlying22
 a37:=Tryz.isAgg22
 z37:=Tryz.sizeOf22
 v37:=Tryz.zeroValue22
 t46:=Tryz.underlying178
 a46:=Tryz.isAgg178
 z46:=Tryz.sizeOf178
 v46:=Tryz.zeroValue178
 t51:=Tryz.underlying176
 a51:=Tryz.isAgg176
 z51:=Tryz.sizeOf176
 v51:=Tryz.zeroValue176
 t53:=Tryz.underlying158
 a53:=Tryz.isAgg158
 z53:=Tryz.sizeOf158
 v53:=Tryz.zeroValue158
 t75:=Tryz.underlying133
 a75:=Tryz.isAgg133
 z75:=Tryz.sizeOf133
 v75:=Tryz.zeroValue133
 t85:=Tryz.underlying186
 a85:=Tryz.isAgg186
 z85:=Tryz.sizeOf186
 v85:=Tryz.zeroValue186
 t127:=Tryz.underlying163
 a127:=Tryz.isAgg163
 z127:=Tryz.sizeOf163
 v127:=Tryz.zeroValue163
 t143:=Tryz.underlying223
 a143:=Tryz.isAgg223
 z143:=Tryz.sizeOf223
 v143:=Tryz.zeroValue223
 t145:=Tryz.underlying225
 a145:=Tryz.isAgg225
 z145:=Tryz.sizeOf225
 v145:=Tryz.zeroValue225
 t167:=Tryz.underlying210
 a167:=Tryz.isAgg210
 z167:=Tryz.sizeOf210
 v167:=Tryz.zeroValue210
 t168:=Tryz.underlying213
 a168:=Tryz.isAgg213
 z168:=Tryz.sizeOf213
 v168:=Tryz.zeroValue213
 t171:=Tryz.underlying157
 a171:=Tryz.isAgg157
 z171:=Tryz.sizeOf157
 v171:=Tryz.zeroValue157
 t173:=Tryz.underlying161
 a173:=Tryz.isAgg161
 z173:=Tryz.sizeOf161
 v173:=Tryz.zeroValue161
 t175:=Tryz.underlying211
 a175:=Tryz.isAgg211
 z175:=Tryz.sizeOf211
 v175:=Tryz.zeroValue211
 t210:=Tryz.underlying220
 a210:=Tryz.isAgg220
 z210:=Tryz.sizeOf220
 v210:=Tryz.zeroValue220
 t212:=Tryz.underlying175
 a212:=Tryz.isAgg175
 z212:=Tryz.sizeOf175
 v212:=Tryz.zeroValue175
 t213:=Tryz.underlying177
 a213:=Tryz.isAgg177
 z213:=Tryz.sizeOf177
 t232:=Tryz.underlying197
 a232:=Tryz.isAgg197
 z232:=Tryz.sizeOf197
 v232:=Tryz.zeroValue197
 t233:=Tryz.underlying198
 a233:=Tryz.isAgg198
 z233:=Tryz.sizeOf198
 v233:=Tryz.zeroValue198
 g15:=by kernel_rfl
 g16:=by kernel_rfl
 g17:=by kernel_rfl
 g18:=by kernel_rfl
 g19:=by kernel_rfl
 t80:=Tryz.underlying33
 a80:=Tryz.isAgg33
 z80:=Tryz.sizeOf33
 v80:=Tryz.zeroValue33
 i0:=by kernel_rfl
 i2:=by kernel_rfl
 i3:=by kernel_rfl
 i4:=by kernel_rfl
 i5:=by kernel_rfl
 i9:=by kernel_rfl
 i20:=by kernel_rfl
 i21:=by kernel_rfl
 i37:=by kernel_rfl
 i46:=by kernel_rfl
 i51:=by kernel_rfl
 i53:=by kernel_rfl
 i75:=by kernel_rfl
 i80:=by kernel_rfl
 i85:=by kernel_rfl
 i127:=by kernel_rfl
 i143:=by kernel_rfl
 i145:=by kernel_rfl
 i167:=by kernel_rfl
 i168:=by kernel_rfl
 i171:=by kernel_rfl
 i173:=by kernel_rfl
 i175:=by kernel_rfl
 i210:=by kernel_rfl
 i212:=by kernel_rfl
 i232:=by kernel_rfl
 i233:=by kernel_rfl
 m15:=by kernel_rfl
 m16:=by kernel_rfl
 m17:=by kernel_rfl
 m18:=by kernel_rfl
 m19:=by kernel_rfl
 c0:=by kernel_rfl
 c2:=by kernel_rfl
 c3:=by kernel_rfl
 c4:=by kernel_rfl
 c5:=by kernel_rfl
 c9:=by kernel_rfl
 c20:=by kernel_rfl
 c21:=by kernel_rfl
 c37:=by kernel_rfl
 c46:=by kernel_rfl
 c51:=by kernel_rfl
 c53:=by kernel_rfl
 c75:=by kernel_rfl
 c80:=by kernel_rfl
 c85:=by kernel_rfl
 c127:=by kernel_rfl
 c143:=by kernel_rfl
 c145:=by kernel_rfl
 c167:=by kernel_rfl
 c168:=by kernel_rfl
 c171:=by kernel_rfl
 c173:=by kernel_rfl
 c175:=by kernel_rfl
 c210:=by kernel_rfl
 c212:=by kernel_rfl
 c213:=by kernel_rfl
 c232:=by kernel_rfl
 c233:=by kernel_rfl }
open Go.RowKit in
theorem Tryz.strconv_ParseInt_10_at64_ok(s:ByteArray)(hmax:s.size<=9223372036854775806)(v:Int)(h:Lib.parseIntB 64 s.data.toList=.ok v)(w:World):
  Calls Tryz.prog 166 #[.string s,.int .i64 10,.int .i64 64] w fun e w'=>e=.returned (.tuple #[.int .i64 v,.nilIface])/\(w'=w\/∃ t,w'=Lib.bytesWorld w 5 t):=Any.strconv_ParseInt_10_at64_ok Tryz.laysC174 s hmax v h w
end Go.Proofs
set_option maxHeartbeats 4000000
set_option maxRecDepth 100000
set_option linter.unusedSimpArgs false
namespace Go.Proofs.YtmmjlijdfhkdcaaGreatDoor
open Go.Eng (IC IOper DReg IFn M8 G6)
open Go.Sym Go.Pb Go.RowKit
theorem C3g:∀ (m u:Nat),u<m->Lib.decDigits u=A6n u:=by
 intro m
 induction m with
 |zero=>intro u h;omega
 |succ m ih =>
  intro u h;unfold Lib.decDigits;by_cases h0:u<10
  ·rw[dif_pos h0,A2y h0];rfl
  ·rw[dif_neg h0,A4z h0,ih (u / 10) (by omega)];rfl
theorem C6a(n:Int):Lib.itoa n=J6 n:=by
 unfold Lib.itoa J6;by_cases h:n<0
 ·rw[if_pos h,if_pos h,C3g (n.natAbs+1) _ (by omega)]
 ·rw[if_neg h,if_neg h,C3g (n.toNat+1) _ (by omega)]
  congr 1;omega
theorem D6k{ρ : Ren}{x:DV}{u:Value}{vs:Array Value}(hA:F2 ρ [x] vs)(h:∀ y,VRel ρ x y->y=u):vs = #[u]:=by
 obtain⟨y,h1,h2⟩:=hA.get (i:=0) rfl;have hs:vs.size=1:=hA.1.symm;obtain rfl:=h y h2;cases vs with|mk l=>match l,hs,h1 with
  |[a],_,h1=>simp at h1;subst h1;rfl
theorem c_Itoa(n:Int)(h0 : -9223372036854775808<=n)(h1:n<=9223372036854775807):PC Tryz.prog 28 [I64 n] (.str (J6 n)):=by
 refine PC.of_calls (by kernel_rfl) rfl rfl fun ρ w vs hf hA=>?_;have hvs:vs = #[.int .i64 n]:=D6k hA fun y h=>h.int_inv;rw[hvs];obtain⟨r,hr,rfl⟩ := ρ.tab _ (A0K);obtain⟨e,fr,hb⟩:=hf _ _ hr;have ht : Lib.TabIs Tryz.prog w "internal/strconv.uint64pow10" .u64 Lib.pow10Tab := by
  unfold Lib.TabIs World.var?;rw[Tryz.laysM171.m17];show (match w.heap[0]? with|some (.cells cs _ _)=>some cs|_=>none)=_;rw[hb]
 refine (Tryz.strconv_Itoa n h0 h1 w ht).mono ?_;rintro e w' ⟨rfl,k,os,rfl⟩;exact⟨_,rfl,fun ρ'=>by rw[C6a];exact .mkStr,⟨rfl,rfl,rfl,by show w.heap.size<=(w.heap++os).size;rw[Array.size_append];omega,fun j hj=>by
  show (w.heap++os)[j]? = w.heap[j]?;rw[Array.getElem?_append,if_pos hj]⟩⟩
theorem D9s{ρ : Ren}{x x2:DV}{u u2:Value}{vs:Array Value}(hA:F2 ρ [x,x2] vs)(h:∀ y,VRel ρ x y->y=u)(h2:∀ y,VRel ρ x2 y->y=u2):vs = #[u,u2]:=by
 obtain⟨y,g1,g2⟩:=hA.get (i:=0) rfl;obtain⟨z,g3,g4⟩:=hA.get (i:=1) rfl;obtain rfl:=h y g2;obtain rfl:=h2 z g4;have hs:vs.size=2:=hA.1.symm;cases vs with|mk r=>match r,hs,g1,g3 with
  |[a,b],_,h1,h3=>simp at h1 h3;subst h1 h3;rfl
theorem D9r{ρ : Ren}{x x2 x3:DV}{u u2 u3:Value}{vs:Array Value}(hA:F2 ρ [x,x2,x3] vs)(h:∀ y,VRel ρ x y->y=u)(h2:∀ y,VRel ρ x2 y->y=u2)(h3:∀ y,VRel ρ x3 y->y=u3):vs = #[u,u2,u3]:=by
 obtain⟨y,g1,g2⟩:=hA.get (i:=0) rfl;obtain⟨z,g3,g4⟩:=hA.get (i:=1) rfl;obtain⟨q,g5,g6⟩:=hA.get (i:=2) rfl;obtain rfl:=h y g2;obtain rfl:=h2 z g4;obtain rfl:=h3 q g6;have hs:vs.size=3:=hA.1.symm;cases vs with|mk r=>match r,hs,g1,g3,g5 with
  |[a,b,c],_,h1,h3,h5=>simp at h1 h3 h5;subst h1 h3 h5;rfl
theorem c_IndexByte(s:List UInt8)(c:UInt8):PC Tryz.prog 167 [.str s,.int .u8 c.toNat] (I64 (Lib.indexByte s c)):=by
 refine PC.of_calls (by kernel_rfl) rfl rfl fun ρ w vs hf hA=>?_;rw[D9s hA (fun y h=>h.str_inv) (fun y h=>h.int_inv)];refine (Tryz.strings_IndexByte _ _ w).mono ?_;rintro e w' ⟨rfl,rfl⟩;refine⟨_,rfl,fun ρ'=>?_,Below.refl _ _⟩;have:((c.toNat:Int).toNat.toUInt8)=c:=by rw[A3V];exact UInt8.ofNat_toNat
 rw[this];exact .int _ _
theorem c_ParseOk(s:List UInt8)(hs:s.length<=281474976710656)(h:∀ c∈s,dgB c=true)(h0:s≠[])(hv:S9 s<=9223372036854775807):PC Tryz.prog 166 [.str s,I64 10,I64 64] (.tup [I64 (S9 s),.inil]):=by
 refine PC.of_calls (by kernel_rfl) rfl rfl fun ρ w vs hf hA=>?_;rw[D9r hA (fun y h=>h.str_inv) (fun y h=>h.int_inv) (fun y h=>h.int_inv)];refine (Tryz.strconv_ParseInt_10_at64_ok _ (by show s.toArray.size<=_;rw[A3S];omega) (S9 s:Int) (by have:=pib h h0;rw[if_pos hv]at this;exact this) w).mono ?_;rintro e w' ⟨rfl,hw⟩;refine⟨_,rfl,fun ρ'=>.tup _ _ rfl (fun i x y hx hy=>?_),?_⟩
 ·match i with
  |0=>simp at hx hy;subst hx hy;exact .int _ _
  |1=>simp at hx hy;subst hx hy;exact .inil
  |_+2=>simp at hx
 ·rcases hw with rfl|⟨t,rfl⟩
  ·exact Below.refl _ _
  ·exact⟨rfl,rfl,rfl,by rw[Lib.bytesWorld_size];omega,fun j hj=>Lib.bytesWorld_at_old _ _ _ _ hj⟩
def B9u:List UInt8:=w8 [115,119,105,116,99,104,32,99,111,105,108,32,108,97,109,112,32,115,111,117,110,100,32,115,104,111,119,32,118,97,114,32,116,105,109,101,114,32,101,118,101,110,116,32,109,111,100,101,32,111,110,32,115,116,97,114,116,32,115,116,111,112,32,99,108,111,115,101,32,111,112,101,110,32,105,102,32,101,108,115,101,32,114,101,112,101,97,116,32,115,99,111,114,101,32,102,105,114,101,32,104,111,108,100,32,114,101,108,101,97,115,101,32,108,105,103,104,116,32,98,108,105,110,107,32,98,101,103,105,110,32,101,110,100,32,112,111,115,116,32,112,108,97,121,32,114,117,110,32,104,97,108,116,32,116,101,120,116,32,99,111,110,115,117,109,101,32,99,108,111,115,101,100,32,97,99,116,105,118,101,32,108,101,102,116,32,112,108,97,121,101,114,32,98,97,108,108,32,116,114,117,101,32,102,97,108,115,101]
theorem C8b:Lib.fields B9u=E9:=by kernel_rfl
theorem C8c:B9u.all (fun b=>decide (b.toNat<128))=true:=by kernel_rfl
theorem c_Fields:PC Tryz.prog 140 [.str B9u] (.lst (E9.map DV.str)):=by
 refine PC.of_callsF (by kernel_rfl) rfl (J5 _) fun ρ w vs hf hA=>?_;rw[D6k hA (fun y h=>h.str_inv)];obtain⟨r,hr,rfl⟩ := ρ.tab _ (A0H _ A0K);obtain⟨e,fr,hb⟩:=hf _ _ hr;have ht : Lib.TabIs Tryz.prog w "strings.asciiSpace" .u8 Lib.asciiSpaceTab := by
  unfold Lib.TabIs World.var?;rw [show Tryz.prog.globalNamed "strings.asciiSpace" = some 1 by kernel_rfl]
  show (match w.heap[1]? with|some (.cells cs _ _)=>some cs|_=>none)=_;have hb':w.heap[1]? = _:=hb;rw[hb']
 refine (Tryz.strings_Fields _ w (by decide) ?_ ht).mono ?_
 ·intro j b hj;have:=A0Q.1 C8c b (A0M hj);simpa using this
 ·rintro e w' ⟨rfl,rfl⟩;have hl:Lib.fields (⟨B9u.toArray⟩:ByteArray).data.toList=E9:=C8b;rw[hl];refine⟨_,w.heap.size,_,9,_,rfl,A0J _,(by show (w.heap.push _)[w.heap.size]? = _;rw[Array.getElem?_push_size]),fun ρ' hρ => VRel.strs hρ rfl (A0J _) (by decide),Below.alloc (Below.refl _ _) (A0J _) _⟩
open Go.Eng (IC IOper DReg IFn M8)
open Go.Sym Go.Pb
theorem c_Fields':PC Tryz.prog 140 [.str [115,119,105,116,99,104,32,99,111,105,108,32,108,97,109,112,32,115,111,117,110,100,32,115,104,111,119,32,118,97,114,32,116,105,109,101,114,32,101,118,101,110,116,32,109,111,100,101,32,111,110,32,115,116,97,114,116,32,115,116,111,112,32,99,108,111,115,101,32,111,112,101,110,32,105,102,32,101,108,115,101,32,114,101,112,101,97,116,32,115,99,111,114,101,32,102,105,114,101,32,104,111,108,100,32,114,101,108,101,97,115,101,32,108,105,103,104,116,32,98,108,105,110,107,32,98,101,103,105,110,32,101,110,100,32,112,111,115,116,32,112,108,97,121,32,114,117,110,32,104,97,108,116,32,116,101,120,116,32,99,111,110,115,117,109,101,32,99,108,111,115,101,100,32,97,99,116,105,118,101,32,108,101,102,116,32,112,108,97,121,101,114,32,98,97,108,108,32,116,114,117,101,32,102,97,108,115,101]] (.lst (E9.map DV.str)):=c_Fields
theorem B8c:∀ k:Nat,k<38->(E9.take k).contains (E9.getD k [])=false:=by decide +kernel
theorem c_words:PC Tryz.prog 103 [] (.mp .s (E9.map DV.str) (E9.map fun _=>DV.bool true)):=by
 refine PC.ofT B1 rfl (A0C rfl) rfl (by simp only[DV.nl];rw[J5,O3 (fun _=>rfl)];rfl) ?_;have hf:=c_Fields';repeat' ((with_reducible first|refine wr ?_|refine cpc hf ?_|refine A1 ?_ ?_|refine wb2 ?_ ?_<;>(intro hb;try simp only[hb])|fail)<;>try simp only[go_sem,seval])
 clear hf;refine D4 (fun k:Nat=>[(1,.mid 0),(5,.lst (E9.map DV.str)),(6,I64 E9.length),(7,I64 k)]) (fun k=>Sym.nil.upd 0 ⟨0,true,[.mpc .s ((E9.take k).map DV.str) ((E9.take k).map fun _=>DV.bool true)]⟩) (fun k _=>k<=E9.length) (fun k=>E9.length-k) 0 (by simp[C5,tm,Tm.upd]) (Sub.refl _) (by simp) ?_;rintro k c hk;have hlen:E9.length=38:=rfl;by_cases hlt:k<E9.length
 ·have hd:=dtz hlt;have hg:=A0B hlt;have hw:IntKind.i64.wrap ((k:Int)+1)=((k+1:Nat):Int):=by rw[w6z (by omega)];omega
  have hn:(E9.take k).contains E9[k]=false:=by
   have:=B8c k (by omega)
   rwa [A0Y,hg,A3W]at this
  have hm:=A7w hn 0;have e1:E9.take (k+1)=E9.take k++[E9[k]]:=by rw[A1D,hg];rfl
  repeat' ((with_reducible first|refine wr ?_|refine A1 ?_ ?_|refine wb2 ?_ ?_<;>(intro hb;try simp only[hb])|fail)<;>try simp only[go_sem,seval,hd,hg,hw,hm])
  refine⟨k+1,rfl,?_,inv hlt,by omega⟩;rw[e1,A0S,A0S];intro j b hj;by_cases e:j=0
  ·subst e;rw[A0]at hj ⊢;exact hj
  ·rw[A6 e]at hj;cases hj
 ·have hd:=dfz hlt;repeat' ((with_reducible first|refine wr ?_|refine A1 ?_ ?_|refine wb2 ?_ ?_<;>(intro hb;try simp only[hb])|fail)<;>try simp only[go_sem,seval,hd])
  rw[A0L (by omega)];exact B0y A0
abbrev resV:DV:=.mp .s (E9.map DV.str) (E9.map fun _=>DV.bool true)
theorem D0t(w:List UInt8):lkV (.bool false) false (E9.map fun _=>DV.bool true) (P0 (.str w) (E9.map DV.str) 0)=some (.bool (G3 w)):=by
 cases h:G3 w with
 |false=>rw[A7w h 0];rfl
 |true =>
  obtain⟨j,hj⟩:=B5g h 0;have hlt:=(B2z hj).2;rw[A0E]at hlt;rw[hj,C2c,A1A,A0B (by omega)];rfl
theorem c_IsWord(s:List UInt8):PC Tryz.prog 87 [.str s] (.bool (G3 s)):=by
 refine PC.go B1 ?_;have hw:=c_words;have hlk:=D0t s;repeat' ((with_reducible first|refine wr ?_|refine cpc hw ?_|refine A1 ?_ ?_|refine wb2 ?_ ?_<;>(intro hb;try simp only[hb])|fail)<;>try simp only[go_sem,seval,hlk])
 exact B3 rfl
theorem c_IsName(s:List UInt8)(hs:s.length<=1000000000):PC Tryz.prog 48 [.str s] (.bool (C4 s)):=by
 refine PC.go B1 ?_;have hw:=c_IsWord s;have hsp:=c_spanPt s (by omega);cases s with
 |nil =>
  repeat' ((with_reducible first|refine wr ?_|refine A1 ?_ ?_|refine wb2 ?_ ?_<;>(intro hb;try simp only[hb])|fail)<;>try simp only[go_sem,seval])
  exact B3 rfl
 |cons c r =>
  have hx:B5l (DV.str (c :: r)) (.int .i64 0)=some (.int .u8 (c.toNat:Int)):=rfl;have hlt:=c_letter c;have hd1:decide (((r.length+1:Nat):Int)≥1)=true:=by simp;omega
  repeat' ((with_reducible first|refine wr ?_|refine cpc hw ?_|refine cpc hsp ?_|refine cpc hlt ?_|refine A1 ?_ ?_|refine wb2 ?_ ?_<;>(intro hb;try simp only[hb])|fail)<;>try simp only[go_sem,seval,hx,hd1])
  all_goals (refine B3 (congrArg DV.bool ?_);simp_all[C4]<;>omega)
theorem c_Quote(s:List UInt8)(hs:s.length<=1000000):PC Tryz.prog 99 [.str s] (.str (R0 s)):=by
 refine PC.go B1 ?_;repeat' ((with_reducible first|refine wr ?_|refine A1 ?_ ?_|refine wb2 ?_ ?_<;>(intro hb;try simp only[hb])|fail)<;>try simp only[go_sem,seval])
 refine D4 (fun q:Nat × Nat=>[(0,.str s),(3,.slc q.2 0 (A1o (s.take q.1)).length),(4,I64 q.1)]) (fun q=>Sym.nil.upd q.2 ⟨1,true,bytesC (A1o (s.take q.1))⟩)
  (fun q c=>q.1<=s.length/\q.2<c) (fun q=>s.length-q.1) (0,0) (by simp[C5,tm,Tm.upd,A1o]) (Sub.refl _) (by simp) ?_
 rintro⟨k,id⟩ c ⟨hk,hid⟩;simp only at hk hid;simp only;have hal:(A1o (s.take k)).length<=2 * k+1:=by
  have:=A7t (s.take k);rw[A1F]at this;omega
 obtain⟨acc,hacc⟩:∃ acc,acc=A1o (s.take k):=⟨_,rfl⟩;rw[<- hacc]at hal ⊢;by_cases hlt:k<s.length
 ·have hd:=dtz hlt;have hg:=A0B hlt;have hw:IntKind.i64.wrap ((k:Int)+1)=((k+1:Nat):Int):=by rw[w6z (by omega)];omega
  have hA:∀ H c id,apB H c id 1 1 acc.length 1 [.int .u8 92] (some ⟨1,true,bytesC acc⟩)=some (.slc c 0 (acc.length+1),(H.del id).upd c ⟨1,true,bytesC (acc++[92])⟩,c+1):=fun H c id=>B3s (x:=92) rfl (by omega);have hB:∀ H c id,apB H c id 1 1 (acc.length+1) 1 [.int .u8 (s[k].toNat:Int)] (some ⟨1,true,bytesC (acc++[92])⟩)=some (.slc c 0 (acc.length+1+1),(H.del id).upd c ⟨1,true,bytesC (acc++[92]++[s[k]])⟩,c+1):=fun H c id=>B3s (by simp) (by omega);have hC:∀ H c id,apB H c id 1 1 acc.length 1 [.int .u8 (s[k].toNat:Int)] (some ⟨1,true,bytesC acc⟩)=some (.slc c 0 (acc.length+1),(H.del id).upd c ⟨1,true,bytesC (acc++[s[k]])⟩,c+1):=fun H c id=>B3s rfl (by omega);have est:A1o (s.take (k+1))=acc++quB s[k]:=by rw[hacc,A9o hg]
  have ne0:=T1 id c (c+1) (c+2) (c+3) (by omega);repeat' ((with_reducible first|refine wr ?_|refine A1 ?_ ?_|refine wb2 ?_ ?_<;>(intro hb;try simp only[hb])|fail)<;>try simp only[go_sem,seval,hd,hg,hw,ne0,hA,hB,hC])
  ·have e2:quB s[k]=[92,s[k]]:=if_pos (.inl (A6o (b:=34) hb));exact⟨(k+1,c+1+1+1),⟨by simp only[est,e2,A0A];rfl,rfl⟩,K6 (by simp only[est,e2,A0T];rfl),inv ⟨hlt,by simp only;omega⟩,by simp only;omega⟩
  ·have e2:quB s[k]=[92,s[k]]:=if_pos (.inr (A6o (b:=92) hb));exact⟨(k+1,c+1+1+1),⟨by simp only[est,e2,A0A];rfl,rfl⟩,K6 (by simp only[est,e2,A0T];rfl),inv ⟨hlt,by simp only;omega⟩,by simp only;omega⟩
  ·have e2:quB s[k]=[s[k]]:=if_neg (fun h=>h.elim (A3i (b:=34) (by assumption)) (A3i (b:=92) hb));exact⟨(k+1,c+1),⟨by simp only[est,e2,A0A];rfl,rfl⟩,K6 (by simp only[est,e2]),inv ⟨hlt,by simp only;omega⟩,by simp only;omega⟩
 ·have hd:=dfz hlt;have hZ:∀ H c id,apB H c id 1 1 acc.length 1 [.int .u8 34] (some ⟨1,true,bytesC acc⟩)=some (.slc c 0 (acc.length+1),(H.del id).upd c ⟨1,true,bytesC (acc++[34])⟩,c+1):=fun H c id=>B3s (x:=34) rfl (by omega);have ne0:=L8 id c (c+1) (by omega);have hcv:∀ (H:Hp) u,Z4 (H.upd (c+1) ⟨u,true,bytesC (acc++[34])⟩) (.slc (c+1) 0 (acc.length+1))=some (.str (acc++[34])):=fun H u=>A3y A0 rfl (by simp);repeat' ((with_reducible first|refine wr ?_|refine A1 ?_ ?_|refine wb2 ?_ ?_<;>(intro hb;try simp only[hb])|fail)<;>try simp only[go_sem,seval,hd,ne0,hZ,hcv])
  refine B3 ?_;rw[hacc,A0L (by omega)];rfl
theorem c_wordsR:PC Tryz.prog 129 [] (.lst (E9.map DV.str)):=by
 refine PC.ofT B1 rfl (A0C rfl) rfl (J5 _) ?_;repeat' ((with_reducible first|refine wr ?_|refine A1 ?_ ?_|refine wb2 ?_ ?_<;>(intro hb;try simp only[hb])|fail)<;>try simp only[go_sem,seval])
 exact K7 (xs:=E9.map DV.str) (u:=1) A0 rfl rfl (G9 _) ⟨[],rfl⟩
theorem c_signsR:PC Tryz.prog 76 [] (.lst (Q8.map DV.str)):=by
 refine PC.ofT B1 rfl (A0C rfl) rfl (J5 _) ?_;repeat' ((with_reducible first|refine wr ?_|refine A1 ?_ ?_|refine wb2 ?_ ?_<;>(intro hb;try simp only[hb])|fail)<;>try simp only[go_sem,seval])
 exact K7 (xs:=Q8.map DV.str) (u:=1) A0 rfl rfl (G9 _) ⟨[],rfl⟩
theorem c_IsWordR(s:List UInt8):PC Tryz.prog 91 [.str s] (.bool (G3 s)):=by
 refine PC.go B1 ?_;have hw:=c_wordsR;repeat' ((with_reducible first|refine wr ?_|refine cpc hw ?_|refine A1 ?_ ?_|refine wb2 ?_ ?_<;>(intro hb;try simp only[hb])|fail)<;>try simp only[go_sem,seval])
 refine D4 (fun k:Nat=>[(0,.str s),(3,.lst (E9.map DV.str)),(4,I64 k)]) (fun _=>nil) (fun k _=>k<=E9.length/\(E9.take k).contains s=false) (fun k=>E9.length-k) 0 (by simp[C5,tm,Tm.upd]) (Sub.nil _) (by simp) ?_;rintro k c ⟨hk,he⟩;have hlen:E9.length=38:=rfl;by_cases hlt:k<E9.length
 ·have hd:=dtz hlt;have hg:=A0B hlt;have hw:IntKind.i64.wrap ((k:Int)+1)=((k+1:Nat):Int):=by rw[w6z (by omega)];omega
  repeat' ((with_reducible first|refine wr ?_|refine A1 ?_ ?_|refine wb2 ?_ ?_<;>(intro hb;try simp only[hb])|fail)<;>try simp only[go_sem,seval,hd,hg,hw])
  ·refine B3 (congrArg DV.bool ?_);have:s=E9[k]:=(A1I.1 hb).symm;unfold G3;rw[List.contains_iff_mem.2 (by rw[this];exact A0V hlt)]
  ·refine⟨k+1,rfl,Sub.refl _,inv ⟨hlt,?_⟩,by omega⟩;rw[A1D,hg,List.contains_append,he];have:¬ s=E9[k]:=fun e=>by rw[e]at hb;simp at hb
   simpa using this
 ·have hd:=dfz hlt;repeat' ((with_reducible first|refine wr ?_|refine A1 ?_ ?_|refine wb2 ?_ ?_<;>(intro hb;try simp only[hb])|fail)<;>try simp only[go_sem,seval,hd])
  refine B3 (congrArg DV.bool ?_);rw[A0L (by omega)]at he;exact he.symm
theorem c_skipR(s:List UInt8)(hs:s.length<=1000000000)(i:Nat)(hi:i<=s.length):PC Tryz.prog 36 [.str s,I64 i] (I64 ((i+skM false (s.drop i):Nat):Int)):=by
 refine PC.go B1 ?_;repeat' ((with_reducible first|refine wr ?_|refine A1 ?_ ?_|refine wb2 ?_ ?_<;>(intro hb;try simp only[hb])|fail)<;>try simp only[go_sem,seval])
 refine D4 (fun k:Nat=>[(0,.str s),(1,I64 k)]) (fun _=>nil) (fun k _=>k<=s.length/\i+skM false (s.drop i)=k+skM false (s.drop k)) (fun k=>s.length-k) i (by simp[C5,tm,Tm.upd]) (Sub.nil _) ⟨hi,rfl⟩ ?_;rintro k c ⟨hk,he⟩;by_cases hlt:k<s.length
 ·have hd:=dtz hlt;have hg:=A0B hlt;have hw:=w64 (n:=(k:Int)+1);have hsep:A6l s[k]=true->∃ b,DV.int IntKind.i64 ((k:Int)+1)=I64 ((b:Nat):Int)/\Sym.Sub Sym.nil Sym.nil/\A8u (fun k _=>k<=s.length/\i+skM false (s.drop i)=k+skM false (s.drop k)) b c/\s.length-b<s.length-k :=
   fun h=>⟨k+1,rfl,Sub.refl _,inv ⟨by omega,by rw[he,C8t hg h];omega⟩,by omega⟩
  repeat' ((with_reducible first|refine wr ?_|refine A1 ?_ ?_|refine wb2 ?_ ?_<;>(intro hb;try simp only[hb])|fail)<;>try simp only[go_sem,seval,hd,hg,hw])
  ·have h35:=A6o (b:=35) hb;have h1:=C4k hg h35;have h2:=C8v hg h35;refine D4 (fun j:Nat=>[(0,.str s),(1,I64 ((k+j:Nat):Int))]) (fun _=>nil) (fun j _=>k+j<=s.length/\j<=E2 (fun c=>decide (c.toNat≠10)) (s.drop k)) (fun j=>s.length-(k+j)) 0 (by simp[C5,tm,Tm.upd]) (Sub.nil _) (by simp;omega) ?_;rintro j c ⟨hkj,hej⟩;have hend:E2 (fun c=>decide (c.toNat≠10)) (s.drop k)=j->∃ b,I64 ((k+j:Nat):Int)=I64 ((b:Nat):Int)/\Sym.Sub Sym.nil Sym.nil/\A8u (fun k _=>k<=s.length/\i+skM false (s.drop i)=k+skM false (s.drop k)) b c/\s.length-b<s.length-k:=by
    intro e;rw[e]at h1 h2;exact⟨k+j,rfl,Sub.refl _,inv ⟨hkj,by rw[he,h2];omega⟩,by omega⟩
   by_cases hlt2:k+j<s.length
   ·have hd2:decide (((k+j:Nat):Int)<s.length)=true:=by simp;omega
    have hg2:=A0B hlt2;have hw2:IntKind.i64.wrap (((k+j:Nat):Int)+1)=((k+(j+1):Nat):Int):=by rw[w6z (by omega)];omega
    have hst:=A7p hg2 hej;repeat' ((with_reducible first|refine wr ?_|refine A1 ?_ ?_|refine wb2 ?_ ?_<;>(intro hb;try simp only[hb])|fail)<;>try simp only[go_sem,seval,hd2,hg2,hw2])
    ·exact⟨j+1,rfl,Sub.refl _,inv ⟨hlt2,hst.1 (by simpa using C6v (b:=10) hb)⟩,by omega⟩
    ·exact hend (hst.2 (by simpa using D2g (b:=10) hb))
   ·have hd2:decide (((k+j:Nat):Int)<s.length)=false:=by simp;omega
    repeat' ((with_reducible first|refine wr ?_|refine A1 ?_ ?_|refine wb2 ?_ ?_<;>(intro hb;try simp only[hb])|fail)<;>try simp only[go_sem,seval,hd2])
    exact hend (A5g (by omega) hej)
  ·exact hsep (by simp[A6l,A6o (b:=9) hb])
  ·exact hsep (by simp[A6l,A6o (b:=10) hb])
  ·exact hsep (by simp[A6l,A6o (b:=13) hb])
  ·exact hsep (by simp[A6l,A6o (b:=32) hb])
  ·refine B3 ?_;have h9:=A3i (a:=s[k].toNat) (b:=9) (by assumption);have h10:=A3i (a:=s[k].toNat) (b:=10) (by assumption);have h13:=A3i (a:=s[k].toNat) (b:=13) (by assumption);have h32:=A3i (a:=s[k].toNat) (b:=32) (by assumption);have h35:=A3i (a:=s[k].toNat) (b:=35) (by assumption);rw[he,C4j hg (by simp[A6l,h9,h10,h13,h32]) h35];simp
 ·have hd:=dfz hlt;repeat' ((with_reducible first|refine wr ?_|refine A1 ?_ ?_|refine wb2 ?_ ?_<;>(intro hb;try simp only[hb])|fail)<;>try simp only[go_sem,seval,hd])
  refine B3 ?_;rw[he,C8u (by omega)];simp
theorem c_wordR(s:List UInt8)(hs:s.length<=1000000000)(i:Nat)(hi:i<s.length)(hl:ltB s[i]=true):PC Tryz.prog 72 [.str s,I64 i] (nxR (D2 (s.drop i)) i):=by
 have hM:D2 (s.drop i)=if 12<E2 ptB (s.drop i) then nxE 9 else ⟨if G3 ((s.drop i).take (E2 ptB (s.drop i)))=true then 2 else 1,(s.drop i).take (E2 ptB (s.drop i)),0,E2 ptB (s.drop i),0⟩:=by
  rw[N5 (A0B hi),D2,if_pos hl]
 rw[hM];have hle:=Y7 ptB (s.drop i);rw[A2A]at hle;refine PC.ofT B1 rfl (A0C rfl) rfl (B5a _ _) ?_;repeat' ((with_reducible first|refine wr ?_|refine A1 ?_ ?_|refine wb2 ?_ ?_<;>(intro hb;try simp only[hb])|fail)<;>try simp only[go_sem,seval])
 refine D4 (fun j:Nat=>[(0,.str s),(1,I64 i),(4,.ptr 0 0),(7,I64 ((i+j:Nat):Int))]) (fun _=>Sym.nil.upd 0 ⟨0,true,[I64 0,.str [],I64 0,I64 0]⟩) (fun j cc=>1<=cc/\i+j<=s.length/\j<=E2 ptB (s.drop i)) (fun j=>s.length-(i+j)) 0 (by simp[C5,tm,Tm.upd]) (Sub.refl _) (by simp;omega) ?_;rintro j c ⟨h1c,hk,he⟩;have hw2:IntKind.i64.wrap (((i+j:Nat):Int)-i)=(j:Int):=by rw[w6z (by omega)];omega
 have hsx:=B2f hk;have hiw:=c_IsWordR ((s.drop i).take j);have hR9:E2 ptB (s.drop i)=j->12<j->V1 9 i=nxR (if 12<E2 ptB (s.drop i) then nxE 9 else ⟨if G3 ((s.drop i).take (E2 ptB (s.drop i)))=true then 2 else 1,(s.drop i).take (E2 ptB (s.drop i)),0,E2 ptB (s.drop i),0⟩) i:=by
  intro e h;rw[e,if_pos h,A7e (by decide)]
 have hRw:E2 ptB (s.drop i)=j->¬ 12<j->G3 ((s.drop i).take j)=true->okN 2 ((s.drop i).take j) 0 i j=nxR (if 12<E2 ptB (s.drop i) then nxE 9 else ⟨if G3 ((s.drop i).take (E2 ptB (s.drop i)))=true then 2 else 1,(s.drop i).take (E2 ptB (s.drop i)),0,E2 ptB (s.drop i),0⟩) i:=by
  intro e h h2;rw[e,if_neg h,A7v,if_pos h2]
 have hRn:E2 ptB (s.drop i)=j->¬ 12<j->G3 ((s.drop i).take j)=false->okN 1 ((s.drop i).take j) 0 i j=nxR (if 12<E2 ptB (s.drop i) then nxE 9 else ⟨if G3 ((s.drop i).take (E2 ptB (s.drop i)))=true then 2 else 1,(s.drop i).take (E2 ptB (s.drop i)),0,E2 ptB (s.drop i),0⟩) i:=by
  intro e h h2;rw[e,if_neg h,A7v,if_neg (by rw[h2];simp)]
 by_cases hlt:i+j<s.length
 ·have hd:decide (((i+j:Nat):Int)<s.length)=true:=by simp;omega
  have hg:=A0B hlt;have hw:IntKind.i64.wrap (((i+j:Nat):Int)+1)=((i+(j+1):Nat):Int):=by rw[w6z (by omega)];omega
  have h1:=c_letterR s[i+j];have h2:=c_digitR s[i+j];have hst:=A7p hg he;have hlp:ptB s[i+j]=true->∃ b,DV.int IntKind.i64 ((i+(j+1):Nat):Int)=I64 ((i+b:Nat):Int)/\Sym.Sub (Sym.nil.upd 0 ⟨0,true,[I64 0,.str [],I64 0,I64 0]⟩) (Sym.nil.upd 0 ⟨0,true,[I64 0,.str [],I64 0,I64 0]⟩) /\
    A8u (fun j cc=>1<=cc/\i+j<=s.length/\j<=E2 ptB (s.drop i)) b c/\s.length-(i+b)<s.length-(i+j) :=
   fun h=>⟨j+1,rfl,Sub.refl _,inv ⟨h1c,hlt,hst.1 h⟩,by omega⟩
  have ne0:=A4n c 0 (by omega);repeat' ((with_reducible first|refine wr ?_|refine cpc h1 ?_|refine cpc h2 ?_|refine cpc hiw ?_|refine A1 ?_ ?_|refine wb2 ?_ ?_<;>(intro hb;try simp only[hb])|fail)<;>try simp only[go_sem,seval,hd,hg,hw,hw2,hsx,ne0])
  ·exact hlp (by simp[ptB,hb])
  ·exact hlp (by simp[ptB,hb])
  ·exact hlp (by simp[ptB,A6o (b:=95) hb])
  ·have hj:=hst.2 (by simp only[ptB];rw[‹ltB s[i+j]=false›, ‹dgB s[i+j]=false›];simpa using A3i (a:=s[i+j].toNat) (b:=95) (by assumption));rw[E6 (v:=V1 9 i) rfl];exact B3 (hR9 hj (B9c hb))
  ·have hj:=hst.2 (by simp only[ptB];rw[‹ltB s[i+j]=false›, ‹dgB s[i+j]=false›];simpa using A3i (a:=s[i+j].toNat) (b:=95) (by assumption));rw[E6 (v:=okN 2 ((s.drop i).take j) 0 i j) rfl];exact B3 (hRw hj (A9b (a:=j) (b:=12) (by assumption)) hb)
  ·have hj:=hst.2 (by simp only[ptB];rw[‹ltB s[i+j]=false›, ‹dgB s[i+j]=false›];simpa using A3i (a:=s[i+j].toNat) (b:=95) (by assumption));rw[E6 (v:=okN 1 ((s.drop i).take j) 0 i j) rfl];exact B3 (hRn hj (A9b (a:=j) (b:=12) (by assumption)) hb)
 ·have hd:decide (((i+j:Nat):Int)<s.length)=false:=by simp;omega
  have hj:=A5g (p:=ptB) (s:=s) (by omega) he;have ne0:=A4n c 0 (by omega);repeat' ((with_reducible first|refine wr ?_|refine cpc hiw ?_|refine A1 ?_ ?_|refine wb2 ?_ ?_<;>(intro hb;try simp only[hb])|fail)<;>try simp only[go_sem,seval,hd,hw2,hsx,ne0])
  ·rw[E6 (v:=V1 9 i) rfl];exact B3 (hR9 hj (B9c hb))
  ·rw[E6 (v:=okN 2 ((s.drop i).take j) 0 i j) rfl];exact B3 (hRw hj (A9b (a:=j) (b:=12) (by assumption)) hb)
  ·rw[E6 (v:=okN 1 ((s.drop i).take j) 0 i j) rfl];exact B3 (hRn hj (A9b (a:=j) (b:=12) (by assumption)) hb)
theorem c_numberR(s:List UInt8)(hs:s.length<=1000000000)(i:Nat)(hi:i<s.length)(hl:ltB s[i]=false)(hg0:dgB s[i]=true):PC Tryz.prog 74 [.str s,I64 i] (nxR (D2 (s.drop i)) i):=by
 have hM:D2 (s.drop i)=if 1<E2 dgB (s.drop i)/\s[i].toNat=48 then nxE 47
   else if 2147483647<S9 ((s.drop i).take (E2 dgB (s.drop i))) then nxE 5
   else ⟨3,[],(S9 ((s.drop i).take (E2 dgB (s.drop i))):Int),E2 dgB (s.drop i),0⟩:=by
  have hdr:=N5 (A0B hi);have:∀ r,s.drop i=s[i] :: r->D2 (s.drop i)=if 1<E2 dgB (s.drop i)/\s[i].toNat=48 then nxE 47
   else if 2147483647<S9 ((s.drop i).take (E2 dgB (s.drop i))) then nxE 5
   else ⟨3,[],(S9 ((s.drop i).take (E2 dgB (s.drop i))):Int),E2 dgB (s.drop i),0⟩:=by
   intro r e;rw[e,D2,if_neg (by rw[hl];simp),if_pos hg0]
  exact this _ hdr
 have hle:=Y7 dgB (s.drop i);rw[A2A]at hle;obtain⟨D,hD⟩:∃ D,D=s.drop i:=⟨_,rfl⟩;refine PC.ofT B1 rfl (A0C rfl) rfl (B5a _ _) ?_;repeat' ((with_reducible first|refine wr ?_|refine A1 ?_ ?_|refine wb2 ?_ ?_<;>(intro hb;try simp only[hb])|fail)<;>try simp only[go_sem,seval])
 refine D4 (fun j:Nat=>[(0,.str s),(1,I64 i),(4,.ptr 0 0),(7,I64 ((i+j:Nat):Int)),(8,I64 (smV (D.take j))),(9,.bool (B1q (D.take j)))]) (fun _=>Sym.nil.upd 0 ⟨0,true,[I64 0,.str [],I64 0,I64 0]⟩) (fun j _=>i+j<=s.length/\j<=E2 dgB (s.drop i)) (fun j=>s.length-(i+j)) 0 (by simp[C5,tm,Tm.upd,smV,B1q,S9]) (Sub.refl _) (by simp;omega) ?_;rintro j c ⟨hk,he⟩;have hw2:IntKind.i64.wrap (((i+j:Nat):Int)-i)=(j:Int):=by rw[w6z (by omega)];omega
 have hgi:=A0B hi;have hRz:E2 dgB (s.drop i)=j->1<j->s[i].toNat=48->V1 47 i=nxR (D2 (s.drop i)) i:=by
  intro e h h2;rw[hM,e,if_pos ⟨h,h2⟩,A7e (by decide)]
 have hRb:E2 dgB (s.drop i)=j->¬ (1<j/\s[i].toNat=48)->B1q (D.take j)=true->V1 5 i=nxR (D2 (s.drop i)) i:=by
  intro e h h2;rw[hM,e,if_neg h, <- hD,if_pos (of_decide_eq_true h2),A7e (by decide)]
 have hRk:E2 dgB (s.drop i)=j->¬ (1<j/\s[i].toNat=48)->B1q (D.take j)=false->okN 3 [] (smV (D.take j)) i j=nxR (D2 (s.drop i)) i:=by
  intro e h h2;have h3:=of_decide_eq_false h2;rw[hM,e,if_neg h, <- hD,if_neg h3,A7v,C0p h3]
 by_cases hlt:i+j<s.length
 ·have hd:decide (((i+j:Nat):Int)<s.length)=true:=by simp;omega
  have hg:=A0B hlt;have hw:IntKind.i64.wrap (((i+j:Nat):Int)+1)=((i+(j+1):Nat):Int):=by rw[w6z (by omega)];omega
  have h2:=c_digitR s[i+j];have hst:=A7p hg he;by_cases hdg:dgB s[i+j]=true
  ·rw[hdg]at h2;have hgD:D[j]? = some s[i+j]:=by rw[hD,A2M];exact hg
   have hn:=B8s hgD;have hdd:48<=s[i+j].toNat/\s[i+j].toNat<=57:=by simpa[dgB] using hdg
   obtain⟨z,hz⟩:∃ z:Nat,z=s[i+j].toNat-48:=⟨_,rfl⟩;rw[<- hz]at hn;have w1:IntKind.i64.wrap (10 * (smV (D.take j):Int))=((10 * smV (D.take j):Nat):Int):=by have:=C0o (D.take j);rw[w6z (by omega)];omega
   have w2:IntKind.u8.wrap ((s[i+j].toNat:Int)-48)=(z:Int):=by rw[wu8 (by omega) (by omega)];omega
   have w3:IntKind.i64.wrap (z:Int)=(z:Int):=w6z (by omega);have w4:IntKind.i64.wrap (((10 * smV (D.take j):Nat):Int)+z)=((10 * smV (D.take j)+z:Nat):Int):=by have:=C0o (D.take j);rw[w6z (by omega)];omega
   by_cases hbg:2147483647<S9 (D.take j)
   ·have hb1:B1q (D.take j)=true:=decide_eq_true hbg;have e1:B1q (D.take (j+1))=true:=decide_eq_true (by omega);have e2:smV (D.take (j+1))=0:=C7c (by omega);rw[hb1];repeat' ((with_reducible first|refine wr ?_|refine cpc h2 ?_|refine A1 ?_ ?_|refine wb2 ?_ ?_<;>(intro hb;try simp only[hb])|fail)<;>try simp only[go_sem,seval,hd,hg,hw,w1,w2,w3,w4])
    exact⟨j+1,⟨rfl,by rw[e2];rfl,by rw[e1]⟩,Sub.refl _,inv ⟨hlt,hst.1 hdg⟩,by omega⟩
   ·have hb1:B1q (D.take j)=false:=decide_eq_false hbg;have hs1:=C0p hbg;rw[hb1];by_cases hbn:2147483647<S9 (D.take (j+1))
    ·have e1:B1q (D.take (j+1))=true:=decide_eq_true hbn;have e2:smV (D.take (j+1))=0:=C7c hbn;have hd5:decide (((10 * smV (D.take j)+z:Nat):Int)>2147483647)=true:=by simp only[A0F];omega
     repeat' ((with_reducible first|refine wr ?_|refine cpc h2 ?_|refine A1 ?_ ?_|refine wb2 ?_ ?_<;>(intro hb;try simp only[hb])|fail)<;>try simp only[go_sem,seval,hd,hg,hw,w1,w2,w3,w4,hd5])
     exact⟨j+1,⟨rfl,by rw[e2];rfl,by rw[e1]⟩,Sub.refl _,inv ⟨hlt,hst.1 hdg⟩,by omega⟩
    ·have e1:B1q (D.take (j+1))=false:=decide_eq_false hbn;have e2:smV (D.take (j+1))=10 * smV (D.take j)+z:=by rw[C0p hbn,hn,hs1]
     have hd5:decide (((10 * smV (D.take j)+z:Nat):Int)>2147483647)=false:=by simp only[A1U];omega
     repeat' ((with_reducible first|refine wr ?_|refine cpc h2 ?_|refine A1 ?_ ?_|refine wb2 ?_ ?_<;>(intro hb;try simp only[hb])|fail)<;>try simp only[go_sem,seval,hd,hg,hw,w1,w2,w3,w4,hd5])
     exact⟨j+1,⟨rfl,by rw[e2],by rw[e1]⟩,Sub.refl _,inv ⟨hlt,hst.1 hdg⟩,by omega⟩
  ·have hdg0:dgB s[i+j]=false:=by simpa using hdg
   rw[hdg0]at h2;have hj:=hst.2 hdg0;repeat' ((with_reducible first|refine wr ?_|refine cpc h2 ?_|refine A1 ?_ ?_|refine wb2 ?_ ?_<;>(intro hb;try simp only[hb])|fail)<;>try simp only[go_sem,seval,hd,hg,hw2,hgi])
   ·rw[E6 (v:=V1 47 i) rfl];exact B3 (hRz hj (B9c hb) (A6o (b:=48) (by assumption)))
   ·rw[E6 (v:=V1 5 i) rfl];exact B3 (hRb hj (fun h=>A9b (a:=j) (b:=1) (by assumption) h.1) hb)
   ·rw[E6 (v:=okN 3 [] (smV (D.take j)) i j) rfl];exact B3 (hRk hj (fun h=>A9b (a:=j) (b:=1) (by assumption) h.1) hb)
   ·rw[E6 (v:=V1 5 i) rfl];exact B3 (hRb hj (fun h=>A3i (b:=48) (by assumption) h.2) hb)
   ·rw[E6 (v:=okN 3 [] (smV (D.take j)) i j) rfl];exact B3 (hRk hj (fun h=>A3i (b:=48) (by assumption) h.2) hb)
 ·have hd:decide (((i+j:Nat):Int)<s.length)=false:=by simp;omega
  have hj:=A5g (p:=dgB) (s:=s) (by omega) he;repeat' ((with_reducible first|refine wr ?_|refine A1 ?_ ?_|refine wb2 ?_ ?_<;>(intro hb;try simp only[hb])|fail)<;>try simp only[go_sem,seval,hd,hw2,hgi])
  ·rw[E6 (v:=V1 47 i) rfl];exact B3 (hRz hj (B9c hb) (A6o (b:=48) (by assumption)))
  ·rw[E6 (v:=V1 5 i) rfl];exact B3 (hRb hj (fun h=>A9b (a:=j) (b:=1) (by assumption) h.1) hb)
  ·rw[E6 (v:=okN 3 [] (smV (D.take j)) i j) rfl];exact B3 (hRk hj (fun h=>A9b (a:=j) (b:=1) (by assumption) h.1) hb)
  ·rw[E6 (v:=V1 5 i) rfl];exact B3 (hRb hj (fun h=>A3i (b:=48) (by assumption) h.2) hb)
  ·rw[E6 (v:=okN 3 [] (smV (D.take j)) i j) rfl];exact B3 (hRk hj (fun h=>A3i (b:=48) (by assumption) h.2) hb)
theorem c_quotedR(s:List UInt8)(hs:s.length<=100000)(i:Nat)(hi:i<s.length):PC Tryz.prog 75 [.str s,I64 i] (quR i (quA [] (i+1) (quM (s.drop (i+1))))):=by
 refine PC.ofT B1 rfl (A0C rfl) rfl (C9x _ _) ?_;have hw0:IntKind.i64.wrap ((i:Int)+1)=((i+1:Nat):Int):=by rw[w6z (by omega)];omega
 repeat' ((with_reducible first|refine wr ?_|refine A1 ?_ ?_|refine wb2 ?_ ?_<;>(intro hb;try simp only[hb])|fail)<;>try simp only[go_sem,seval,hw0])
 refine D4 (fun q:Nat × Option Nat × List UInt8=>[(0,.str s),(1,I64 i),(4,.ptr 0 0),(7,A8 q.2.1 q.2.2.length),(8,I64 q.1)]) (fun q=>B9 (Sym.nil.upd 0 C3m) q.2.1 ⟨1,true,bytesC q.2.2⟩)
  (fun q c=>1<=c/\i+1<=q.1/\q.2.2.length<=q.1/\q.1<=s.length+1/\(q.2.1=none->q.2.2=[])/\(∀ i,q.2.1=some i->1<=i/\i<c)/\quA [] (i+1) (quM (s.drop (i+1)))=quA q.2.2 q.1 (quM (s.drop q.1))) (fun q=>s.length+1-q.1) (i+1,none,[])
  (by simp[C5,tm,Tm.upd,A8]) (Sub.refl _) ⟨by simp,by simp,by simp,by simp only;omega,fun _=>rfl,(fun i hi=>by cases hi),rfl⟩ ?_
 rintro⟨k,o,acc⟩ c ⟨h1c,h1,hal,hk,hno,ho,he⟩;simp only at h1 hal hk hno ho he;simp only;rw[he];have hH0:B9 (Sym.nil.upd 0 C3m) o ⟨1,true,bytesC acc⟩ 0=some ⟨0,true,[I64 0,.str [],I64 0,I64 0]⟩:=by rw[B6 (fun i hi=>by have:=ho i hi;omega),A0];rfl
 have hlt0:=B8n (o:=o) (n:=acc.length) (fun e=>by rw[hno e];rfl);by_cases hlt:k<s.length
 ·have hd:=dtz hlt;have hg:=A0B hlt;have hw:IntKind.i64.wrap ((k:Int)+1)=((k+1:Nat):Int):=by rw[w6z (by omega)];omega
  have hw2:IntKind.i64.wrap (((k+1:Nat):Int)+1)=((k+2:Nat):Int):=by rw[w6z (by omega)];omega
  have hcv:=C1f (H:=B9 (Sym.nil.upd 0 C3m) o ⟨1,true,bytesC acc⟩) (u:=1) hno (fun i hi=>by subst hi;exact A0);have hc0:∀ n:Nat,((s[k].toNat:Int) == (n:Int))=true->s[k].toNat=n:=fun n h=>by have:=A1I.1 h;omega
  have hc1:∀ n:Nat,((s[k].toNat:Int) == (n:Int))=false->s[k].toNat≠n:=fun n h h2=>by rw[h2]at h;simp at h
  by_cases hlt2:k+1<s.length
  ·have hd2:decide (((k+1:Nat):Int)≥s.length)=false:=by simp;omega
   have hg2:=A0B hlt2;have hc2:∀ n:Nat,((s[k+1].toNat:Int) == (n:Int))=true->s[k+1].toNat=n:=fun n h=>by have:=A1I.1 h;omega
   have hc3:∀ n:Nat,((s[k+1].toNat:Int) == (n:Int))=false->s[k+1].toNat≠n:=fun n h h2=>by rw[h2]at h;simp at h
   have ne0:=L8 c (c+1) 0 (by omega);have hap:=B2o (X:=Sym.nil.upd 0 C3m) hno (fun i hi=>(ho i hi).2) (by omega);repeat' ((with_reducible first|refine wr ?_|refine A1 ?_ ?_|refine wb2 ?_ ?_<;>(intro hb;try simp only[hb])|fail)<;>try simp only[go_sem,seval,hd,hg,hw,hcv,hlt0,hd2,hg2,hw2,ne0,hap,hH0])
   ·rw[E6 (v:=V1 9 i) rfl];refine B3 ?_;rw[A4k hg (hc0 34 (by assumption)),quR,if_pos (B9c hb)]
   ·rw[E6 (v:=.tup [.agg [I64 4,.str acc,I64 0,I64 i],I64 ((k+1:Nat):Int),I64 0]) rfl];refine B3 ?_;rw[A4k hg (hc0 34 (by assumption)),quR,if_neg (A9b hb)]
   ·rw[E6 (v:=V1 48 i) rfl];refine B3 ?_;rw[B0v hg (hc1 34 (by assumption)) (.inl (by have:=of_decide_eq_true hb;omega))];rfl
   ·rw[E6 (v:=V1 48 i) rfl];refine B3 ?_;rw[B0v hg (hc1 34 (by assumption)) (.inr (by have:=of_decide_eq_true hb;omega))];rfl
   ·rw[E6 (v:=V1 48 i) rfl];refine B3 ?_;rw[B6y hg (hc0 92 (by assumption)) (fun d hd=>by
     rw[hg2]at hd;cases hd;exact⟨C6v (b:=34) (by assumption),C6v (b:=92) hb⟩)];rfl
   ·have hq:=C1i (acc:=acc) hg (hc0 92 (by assumption)) hg2 (.inr (D2g (b:=92) hb));exact⟨(k+2,some (c+1),acc++[s[k+1]]),⟨by simp only[A0A,A0G];rfl,rfl⟩,A7a (fun j q=>A6w h1c) (fun i hi=>A6v (by have:=ho i hi;omega)) rfl,inv ⟨by omega,by simp only;omega,by simp;omega,by simp only;omega,(fun h=>by cases h),(fun i hi=>by cases hi;omega),hq⟩,by simp only;omega⟩
   ·have hq:=C1i (acc:=acc) hg (hc0 92 (by assumption)) hg2 (.inl (D2g (b:=34) hb));exact⟨(k+2,some (c+1),acc++[s[k+1]]),⟨by simp only[A0A,A0G];rfl,rfl⟩,A7a (fun j q=>A6w h1c) (fun i hi=>A6v (by have:=ho i hi;omega)) rfl,inv ⟨by omega,by simp only;omega,by simp;omega,by simp only;omega,(fun h=>by cases h),(fun i hi=>by cases hi;omega),hq⟩,by simp only;omega⟩
   ·have hq:=B6z (acc:=acc) hg (hc1 34 (by assumption)) (by have:=of_decide_eq_false (by assumption:decide (((s[k].toNat:Int))<32)=false);omega) (by have:=of_decide_eq_false (by assumption:decide (((s[k].toNat:Int))>126)=false);omega) (hc1 92 (by assumption));exact⟨(k+1,some (c+1),acc++[s[k]]),⟨by simp only[A0A,A0G];rfl,rfl⟩,A7a (fun j q=>A6w h1c) (fun i hi=>A6v (by have:=ho i hi;omega)) rfl,inv ⟨by omega,by simp only;omega,by simp;omega,by simp only;omega,(fun h=>by cases h),(fun i hi=>by cases hi;omega),hq⟩,by simp only;omega⟩
  ·have hd2:decide (((k+1:Nat):Int)≥s.length)=true:=by simp;omega
   have ne0:=L8 c (c+1) 0 (by omega);have hap:=B2o (X:=Sym.nil.upd 0 C3m) hno (fun i hi=>(ho i hi).2) (by omega);repeat' ((with_reducible first|refine wr ?_|refine A1 ?_ ?_|refine wb2 ?_ ?_<;>(intro hb;try simp only[hb])|fail)<;>try simp only[go_sem,seval,hd,hg,hw,hcv,hlt0,hd2,ne0,hap,hH0])
   ·rw[E6 (v:=V1 9 i) rfl];refine B3 ?_;rw[A4k hg (hc0 34 (by assumption)),quR,if_pos (B9c hb)]
   ·rw[E6 (v:=.tup [.agg [I64 4,.str acc,I64 0,I64 i],I64 ((k+1:Nat):Int),I64 0]) rfl];refine B3 ?_;rw[A4k hg (hc0 34 (by assumption)),quR,if_neg (A9b hb)]
   ·rw[E6 (v:=V1 48 i) rfl];refine B3 ?_;rw[B0v hg (hc1 34 (by assumption)) (.inl (by have:=of_decide_eq_true hb;omega))];rfl
   ·rw[E6 (v:=V1 48 i) rfl];refine B3 ?_;rw[B0v hg (hc1 34 (by assumption)) (.inr (by have:=of_decide_eq_true hb;omega))];rfl
   ·rw[E6 (v:=V1 48 i) rfl];refine B3 ?_;rw[B6y hg (hc0 92 (by assumption)) (fun d hd=>by rw[A1T (by omega)]at hd;cases hd)];rfl
   ·have hq:=B6z (acc:=acc) hg (hc1 34 (by assumption)) (by have:=of_decide_eq_false (by assumption:decide (((s[k].toNat:Int))<32)=false);omega) (by have:=of_decide_eq_false (by assumption:decide (((s[k].toNat:Int))>126)=false);omega) (hc1 92 (by assumption));exact⟨(k+1,some (c+1),acc++[s[k]]),⟨by simp only[A0A,A0G];rfl,rfl⟩,A7a (fun j q=>A6w h1c) (fun i hi=>A6v (by have:=ho i hi;omega)) rfl,inv ⟨by omega,by simp only;omega,by simp;omega,by simp only;omega,(fun h=>by cases h),(fun i hi=>by cases hi;omega),hq⟩,by simp only;omega⟩
 ·have hd:=dfz hlt;have ne0:=A4n c 0 (by omega);repeat' ((with_reducible first|refine wr ?_|refine A1 ?_ ?_|refine wb2 ?_ ?_<;>(intro hb;try simp only[hb])|fail)<;>try simp only[go_sem,seval,hd,ne0,hH0])
  rw[E6 (v:=V1 48 i) rfl];refine B3 ?_;rw[C9w (by omega)];rfl
theorem c_oneR(s:List UInt8)(hs:s.length<=100000)(i:Nat)(hi:i<s.length):PC Tryz.prog 37 [.str s,I64 i] (nxR (D2 (s.drop i)) i):=by
 refine PC.ofT B1 rfl (A0C rfl) rfl (B5a _ _) ?_;have hg:=A0B hi;have hlt:=c_letterR s[i];have hdg:=c_digitR s[i];obtain⟨k,t,v,p,n,e,hsh⟩:=B8r (D2 (s.drop i)) i;by_cases hl:ltB s[i]=true
 ·have hw:=c_wordR s (by omega) i hi hl;rw[hsh]at hw ⊢;repeat' ((with_reducible first|refine wr ?_|refine cpc hlt ?_|refine cpc hw ?_|refine A1 ?_ ?_|refine wb2 ?_ ?_<;>(intro hb;try simp only[hb])|fail)<;>try simp only[go_sem,seval,hl,hg])
  rw[E6 (v:=.tup [.agg [I64 k,.str t,I64 v,I64 p],I64 n,I64 e]) rfl];exact B3 rfl
 have hl0:ltB s[i]=false:=by simpa using hl
 by_cases hd:dgB s[i]=true
 ·have hw:=c_numberR s (by omega) i hi hl0 hd;rw[hsh]at hw ⊢;repeat' ((with_reducible first|refine wr ?_|refine cpc hlt ?_|refine cpc hdg ?_|refine cpc hw ?_|refine A1 ?_ ?_|refine wb2 ?_ ?_<;>(intro hb;try simp only[hb])|fail)<;>try simp only[go_sem,seval,hl0,hd,hg])
  rw[E6 (v:=.tup [.agg [I64 k,.str t,I64 v,I64 p],I64 n,I64 e]) rfl];exact B3 rfl
 have hd0:dgB s[i]=false:=by simpa using hd
 by_cases hq:s[i].toNat=34
 ·have hw:=c_quotedR s hs i hi;rw[C1j hg hl0 hd0 hq,hsh]at hw;rw[hsh];have hb34:((s[i].toNat:Int) == 34)=true:=by rw[hq];rfl
  repeat' ((with_reducible first|refine wr ?_|refine cpc hlt ?_|refine cpc hdg ?_|refine cpc hw ?_|refine A1 ?_ ?_|refine wb2 ?_ ?_<;>(intro hb;try simp only[hb])|fail)<;>try simp only[go_sem,seval,hl0,hd0,hg,hb34])
  rw[E6 (v:=.tup [.agg [I64 k,.str t,I64 v,I64 p],I64 n,I64 e]) rfl];exact B3 rfl
 clear hsh;have hb34:((s[i].toNat:Int) == 34)=false:=by simpa using (fun h=>hq (by omega))
 have hM:D2 (s.drop i)=if P8 (s.drop i)=0 then nxE 47 else ⟨5,(s.drop i).take (P8 (s.drop i)),0,P8 (s.drop i),0⟩:=by
  have hdr:=N5 hg;have:∀ r,s.drop i=s[i] :: r->D2 (s.drop i)=if P8 (s.drop i)=0 then nxE 47 else ⟨5,(s.drop i).take (P8 (s.drop i)),0,P8 (s.drop i),0⟩:=by
   intro r e;rw[e,D2,if_neg hl,if_neg hd,if_neg hq]
  exact this _ hdr
 rw[hM];have hsg:=c_signsR;repeat' ((with_reducible first|refine wr ?_|refine cpc hlt ?_|refine cpc hdg ?_|refine cpc hsg ?_|refine A1 ?_ ?_|refine wb2 ?_ ?_<;>(intro hb;try simp only[hb])|fail)<;>try simp only[go_sem,seval,hl0,hd0,hg,hb34])
 have hlen:Q8.length=21:=rfl;refine D4 (fun k:Nat=>[(0,.str s),(1,I64 i),(4,.ptr 0 0),(8,.lst (Q8.map DV.str)),(9,I64 k)]) (fun _=>Sym.nil.upd 0 ⟨0,true,[I64 0,.str [],I64 0,I64 0]⟩) (fun k _=>k<=Q8.length/\∀ j,j<k->A5m (Q8.getD j []) (s.drop i)=false) (fun k=>Q8.length-k) 0 (by simp[C5,tm,Tm.upd]) (Sub.refl _) (by simp) ?_;rintro k c ⟨hk,he⟩;by_cases hkl:k<Q8.length
 ·have hd:decide ((k:Int)<Q8.length)=true:=by simpa using hkl
  have hgk:=A0B hkl;have hget:Q8.getD k []=Q8[k]:=by rw[A0Y,hgk];rfl
  have hw:IntKind.i64.wrap ((k:Int)+1)=((k+1:Nat):Int):=by rw[w6z (by omega)];omega
  obtain⟨L,hL⟩:∃ L,L=Q8[k]:=⟨_,rfl⟩;rw[<- hL]at hgk hget;have hLl:1<=L.length/\L.length<=2:=by
   have:∀ x∈Q8,1<=x.length/\x.length<=2:=by decide
   rw[hL];exact this _ (A0V hkl)
  have hw1:IntKind.i64.wrap ((s.length:Int)-i)=((s.length-i:Nat):Int):=by rw[w6z (by omega)];omega
  have hw2:IntKind.i64.wrap ((i:Int)+L.length)=((i+L.length:Nat):Int):=by rw[w6z (by omega)];omega
  have hnext:A5m L (s.drop i)=false->A8u (fun k _=>k<=Q8.length/\∀ j,j<k->A5m (Q8.getD j []) (s.drop i)=false) (k+1) c:=fun h=>inv ⟨hkl,fun j hj=>by
   by_cases e:j=k
   ·rw[e,hget];exact h
   ·exact he j (by omega)⟩
  by_cases hln:L.length<=s.length-i
  ·have hd2:decide (((s.length-i:Nat):Int)≥L.length)=true:=by simp only[A0F];omega
   have hsx:=B2f (s:=s) (i:=i) (n:=L.length) (by omega);have hpr:A5m L (s.drop i)=((s.drop i).take L.length == L):=by
    unfold A5m;rw[decide_eq_true (by rw[A2A];exact hln),A2B]
   repeat' ((with_reducible first|refine wr ?_|refine A1 ?_ ?_|refine wb2 ?_ ?_<;>(intro hb;try simp only[hb])|fail)<;>try simp only[go_sem,seval,hd,hgk,hw,hw1,hw2,hd2,hsx])
   ·have hp:=hpr.trans hb;have:=B8j (s:=s.drop i) (k:=k) (by omega) he (by rw[hget];exact hp);rw[hget]at this;rw[E6 (v:=okN 5 L 0 i L.length) rfl];refine B3 ?_;rw[this.1,if_neg (by omega),A7v, <- this.2]
   ·exact⟨k+1,rfl,Sub.refl _,hnext (hpr.trans hb),by omega⟩
  ·have hd2:decide (((s.length-i:Nat):Int)≥L.length)=false:=by simp only[A1U];omega
   repeat' ((with_reducible first|refine wr ?_|refine A1 ?_ ?_|refine wb2 ?_ ?_<;>(intro hb;try simp only[hb])|fail)<;>try simp only[go_sem,seval,hd,hgk,hw,hw1,hd2])
   exact⟨k+1,rfl,Sub.refl _,hnext (by unfold A5m;rw[decide_eq_false (by rw[A2A];exact hln),A4E]),by omega⟩
 ·have hd:decide ((k:Int)<Q8.length)=false:=by simpa using hkl
  repeat' ((with_reducible first|refine wr ?_|refine A1 ?_ ?_|refine wb2 ?_ ?_<;>(intro hb;try simp only[hb])|fail)<;>try simp only[go_sem,seval,hd])
  rw[E6 (v:=V1 47 i) rfl];refine B3 ?_;rw[if_pos (C0s fun j hj=>he j (by omega)),A7e (by decide)]
theorem c_ScanR(s:List UInt8)(hs:s.length<=1000000000):PC Tryz.prog 12 [.str s] (C0w (G5 s)):=by
 refine PC.ofT B1 rfl (A0C rfl) rfl (C0v _) ?_;have hsk:=c_skipR s hs 0 (by omega);rw[A3T,A1M]at hsk;by_cases h20:20000<s.length
 ·have hd0:decide ((s.length:Int)>20000)=true:=by simp;omega
  have hM:G5 s=([],0,9):=if_pos h20;rw[hM];repeat' ((with_reducible first|refine wr ?_|refine A1 ?_ ?_|refine wb2 ?_ ?_<;>(intro hb;try simp only[hb])|fail)<;>try simp only[go_sem,seval,hd0])
  exact B2i
 have hd0:decide ((s.length:Int)>20000)=false:=by simp;omega
 have hM:G5 s=Q9 (s.length+1) s (skM false s) []:=if_neg h20;rw[hM];have hle0:=A0w false s;repeat' ((with_reducible first|refine wr ?_|refine cpc hsk ?_|refine A1 ?_ ?_|refine wb2 ?_ ?_<;>(intro hb;try simp only[hb])|fail)<;>try simp only[go_sem,seval,hd0])
 refine D4 (fun q:Nat × Nat × Option Nat × List Tok=>[(0,.str s),(5,A8 q.2.2.1 q.2.2.2.length),(6,I64 q.2.1)]) (fun q=>B9 Sym.nil q.2.2.1 ⟨4,true,A3 (q.2.2.2.map Tok.v)⟩)
  (fun q c=>q.2.1<=s.length/\s.length<q.1+q.2.1/\q.2.2.2.length<=q.2.1/\(q.2.2.1=none->q.2.2.2=[])/\(∀ i,q.2.2.1=some i->i<c)/\Q9 (s.length+1) s (skM false s) []=Q9 q.1 s q.2.1 q.2.2.2) (fun q=>q.1) (s.length+1,skM false s,none,[])
  (by simp[C5,tm,Tm.upd,A8]) (Sub.nil _) ⟨by simp only;omega,by simp only;omega,by simp,fun _=>rfl,(fun i hi=>by cases hi),rfl⟩ ?_
 rintro⟨f,at_,o,acc⟩ c ⟨h1,hf,hal,hno,ho,he⟩;simp only at h1 hf hal hno ho he;simp only;rw[he];by_cases hlt:at_<s.length
 ·have hd:=dtz hlt;have hnx:=c_oneR s (by omega) at_ hlt;obtain⟨f,rfl⟩:∃ g,f=g+1:=⟨f-1,by omega⟩;by_cases hz:(D2 (s.drop at_)).err=0
  ·have hn:=B1c hz;rw[A2A]at hn;have hst:Q9 (f+1) s at_ acc=Q9 f s (at_+(D2 (s.drop at_)).n+skM false (s.drop (at_+(D2 (s.drop at_)).n))) (acc++[⟨(D2 (s.drop at_)).kind,(D2 (s.drop at_)).text,(D2 (s.drop at_)).value,(at_:Int)⟩]):=by
    rw[Q9,if_neg (by omega),if_neg (by simpa using hz)]
   rw[hst];obtain⟨x,hx⟩:∃ x,x=D2 (s.drop at_):=⟨_,rfl⟩;rw[<- hx]at hnx hz hn ⊢;rw[nxR,if_pos hz,okN]at hnx;have hsk2:=c_skipR s hs (at_+x.n) (by omega);have hkl:=A0w false (s.drop (at_+x.n));rw[A2A]at hkl;obtain⟨z,hzz⟩:∃ z,z=skM false (s.drop (at_+x.n)):=⟨_,rfl⟩;rw[<- hzz]at hsk2 hkl ⊢;have ne0:=L8 c (c+1) (c+2) (by omega);repeat' ((with_reducible first|refine wr ?_|refine cpc hnx ?_|refine cpc hsk2 ?_|refine A1 ?_ ?_|refine wb2 ?_ ?_<;>(intro hb;try simp only[hb])|fail)<;>try simp only[go_sem,seval,hd,ne0])
   refine C6 (E0 (cs:=A3 (acc.map Tok.v)) (fun e=>by rw[hno e];exact⟨rfl,rfl⟩) (fun i hi=>?_) (by rw[C0 (u:=4) (E4 _)];simp) (by omega) (by omega) (by omega)) ?_
   ·have:=ho i hi;rw[hnO,hnO,hnO];exact A0c hi
   simp only[go_sem,seval,ne0];repeat' ((with_reducible first|refine wr ?_|refine cpc hnx ?_|refine cpc hsk2 ?_|refine A1 ?_ ?_|refine wb2 ?_ ?_<;>(intro hb;try simp only[hb])|fail)<;>try simp only[go_sem,seval,hd,ne0])
   exact⟨(f,at_+x.n+z,some (c+1+1),acc++[⟨x.kind,x.text,x.value,(at_:Int)⟩]),⟨by simp only[A0A,A0G];rfl,rfl⟩,
    K6 (by simp only[A0S,C1];rfl),inv ⟨by simp only;omega,by simp only;omega,by simp only[A0A,A0G];omega,(fun h=>by cases h),(fun i hi=>by cases hi;omega),rfl⟩,by simp only;omega⟩
  ·have hst:Q9 (f+1) s at_ acc=([],(at_:Int),(D2 (s.drop at_)).err):=by
    rw[Q9,if_neg (by omega),if_pos hz]
   rw[hst];obtain⟨x,hx⟩:∃ x,x=D2 (s.drop at_):=⟨_,rfl⟩;rw[<- hx]at hnx hz ⊢;rw[nxR,if_neg hz,V1]at hnx;have hz':(x.err != 0)=true:=by simpa using hz
   have ne0:=A4n c (c+1) (by omega);repeat' ((with_reducible first|refine wr ?_|refine cpc hnx ?_|refine A1 ?_ ?_|refine wb2 ?_ ?_<;>(intro hb;try simp only[hb])|fail)<;>try simp only[go_sem,seval,hd,hz',ne0])
   exact B2i
 ·have hd:=dfz hlt;repeat' ((with_reducible first|refine wr ?_|refine A1 ?_ ?_|refine wb2 ?_ ?_<;>(intro hb;try simp only[hb])|fail)<;>try simp only[go_sem,seval,hd])
  have hM2:Q9 f s at_ acc=(acc,0,0):=by
   cases f with
   |zero=>rfl
   |succ f=>rw[Q9,if_pos (by omega)]
  rw[hM2];exact C1s (fun e=>by rw[hno e];rfl) (by simp) (E4 acc)
theorem c_IsNameR(s:List UInt8)(hs:s.length<=1000000000):PC Tryz.prog 92 [.str s] (.bool (C4 s)):=by
 refine PC.go B1 ?_;have hw:=c_IsWordR s;cases s with
 |nil =>
  repeat' ((with_reducible first|refine wr ?_|refine A1 ?_ ?_|refine wb2 ?_ ?_<;>(intro hb;try simp only[hb])|fail)<;>try simp only[go_sem,seval])
  exact B3 rfl
 |cons c r =>
  have hx:B5l (DV.str (c :: r)) (.int .i64 0)=some (.int .u8 (c.toNat:Int)):=rfl;have hlt:=c_letterR c;have hd1:decide (((r.length+1:Nat):Int)<1)=false:=by simp;omega
  have hN:C4 (c :: r)=(decide ((r.length+1)<=12) && ltB c && decide (E2 ptB (c :: r)=r.length+1) && !G3 (c :: r)):=by
   simp[C4]
  rw[hN];have hN2:∀ b:Bool,decide (((r.length+1:Nat):Int)>12)=b->decide ((r.length+1)<=12) = !b:=by
   intro b hb;subst hb;rw[A2Q];simp;omega
  obtain⟨dd,hdd⟩:∃ dd,dd=decide ((r.length+1)<=12):=⟨_,rfl⟩;rw[<- hdd]at hN2 ⊢;obtain⟨ee,hee⟩:∃ ee,ee=decide (E2 ptB (c :: r)=r.length+1):=⟨_,rfl⟩;rw[<- hee];obtain⟨ff,hff⟩:∃ ff,ff=G3 (c :: r):=⟨_,rfl⟩;rw[<- hff]at hw ⊢;repeat' ((with_reducible first|refine wr ?_|refine cpc hw ?_|refine cpc hlt ?_|refine A1 ?_ ?_|refine wb2 ?_ ?_<;>(intro hb;try simp only[hb])|fail)<;>try simp only[go_sem,seval,hx,hd1])
  ·refine B3 (congrArg DV.bool ?_);rw[hN2 _ hb];rfl
  ·refine B3 (congrArg DV.bool ?_);have:ltB c=false:=by simpa using hb
   rw[this];simp
  ·refine B3 (congrArg DV.bool ?_);simp
  ·have hN3:=hN2 _ (by assumption);have hl:ltB c=true:=by simpa using (by assumption:(!ltB c)=false)
   rw[hN3,hl];refine D4 (fun k:Nat=>[(0,.str (c :: r)),(3,I64 k)]) (fun _=>nil) (fun k _=>k<=(c :: r).length/\k<=E2 ptB (c :: r)) (fun k=>(c :: r).length-k) 0 (by simp[C5,tm,Tm.upd]) (Sub.nil _) (by simp) ?_;rintro k cc ⟨hk,he⟩;have hsl:=Y7 ptB (c :: r);have hS:(c :: r).length=r.length+1:=rfl;by_cases hlt2:k<(c :: r).length
   ·have hd:decide ((k:Int)<((r.length+1:Nat):Int))=true:=by simp only[A0F];omega
    have hg:=A0B hlt2;have hw:IntKind.i64.wrap ((k:Int)+1)=((k+1:Nat):Int):=by rw[w6z (by omega)];omega
    have hst:=A7c hg he;obtain⟨x,hxx⟩:∃ x,x=(c :: r)[k]:=⟨_,rfl⟩;rw[<- hxx]at hg hst;have h1:=c_letterR x;have h2:=c_digitR x;obtain⟨L,hL⟩:∃ L,L=c :: r:=⟨_,rfl⟩;have hd3:decide ((k:Int)<(L.length:Int))=true:=by rw[hL];exact hd
    rw[<- hL]at hg hst hk he hsl hee ⊢;by_cases hp:ptB x=true
    ·have hgo:∃ b,DV.int IntKind.i64 ((k+1:Nat):Int)=I64 ((b:Nat):Int)/\Sym.Sub Sym.nil Sym.nil/\A8u (fun k _=>k<=L.length/\k<=E2 ptB L) b cc/\L.length-b<L.length-k :=
      ⟨k+1,rfl,Sub.refl _,inv ⟨by rw[hL];exact hlt2,hst.1 hp⟩,by rw[hL];omega⟩
     simp only[ptB,A1C,A0F]at hp;repeat' ((with_reducible first|refine wr ?_|refine cpc h1 ?_|refine cpc h2 ?_|refine A1 ?_ ?_|refine wb2 ?_ ?_<;>(intro hb;try simp only[hb])|fail)<;>try simp only[go_sem,seval,hd3,hg,hw])
     ·exfalso;have p1:ltB x=false:=by simpa using (by assumption:(!ltB x)=true)
      have p2:dgB x=false:=by simpa using (by assumption:(!dgB x)=true)
      have p3:=C6v (b:=95) hb;rw[p1,p2]at hp;rcases hp with (hp|hp)|hp
      ·cases hp
      ·cases hp
      ·exact p3 hp
     ·exact hgo
     ·exact hgo
     ·exact hgo
    ·have hp':ptB x=false:=by simpa using hp
     have hj:=hst.2 hp';simp only[ptB,Bool.or_eq_false_iff,A1U]at hp';obtain⟨⟨q1,q2⟩,q3⟩:=hp';have q4:((x.toNat:Int) != 95)=true:=by simp;omega
     repeat' ((with_reducible first|refine wr ?_|refine cpc h1 ?_|refine cpc h2 ?_|refine A1 ?_ ?_|refine wb2 ?_ ?_<;>(intro hb;try simp only[hb])|fail)<;>try simp only[go_sem,seval,hd3,hg,hw,q1,q2,q4])
     refine B3 (congrArg DV.bool ?_);rw[hee,hj,decide_eq_false];have:L.length=r.length+1:=by rw[hL];rfl
     have:k<L.length:=by rw[hL];exact hlt2
     omega
   ·have hd:decide ((k:Int)<((r.length+1:Nat):Int))=false:=by simp only[A1U];omega
    repeat' ((with_reducible first|refine wr ?_|refine A1 ?_ ?_|refine wb2 ?_ ?_<;>(intro hb;try simp only[hb])|fail)<;>try simp only[go_sem,seval,hd])
    refine B3 (congrArg DV.bool ?_);rw[hee,decide_eq_true (by omega)]
theorem c_Dec:∀ (m:Nat) (n:Int),n.natAbs<m -> -9223372036854775808<=n->n<=9223372036854775807->PC Tryz.prog 16 [I64 n] (.str (J6 n)):=by
 intro m
 induction m with
 |zero=>intro n h;omega
 |succ m ih =>
  intro n h h1 h2;have b:=D1y (d:=U8 n) (B7p n);have hl:=B7p n;by_cases h0:n<0
  ·have hd:decide (n<0)=true:=by simpa using h0
   have e1:=C5h h0;have e2:=C5g h0;have hh:=B7s (n:=n) (by omega);have w1:=w64 (n := -((Y4 n:Nat):Int));have w2:=w64 (n:=0 - -((U8 n:Nat):Int));have w3:0 - -((U8 n:Nat):Int)=(U8 n:Int):=by omega
   rw[w3]at w2;have hlen:=A1z (n := -((Y4 n:Nat):Int)) (by omega) (by omega);have a0:=L7 (s:=J6 (-((Y4 n:Nat):Int))) (t:=[W6 (U8 n)]) (by simp;omega);have a2:Z4 (nil.upd 5 ⟨1,true,[DV.int .u8 ((W6 (U8 n)).toNat:Int)]⟩) (.slc 5 0 1)=some (.str [W6 (U8 n)]):=A3y A0 rfl rfl;have a1:=L7 (s:=[45]) (t:=[W6 (U8 n)]) (by simp);refine PC.go B1 ?_;repeat' ((first|(with_reducible first|refine wr ?_|refine cpc (ih (-((Y4 n:Nat):Int)) (by omega) (by omega) (by omega)) ?_|refine A1 ?_ ?_)|(with_reducible refine wb2 ?_ ?_<;>(intro hb;try simp only[hb]))|((with_reducible refine C2f (A3y (l:=[W6 (U8 n)]) A0 rfl rfl) ?_))|fail)<;>try simp only[go_sem,seval,hd,A0i,C1b,e1,e2,w1,w3,w2,b,a0,a1,a2])
   ·rw[B9j h0 (by simpa using hb)];exact B3 rfl
   ·rw[C3h h0 (by simpa using hb)];exact B3 rfl
  ·have hd:decide (n<0)=false:=by simpa using h0
   have e1:=C4z (n:=n) (by omega);have e2:=C4y (n:=n) (by omega);have hh:Y4 n<=n.natAbs:=by unfold Y4;omega
   have w1:=w64 (n:=((Y4 n:Nat):Int));have hlen:=A1z (n:=((Y4 n:Nat):Int)) (by omega) (by omega);have a0:=L7 (s:=J6 ((Y4 n:Nat):Int)) (t:=[W6 (U8 n)]) (by simp;omega);by_cases h9:n<10
   ·have hd9:decide (n<10)=true:=by simpa using h9
    refine PC.go B1 ?_;repeat' ((first|(with_reducible first|refine wr ?_|refine A1 ?_ ?_)|(with_reducible refine wb2 ?_ ?_<;>(intro hb;try simp only[hb]))|((with_reducible refine C2f (A3y (l:=[W6 (U8 n)]) A0 rfl rfl) ?_))|fail)<;>try simp only[go_sem,seval,hd,hd9,A0i,C1b,e1,e2,w1,b])
    rw[C6o (by omega) h9];exact B3 rfl
   ·have hd9:decide (n<10)=false:=by simpa using h9
    have hh:=B7s (n:=n) (by omega);refine PC.go B1 ?_;repeat' ((first|(with_reducible first|refine wr ?_|refine cpc (ih ((Y4 n:Nat):Int) (by omega) (by omega) (by omega)) ?_|refine A1 ?_ ?_)|(with_reducible refine wb2 ?_ ?_<;>(intro hb;try simp only[hb]))|((with_reducible refine C2f (A3y (l:=[W6 (U8 n)]) A0 rfl rfl) ?_))|fail)<;>try simp only[go_sem,seval,hd,hd9,A0i,C1b,e1,e2,w1,b,a0])
    rw[C6p h9];exact B3 rfl
theorem c_Dec'(n:Int)(h1 : -9223372036854775808<=n)(h2:n<=9223372036854775807):PC Tryz.prog 16 [I64 n] (.str (J6 n)):=c_Dec (n.natAbs+1) n (by omega) h1 h2
theorem c_QuoteR(s:List UInt8)(hs:s.length<=100000):PC Tryz.prog 63 [.str s] (.str (R0 s)):=by
 refine PC.go B1 ?_;repeat' ((with_reducible first|refine wr ?_|refine A1 ?_ ?_|refine wb2 ?_ ?_<;>(intro hb;try simp only[hb])|fail)<;>try simp only[go_sem,seval])
 refine D4 (fun q:Nat × Nat=>[(0,.str s),(3,.slc q.2 0 (A1o (s.take q.1)).length),(4,I64 q.1)]) (fun q=>Sym.nil.upd q.2 ⟨1,true,bytesC (A1o (s.take q.1))⟩)
  (fun q c=>q.1<=s.length/\q.2<c) (fun q=>s.length-q.1) (0,0) (by simp[C5,tm,Tm.upd,A1o]) (Sub.refl _) (by simp) ?_
 rintro⟨k,id⟩ c ⟨hk,hid⟩;simp only at hk hid;simp only;have hal:(A1o (s.take k)).length<=2 * k+1:=by
  have:=A7t (s.take k);rw[A1F]at this;omega
 obtain⟨acc,hacc⟩:∃ acc,acc=A1o (s.take k):=⟨_,rfl⟩;rw[<- hacc]at hal ⊢;by_cases hlt:k<s.length
 ·have hd:=dtz hlt;have hg:=A0B hlt;have hw:IntKind.i64.wrap ((k:Int)+1)=((k+1:Nat):Int):=by rw[w6z (by omega)];omega
  have hA:∀ H c id,apB H c id 1 1 acc.length 1 [.int .u8 92] (some ⟨1,true,bytesC acc⟩)=some (.slc c 0 (acc.length+1),(H.del id).upd c ⟨1,true,bytesC (acc++[92])⟩,c+1):=fun H c id=>B3s (x:=92) rfl (by omega);have hB:∀ H c id,apB H c id 1 1 (acc.length+1) 1 [.int .u8 (s[k].toNat:Int)] (some ⟨1,true,bytesC (acc++[92])⟩)=some (.slc c 0 (acc.length+1+1),(H.del id).upd c ⟨1,true,bytesC (acc++[92]++[s[k]])⟩,c+1):=fun H c id=>B3s (by simp) (by omega);have hC:∀ H c id,apB H c id 1 1 acc.length 1 [.int .u8 (s[k].toNat:Int)] (some ⟨1,true,bytesC acc⟩)=some (.slc c 0 (acc.length+1),(H.del id).upd c ⟨1,true,bytesC (acc++[s[k]])⟩,c+1):=fun H c id=>B3s rfl (by omega);have est:A1o (s.take (k+1))=acc++quB s[k]:=by rw[hacc,A9o hg]
  have ne0:=T1 id c (c+1) (c+2) (c+3) (by omega);repeat' ((with_reducible first|refine wr ?_|refine A1 ?_ ?_|refine wb2 ?_ ?_<;>(intro hb;try simp only[hb])|fail)<;>try simp only[go_sem,seval,hd,hg,hw,ne0,hA,hB,hC])
  ·have e2:quB s[k]=[92,s[k]]:=if_pos (.inl (A6o (b:=34) hb));exact⟨(k+1,c+1+1+1),⟨by simp only[est,e2,A0A];rfl,rfl⟩,K6 (by simp only[est,e2,A0T];rfl),inv ⟨hlt,by simp only;omega⟩,by simp only;omega⟩
  ·have e2:quB s[k]=[92,s[k]]:=if_pos (.inr (A6o (b:=92) hb));exact⟨(k+1,c+1+1+1),⟨by simp only[est,e2,A0A];rfl,rfl⟩,K6 (by simp only[est,e2,A0T];rfl),inv ⟨hlt,by simp only;omega⟩,by simp only;omega⟩
  ·have e2:quB s[k]=[s[k]]:=if_neg (fun h=>h.elim (A3i (b:=34) (by assumption)) (A3i (b:=92) hb));exact⟨(k+1,c+1),⟨by simp only[est,e2,A0A];rfl,rfl⟩,K6 (by simp only[est,e2]),inv ⟨hlt,by simp only;omega⟩,by simp only;omega⟩
 ·have hd:=dfz hlt;have hZ:∀ H c id,apB H c id 1 1 acc.length 1 [.int .u8 34] (some ⟨1,true,bytesC acc⟩)=some (.slc c 0 (acc.length+1),(H.del id).upd c ⟨1,true,bytesC (acc++[34])⟩,c+1):=fun H c id=>B3s (x:=34) rfl (by omega);have ne0:=L8 id c (c+1) (by omega);have hcv:∀ (H:Hp) u,Z4 (H.upd (c+1) ⟨u,true,bytesC (acc++[34])⟩) (.slc (c+1) 0 (acc.length+1))=some (.str (acc++[34])):=fun H u=>A3y A0 rfl (by simp);repeat' ((with_reducible first|refine wr ?_|refine A1 ?_ ?_|refine wb2 ?_ ?_<;>(intro hb;try simp only[hb])|fail)<;>try simp only[go_sem,seval,hd,ne0,hZ,hcv])
  refine B3 ?_;rw[hacc,A0L (by omega)];rfl
theorem c_OneR(t:Tok)(ht:Fit t):PC Tryz.prog 32 [t.v] (.str (H7 t)):=by
 refine PC.go B1 ?_;have hq:=c_QuoteR t.text ht.1;have hd:=c_Dec' t.value ht.2.1 ht.2.2;repeat' ((with_reducible first|refine wr ?_|refine cpc hq ?_|refine cpc hd ?_|refine A1 ?_ ?_|refine wb2 ?_ ?_<;>(intro hb;try simp only[hb])|fail)<;>try simp only[go_sem,seval])
 all_goals (refine B3 (congrArg DV.str ?_);unfold H7;simp_all)
theorem c_Join(l:List (List UInt8))(sp:List UInt8)(h1:l.length<=140737488355328)(h2:(Lib.join l sp).length<=140737488355328):PC Tryz.prog 62 [strs l,.str sp] (.str (Lib.join l sp)):=by
 refine PC.of_calls (by kernel_rfl) (by simp[DV.nlL,DV.nl,J5]) rfl fun ρ w vs hf hA=>?_;obtain⟨y,g1,g2⟩:=hA.get (i:=0) rfl;obtain⟨z,g3,g4⟩:=hA.get (i:=1) rfl;obtain rfl:=g4.str_inv;have hvs:vs = #[y,.string ⟨sp.toArray⟩]:=by
  have hs:vs.size=2:=hA.1.symm;cases vs with|mk r=>match r,hs,g1,g3 with
   |[a,b],_,h1,h3=>simp at h1 h3;subst h1 h3;rfl
 rw[hvs];rcases g2.lst_inv with ⟨e0,e1|⟨a,c,e1⟩⟩|⟨u,b,off,c,row,e1,e2,e3,e4,e5,e6⟩
 ·subst e1;have:l=[]:=by simpa using e0
  subst this;refine (Tryz.strings_Join_none none 0 ⟨sp.toArray⟩ w).mono ?_;rintro e w' ⟨rfl,rfl⟩;exact⟨_,rfl,fun ρ'=>.mkStr,Below.refl _ _⟩
 ·subst e1;have:l=[]:=by simpa using e0
  subst this;refine (Tryz.strings_Join_none (some a) c ⟨sp.toArray⟩ w).mono ?_;rintro e w' ⟨rfl,rfl⟩;exact⟨_,rfl,fun ρ'=>.mkStr,Below.refl _ _⟩
 ·subst e1;obtain⟨e,fr,hb⟩:=hf b row e2;obtain⟨bs,hbs⟩:∃ bs:List ByteArray,bs=l.map fun s=>(⟨s.toArray⟩:ByteArray):=⟨_,rfl⟩;have hL:(l.map DV.str).length=bs.length:=by rw[hbs];simp
  have hmap:bs.map (fun x=>x.data.toList)=l:=by
   rw[hbs,List.map_map];exact (A3O fun s _=>rfl).trans (List.map_id l)
  have hmap2:bs.map (·.data.toList)=l:=hmap;have p1:∀ (j:Nat) x,bs[j]? = some x->w.cell? ⟨b,off+j,none⟩=some (.string x):=by
   intro j x hx;rw[hbs,A1A]at hx;obtain⟨s,hs,rfl⟩:=A0R.1 hx;have hc:(A3 (l.map DV.str))[j]? = some (DV.str s):=by rw[Z5 (fun _=>rfl),A1A,hs];rfl
   obtain⟨v,v1,v2⟩:=e6.get hc;rw[v2.str_inv]at v1;simp only[World.cell?,hb];exact v1
  have p2:b<w.heap.size:=(A0X.1 hb).1;have p3:bs.length<=140737488355328:=by rw[hbs];simpa using h1
  have p4:bs.length<=c:=by rw[<- hL];exact e3
  have p5:(Lib.join (bs.map (·.data.toList)) (⟨sp.toArray⟩:ByteArray).data.toList).length<=140737488355328:=by
   rw[hmap2];exact h2
  rw[hL];have key:=Tryz.strings_Join b off c bs ⟨sp.toArray⟩ w p1 p2 p3 p4 p5;rw[hmap2]at key;refine key.mono fun e w' hq=>⟨_,hq.1,fun ρ'=>?_,hq.2⟩;exact .mkStr
theorem c_Text(l:List Tok)(hl:l.length<=100000)(hx:∀ t∈l,Fit t):PC Tryz.prog 116 [D9 l] (.str (A5z l)):=by
 refine PC.ofT B1 rfl (A0C rfl) (by simp only[DV.nlL,DV.nl,K1,A1X]) rfl ?_;have htl:=A9h hx;repeat' ((with_reducible first|refine wr ?_|refine A1 ?_ ?_|refine wb2 ?_ ?_<;>(intro hb;try simp only[hb])|fail)<;>try simp only[go_sem,seval])
 refine D4 (fun q:Nat × Option Nat=>[(3,A8 q.2 q.1),(6,D9 l),(7,I64 l.length),(8,I64 q.1)]) (fun q=>B9 Sym.nil q.2 ⟨1,true,A3 (((l.take q.1).map H7).map DV.str)⟩)
  (fun q cc=>q.1<=l.length/\(q.2=none->q.1=0)/\∀ i,q.2=some i->i<cc) (fun q=>l.length-q.1) (0,none)
  (by simp[C5,tm,Tm.upd,A8]) (Sub.nil _) ⟨by simp,by simp,by simp⟩ ?_
 rintro⟨k,o⟩ c ⟨hk,hno,ho⟩;simp only at hk hno ho;simp only;have hkl:((l.take k).map H7).length=k:=by rw[A0E,A1F];omega
 by_cases hlt:k<l.length
 ·have hd:=dtz hlt;have hg:=A0B hlt;have hw:IntKind.i64.wrap ((k:Int)+1)=((k+1:Nat):Int):=by rw[w6z (by omega)];omega
  have hfit:=hx _ (A0V hlt);have est:A3 (((l.take (k+1)).map H7).map DV.str)=A3 (((l.take k).map H7).map DV.str)++[DV.str (H7 l[k])]:=by
   rw[A1D,hg,Option.toList_some,A0S,A0S,C1];rfl
  obtain⟨t,ht⟩:∃ t,t=l[k]:=⟨_,rfl⟩;rw[<- ht]at hg hfit est;have h1:=c_Quote t.text (by have:=hfit.1;omega);have h2:=c_Itoa t.value hfit.2.1 hfit.2.2;obtain⟨cs,hcs⟩:∃ cs,cs=A3 (((l.take k).map H7).map DV.str):=⟨_,rfl⟩;have hcl:cs.length=k * 1:=by rw[hcs,C0j,hkl]
  rw[<- hcs]at est ⊢;have hno2:o=none->k=0/\cs=[]:=fun e=>⟨hno e,by rw[hcs,hno e];rfl⟩;have ne0:=L8 c (c+1) (c+2) (by omega);repeat' ((with_reducible first|refine wr ?_|refine cpc h1 ?_|refine cpc h2 ?_|refine A1 ?_ ?_|refine wb2 ?_ ?_<;>(intro hb;try simp only[hb])|fail)<;>try simp only[go_sem,seval,hd,hg,hw,ne0])
  all_goals
   refine C6 (E0 (cs:=cs) hno2 (fun i hi=>?_) hcl (by omega) (by omega) (by omega)) ?_
   ·have:=ho i hi;rw[hnO,hnO,hnO];exact A0c hi
   simp only[go_sem,seval,ne0,hw];repeat' ((with_reducible first|refine wr ?_|refine cpc h1 ?_|refine cpc h2 ?_|refine A1 ?_ ?_|refine wb2 ?_ ?_<;>(intro hb;try simp only[hb])|fail)<;>try simp only[go_sem,seval,hd,hg,hw,ne0])
   exact⟨(k+1,some (c+1+1)),⟨rfl,rfl⟩,K6 (by simp only[est];exact congrArg (fun z=>(⟨1,true,cs++[DV.str z]⟩:Blk)) (by unfold H7;simp_all)),inv ⟨hlt,by simp,fun i hi=>by cases hi;omega⟩,by simp only;omega⟩
 ·have hd:=dfz hlt;have hj:=c_Join (l.map H7) [32] (by rw[A0E];omega) (by rw[A2i];omega);rw[A2i]at hj;obtain rfl:k=l.length:=by omega
  rw[A2W]at hkl ⊢;rcases o with _|id
  ·have hk0:=hno rfl;have h00:l=[]:=A1K (by omega);repeat' ((with_reducible first|refine wr ?_|refine A1 ?_ ?_|refine wb2 ?_ ?_<;>(intro hb;try simp only[hb])|fail)<;>try simp only[go_sem,seval,hd])
   refine AC.call (hj.give (H0:=Sym.nil) ⟨fun _ h=>h,fun ρ w vs h1 h2=>⟨ρ,rfl,h1,?_,Ext.refl _ _ _⟩⟩) ?_
   ·rw[h00];exact⟨h2.1,fun i x y hx hy=>by
     match i with
     |0=>cases hx;exact (h2.2 0 _ y rfl hy).snil_lst
     |1=>cases hx;exact h2.2 1 _ y rfl hy
     |_+2=>cases hx⟩
   ·rintro v H' c' ⟨rfl,rfl,rfl⟩ -;simp only[go_sem,seval];repeat' ((with_reducible first|refine wr ?_|refine A1 ?_ ?_|refine wb2 ?_ ?_<;>(intro hb;try simp only[hb])|fail)<;>try simp only[go_sem,seval])
    exact B3 rfl
  ·repeat' ((with_reducible first|refine wr ?_|refine A1 ?_ ?_|refine wb2 ?_ ?_<;>(intro hb;try simp only[hb])|fail)<;>try simp only[go_sem,seval,hd])
   refine AC.call (hj.give (H0:=Sym.nil) (GL.one (id:=id) A0 rfl (.cons _ _ _ _ (M6 (u:=1) (by rw[A0E,hkl]) (G9 _) ⟨[],by simp⟩) (.cons _ _ _ _ (.same _) .nil)))) ?_;rintro v H' c' ⟨rfl,rfl,rfl⟩ -;simp only[go_sem,seval];repeat' ((with_reducible first|refine wr ?_|refine A1 ?_ ?_|refine wb2 ?_ ?_<;>(intro hb;try simp only[hb])|fail)<;>try simp only[go_sem,seval])
   exact B3 rfl
theorem C8z{s:Sym.St}{x p q i u:Nat}{a b:DV}{o:Bool}(h:s.T x=.ptr i 0)(hb:s.H i=some ⟨u,o,[a,b]⟩):Sym.resV s [.cell x 2 true,.tmp p,.tmp q]=some (.tup [.agg [a,b],s.T p,s.T q]):=by
 simp only[Sym.resV,A3g,h,ldv,ldB,hb];rfl
theorem B9w{H:Hp}{a b:DV}:GL H [.tup [.agg [.snil,.snil],a,b]] H [.tup [.agg [.lst [],.snil],a,b]] :=
 GL.view fun ρ vs hA=>S3 (fun v h=>by
  obtain⟨b',rfl,k1,k2⟩:=h.tup_inv;refine .tup _ _ k1 fun i x y hx hy=>?_
  match i with
  |0 =>
   cases hx;obtain⟨c',rfl,m1,m2⟩:=(k2 0 _ y rfl hy).agg_inv;refine .agg _ _ m1 fun j x z hx hz=>?_
   match j with
   |0=>cases hx;exact (m2 0 _ z rfl hz).snil_lst
   |1=>cases hx;exact m2 1 _ z rfl hz
   |_+2=>cases hx
  |1=>cases hx;exact k2 1 _ y rfl hy
  |2=>cases hx;exact k2 2 _ y rfl hy
  |_+3=>cases hx) vs hA
theorem OwM.zero(H:Hp)(lo c:Nat)(hf:∀ j,lo<=j->H j=Option.none):OwM H H lo c Option.none [] :=
 ⟨fun _ _=>rfl,fun j b hj=>.inl (Classical.byContradiction fun h=>by rw[hf j (by omega)]at hj;cases hj),(fun x hx=>by cases hx),List.nodup_nil⟩
theorem OwM.lift{HK G H:Hp}{lo1 lo c:Nat}{o:Option Nat}{Q:List MO}(h:OwM HK G lo1 c o Q)(hl:lo<=lo1)(hf:∀ j,lo<=j->H j=Option.none):OwM H (U9 H G lo1) lo c o Q:=by
 have hj:∀ i,lo1<=i->U9 H G lo1 i=G i:=fun i hi=>by unfold U9;rw[if_neg (by omega)]
 refine⟨fun j hj=>by unfold U9;rw[if_pos (by omega)],fun j b hj=>?_,fun x hx=>⟨(h.row x hx).hds,(h.row x hx).nil,fun i e=>?_,fun y hy=>⟨((h.row x hx).row y hy).1,fun i e=>?_⟩⟩,h.nd⟩
 ·unfold U9 at hj;by_cases hlt:j<lo1
  ·rw[if_pos hlt]at hj;exact .inl (Classical.byContradiction fun h=>by rw[hf j (by omega)]at hj;cases hj)
  ·rw[if_neg hlt]at hj;exact (h.only j b hj).imp (fun h=>absurd h hlt) id
 ·obtain⟨h1,h2,h3,h4⟩:=(h.row x hx).own i e;exact⟨by omega,h2,h3,by rw[hj i h1];exact h4⟩
 ·obtain⟨h1,h2,h3,h4⟩:=((h.row x hx).row y hy).2 i e;exact⟨by omega,h2,h3,by rw[hj i h1];exact h4⟩
theorem c_ParseM(s:List UInt8)(hs:s.length<=1000000000)(H:Hp)(cc:Nat):
  AC Tryz.prog 4 [.str s] H cc (fun v H' c' => ∃ (o:Option Nat) (Q:List MO) (G:Hp) (a b:DV),Q.map (·.m)=(A4m s).1.modes/\(o=none->Q=[])/\(∀ i,o=some i->cc<=i/\i<c')/\OwM H G cc c' o Q /\
   v=.tup [.agg [E3 (A4m s).1.decls,A8 o Q.length],a,b]/\H'=B9 G o ⟨4,true,A3 (Q.map moV)⟩):=by
 refine AC.bodyT B1 rfl (A0C rfl) fun hfr=>?_;have hsc:=c_ScanR s hs;by_cases h0:(G5 s).2.2=0
 ·have hd:((G5 s).2.2 != 0)=false:=by simpa using h0
  repeat' ((with_reducible first|refine wr ?_|refine cpc hsc ?_|refine A1 ?_ ?_|refine wb2 ?_ ?_<;>(intro hb;try simp only[hb])|fail)<;>try simp only[go_sem,seval,hd])
  obtain⟨f,hf⟩:=(A5h (G5 s).1 s.length).get;cases hok:okR (V6 (G5 s).1 s.length).2 with
  |true =>
   have hM:A4m s=((V6 (G5 s).1 s.length).1,0,0):=by
    unfold A4m;dsimp only;rw[if_neg (by simpa using h0),hok,if_neg (by decide)]
   rw[hM];refine AC.call (c_rulesM (G5 s).1 s.length (by have:=B0r h0;omega) (B2h h0) f rd0 _ hf (A0Z _) hok _ _ (cc+1) (by exact A0) (by omega)) ?_;rintro v H' c2 ⟨o,Q,G,h1,h2,h3,h4,rfl,rfl⟩ hc2;generalize V6 (G5 s).1 s.length=w at *;generalize hY:B9 (G.upd (cc+1) (rdR (G5 s).1 s.length w.2)) o _=Y;have yo:∀ i,o=some i->Y i=some ⟨4,true,A3 (Q.map moV)⟩:=fun i hi=>by rw[<- hY];subst hi;exact A0
   have yr:Y (cc+1)=some (rdR (G5 s).1 s.length w.2):=by rw[<- hY,B6 (fun i hi=>by have:=h3 i hi;omega),A0]
   have yj:∀ j,(∀ i,o=some i->¬ j=i)->¬ j=cc+1->Y j=G j:=fun j h h'=>by rw[<- hY,B6 h,A6 h']
   have y0:Y cc=some ⟨0,true,[.snil,.snil]⟩:=by rw[yj cc (fun i hi=>by have:=h3 i hi;omega) (by omega),h4.base cc (by omega),hnO,A0]
   clear hY;obtain⟨V,hV⟩:∃ V,V=A8 o Q.length:=⟨_,rfl⟩;rw[<- hV];have hVc:V=.snil\/∃ ib,V=.slc ib 0 Q.length:=by
    rw[hV];cases o
    ·exact .inl rfl
    ·exact .inr ⟨_,rfl⟩
   have fin:∀ (x x':Blk) (ds:List DV),GL ((Y.upd c2 x).upd cc x') ds (B9 (U9 H G (cc+1+1)) o ⟨4,true,A3 (Q.map moV)⟩) ds:=fun x x' ds =>
    GL.less' fun j b hj=>by
     by_cases e0:∃ i,o=some i/\j=i
     ·obtain⟨i,e1,rfl⟩:=e0;have:=h3 j e1;rw[hnO,hnO,yo j e1];subst e1;simpa[B9,A0] using hj
     rw[B6 (fun i hi e=>e0 ⟨i,hi,e⟩)]at hj;unfold U9 at hj;by_cases e1:j<cc+1+1
     ·rw[if_pos e1]at hj;have hjc:j<cc:=Classical.byContradiction fun h=>by rw[hfr j (by omega)]at hj;cases hj
      rw[hnO,hnO,yj j (fun i hi e=>e0 ⟨i,hi,e⟩) (by omega),h4.base j e1,hnO,hnO];exact hj
     ·rw[if_neg e1]at hj;have hj2:j<c2:=Classical.byContradiction fun h=>by rw[h4.none (by omega) (by omega)]at hj;cases hj
      rw[hnO,hnO,yj j (fun i hi e=>e0 ⟨i,hi,e⟩) (by omega)];exact hj
   rcases hVc with rfl|⟨ib,rfl⟩
   all_goals
    have ne0:=L8 cc (cc+1) c2 (by omega);simp only[go_sem,seval,ne0,A0,A2];repeat' ((with_reducible first|refine wr ?_|refine A1 ?_ ?_|refine wb2 ?_ ?_<;>(intro hb;try simp only[hb])|fail)<;>try simp only[go_sem,seval,ne0,A0,A2])
    refine AC.call (c_rdok (G5 s).1 s.length w.2 _ _ (cc+1) (by repeat (first|exact yr|rw[hnO])) (by omega)) ?_;rintro v H' c3 ⟨rfl,rfl⟩ hc3;have ne0:=V7 cc (cc+1) c2 c3 (by omega);simp only[go_sem,seval,hok,ne0,A0,A2,y0];repeat' ((with_reducible first|refine wr ?_|refine A1 ?_ ?_|refine wb2 ?_ ?_<;>(intro hb;try simp only[hb])|fail)<;>try simp only[go_sem,seval,hok,ne0,A0,A2,y0])
    rw[E6 (C8z rfl A0)];exact⟨_,_,fin _ _ _,o,Q,U9 H G (cc+1+1),I64 0,I64 0,h1,h2,(fun i hi=>by have:=h3 i hi;exact⟨by omega,(show i<c3 by omega)⟩),(h4.lift (by omega) hfr).mono (show c2<=c3 by omega),by rw[<- hV];rfl,rfl⟩
  |false =>
   have hM:A4m s=(Ru0,(V6 (G5 s).1 s.length).2.pos,(V6 (G5 s).1 s.length).2.e):=by
    unfold A4m;dsimp only;rw[if_neg (by simpa using h0),hok,if_pos rfl]
   rw[hM];refine AC.call (c_rules (G5 s).1 s.length (by have:=B0r h0;omega) (B2h h0) f rd0 _ hf (A0Z _) _ _ (cc+1) (by exact A0) (by omega)) ?_;rintro v H' c2 ⟨rfl,rfl⟩ hc2;generalize V6 (G5 s).1 s.length=w at *;have ne0:=L8 cc (cc+1) c2 (by omega);simp only[go_sem,seval,ne0,A0,A2];repeat' ((with_reducible first|refine wr ?_|refine A1 ?_ ?_|refine wb2 ?_ ?_<;>(intro hb;try simp only[hb])|fail)<;>try simp only[go_sem,seval,ne0,A0,A2])
   refine AC.call (c_rdok (G5 s).1 s.length w.2 _ _ (cc+1) (by repeat (first|exact A0|rw[hnO])) (by omega)) ?_;rintro v H' c3 ⟨rfl,rfl⟩ hc3;have ne0:=V7 cc (cc+1) c2 c3 (by omega);simp only[go_sem,seval,hok,ne0,A0,A2];repeat' ((with_reducible first|refine wr ?_|refine A1 ?_ ?_|refine wb2 ?_ ?_<;>(intro hb;try simp only[hb])|fail)<;>try simp only[go_sem,seval,hok,ne0,A0,A2])
   repeat refine⟨by and_intros<;>(repeat rw[hnO])<;>exact hfr _ (by omega),?_⟩
   repeat' ((with_reducible first|refine wr ?_|refine A1 ?_ ?_|refine wb2 ?_ ?_<;>(intro hb;try simp only[hb])|fail)<;>try simp only[go_sem,seval,hok,ne0,A0,A2])
   rw[E6 (C8z rfl A0)];refine⟨_,_,(GL.less' (H0:=H) (fun j b hj=>?_)).trans B9w,none,[],H,_,_,rfl,fun _=>rfl,(fun i hi=>by cases hi),.zero H _ _ hfr,rfl,rfl⟩;have hjc:j<cc:=Classical.byContradiction fun h=>by rw[hfr j (by omega)]at hj;cases hj
   dsimp only
   repeat rw[hnO]
   exact hj
 ·have hd:((G5 s).2.2 != 0)=true:=by simpa using h0
  have hM:A4m s=(Ru0,(G5 s).2.1,(G5 s).2.2):=by
   unfold A4m;dsimp only;rw[if_pos h0]
  rw[hM];repeat' ((with_reducible first|refine wr ?_|refine cpc hsc ?_|refine A1 ?_ ?_|refine wb2 ?_ ?_<;>(intro hb;try simp only[hb])|fail)<;>try simp only[go_sem,seval,hd])
  rw[E6 (C8z rfl A0)];refine⟨_,_,(GL.less' (H0:=H) (fun j b hj=>?_)).trans B9w,none,[],H,_,_,rfl,fun _=>rfl,(fun i hi=>by cases hi),.zero H _ _ hfr,rfl,rfl⟩;have hjc:j<cc:=Classical.byContradiction fun h=>by rw[hfr j (by omega)]at hj;cases hj
  dsimp only
  repeat rw[hnO]
  exact hj
theorem A5o{H:Hp}{k w:Nat}{pre suf ds:List DV}(hk:H k=some ⟨w,true,pre++[.snil]++suf⟩):GL H ds (H.upd k ⟨w,true,pre++[.lst []]++suf⟩) ds :=
 GL.cells fun j=>by
  by_cases ej:j=k
  ·subst ej;rw[hk,A0];refine .inr (.inr ⟨_,_,rfl,rfl,rfl,rfl,by simp,⟨.snil,by simp,rfl⟩,fun i d' hd=>?_⟩);dsimp only at hd ⊢;rcases Nat.lt_trichotomy i pre.length with hi|hi|hi
   ·refine⟨d',?_,.inl rfl⟩;rw[A0T,A2Z hi]at hd ⊢;exact hd
   ·subst hi;rw[A0T,A2Y (A0J _)]at hd ⊢;simp at hd ⊢;subst hd;exact .inr ⟨rfl,fun ρ v h=>h.snil_lst⟩
   ·refine⟨d',?_,.inl rfl⟩;rw[A0T,A2Y (by omega)]at hd ⊢;obtain⟨m,hm⟩:∃ m,i-pre.length=m+1:=⟨i-pre.length-1,by omega⟩;rw[hm]at hd ⊢;exact hd
  ·rw[A6 ej];exact .inr (.inl rfl)
theorem X9{X:Hp}{i j:Nat}(h:¬ j=i):(X.del i) j=X j:=if_neg h
theorem D0i(l:List Hd):∀ d∈A3 (l.map Hd.v),d.one=true:=by
 induction l with
 |nil=>intro d hd;cases hd
 |cons x l ih =>
  intro d hd;have:d∈[I64 x.trig,DV.str x.name,F4 x.body,I64 x.pos]++A3 (l.map Hd.v):=hd;rcases A0W.1 this with h|h
  ·simp only[A1E,A2F,or_false]at h;rcases h with rfl|rfl|rfl|rfl<;>rfl
  ·exact ih d h
theorem D0h(l:List HO):∀ d∈A3 (l.map hoV),d.one=true:=by
 induction l with
 |nil=>intro d hd;cases hd
 |cons x l ih =>
  intro d hd;have:d∈[I64 x.1.trig,DV.str x.1.name,A8 x.2 x.1.body.length,I64 x.1.pos]++A3 (l.map hoV):=hd;rcases A0W.1 this with h|h
  ·simp only[A1E,A2F,or_false]at h;rcases h with rfl|rfl|rfl|rfl
   ·rfl
   ·rfl
   ·cases x.2<;>rfl
   ·rfl
  ·exact ih d h
theorem A3v{ds:List DV}{hb:Nat}:∀ (l2:List HO) (l1:List Hd) (X:Hp),X hb=some ⟨4,true,A3 (l1.map Hd.v)++A3 (l2.map hoV)⟩ ->
  (∀ y∈l2,(y.2=none->y.1.body=[])/\∀ b,y.2=some b->¬ b=hb/\X b=some (B1o y.1))->(l2.filterMap (·.2)).Nodup ->
  ∃ X',GL X ds X' ds/\X' hb=some ⟨4,true,A3 ((l1++l2.map (·.1)).map Hd.v)⟩/\∀ j,¬ j=hb->j ∉ l2.filterMap (·.2)->X' j=X j
 |[],l1,X,h1,h2,h3=>⟨X,GL.refl _ _,by simpa[A3] using h1,fun j _ _=>rfl⟩
 |y :: l2,l1,X,h1,h2,h3=>by
  obtain⟨hy1,hy2⟩:=h2 y A0K;have hsp:A3 (l1.map Hd.v)++A3 ((y :: l2).map hoV)=(A3 (l1.map Hd.v)++[I64 y.1.trig,.str y.1.name])++[A8 y.2 y.1.body.length]++([I64 y.1.pos]++A3 (l2.map hoV)):=by
   rw[A0U,show A3 (hoV y :: l2.map hoV)=[I64 y.1.trig,DV.str y.1.name,A8 y.2 y.1.body.length,I64 y.1.pos]++A3 (l2.map hoV) from rfl];simp
  have hfr:(A3 (l1.map Hd.v)++[I64 y.1.trig,.str y.1.name])++[F4 y.1.body]++([I64 y.1.pos]++A3 (l2.map hoV))=A3 ((l1++[y.1]).map Hd.v)++A3 (l2.map hoV):=by
   rw[A0S,C1];simp[A3,DV.cells]
  rw[hsp]at h1;cases hq:y.2 with
  |none =>
   rw[hq,A1s]at h1;have g:=A5o (ds:=ds) h1;rw[show DV.lst []=F4 y.1.body by rw[hy1 hq];rfl,hfr]at g;obtain⟨X',a1,a2,a3⟩:=A3v l2 (l1++[y.1]) _ A0 (fun z hz=>⟨(h2 z (A0H _ hz)).1,fun b e=>by
    obtain⟨b1,b2⟩:=(h2 z (A0H _ hz)).2 b e;exact⟨b1,by rw[A6 b1];exact b2⟩⟩) (by simpa[A2T,hq] using h3)
   refine⟨X',g.trans a1,by rw[a2,A0T];rfl,fun j e1 e2=>?_⟩;rw[a3 j e1 (fun h=>e2 (by rw[A2T,hq];exact h)),A6 e1]
  |some b =>
   obtain⟨hb1,hb2⟩:=hy2 b hq;rw[hq,P3]at h1;rw[A2T,hq]at h3;have h3:=A2G.1 h3;have g:=B1k (ds:=ds) (a:=b) (junk:=[]) (xs:=y.1.body.map Pb.St.v) (u:=7) (u':=7) h1 (by rw[A1H];exact hb2) (fun d hd=>by
    rcases A0W.1 hd with hd|hd
    ·rcases A0W.1 hd with hd|hd
     ·exact D0i _ d hd
     ·simp only[A1E,A2F,or_false]at hd;rcases hd with rfl|rfl<;>rfl
    ·rcases A0W.1 hd with hd|hd
     ·simp only[A1E,A2F,or_false]at hd;rcases hd with rfl;rfl
     ·exact D0h _ d hd) (A0E _) (Q7 _) hb1
   rw[hfr]at g;obtain⟨X',a1,a2,a3⟩:=A3v l2 (l1++[y.1]) ((X.del b).upd hb ⟨4,true,A3 ((l1++[y.1]).map Hd.v)++A3 (l2.map hoV)⟩) A0 (fun z hz=>⟨(h2 z (A0H _ hz)).1,fun c e=>by
    obtain⟨b1,b2⟩:=(h2 z (A0H _ hz)).2 c e;have hcb:¬ c=b:=fun e2=>h3.1 (A1G.2 ⟨z,hz,by rw[e,e2]⟩);exact⟨b1,by rw[A6 b1,X9 hcb];exact b2⟩⟩) h3.2
   refine⟨X',g.trans a1,by rw[a2,A0T];rfl,fun j e1 e2=>?_⟩;rw[A2T,hq]at e2;rw[a3 j e1 (fun h=>e2 (A0H _ h)),A6 e1,X9 (fun h=>e2 (by rw[h];exact A0K))]
theorem D0f(l:List Md):∀ d∈A3 (l.map Md.v),d.one=true:=by
 induction l with
 |nil=>intro d hd;cases hd
 |cons x l ih =>
  intro d hd;have:d∈[DV.str x.name,I64 x.prio,A1c x.hds,I64 x.pos]++A3 (l.map Md.v):=hd;rcases A0W.1 this with h|h
  ·simp only[A1E,A2F,or_false]at h;rcases h with rfl|rfl|rfl|rfl<;>rfl
  ·exact ih d h
theorem D0e(l:List MO):∀ d∈A3 (l.map moV),d.one=true:=by
 induction l with
 |nil=>intro d hd;cases hd
 |cons x l ih =>
  intro d hd;have:d∈[DV.str x.m.name,I64 x.m.prio,A8 x.o x.l.length,I64 x.m.pos]++A3 (l.map moV):=hd;rcases A0W.1 this with h|h
  ·simp only[A1E,A2F,or_false]at h;rcases h with rfl|rfl|rfl|rfl
   ·rfl
   ·rfl
   ·cases x.o<;>rfl
   ·rfl
  ·exact ih d h
structure MX (X:Hp) (m0:Nat) (x:MO):Prop where
 hds:x.l.map (·.1)=x.m.hds
 nil:x.o=none->x.l=[]
 own:∀ i,x.o=some i->¬ i=m0/\X i=some (B3f x.l)
 row:∀ y∈x.l,(y.2=none->y.1.body=[])/\∀ i,y.2=some i->¬ i=m0/\X i=some (B1o y.1)
theorem MX.of{X X':Hp}{m0:Nat}{x:MO}(h:MX X m0 x)(hx:∀ j,¬ j=m0->j∈x.ids->X' j=X j):MX X' m0 x :=
 ⟨h.hds,h.nil,fun i e=>⟨(h.own i e).1,by rw[hx i (h.own i e).1 (A0W.2 (.inl (by simp[e])))];exact (h.own i e).2⟩,fun y hy=>⟨(h.row y hy).1,fun i e=>by
  obtain⟨h1,h2⟩:=(h.row y hy).2 i e;exact⟨h1,by rw[hx i h1 (A0W.2 (.inr (A1G.2 ⟨y,hy,e⟩)))];exact h2⟩⟩⟩
theorem A5p{ds:List DV}{m0:Nat}:∀ (Q:List MO) (M1:List Md) (X:Hp),X m0=some ⟨4,true,A3 (M1.map Md.v)++A3 (Q.map moV)⟩->(∀ x∈Q,MX X m0 x)->(Q.flatMap MO.ids).Nodup ->
  ∃ X',GL X ds X' ds/\X' m0=some ⟨4,true,A3 ((M1++Q.map (·.m)).map Md.v)⟩/\∀ j,¬ j=m0->j ∉ Q.flatMap MO.ids->X' j=X j
 |[],M1,X,h1,h2,h3=>⟨X,GL.refl _ _,by simpa[A3] using h1,fun j _ _=>rfl⟩
 |x :: Q,M1,X,h1,h2,h3=>by
  have hx:=h2 x A0K;rw[A1B]at h3;obtain⟨n1,n2,n3⟩:=A2J.1 h3;have hsp:A3 (M1.map Md.v)++A3 ((x :: Q).map moV)=(A3 (M1.map Md.v)++[.str x.m.name,I64 x.m.prio])++[A8 x.o x.l.length]++([I64 x.m.pos]++A3 (Q.map moV)):=by
   rw[A0U,show A3 (moV x :: Q.map moV)=[DV.str x.m.name,I64 x.m.prio,A8 x.o x.l.length,I64 x.m.pos]++A3 (Q.map moV) from rfl];simp
  have hfr:(A3 (M1.map Md.v)++[.str x.m.name,I64 x.m.prio])++[A1c x.m.hds]++([I64 x.m.pos]++A3 (Q.map moV))=A3 ((M1++[x.m]).map Md.v)++A3 (Q.map moV):=by
   rw[A0S,C1];simp[A3,DV.cells]
  have hone:∀ d∈(A3 (M1.map Md.v)++[DV.str x.m.name,I64 x.m.prio])++([I64 x.m.pos]++A3 (Q.map moV)),d.one=true:=fun d hd=>by
   rcases A0W.1 hd with hd|hd
   ·rcases A0W.1 hd with hd|hd
    ·exact D0f _ d hd
    ·simp only[A1E,A2F,or_false]at hd;rcases hd with rfl|rfl<;>rfl
   ·rcases A0W.1 hd with hd|hd
    ·simp only[A1E,A2F,or_false]at hd;rcases hd with rfl;rfl
    ·exact D0e _ d hd
  rw[hsp]at h1;cases hq:x.o with
  |none =>
   rw[hq,A1s]at h1;have g:=A5o (ds:=ds) h1;rw[show DV.lst []=A1c x.m.hds by rw[<- hx.hds,hx.nil hq];rfl,hfr]at g;obtain⟨X',a1,a2,a3⟩:=A5p Q (M1++[x.m]) _ A0 (fun z hz=>(h2 z (A0H _ hz)).of fun j e _=>A6 e) n2;refine⟨X',g.trans a1,by rw[a2,A0T];rfl,fun j e1 e2=>?_⟩;rw[a3 j e1 (fun h=>e2 (by rw[A1B];exact A0W.2 (.inr h))),A6 e1]
  |some i =>
   obtain⟨b1,b2⟩:=hx.own i hq;have hids:x.ids=i :: x.l.filterMap (·.2):=by unfold MO.ids;rw[hq];rfl
   rw[hids]at n1;have n1:=A2G.1 n1;obtain⟨X1,c1,c2,c3⟩:=A3v (ds:=ds) (hb:=i) x.l [] X (by rw[b2];rfl) (fun y hy=>⟨(hx.row y hy).1,fun b e=>⟨fun e2=>n1.1 (A1G.2 ⟨y,hy,by rw[e,e2]⟩),((hx.row y hy).2 b e).2⟩⟩) n1.2;rw[List.nil_append,hx.hds]at c2;have hm:X1 m0=X m0:=c3 m0 (fun e=>b1 e.symm) (fun h=>by
    obtain⟨y,hy,e⟩:=A1G.1 h;exact ((hx.row y hy).2 m0 e).1 rfl)
   have hlen:x.m.hds.length=x.l.length:=by rw[<- hx.hds,A0E]
   rw[hq,P3, <- hm]at h1;have g:=B1k (ds:=ds) (a:=i) (junk:=[]) (xs:=x.m.hds.map Hd.v) (u:=4) (u':=4) h1 (by rw[A1H];exact c2) hone (by rw[A0E,hlen]) (A2u _) b1;rw[hfr]at g;have hoth:∀ j,¬ j=m0->j ∉ x.ids->((X1.del i).upd m0 ⟨4,true,A3 ((M1++[x.m]).map Md.v)++A3 (Q.map moV)⟩) j=X j:=fun j e1 e2=>by
    rw[hids]at e2;rw[A6 e1,X9 (fun h=>e2 (by rw[h];exact A0K)),c3 j (fun h=>e2 (by rw[h];exact A0K)) (fun h=>e2 (A0H _ h))]
   obtain⟨X',a1,a2,a3⟩:=A5p Q (M1++[x.m]) _ A0 (fun z hz=>(h2 z (A0H _ hz)).of fun j e h=>hoth j e fun h'=>n3 j h' j (A2X.2 ⟨z,hz,h⟩) rfl) n2;refine⟨X',(c1.trans g).trans a1,by rw[a2,A0T];rfl,fun j e1 e2=>?_⟩;rw[A1B]at e2;rw[a3 j e1 (fun h=>e2 (A0W.2 (.inr h)))];exact hoth j e1 fun h=>e2 (A0W.2 (.inl h))
theorem C1x{a:Nat}{x z:MO}:∀ {Q:List MO} {i j:Nat},(Q.flatMap MO.ids).Nodup->Q[i]? = some x->Q[j]? = some z->¬ i=j->a∈x.ids->a∈z.ids->False
 |[],i,j,_,h,_,_,_,_=>by simp at h
 |q :: Q,0,0,_,_,_,h,_,_=>h rfl
 |q :: Q,0,j+1,hn,h1,h2,_,ha,hz=>by
  rw[A1B]at hn;have h1:q=x:=by simpa using h1
  subst h1;exact (A2J.1 hn).2.2 a ha a (A2X.2 ⟨z,A0M (by simpa using h2),hz⟩) rfl
 |q :: Q,i+1,0,hn,h1,h2,_,ha,hz=>by
  rw[A1B]at hn;have h2:q=z:=by simpa using h2
  subst h2;exact (A2J.1 hn).2.2 a hz a (A2X.2 ⟨x,A0M (by simpa using h1),ha⟩) rfl
 |q :: Q,i+1,j+1,hn,h1,h2,h,ha,hz=>by
  rw[A1B]at hn;exact C1x (A2J.1 hn).2.1 (by simpa using h1) (by simpa using h2) (by omega) ha hz
theorem C7h{b:Nat}{y w:HO}:∀ {l:List HO} {i j:Nat},(l.filterMap (·.2)).Nodup->l[i]? = some y->l[j]? = some w->¬ i=j->y.2=some b->w.2=some b->False
 |[],i,j,_,h,_,_,_,_=>by simp at h
 |q :: Q,0,0,_,_,_,h,_,_=>h rfl
 |q :: Q,0,j+1,hn,h1,h2,_,ha,hz=>by
  have h1:q=y:=by simpa using h1
  subst h1;rw[A2T,ha]at hn;exact (A2G.1 hn).1 (A1G.2 ⟨w,A0M (by simpa using h2),hz⟩)
 |q :: Q,i+1,0,hn,h1,h2,_,ha,hz=>by
  have h2:q=w:=by simpa using h2
  subst h2;rw[A2T,hz]at hn;exact (A2G.1 hn).1 (A1G.2 ⟨y,A0M (by simpa using h1),ha⟩)
 |q :: Q,i+1,j+1,hn,h1,h2,h,ha,hz=>by
  refine C7h (l:=Q) ?_ (by simpa using h1) (by simpa using h2) (by omega) ha hz;rw[A2T]at hn;split at hn
  ·exact hn
  ·exact (A2G.1 hn).2
theorem A4f{α β : Type}{f : α -> β}{x x' : α}(hf:f x'=f x):∀ {Q:List α} {i:Nat},Q[i]? = some x->(Q.set i x').map f=Q.map f
 |[],i,h=>by simp at h
 |q :: Q,0,h=>by
  have h:q=x:=by simpa using h
  subst h;simp[hf]
 |q :: Q,i+1,h=>by
  simp only[A4C,A0U];rw[A4f hf (by simpa using h)]
theorem C4n{x x':MO}(hf:x'.ids=x.ids){Q:List MO}{i:Nat}(h:Q[i]? = some x):(Q.set i x').flatMap MO.ids=Q.flatMap MO.ids:=by
 rw[List.flatMap_def,List.flatMap_def,A4f hf h]
theorem C8x{y y':HO}(hf:y'.2=y.2){l:List HO}{i:Nat}(h:l[i]? = some y):(l.set i y').filterMap (·.2)=l.filterMap (·.2):=by
 have e:∀ l:List HO,l.filterMap (·.2)=(l.map (·.2)).filterMap id:=fun l=>by rw[List.filterMap_map];rfl
 rw[e,e,A4f hf h]
structure OX (X:Hp) (m0:Nat) (Q:List MO):Prop where
 blk:X m0=some ⟨4,true,A3 (Q.map moV)⟩
 row:∀ x∈Q,MX X m0 x
 nd:(Q.flatMap MO.ids).Nodup
theorem B5m{Q:List MO}(hn:(Q.flatMap MO.ids).Nodup):∀ x∈Q,x.ids.Nodup:=by
 induction Q with
 |nil=>intro x hx;cases hx
 |cons q Q ih =>
  rw[A1B]at hn;intro x hx;rcases A1E.1 hx with rfl|hx
  ·exact (A2J.1 hn).1
  ·exact ih (A2J.1 hn).2.1 x hx
def MO.put(x:MO)(k:Nat)(y:HO):MO:=⟨⟨x.m.name,x.m.prio,x.m.hds.set k y.1,x.m.pos⟩,x.o,x.l.set k y⟩
theorem MX.get{X:Hp}{m0:Nat}{x:MO}(h:MX X m0 x){j:Nat}(hj:j∈x.ids):∃ B,X j=some B:=by
 rcases A0W.1 hj with hj|hj
 ·exact⟨_,(h.own j (by simpa using hj)).2⟩
 ·obtain⟨y,hy,e⟩:=A1G.1 hj;exact⟨_,((h.row y hy).2 j e).2⟩
theorem OX.put{X X':Hp}{m0 i k hb:Nat}{Q:List MO}{x:MO}{y y':HO}(h:OX X m0 Q)(hi:Q[i]? = some x)(hk:x.l[k]? = some y)(hy:y'.2=y.2)(hn:y.2=none->y'.1.body=[])(ho:x.o=some hb)
  (h0:X' m0=X m0) (h1:X' hb=some (B3f (x.l.set k y'))) (h2:∀ b,y.2=some b->X' b=some (B1o y'.1)) (h3:∀ j b,X j=some b->¬ j=hb->y.2≠some j->X' j=some b):OX X' m0 (Q.set i (x.put k y')):=by
 have hxm:=A0M hi;have hym:=A0M hk;have hx:=h.row x hxm;have hnx:=B5m h.nd x hxm;have hids:(x.put k y').ids=x.ids:=by unfold MO.ids MO.put;rw[C8x hy hk]
 have hxi:x.ids=hb :: x.l.filterMap (·.2):=by unfold MO.ids;rw[ho];rfl
 refine⟨?_,fun z hz=>?_,by rw[C4n hids hi];exact h.nd⟩
 ·rw[h0,h.blk,A4f (f:=moV) (x:=x) ?_ hi];simp only[moV,MO.put,A3Q]
 ·obtain⟨j,hj⟩:=List.getElem?_of_mem hz;rw[hxi]at hnx;have hnx:=A2G.1 hnx;by_cases e:j=i
  ·subst e;rw[A3H (A0P.1 hi).1]at hj;obtain rfl:=Option.some.inj hj;refine⟨?_,fun e=>?_,fun i' e=>?_,fun w hw=>?_⟩
   ·show (x.l.set k y').map (·.1)=x.m.hds.set k y'.1;rw[List.map_set,hx.hds]
   ·have e:x.o=none:=e;rw[ho]at e;cases e
   ·have e:x.o=some i':=e;rw[ho]at e;cases e;exact⟨(hx.own hb ho).1,h1⟩
   ·obtain⟨k',hk'⟩:=List.getElem?_of_mem hw;by_cases ek:k'=k
    ·subst ek;have hk':(x.l.set k' y')[k']? = some w:=hk';rw[A3H (A0P.1 hk).1]at hk';obtain rfl:=Option.some.inj hk';refine⟨fun e=>hn (by rw[<- hy];exact e),fun b e=>?_⟩;rw[hy]at e;exact⟨((hx.row y hym).2 b e).1,h2 b e⟩
    ·have hk':(x.l.set k y')[k']? = some w:=hk';rw[A3Z (by omega)]at hk';have hwm:=A0M hk';refine⟨(hx.row w hwm).1,fun b e=>?_⟩;obtain⟨b1,b2⟩:=(hx.row w hwm).2 b e;exact⟨b1,h3 b _ b2 (fun e2=>hnx.1 (A1G.2 ⟨w,hwm,by rw[e,e2]⟩)) (fun e2=>C7h hnx.2 hk hk' (by omega) e2 e)⟩
  ·rw[A3Z (by omega)]at hj;refine (h.row z (A0M hj)).of fun a e1 e2=>?_;obtain⟨B,hB⟩:=(h.row z (A0M hj)).get e2;rw[hB];refine h3 a B hB (fun e3=>?_) (fun e3=>?_)
   ·exact C1x h.nd hi hj (by omega) (a:=a) (by rw[hxi,e3];exact A0K) e2
   ·exact C1x h.nd hi hj (by omega) (a:=a) (by rw[hxi];exact A0H _ (A1G.2 ⟨y,hym,e3⟩)) e2
def A8v(i k i' k':Nat):Prop:=i'<i\/(i'=i/\k'<k)
structure RelQ (Q Q0:List MO) (i k:Nat):Prop where
 len:Q.length=Q0.length
 row:∀ (j:Nat) (x x0:MO),Q[j]? = some x->Q0[j]? = some x0->x.m.name=x0.m.name/\x.l.length=x0.l.length/\x.l.map (·.1)=x.m.hds/\∀ (n:Nat) (y y0:HO),x.l[n]? = some y->x0.l[n]? = some y0->y.1.sz<=2 * y0.1.sz+60/\(¬ A8v i k j n->y=y0)
theorem RelQ.zero{Q:List MO}(h:∀ x∈Q,x.l.map (·.1)=x.m.hds):RelQ Q Q 0 0 :=
 ⟨rfl,fun j x x0 h1 h2=>by
  rw[h1]at h2;cases h2;refine⟨rfl,rfl,h x (A0M h1),fun n y y0 h3 h4=>?_⟩;rw[h3]at h4;cases h4;exact⟨by omega,fun _=>rfl⟩⟩
theorem RelQ.weak{Q Q0:List MO}{i k i' k':Nat}(h:RelQ Q Q0 i k)(hv:∀ j n,¬ A8v i' k' j n->¬ A8v i k j n):RelQ Q Q0 i' k' :=
 ⟨h.len,fun j x x0 h1 h2=>by
  obtain⟨a,b,c,d⟩:=h.row j x x0 h1 h2;exact⟨a,b,c,fun n y y0 h3 h4=>⟨(d n y y0 h3 h4).1,fun h5=>(d n y y0 h3 h4).2 (hv j n h5)⟩⟩⟩
theorem RelQ.skip{Q Q0:List MO}{i k:Nat}(h:RelQ Q Q0 i k):RelQ Q Q0 i (k+1):=h.weak fun j n h h'=>h (by unfold A8v at *;omega)
theorem RelQ.next{Q Q0:List MO}{i k:Nat}(h:RelQ Q Q0 i k):RelQ Q Q0 (i+1) 0:=h.weak fun j n h h'=>h (by unfold A8v at *;omega)
theorem RelQ.put{Q Q0:List MO}{i k:Nat}{x:MO}{y y':HO}(h:RelQ Q Q0 i k)(hi:Q[i]? = some x)(hk:x.l[k]? = some y)(hs:y'.1.sz<=2 * y.1.sz+60):RelQ (Q.set i (x.put k y')) Q0 i (k+1):=by
 refine⟨by rw[A3Q];exact h.len,fun j z z0 h1 h2=>?_⟩;by_cases e:j=i
 ·subst e;rw[A3H (A0P.1 hi).1]at h1;obtain rfl:=Option.some.inj h1;obtain⟨a,b,c,d⟩:=h.row j x z0 hi h2;refine⟨a,by rw[<- b];exact A3Q,by show (x.l.set k y').map (·.1)=x.m.hds.set k y'.1;rw[List.map_set,c],fun n w w0 h3 h4=>?_⟩;have h3:(x.l.set k y')[n]? = some w:=h3;by_cases e2:n=k
  ·subst e2;rw[A3H (A0P.1 hk).1]at h3;obtain rfl:=Option.some.inj h3;obtain rfl:=(d n y w0 hk h4).2 (by unfold A8v;omega);exact⟨hs,fun h5=>absurd (by unfold A8v;omega) h5⟩
  ·rw[A3Z (by omega)]at h3;exact⟨(d n w w0 h3 h4).1,fun h5=>(d n w w0 h3 h4).2 fun h6=>h5 (by unfold A8v at *;omega)⟩
 ·rw[A3Z (by omega)]at h1;obtain⟨a,b,c,d⟩:=h.row j z z0 h1 h2;exact⟨a,b,c,fun n w w0 h3 h4=>⟨(d n w w0 h3 h4).1,fun h5=>(d n w w0 h3 h4).2 fun h6=>h5 (by unfold A8v at *;omega)⟩⟩
theorem C0i:∀ (l l0:List HO),l.length=l0.length->(∀ (n:Nat) (y y0:HO),l[n]? = some y->l0[n]? = some y0->y.1.sz<=2 * y0.1.sz+60)->((l.map (·.1)).map Hd.sz).sum<=2 * ((l0.map (·.1)).map Hd.sz).sum+60 * l.length
 |[],l0,h,_=>by simp
 |y :: l,[],h,_=>by simp at h
 |y :: l,y0 :: l0,h,hr=>by
  have h1:=hr 0 y y0 rfl rfl;have h2:=C0i l l0 (by simpa using h) fun n a b h3 h4=>hr (n+1) a b (by simpa using h3) (by simpa using h4);simp only[A0U,A3J,A0I];omega
theorem C0h:∀ (Q Q0:List MO),Q.length=Q0.length->(∀ (j:Nat) (x x0:MO),Q[j]? = some x->Q0[j]? = some x0->x.m.name=x0.m.name/\(x.m.hds.map Hd.sz).sum<=2 * (x0.m.hds.map Hd.sz).sum+60 * 32)->((Q.map (·.m)).map Md.sz).sum<=2 * ((Q0.map (·.m)).map Md.sz).sum+1920 * Q.length
 |[],l0,h,_=>by simp
 |y :: l,[],h,_=>by simp at h
 |y :: l,y0 :: l0,h,hr=>by
  obtain⟨h0,h1⟩:=hr 0 y y0 rfl rfl;have h2:=C0h l l0 (by simpa using h) fun n a b h3 h4=>hr (n+1) a b (by simpa using h3) (by simpa using h4);simp only[A0U,A3J,A0I,Md.sz,h0];omega
theorem RelQ.sz{Q Q0:List MO}{i k:Nat}(h:RelQ Q Q0 i k)(h0:∀ x∈Q0,x.l.map (·.1)=x.m.hds/\x.l.length<=32)(hl:Q0.length<=16):((Q.map (·.m)).map Md.sz).sum<=2 * ((Q0.map (·.m)).map Md.sz).sum+30720:=by
 have:=C0h Q Q0 h.len fun j x x0 h1 h2=>by
  obtain⟨a,b,c,d⟩:=h.row j x x0 h1 h2;obtain⟨e1,e2⟩:=h0 x0 (A0M h2);have:=C0i x.l x0.l b fun n y y0 h3 h4=>(d n y y0 h3 h4).1;rw[c,e1]at this;exact⟨a,by omega⟩
 have h3:=h.len;omega
theorem B6k{s s':Pb.St}:∀ {ss:List Pb.St} {i:Nat},ss[i]? = some s->Pb.St.szs (ss.set i s')+s.sz=Pb.St.szs ss+s'.sz
 |[],i,h=>by simp at h
 |q :: ss,0,h=>by
  have h:q=s:=by simpa using h
  subst h;rw[List.set_cons_zero,Pb.St.szs,Pb.St.szs];omega
 |q :: ss,i+1,h=>by
  rw[A4C,Pb.St.szs,Pb.St.szs];have:=B6k (s':=s') (ss:=ss) (i:=i) (by simpa using h);omega
def Hd.at(h:Hd)(n:Nat)(s:Pb.St):Hd:=⟨h.trig,h.name,h.body.set n s,h.pos⟩
theorem D6j{h:Hd}{n:Nat}{s s':Pb.St}(hn:h.body[n]? = some s)(hs:s'.sz<=2 * s.sz+10):(Hd.at h n s').sz<=2 * h.sz+60:=by
 have h1:=B6k (s':=s') hn;have h2:s.sz<=Pb.St.szs h.body:=Pb.St.szs_mem (A0M hn);unfold Hd.at Hd.sz;dsimp only;omega
theorem B7m{Q:List MO}{i:Nat}{x:MO}(h:Q[i]? = some x):(A3 (Q.map moV))[i * 4+2]? = some (A8 x.o x.l.length):=by
 rw[A3b (B7l Q) (r:=moV x) (by simp[h]) (by decide)];rfl
theorem C6c{l:List HO}{k:Nat}{y:HO}(h:l[k]? = some y):(A3 (l.map hoV))[k * 4+2]? = some (A8 y.2 y.1.body.length):=by
 rw[A3b (A4u l) (r:=hoV y) (by simp[h]) (by decide)];rfl
theorem A7b{ss:List Pb.St}{n f:Nat}{s:Pb.St}(h:ss[n]? = some s)(hf:f<7):(A3 (ss.map Pb.St.v))[n * 7+f]? = s.w.cells[f]? := by
 rw[A3b (Q7 ss) (r:=s.v) (by simp[h]) hf,Pb.St.v_w]
theorem C0l{ss:List Pb.St}{n f:Nat}{s s':Pb.St}{v:DV}(h:ss[n]? = some s)(hf:f<7)(hv:v.cells=[v])(hs:s'.w.cells=s.w.cells.set f v):
  (A3 (ss.map Pb.St.v)).take (n * 7+f)++v.cells++(A3 (ss.map Pb.St.v)).drop (n * 7+f+1)=A3 ((ss.set n s').map Pb.St.v):=by
 rw[A3z (r:=s.v) (r':=s'.v) (by rw[Pb.St.v_w,Pb.St.v_w];exact hs) hv (Q7 ss) (by simp[h]) hf,List.map_set]
theorem B0q(ss:List Pb.St):(A3 (ss.map Pb.St.v)).length=ss.length * 7:=by rw[C0 (u:=7) (Q7 _),A0E]
theorem D1i(l:List HO):(A3 (l.map hoV)).length=l.length * 4:=by rw[C0 (u:=4) (A4u _),A0E]
theorem B2c{ss:List Pb.St}{n f:Nat}{s s':Pb.St}{v:DV}(h:ss[n]? = some s)(hf:f<7)(hv:v.cells=[v])(h1:v.one=true)(hs:s'.w.cells=s.w.cells.set f v)(X:Hp)(d b:Nat):
  Sym.stB X d b 1 (n * 7+f) v (some ⟨7,true,A3 (ss.map Pb.St.v)⟩)=some (.tup [],X.upd b ⟨7,true,A3 ((ss.set n s').map Pb.St.v)⟩,d):=by
 have hn:=(A0P.1 h).1;exact (A3j (i:=1) (by rw[hv];rfl) (by rw[B0q];omega) (by rw[hv];simp[h1])).trans (by rw[C0l h hf hv hs])
theorem D4v{l:List HO}{k:Nat}{y:HO}{v:Int}(h:l[k]? = some y)(X:Hp)(d b:Nat):
  Sym.stB X d b 1 (k * 4) (I64 v) (some ⟨4,true,A3 (l.map hoV)⟩)=some (.tup [],X.upd b ⟨4,true,A3 ((l.set k (⟨v,y.1.name,y.1.body,y.1.pos⟩,y.2)).map hoV)⟩,d):=by
 have hn:=(A0P.1 h).1;have hp:=A3z (u:=4) (j:=0) (r:=hoV y) (r':=hoV (⟨v,y.1.name,y.1.body,y.1.pos⟩,y.2)) (v:=I64 v) rfl rfl (A4u l) (i:=k) (by simp[h]) (by decide);rw[A2V]at hp;exact (A3j (i:=1) rfl (by rw[D1i];omega) rfl).trans (by rw[hp,List.map_set])
open Go.Sym
abbrev x27:XT Tryz.prog 27:=mkF
instance t27:FT Tryz.prog 27 x27.d:=x27.ft
abbrev x29:XT Tryz.prog 29:=mkF
instance t29:FT Tryz.prog 29 x29.d:=x29.ft
abbrev x137:XT Tryz.prog 137:=mkF
instance t137:FT Tryz.prog 137 x137.d:=x137.ft
abbrev x147:XT Tryz.prog 147:=mkF
instance t147:FT Tryz.prog 147 x147.d:=x147.ft
abbrev x117:XT Tryz.prog 117:=mkF
instance t117:FT Tryz.prog 117 x117.d:=x117.ft
abbrev x115:XT Tryz.prog 115:=mkF
instance t115:FT Tryz.prog 115 x115.d:=x115.ft
abbrev x98:XT Tryz.prog 98:=mkF
instance t98:FT Tryz.prog 98 x98.d:=x98.ft
abbrev x70:XT Tryz.prog 70:=mkF
instance t70:FT Tryz.prog 70 x70.d:=x70.ft
abbrev x112:XT Tryz.prog 112:=mkF
instance t112:FT Tryz.prog 112 x112.d:=x112.ft
abbrev x35:XT Tryz.prog 35:=mkF
instance t35:FT Tryz.prog 35 x35.d:=x35.ft
abbrev x31:XT Tryz.prog 31:=mkF
instance t31:FT Tryz.prog 31 x31.d:=x31.ft
abbrev x30:XT Tryz.prog 30:=mkF
instance t30:FT Tryz.prog 30 x30.d:=x30.ft
abbrev x61:XT Tryz.prog 61:=mkF
instance t61:FT Tryz.prog 61 x61.d:=x61.ft
abbrev x9:XT Tryz.prog 9:=mkF
instance t9:FT Tryz.prog 9 x9.d:=x9.ft
abbrev x10:XT Tryz.prog 10:=mkF
instance t10:FT Tryz.prog 10 x10.d:=x10.ft
abbrev x53:XT Tryz.prog 53:=mkF
instance t53:FT Tryz.prog 53 x53.d:=x53.ft
abbrev x54:XT Tryz.prog 54:=mkF
instance t54:FT Tryz.prog 54 x54.d:=x54.ft
abbrev x55:XT Tryz.prog 55:=mkF
instance t55:FT Tryz.prog 55 x55.d:=x55.ft
abbrev x131:XT Tryz.prog 131:=mkF
instance t131:FT Tryz.prog 131 x131.d:=x131.ft
abbrev x52:XT Tryz.prog 52:=mkF
instance t52:FT Tryz.prog 52 x52.d:=x52.ft
abbrev x173:XT Tryz.prog 173:=mkF
instance t173:FT Tryz.prog 173 x173.d:=x173.ft
abbrev x156:XT Tryz.prog 156:=mkF
instance t156:FT Tryz.prog 156 x156.d:=x156.ft
abbrev x130:XT Tryz.prog 130:=mkF
instance t130:FT Tryz.prog 130 x130.d:=x130.ft
abbrev x57:XT Tryz.prog 57:=mkF
instance t57:FT Tryz.prog 57 x57.d:=x57.ft
abbrev x93:XT Tryz.prog 93:=mkF
instance t93:FT Tryz.prog 93 x93.d:=x93.ft
abbrev x51:XT Tryz.prog 51:=mkF
instance t51:FT Tryz.prog 51 x51.d:=x51.ft
abbrev x24:XT Tryz.prog 24:=mkF
instance t24:FT Tryz.prog 24 x24.d:=x24.ft
abbrev x8:XT Tryz.prog 8:=mkF
instance t8:FT Tryz.prog 8 x8.d:=x8.ft
abbrev x95:XT Tryz.prog 95:=mkF
instance t95:FT Tryz.prog 95 x95.d:=x95.ft
abbrev x59:XT Tryz.prog 59:=mkF
instance t59:FT Tryz.prog 59 x59.d:=x59.ft
abbrev x26:XT Tryz.prog 26:=mkF
instance t26:FT Tryz.prog 26 x26.d:=x26.ft
abbrev x132:XT Tryz.prog 132:=mkF
instance t132:FT Tryz.prog 132 x132.d:=x132.ft
abbrev x94:XT Tryz.prog 94:=mkF
instance t94:FT Tryz.prog 94 x94.d:=x94.ft
abbrev x58:XT Tryz.prog 58:=mkF
instance t58:FT Tryz.prog 58 x58.d:=x58.ft
abbrev x25:XT Tryz.prog 25:=mkF (i:=⟨135,.seq (.reg [oX 2 0,oX 3 1,oV 4 (.bool false)]) (.seq (.seq (.reg [oF 12 2 0,oL 13 12,oH 14 13,oF 15 3 0,oL 16 15,oH 17 16,oB 18 14 17 .neq,oM 19 18,hF 20 2 1 19,hL 21 20 19,oR 22 (.len (.t 21)) 19,hF 23 3 1 19,hL 24 23 19,oR 25 (.len (.t 24)) 19,oR 26 (.bin .neq (.t 22) (.t 25)) 19,oO 27 19 26]) (.cond (.t 27) (.seq (.reg [oV 4 (.bool false)]) .ret) .skip)) (.seq (.seq (.reg [oI 5 0]) (.blk 0 (.loop (.seq (.seq (.reg [oM 28 5,oF 29 2 0,oL 30 29,oH 31 30,oB 32 28 31 .lss]) (.cond (.t 32) .skip (.exit 0))) (.seq (.blk 1 (.seq (.drw 11 (dQ [oF 35 2 0,oL 36 35,oM 37 5,oA 38 36 37 4,oD 39 38 4,oF 40 3 0,oL 41 40,oM 42 5,oA 43 41 42 4,oD 44 43 4,oP 45 (.eqa true [0,2,0,0] (.t 39) (.t 44))] 0)) (.cond (.t 45) (.seq (.reg [oV 4 (.bool false)]) .ret) .skip))) (.reg [oM 33 5,oK 34 33 .add 1,oM 5 34])))))) (.seq (.seq (.reg [oI 6 0]) (.blk 2 (.loop (.seq (.seq (.reg [oM 46 6,oF 47 2 1,oL 48 47,oH 49 48,oB 50 46 49 .lss]) (.cond (.t 50) .skip (.exit 2))) (.seq (.blk 3 (.seq (.drw 14 ⟨[oF 53 2 1,oL 54 53,oM 55 6,oA 56 54 55 4,oD 57 56 4,oF 58 3 1,oL 59 58,oM 60 6,oA 61 59 60 4,oD 62 61 4,oW 7 (.agg #[.string ⟨#[]⟩,.int .i64 0,.slice none 0 0,.int .i64 0]),oW 8 (.agg #[.string ⟨#[]⟩,.int .i64 0,.slice none 0 0,.int .i64 0]),oS 7 57 4,oS 8 62 4],[],[(0,none),(1,none),(2,none),(3,none),(4,none),(5,none),(6,none),(7,none),(8,none),(9,none),(10,none),(11,none),(12,some [5,6,7,8,9]),(13,some [])]⟩) (.seq (.seq (.reg [oF 63 7 0,oL 64 63,oF 65 8 0,oL 66 65,oB 67 64 66 .neq,oM 68 67,hF 69 7 1 68,hL 70 69 68,hF 71 8 1 68,hL 72 71 68,oR 73 (.bin .neq (.t 70) (.t 72)) 68,oO 74 68 73,oM 75 74,hF 76 7 3 75,hL 77 76 75,hF 78 8 3 75,hL 79 78 75,oR 80 (.bin .neq (.t 77) (.t 79)) 75,oO 81 75 80,oM 82 81,hF 83 7 2 82,hL 84 83 82,oR 85 (.len (.t 84)) 82,hF 86 8 2 82,hL 87 86 82,oR 88 (.len (.t 87)) 82,oR 89 (.bin .neq (.t 85) (.t 88)) 82,oO 90 82 89]) (.cond (.t 90) (.seq (.reg [oV 4 (.bool false)]) .ret) .skip)) (.seq (.reg [oI 9 0]) (.blk 4 (.loop (.seq (.seq (.reg [oM 91 9,oF 92 7 2,oL 93 92,oH 94 93,oB 95 91 94 .lss]) (.cond (.t 95) .skip (.exit 4))) (.seq (.blk 5 (.seq (.drw 14 ⟨[oF 98 7 2,oL 99 98,oM 100 9,oA 101 99 100 4,oD 102 101 4,oF 103 8 2,oL 104 103,oM 105 9,oA 106 104 105 4,oD 107 106 4,oW 10 (.agg #[.int .i64 0,.string ⟨#[]⟩,.slice none 0 0,.int .i64 0]),oW 11 (.agg #[.int .i64 0,.string ⟨#[]⟩,.slice none 0 0,.int .i64 0]),oS 10 102 4,oS 11 107 4],[],[(0,none),(1,none),(2,none),(3,none),(4,none),(5,none),(6,none),(7,none),(8,none),(9,none),(10,none),(11,none),(12,some [5,6,7,8,9]),(13,some [])]⟩) (.seq (.reg [oF 108 10 0,oL 109 108,oF 110 11 0,oL 111 110,oB 112 109 111 .neq,oM 113 112,hF 114 10 1 113,hL 115 114 113,hF 116 11 1 113,hL 117 116 113,oR 118 (.bin .neq (.t 115) (.t 117)) 113,oO 119 113 118,oM 120 119,hF 121 10 3 120,hL 122 121 120,hF 123 11 3 120,hL 124 123 120,oR 125 (.bin .neq (.t 122) (.t 124)) 120,oO 126 120 125,oM 127 126,hF 128 10 2 127,hL 129 128 127,hF 130 11 2 127,hL 131 130 127,⟨some 132,.call 58 [.t 129,.t 131],some (127,false)⟩,oR 133 (.un .not (.t 132)) 127,oO 134 127 133]) (.cond (.t 134) (.seq (.reg [oV 4 (.bool false)]) .ret) .skip)))) (.reg [oM 96 9,oK 97 96 .add 1,oM 9 97]))))))))) (.reg [oM 51 6,oK 52 51 .add 1,oM 6 52])))))) (.seq (.reg [oV 4 (.bool true)]) .ret)))),[.tmp 4]⟩) (by unfold M8;kernel_rfl) (fun h=>by conv=>lhs;cbv)
instance t25:FT Tryz.prog 25 x25.d:=x25.ft
abbrev x111:XT Tryz.prog 111:=mkF
instance t111:FT Tryz.prog 111 x111.d:=x111.ft
abbrev x69:XT Tryz.prog 69:=mkF
instance t69:FT Tryz.prog 69 x69.d:=x69.ft
abbrev x118:XT Tryz.prog 118:=mkF
instance t118:FT Tryz.prog 118 x118.d:=x118.ft
abbrev x114:XT Tryz.prog 114:=mkF
instance t114:FT Tryz.prog 114 x114.d:=x114.ft
abbrev x113:XT Tryz.prog 113:=mkF
instance t113:FT Tryz.prog 113 x113.d:=x113.ft
abbrev x97:XT Tryz.prog 97:=mkF
instance t97:FT Tryz.prog 97 x97.d:=x97.ft
abbrev x128:XT Tryz.prog 128:=mkF
instance t128:FT Tryz.prog 128 x128.d:=x128.ft
abbrev x50:XT Tryz.prog 50:=mkF
instance t50:FT Tryz.prog 50 x50.d:=x50.ft
abbrev x89:XT Tryz.prog 89:=mkF
instance t89:FT Tryz.prog 89 x89.d:=x89.ft
abbrev x90:XT Tryz.prog 90:=mkF
instance t90:FT Tryz.prog 90 x90.d:=x90.ft
abbrev x127:XT Tryz.prog 127:=mkF
instance t127:FT Tryz.prog 127 x127.d:=x127.ft
abbrev x20:XT Tryz.prog 20:=mkF
instance t20:FT Tryz.prog 20 x20.d:=x20.ft
abbrev x23:XT Tryz.prog 23:=mkF
instance t23:FT Tryz.prog 23 x23.d:=x23.ft
abbrev x7:XT Tryz.prog 7:=mkF
instance t7:FT Tryz.prog 7 x7.d:=x7.ft
abbrev x19:XT Tryz.prog 19:=mkF
instance t19:FT Tryz.prog 19 x19.d:=x19.ft
abbrev x22:XT Tryz.prog 22:=mkF
instance t22:FT Tryz.prog 22 x22.d:=x22.ft
abbrev x18:XT Tryz.prog 18:=mkF
instance t18:FT Tryz.prog 18 x18.d:=x18.ft
abbrev x47:XT Tryz.prog 47:=mkF
instance t47:FT Tryz.prog 47 x47.d:=x47.ft
abbrev x21:XT Tryz.prog 21:=mkF
instance t21:FT Tryz.prog 21 x21.d:=x21.ft
abbrev x49:XT Tryz.prog 49:=mkF
instance t49:FT Tryz.prog 49 x49.d:=x49.ft
abbrev x88:XT Tryz.prog 88:=mkF
instance t88:FT Tryz.prog 88 x88.d:=x88.ft
abbrev x125:XT Tryz.prog 125:=mkF
instance t125:FT Tryz.prog 125 x125.d:=x125.ft
abbrev x126:XT Tryz.prog 126:=mkF
instance t126:FT Tryz.prog 126 x126.d:=x126.ft
abbrev x155:XT Tryz.prog 155:=mkF
instance t155:FT Tryz.prog 155 x155.d:=x155.ft
abbrev x5:XT Tryz.prog 5:=mkF
instance t5:FT Tryz.prog 5 x5.d:=x5.ft
abbrev x15:XT Tryz.prog 15:=mkF
instance t15:FT Tryz.prog 15 x15.d:=x15.ft
abbrev x45:XT Tryz.prog 45:=mkF
instance t45:FT Tryz.prog 45 x45.d:=x45.ft
abbrev x123:XT Tryz.prog 123:=mkF
instance t123:FT Tryz.prog 123 x123.d:=x123.ft
abbrev x122:XT Tryz.prog 122:=mkF
instance t122:FT Tryz.prog 122 x122.d:=x122.ft
abbrev x83:XT Tryz.prog 83:=mkF
instance t83:FT Tryz.prog 83 x83.d:=x83.ft
abbrev x46:XT Tryz.prog 46:=mkF
instance t46:FT Tryz.prog 46 x46.d:=x46.ft
abbrev x17:XT Tryz.prog 17:=mkF
instance t17:FT Tryz.prog 17 x17.d:=x17.ft
abbrev x6:XT Tryz.prog 6:=mkF
instance t6:FT Tryz.prog 6 x6.d:=x6.ft
abbrev x3:XT Tryz.prog 3:=mkF
instance t3:FT Tryz.prog 3 x3.d:=x3.ft
end Go.Proofs.YtmmjlijdfhkdcaaGreatDoor
set_option maxHeartbeats 8000000
namespace Go.Proofs.YtmmjlijdfhkdcaaGreatDoor
open Go.Eng (IC IOper DReg IFn M8)
open Go.Sym Go.Pb
structure LI (X:Hp) (c m0 rb xb:Nat) (D:List Dc) (a0 a1 a2 a3:Int) (Q:List MO):Prop where
 ox:OX X m0 Q
 r:X rb=some ⟨0,true,[E3 D,.slc m0 0 Q.length]⟩
 x:X xb=some ⟨0,true,[.int .u8 a0,.int .u8 a1,.int .u8 a2,.int .u8 a3]⟩
 fr:∀ j,c<=j->X j=none
theorem LI.lt{X:Hp}{c m0 rb xb:Nat}{D:List Dc}{a0 a1 a2 a3:Int}{Q:List MO}(h:LI X c m0 rb xb D a0 a1 a2 a3 Q){j:Nat}{b:Blk}(hj:X j=some b):j<c :=
 Classical.byContradiction fun h'=>by rw[h.fr j (by omega)]at hj;cases hj
theorem LI.mono{X:Hp}{c c' m0 rb xb:Nat}{D:List Dc}{a0 a1 a2 a3:Int}{Q:List MO}(h:LI X c m0 rb xb D a0 a1 a2 a3 Q)(hc:c<=c'):LI X c' m0 rb xb D a0 a1 a2 a3 Q:=⟨h.ox,h.r,h.x,fun j hj=>h.fr j (by omega)⟩
theorem LI.body{X X':Hp}{c c' m0 rb xb i k hb bb:Nat}{D:List Dc}{a0 a1 a2 a3:Int}{Q:List MO}{x:MO}{y:HO}(h:LI X c m0 rb xb D a0 a1 a2 a3 Q)(hi:Q[i]? = some x)(hk:x.l[k]? = some y)(ho:x.o=some hb)(hb':y.2=some bb){ss:List Pb.St}(hl:ss.length=y.1.body.length)
  (h1:X' bb=some ⟨7,true,A3 (ss.map Pb.St.v)⟩) (h2:∀ j b,X j=some b->¬ j=bb->X' j=some b) (h3:∀ j,c'<=j->X' j=none):LI X' c' m0 rb xb D a0 a1 a2 a3 (Q.set i (x.put k (⟨y.1.trig,y.1.name,ss,y.1.pos⟩,y.2))):=by
 have hxm:=A0M hi;have hym:=A0M hk;have hX:=h.ox.row x hxm;obtain⟨b1,b2⟩:=hX.own hb ho;obtain⟨b3,b4⟩:=(hX.row y hym).2 bb hb';have hne:¬ hb=bb:=fun e=>by
  have:=B5m h.ox.nd x hxm;unfold MO.ids at this;rw[ho]at this;exact (A2G.1 this).1 (A1G.2 ⟨y,hym,by rw[hb',e]⟩)
 have hrb:¬ rb=bb:=fun e=>by have:=h.r;rw[e,b4]at this;simp at this
 have hxb:¬ xb=bb:=fun e=>by have:=h.x;rw[e,b4]at this;simp at this
 refine⟨h.ox.put hi hk (y':=(⟨y.1.trig,y.1.name,ss,y.1.pos⟩,y.2)) rfl (fun e=>by rw[hb']at e;cases e) ho ?_ ?_ (fun b e=>by rw[hb']at e;cases e;exact h1) (fun j b e1 e2 e3=>h2 j b e1 (fun e=>e3 (by rw[hb',e]))),by rw[A3Q];exact h2 _ _ h.r hrb,h2 _ _ h.x hxb,h3⟩
 ·rw[h.ox.blk];exact h2 _ _ h.ox.blk (fun e=>b3 e.symm)
 ·rw[h2 _ _ b2 hne];unfold B3f;rw[A4f (f:=hoV) (x:=y) (by simp only[hoV,hl]) hk]
theorem W0(s:Pb.St):s.sz=1+s.name.length+s.text.length+Ex.szs s.args+Pb.St.szs s.thn+Pb.St.szs s.els:=by cases s;rw[Pb.St.sz];rfl
theorem B6j:∀ l:List Pb.St,l.length<=Pb.St.szs l
 |[]=>A0Z _
 |s :: l=>by
  rw[Pb.St.szs,A0I];have:=W0 s;have:=B6j l;omega
theorem LI.trig{X:Hp}{c m0 rb xb i k hb bb:Nat}{D:List Dc}{a0 a1 a2 a3:Int}{Q:List MO}{x:MO}{y:HO}(h:LI X c m0 rb xb D a0 a1 a2 a3 Q)(hi:Q[i]? = some x)(hk:x.l[k]? = some y)(ho:x.o=some hb)(hb':y.2=some bb)(v:Int):
  LI (X.upd hb ⟨4,true,A3 ((x.l.set k (⟨v,y.1.name,y.1.body,y.1.pos⟩,y.2)).map hoV)⟩) c m0 rb xb D a0 a1 a2 a3 (Q.set i (x.put k (⟨v,y.1.name,y.1.body,y.1.pos⟩,y.2))):=by
 have hxm:=A0M hi;have hym:=A0M hk;have hX:=h.ox.row x hxm;obtain⟨b1,b2⟩:=hX.own hb ho;obtain⟨b3,b4⟩:=(hX.row y hym).2 bb hb';have hne:¬ bb=hb:=fun e=>by
  have:=B5m h.ox.nd x hxm;unfold MO.ids at this;rw[ho]at this;exact (A2G.1 this).1 (A1G.2 ⟨y,hym,by rw[hb',e]⟩)
 have hrb:¬ rb=hb:=fun e=>by have:=h.r;rw[e,b2]at this;simp at this
 have hxb:¬ xb=hb:=fun e=>by have:=h.x;rw[e,b2]at this;simp at this
 refine⟨h.ox.put hi hk (y':=(⟨v,y.1.name,y.1.body,y.1.pos⟩,y.2)) rfl (fun e=>by rw[hb']at e;cases e) ho (A6 (fun e=>b1 e.symm)) A0 (fun b e=>?_) (fun j b e1 e2 e3=>by rw[A6 e2];exact e1),by rw[A3Q,A6 hrb];exact h.r,by rw[A6 hxb];exact h.x,fun j hj=>by rw[A6 (by have:=h.lt b2;omega)];exact h.fr j hj⟩;rw[hb']at e;cases e;rw[A6 hne];exact b4
theorem D0d(l:List Pb.St):∀ d∈A3 (l.map Pb.St.v),d.one=true:=by
 induction l with
 |nil=>intro d hd;cases hd
 |cons x l ih =>
  intro d hd;have:d∈x.v.cells++A3 (l.map Pb.St.v):=hd;rw[Pb.St.v_w]at this;rcases A0W.1 this with h|h
  ·have h:d∈[I64 x.kind,.str x.name,.str x.text,I9 x.args,F4 x.thn,F4 x.els,I64 x.pos]:=h;simp only[A1E,A2F,or_false]at h;rcases h with rfl|rfl|rfl|rfl|rfl|rfl|rfl<;>rfl
  ·exact ih d h
theorem B7u{X0:Hp}{a bb n f m u:Nat}{ss:List Pb.St}{s s':Pb.St}{xs ds:List DV}(hn:ss[n]? = some s)(hf:f<7)(hs':s'.w.cells=s.w.cells.set f (.lst xs))
  (hk:X0 bb=some ⟨7,true,(A3 (ss.map Pb.St.v)).take (n * 7+f)++[.slc a 0 m]++(A3 (ss.map Pb.St.v)).drop (n * 7+f+1)⟩) (ha:X0 a=some ⟨u,true,A3 xs⟩) (hl:xs.length=m) (hu:∀ x∈xs,x.cells.length=u) (hab:¬ a=bb) :
  GL X0 ds ((X0.del a).upd bb ⟨7,true,A3 ((ss.set n s').map Pb.St.v)⟩) ds:=by
 have g:=B1k (ds:=ds) (junk:=[]) hk (by rw[A1H];exact ha) (fun d hd=>D0d ss d (by
  rcases A0W.1 hd with h|h
  ·exact List.mem_of_mem_take h
  ·exact A3M h)) hl hu hab
 rw[show (A3 (ss.map Pb.St.v)).take (n * 7+f)++[DV.lst xs]++(A3 (ss.map Pb.St.v)).drop (n * 7+f+1)=A3 ((ss.set n s').map Pb.St.v) from C0l (v:=.lst xs) hn hf rfl hs']at g;exact g
theorem C2w(l:List Ex)(e:Ex):(A3 (l.map Ex.v)).take (l.length * 5)++e.w.cells=A3 ((l++[e]).map Ex.v):=by
 rw[A0L (by rw[C0 (u:=5) (W5 _),A0E];exact A0J _),A0S,C1, <- Ex.v_w];exact congrArg _ (A1H _).symm
theorem D0r{X:Hp}{k t:Nat}{B:Blk}(h:¬ t=k):I4 [k] X ((F8 X [k]).upd t B)=X.upd t B:=by
 funext j
 simp only[I4];by_cases e:j=k
 ·subst e;rw[if_pos (by simp),A6 (Ne.symm h)]
 ·rw[if_neg (by simpa using e)];by_cases e2:j=t
  ·subst e2;rw[A0,A0]
  ·rw[A6 e2,A6 e2];simp only[F8];rw[if_neg (by simpa using e)]
theorem c_sw{X:Hp}{c m0 rb xb i k hb bb n m a0 a1 a2 a3:Nat}{D:List Dc}{Q:List MO}{x:MO}{y:HO}{s:Pb.St}(hI:LI X c m0 rb xb D a0 a1 a2 a3 Q)(hi:Q[i]? = some x)(hk:x.l[k]? = some y)(ho:x.o=some hb)(hb':y.2=some bb)
  (hn:y.1.body[n]? = some s) (hm:m<7) (hA2:a2<256) (hA3:a3<256) (P:Exit->Go.Sym.St->Prop)
  (hB:y.1.sz<=3000000) (next:∀ (X0 X':Hp) (c':Nat) (y':HO),(∀ ds,GL X0 ds X' ds)->LI X' c' m0 rb xb D a0 a1 a2 a3 (Q.set i (x.put k y'))->y'.1.sz<=2 * y.1.sz+60->c<=c'->∀ T,C5 [(3,.ptr xb 0),(5,.ptr rb 0),(8,I64 i),(9,I64 k)] T->P .normal ⟨T,X0,c'⟩) :
  IW Tryz.prog 175 (pz Tryz.prog 3 (.i (.i (.o (.i (.o .h)))))) ⟨tm [(3,.ptr xb 0),(5,.ptr rb 0),(8,I64 i),(9,I64 k),(11,.ptr bb (n * 7)),(61,.int .u8 (m:Int))],X,c⟩ P:=by
 have hxm:=A0M hi;have hym:=A0M hk;have hX:=hI.ox.row x hxm;obtain⟨b1,b2⟩:=hX.own hb ho;obtain⟨b3,b4⟩:=(hX.row y hym).2 bb hb';have hx:=hI.x;have lb:=hI.lt b4;have lx:=hI.lt hx;have lr:=hI.lt hI.r;have finG:∀ (s':Pb.St) (X0 X':Hp) (c':Nat),(∀ ds,GL X0 ds X' ds)->s'.sz<=2 * s.sz+10->X' bb=some ⟨7,true,A3 ((y.1.body.set n s').map Pb.St.v)⟩->(∀ j b,X j=some b->¬ j=bb->X' j=some b)->(∀ j,c'<=j->X' j=none)->c<=c' ->
   ∀ T,C5 [(3,.ptr xb 0),(5,.ptr rb 0),(8,I64 i),(9,I64 k)] T->P .normal ⟨T,X0,c'⟩:=fun s' X0 X' c' g e1 e2 e3 e4 e5 T hT =>
  next X0 X' c' (⟨y.1.trig,y.1.name,y.1.body.set n s',y.1.pos⟩,y.2) g (hI.body hi hk ho hb' (by rw[A3Q]) e2 e3 e4) (D6j hn e1) e5 T hT
 have fin:=fun (s':Pb.St) (X':Hp) (c':Nat)=>finG s' X' X' c' fun ds=>GL.refl _ _;rcases (show m=0\/m=1\/m=2\/m=3\/m=4\/m=5\/m=6 by omega) with rfl|rfl|rfl|rfl|rfl|rfl|rfl
 ·have hrm:binR .rem (.int .u8 (a2:Int)) (.int .u8 23)=some (.int .u8 ((a2 % 23:Nat):Int)):=by rw[A0i (by decide)];rfl
  have hw1:IntKind.i64.wrap ((a2 % 23:Nat):Int)=((a2 % 23:Nat):Int):=w6z (by omega);have hw2:IntKind.i64.wrap (((a2 % 23:Nat):Int)-1)=((a2 % 23:Nat):Int)-1:=w6z (by omega);repeat' ((with_reducible first|refine wr ?_|refine A1 ?_ ?_|refine wb2 ?_ ?_<;>(intro hb;try simp only[hb])|fail)<;>try simp only[go_sem,seval,hx,b4,hrm,hw1,hw2])
  refine C6 (B2c (f:=0) (s':=.mk (((a2 % 23:Nat):Int)-1) s.name s.text s.args s.thn s.els s.pos) hn (by decide) rfl rfl rfl _ _ _) ?_;simp only[go_sem,seval];repeat' ((with_reducible first|refine wr ?_|refine A1 ?_ ?_|refine wb2 ?_ ?_<;>(intro hb;try simp only[hb])|fail)<;>try simp only[go_sem,seval])
  exact fin _ _ _ (by rw[W0,W0];dsimp only[Pb.St.name,Pb.St.text,Pb.St.args,Pb.St.thn,Pb.St.els];omega) A0 (fun j b e1 e2=>by rw[A6 e2];exact e1) (fun j hj=>by rw[hnO];exact hI.fr j hj) (A0J _) _ (by simp[C5,tm,Tm.upd])
 ·have hrm:binR .rem (.int .u8 (a2:Int)) (.int .u8 4)=some (.int .u8 ((a2 % 4:Nat):Int)):=by rw[A0i (by decide)];rfl
  have hw:a2 % 4<4:=Nat.mod_lt _ (by decide);generalize a2 % 4=w at hrm hw;have nxc:¬ xb=c:=by omega
  have nbc:¬ bb=c:=by omega
  rcases (show w=0\/w=1\/w=2\/w=3 by omega) with rfl|rfl|rfl|rfl
  all_goals
   repeat' ((with_reducible first|refine wr ?_|refine A1 ?_ ?_|refine wb2 ?_ ?_<;>(intro hb;try simp only[hb])|fail)<;>try simp only[go_sem,seval,hx,b4,hrm,A0,nxc,nbc])
   refine C6 (B2c (f:=1) (s':=.mk s.kind _ s.text s.args s.thn s.els s.pos) hn (by decide) rfl rfl rfl _ _ _) ?_;simp only[go_sem,seval];repeat' ((with_reducible first|refine wr ?_|refine A1 ?_ ?_|refine wb2 ?_ ?_<;>(intro hb;try simp only[hb])|fail)<;>try simp only[go_sem,seval])
   exact fin _ _ _ (by rw[W0,W0];dsimp only[Pb.St.name,Pb.St.text,Pb.St.args,Pb.St.thn,Pb.St.els];simp only[A0I,A0N];omega) A0 (fun j b e1 e2=>by rw[A6 e2,A6 (by have:=hI.lt e1;omega)];exact e1) (fun j hj=>by rw[hnO,hnO];exact hI.fr j (by omega)) (by omega) _ (by simp[C5,tm,Tm.upd])
 ·have hrm:binR .rem (.int .u8 (a2:Int)) (.int .u8 3)=some (.int .u8 ((a2 % 3:Nat):Int)):=by rw[A0i (by decide)];rfl
  have hw:a2 % 3<3:=Nat.mod_lt _ (by decide);generalize a2 % 3=w at hrm hw;have nxc:¬ xb=c:=by omega
  have nbc:¬ bb=c:=by omega
  rcases (show w=0\/w=1\/w=2 by omega) with rfl|rfl|rfl
  all_goals
   repeat' ((with_reducible first|refine wr ?_|refine A1 ?_ ?_|refine wb2 ?_ ?_<;>(intro hb;try simp only[hb])|fail)<;>try simp only[go_sem,seval,hx,b4,hrm,A0,nxc,nbc])
   refine C6 (B2c (f:=2) (s':=.mk s.kind s.name _ s.args s.thn s.els s.pos) hn (by decide) rfl rfl rfl _ _ _) ?_;simp only[go_sem,seval];repeat' ((with_reducible first|refine wr ?_|refine A1 ?_ ?_|refine wb2 ?_ ?_<;>(intro hb;try simp only[hb])|fail)<;>try simp only[go_sem,seval])
   exact fin _ _ _ (by rw[W0,W0];dsimp only[Pb.St.name,Pb.St.text,Pb.St.args,Pb.St.thn,Pb.St.els];simp only[A0I,A0N];omega) A0 (fun j b e1 e2=>by rw[A6 e2,A6 (by have:=hI.lt e1;omega)];exact e1) (fun j hj=>by rw[hnO,hnO];exact hI.fr j (by omega)) (by omega) _ (by simp[C5,tm,Tm.upd])
 ·have hrm:binR .rem (.int .u8 (a2:Int)) (.int .u8 26)=some (.int .u8 ((a2 % 26:Nat):Int)):=by rw[A0i (by decide)];rfl
  have hw1:IntKind.i64.wrap ((a2 % 26:Nat):Int)=((a2 % 26:Nat):Int):=w6z (by omega);have hc3:(A3 (y.1.body.map Pb.St.v))[n * 7+3]? = some (I9 s.args):=A7b hn (by decide);have hxs:∀ H:Hp,A1h H 5 (I9 s.args)=some (s.args.length,A3 (s.args.map Ex.v)):=fun H=>by
   have hu:Sym.unit 5 (s.args.map Ex.v)=true:=by unfold Sym.unit;exact A0Q.2 fun d hd=>by simp[W5 _ d hd]
   rw[O7 hu,A0E]
  repeat' ((with_reducible first|refine wr ?_|refine A1 ?_ ?_|refine wb2 ?_ ?_<;>(intro hb;try simp only[hb])|fail)<;>try simp only[go_sem,seval,hx,b4,hrm,hw1,hc3,hxs])
  have hal:s.args.length<=3000000:=by
   have h1:s.sz<=Pb.St.szs y.1.body:=Pb.St.szs_mem (A0M hn);have h2:=W0 s;have h3:=Ex.szs_len s.args;have h4:y.1.sz=1+y.1.name.length+Pb.St.szs y.1.body:=rfl;omega
  have hln:=(A0P.1 hn).1;have n15:¬ bb=c+15:=by omega
  have n20:¬ bb=c+20:=by omega
  have n21:¬ bb=c+21:=by omega
  have m1:¬ c+15=c+20:=by omega
  have m2:¬ c+20=c+15:=by omega
  have nx15:¬ xb=c+15:=by omega
  have nx20:¬ xb=c+20:=by omega
  have nx21:¬ xb=c+21:=by omega
  have fz:∀ j,X (c+j)=none:=fun j=>hI.fr _ (by omega);have f0:X c=none:=hI.fr _ (A0J _);have q0:∀ j:Nat,¬ c=c+(j+1):=fun j=>by omega
  have hmg:∀ (Y:Hp) (B:Blk),I4 [c+15] Y ((F8 Y [c+15]).upd (c+20) B)=Y.upd (c+20) B:=fun Y B=>D0r m2;have m3:¬ c+20=bb:=by omega
  generalize heN:Ex.mk ((a2 % 26:Nat):Int) 0 [] s.args 0=eN;have hcN:eN.w.cells=[.int .i64 ((a2 % 26:Nat):Int),.int .i64 0,.str [],.lst (s.args.map Ex.v),.int .i64 0]:=by rw[<- heN];rfl
  have hwN:eN.w=.agg [.int .i64 ((a2 % 26:Nat):Int),.int .i64 0,.str [],.lst (s.args.map Ex.v),.int .i64 0]:=by rw[<- heN];rfl
  have hsz:(Pb.St.mk s.kind s.name s.text (s.args++[eN]) s.thn s.els s.pos).sz<=2 * s.sz+10:=by
   have e1:(Pb.St.mk s.kind s.name s.text (s.args++[eN]) s.thn s.els s.pos).sz=1+s.name.length+s.text.length+Ex.szs (s.args++[eN])+Pb.St.szs s.thn+Pb.St.szs s.els:=W0 _;have e2:=W0 s;have e3:Ex.szs (s.args++[eN])=Ex.szs s.args+eN.sz:=by rw[Ex.szs_map,A0S,List.sum_append, <- Ex.szs_map];rfl
   have e4:eN.sz=1+0+Ex.szs s.args:=by rw[<- heN,Ex.sz];rfl
   omega
  clear heN;have fin3:∀ (a m:Nat) (X1:Hp),X1 a=some ⟨5,true,A3 ((s.args++[eN]).map Ex.v)⟩->(∀ j b,X j=some b->X1 j=some b)->(∀ j,a+1<=j->X1 j=none)->s.args.length+1=m->c<=a->¬ a=bb->∀ (T:Tm) (c':Nat),c<=c'->a+1<=c'->C5 [(3,.ptr xb 0),(5,.ptr rb 0),(8,I64 i),(9,I64 k)] T ->
    P .normal ⟨T,X1.upd bb ⟨7,true,(A3 (y.1.body.map Pb.St.v)).take (n * 7+3)++[.slc a 0 m]++(A3 (y.1.body.map Pb.St.v)).drop (n * 7+3+1)⟩,c'⟩:=fun a m X1 x20 xo xn hm h1 h2 T c' h3 h4 hT =>
   finG (.mk s.kind s.name s.text (s.args++[eN]) s.thn s.els s.pos) _ _ _ (fun ds=>B7u (a:=a) (bb:=bb) (n:=n) (f:=3) (m:=m) (u:=5) (xs:=(s.args++[eN]).map Ex.v) hn (by decide) rfl A0 (by rw[A6 h2];exact x20) (by rw[A0E,A0A];exact hm) (W5 _) h2) hsz A0
    (fun j b e1 e2=>by have:=hI.lt e1;rw[A6 e2,X9 (by omega),A6 e2];exact xo j b e1) (fun j hj=>by rw[hnO,X9 (by omega),hnO];exact xn j (by omega)) h3 T hT
  rw[<- hcN];by_cases ha:s.args.length=0
  ·rw[ha,C1h];simp only[go_sem,seval,n15,nx15,hx,f0,fz,q0,A0,hrm,hw1,b4,hc3];repeat' ((with_reducible first|refine wr ?_|refine A1 ?_ ?_|refine wb2 ?_ ?_<;>(intro hb;try simp only[hb])|fail)<;>try simp only[go_sem,seval,n15,n20,n21,b4,A0,nx15,nx20,hx,f0,fz,q0,hc3,hxs,hrm,hw1])
   rw[B4q (by decide) (by decide) (by unfold maxLen;decide)];simp only[go_sem,seval,n15,n20,n21,b4,A0,nx15,nx20,hx,f0,fz,q0,m1,m2,hrm,hw1,hc3];rw[show B1o y.1=⟨7,true,A3 (y.1.body.map Pb.St.v)⟩ from rfl,A3j (i:=1) rfl (by rw[B0q];omega) rfl];simp only[go_sem,seval,n15,n20,n21,b4,A0];repeat' ((with_reducible first|refine wr ?_|refine A1 ?_ ?_|refine wb2 ?_ ?_<;>(intro hb;try simp only[hb])|fail)<;>try simp only[go_sem,seval,n15,n20,n21,b4,A0])
   generalize hX1:Hp.upd (Hp.upd X (c+15) _) (c+20) _=X1;have x20:X1 (c+20)=some ⟨5,true,A3 ((s.args++[eN]).map Ex.v)⟩:=by rw[<- hX1, <- C2w,ha];exact A0
   have xo:∀ j b,X j=some b->X1 j=some b:=fun j b e=>by
    have:=hI.lt e;rw[<- hX1,hnO,hnO];exact e
   have xn:∀ j,c+21<=j->X1 j=none:=fun j e=>by rw[<- hX1,hnO,hnO];exact hI.fr j (by omega)
   refine⟨hwN,?_⟩;refine fin3 (c+20) 1 X1 x20 xo xn (by rw[ha]) (A3N _ _) (by omega) _ _ ?_ ?_ ?_
   ·omega
   ·exact A0J _
   ·simp[C5,tm,Tm.upd]
  ·rw[B4q ha (by omega) (by unfold maxLen;omega)];simp only[go_sem,seval,n15,n20,nx15,nx20,hx,f0,fz,q0,m1,m2,A0,hrm,hw1,b4,hc3,hmg];repeat' ((with_reducible first|refine wr ?_|refine A1 ?_ ?_|refine wb2 ?_ ?_<;>(intro hb;try simp only[hb])|fail)<;>try simp only[go_sem,seval,n15,n20,n21,b4,A0,m1,m2,nx15,nx20,hx,f0,fz,q0,hc3,hxs,hrm,hw1])
   rw[C3o (by rw[C0 (u:=5) (W5 _),A0E];exact A0J _) (by omega) (by unfold maxLen;omega)];have p0:¬ c=c+20+1:=by omega
   have p1:¬ bb=c+20+1:=by omega
   have d0:∀ Y:Hp,(Y.del (c+20)) c=Y c:=fun Y=>X9 (by omega);have d1:∀ Y:Hp,(Y.del (c+20)) bb=Y bb:=fun Y=>X9 (by omega);simp only[go_sem,seval,n15,n20,n21,b4,A0,nx15,nx20,hx,f0,fz,q0,m1,m2,hrm,hw1,hc3,p0,p1,d0,d1];rw[show B1o y.1=⟨7,true,A3 (y.1.body.map Pb.St.v)⟩ from rfl,A3j (i:=1) rfl (by rw[B0q];omega) rfl];simp only[go_sem,seval,n15,n20,n21,b4,A0];repeat' ((with_reducible first|refine wr ?_|refine A1 ?_ ?_|refine wb2 ?_ ?_<;>(intro hb;try simp only[hb])|fail)<;>try simp only[go_sem,seval,n15,n20,n21,b4,A0])
   generalize hX1:Hp.upd (Hp.del _ (c+20)) (c+20+1) _=X1;have x20:X1 (c+20+1)=some ⟨5,true,A3 ((s.args++[eN]).map Ex.v)⟩:=by rw[<- hX1, <- C2w];exact A0
   have xo:∀ j b,X j=some b->X1 j=some b:=fun j b e=>by
    have:=hI.lt e;rw[<- hX1,hnO,X9 (by omega),hnO,hnO];exact e
   have xn:∀ j,c+22<=j->X1 j=none:=fun j e=>by rw[<- hX1,hnO,X9 (by omega),hnO,hnO];exact hI.fr j (by omega)
   refine⟨hwN,?_⟩;refine fin3 (c+20+1) _ X1 x20 xo xn rfl (by omega) (by omega) _ _ ?_ ?_ ?_
   ·omega
   ·exact A0J _
   ·simp[C5,tm,Tm.upd]
 ·have hc4:(A3 (y.1.body.map Pb.St.v))[n * 7+4]? = some (F4 s.thn):=A7b hn (by decide);have hc5:(A3 (y.1.body.map Pb.St.v))[n * 7+5]? = some (F4 s.els):=A7b hn (by decide);have hst1:=fun (X:Hp) (d:Nat)=>B2c (f:=4) (v:=F4 s.els) (s':=.mk s.kind s.name s.text s.args s.els s.els s.pos) hn (by decide) rfl rfl rfl X d bb;have hn2:(y.1.body.set n (.mk s.kind s.name s.text s.args s.els s.els s.pos))[n]? = some (.mk s.kind s.name s.text s.args s.els s.els s.pos):=A3H (A0P.1 hn).1;have hst2:=fun (X:Hp) (d:Nat)=>B2c (f:=5) (v:=F4 s.thn) (s':=.mk s.kind s.name s.text s.args s.els s.thn s.pos) hn2 (by decide) rfl rfl rfl X d bb;rw[List.set_set]at hst2;repeat' ((with_reducible first|refine wr ?_|refine A1 ?_ ?_|refine wb2 ?_ ?_<;>(intro hb;try simp only[hb])|fail)<;>try simp only[go_sem,seval,hx,b4,hc4,hc5,hst1,hst2,A0,A2])
  refine⟨by rw[hnO];exact hI.fr _ (by omega),?_⟩;exact fin _ _ _ (by rw[W0,W0];dsimp only[Pb.St.name,Pb.St.text,Pb.St.args,Pb.St.thn,Pb.St.els];omega) A0 (fun j b e1 e2=>by rw[A6 e2];exact e1) (fun j hj=>by rw[hnO];exact hI.fr j (by omega)) (A3N _ _) _ (by simp[C5,tm,Tm.upd])
 ·have hrm:binR .rem (.int .u8 (a3:Int)) (.int .u8 20)=some (.int .u8 ((a3 % 20:Nat):Int)):=by rw[A0i (by decide)];rfl
  have hw1:IntKind.i64.wrap ((a3 % 20:Nat):Int)=((a3 % 20:Nat):Int):=w6z (by omega);have hc4:(A3 (y.1.body.map Pb.St.v))[n * 7+4]? = some (F4 s.thn):=A7b hn (by decide);have hts:∀ H:Hp,A1h H 7 (F4 s.thn)=some (s.thn.length,A3 (s.thn.map Pb.St.v)):=fun H=>by
   have hu:Sym.unit 7 (s.thn.map Pb.St.v)=true:=by unfold Sym.unit;exact A0Q.2 fun d hd=>by simp[Q7 _ d hd]
   rw[O7 hu,A0E]
  have n6:¬ bb=c+6:=by omega
  repeat' ((with_reducible first|refine wr ?_|refine A1 ?_ ?_|refine wb2 ?_ ?_<;>(intro hb;try simp only[hb])|fail)<;>try simp only[go_sem,seval,hx,b4,hrm,hw1,hc4,hts,n6,A0])
  have hth:s.thn.length<=3000000:=by
   have h1:s.sz<=Pb.St.szs y.1.body:=Pb.St.szs_mem (A0M hn);have h2:=W0 s;have h3:s.thn.length<=Pb.St.szs s.thn:=B6j _;have h4:y.1.sz=1+y.1.name.length+Pb.St.szs y.1.body:=rfl;omega
  rw[C3o (A0C rfl) (by omega) (by unfold maxLen;omega)];have n15:¬ bb=c+15:=by omega
  have nd:∀ X:Hp,(X.del (c+6)) bb=X bb:=fun X=>X9 n6;have hln:=(A0P.1 hn).1;simp only[go_sem,seval,n6,n15,nd,b4,A0];repeat' ((with_reducible first|refine wr ?_|refine A1 ?_ ?_|refine wb2 ?_ ?_<;>(intro hb;try simp only[hb])|fail)<;>try simp only[go_sem,seval,n6,n15,nd,b4,A0])
  refine⟨by rw[hnO,X9 (by omega),hnO];exact hI.fr _ (A0J _),?_⟩;rw[show B1o y.1=⟨7,true,A3 (y.1.body.map Pb.St.v)⟩ from rfl,A3j (i:=1) rfl (by rw[B0q];omega) rfl];generalize hX1:Hp.upd (Hp.del _ (c+6)) (c+15) _=X1;have x15:X1 (c+15)=some ⟨7,true,[I64 ((a3 % 20:Nat):Int),.str []]++([.str []]++[.snil]++([.snil,.snil,I64 0]++A3 (s.thn.map Pb.St.v)))⟩:=by rw[<- hX1];exact A0
  have xo:∀ j b,X j=some b->X1 j=some b:=fun j b e=>by
   have:=hI.lt e;rw[<- hX1,hnO,X9 (by omega),hnO];exact e
  have xn:∀ j,c+16<=j->X1 j=none:=fun j e=>by rw[<- hX1,hnO,X9 (by omega),hnO];exact hI.fr j (by omega)
  clear hX1;simp only[go_sem,seval,A0];repeat' ((with_reducible first|refine wr ?_|refine A1 ?_ ?_|refine wb2 ?_ ?_<;>(intro hb;try simp only[hb])|fail)<;>try simp only[go_sem,seval,A0])
  generalize hX2:Hp.upd X1 bb _=X2;have y15:X2 (c+15)=some ⟨7,true,[I64 ((a3 % 20:Nat):Int),.str [],.str []]++[.snil]++([.snil,.snil,I64 0]++A3 (s.thn.map Pb.St.v))⟩:=by rw[<- hX2,A6 (fun e=>n15 e.symm),x15];rfl
  have yb:X2 bb=some ⟨7,true,(A3 (y.1.body.map Pb.St.v)).take (n * 7+4)++[.slc (c+15) 0 (1+s.thn.length)]++(A3 (y.1.body.map Pb.St.v)).drop (n * 7+4+1)⟩:=by rw[<- hX2];exact A0
  have yo:∀ j b,X j=some b->¬ j=bb->X2 j=some b:=fun j b e e2=>by rw[<- hX2,A6 e2];exact xo j b e
  have yn:∀ j,c+16<=j->X2 j=none:=fun j e=>by rw[<- hX2,hnO];exact xn j e
  clear hX2;have g1:∀ ds,GL X2 ds (X2.upd (c+15) ⟨7,true,[I64 ((a3 % 20:Nat):Int),.str [],.str []]++[.lst []]++([.snil,.snil,I64 0]++A3 (s.thn.map Pb.St.v))⟩) ds:=fun ds=>A5o y15;have g2:∀ (Y:Hp) ds,GL (Y.upd (c+15) ⟨7,true,[I64 ((a3 % 20:Nat):Int),.str [],.str [],.lst []]++[.snil]++([.snil,I64 0]++A3 (s.thn.map Pb.St.v))⟩) ds (Y.upd (c+15) ⟨7,true,[I64 ((a3 % 20:Nat):Int),.str [],.str [],.lst []]++[.lst []]++([.snil,I64 0]++A3 (s.thn.map Pb.St.v))⟩) ds:=fun Y ds=>by
   have g:=A5o (ds:=ds) (H:=Y.upd (c+15) ⟨7,true,[I64 ((a3 % 20:Nat):Int),.str [],.str [],.lst []]++[.snil]++([.snil,I64 0]++A3 (s.thn.map Pb.St.v))⟩) A0;rw[A2]at g;exact g
  have g3:∀ (Y:Hp) ds,GL (Y.upd (c+15) ⟨7,true,[I64 ((a3 % 20:Nat):Int),.str [],.str [],.lst [],.lst []]++[.snil]++([I64 0]++A3 (s.thn.map Pb.St.v))⟩) ds (Y.upd (c+15) ⟨7,true,[I64 ((a3 % 20:Nat):Int),.str [],.str [],.lst [],.lst []]++[.lst []]++([I64 0]++A3 (s.thn.map Pb.St.v))⟩) ds:=fun Y ds=>by
   have g:=A5o (ds:=ds) (H:=Y.upd (c+15) ⟨7,true,[I64 ((a3 % 20:Nat):Int),.str [],.str [],.lst [],.lst []]++[.snil]++([I64 0]++A3 (s.thn.map Pb.St.v))⟩) A0;rw[A2]at g;exact g
  have hcs:[I64 ((a3 % 20:Nat):Int),.str [],.str [],.lst [],.lst []]++[DV.lst []]++([I64 0]++A3 (s.thn.map Pb.St.v))=A3 ((Pb.St.mk ((a3 % 20:Nat):Int) [] [] [] [] [] 0 :: s.thn).map Pb.St.v):=by
   rw[A0U,Pb.St.v_w];rfl
  have g4:∀ ds,GL (X2.upd (c+15) ⟨7,true,A3 ((Pb.St.mk ((a3 % 20:Nat):Int) [] [] [] [] [] 0 :: s.thn).map Pb.St.v)⟩) ds _ ds:=fun ds =>
   B7u (ds:=ds) (f:=4) (s':=.mk s.kind s.name s.text s.args (.mk ((a3 % 20:Nat):Int) [] [] [] [] [] 0 :: s.thn) s.els s.pos) (xs:=(Pb.St.mk ((a3 % 20:Nat):Int) [] [] [] [] [] 0 :: s.thn).map Pb.St.v) hn (by decide) rfl (by rw[A6 n15];exact yb) A0 (by rw[A0E,A0I];omega) (Q7 _) (fun e=>n15 e.symm)
  refine finG (.mk s.kind s.name s.text s.args (.mk ((a3 % 20:Nat):Int) [] [] [] [] [] 0 :: s.thn) s.els s.pos) X2 _ _ (fun ds=>(((g1 ds).trans (g2 X2 ds)).trans (by have:=g3 X2 ds;rw[hcs]at this;exact this)).trans (g4 ds)) ?_ A0 (fun j b e1 e2=>?_) (fun j hj=>?_) (by omega) _ (by simp[C5,tm,Tm.upd])
  ·rw[W0,W0 s];dsimp only[Pb.St.name,Pb.St.text,Pb.St.args,Pb.St.thn,Pb.St.els];rw[Pb.St.szs,W0 (.mk _ _ _ _ _ _ _)];dsimp only[Pb.St.name,Pb.St.text,Pb.St.args,Pb.St.thn,Pb.St.els];rw[Ex.szs,Pb.St.szs,A0N];omega
  ·have:=hI.lt e1;rw[A6 e2,X9 (by omega),hnO];exact yo j b e1 e2
  ·have hj:c+16<=j:=by omega
   rw[hnO,X9 (by omega),hnO];exact yn j hj
 ·have hrm:binR .rem (.int .u8 (a2:Int)) (.int .u8 8)=some (.int .u8 ((a2 % 8:Nat):Int)):=by rw[A0i (by decide)];rfl
  have hw1:IntKind.i64.wrap ((a2 % 8:Nat):Int)=((a2 % 8:Nat):Int):=w6z (by omega);have hil:i<Q.length:=(A0P.1 hi).1;have hkl:k<x.l.length:=(A0P.1 hk).1;have hmo:=B7m hi;rw[ho,P3]at hmo;have hr:=hI.r;have hbk:=hI.ox.blk;have hst:=fun (X:Hp) (d:Nat)=>D4v (v:=((a2 % 8:Nat):Int)) hk X d hb;repeat' ((with_reducible first|refine wr ?_|refine A1 ?_ ?_|refine wb2 ?_ ?_<;>(intro hb;try simp only[hb])|fail)<;>try simp only[go_sem,seval,hx,hr,hbk,b2,hmo,hrm,hw1,hil,hkl,hst])
  exact next _ _ _ _ (fun ds=>GL.refl _ _) ((hI.trig hi hk ho hb' _).mono (A3N _ _)) (by unfold Hd.sz;dsimp only;omega) (A3N _ _) _ (by simp[C5,tm,Tm.upd])
abbrev mkB(L:List UInt8)(w i:Nat):Blk:=⟨0,true,[.lst (bytesC L),I64 i,I64 w]⟩
theorem B5z{L:List UInt8}{i:Nat}{b:UInt8}(h:L[i]? = some b):(bytesC L)[i]? = some (.int .u8 (b.toNat:Int)):=by
 simp[bytesC,h]
theorem A4v{H:Hp}{cc t c2:Nat}{b0 b1 b:Blk}{ds:List DV}(hfr:∀ i,cc<=i->H i=none)(htc:t<cc)(hc:cc<=c2):GL (((H.upd t b0).upd c2 b1).upd t b) ds (H.upd t b) ds:=GL.less' fun j q hj=>by
 by_cases e:j=t
 ·subst e;rw[A0]at hj ⊢;exact hj
 ·rw[A6 e]at hj;have:j≠c2:=by rintro rfl;rw[hfr _ (by omega)]at hj;cases hj
  rw[A6 e,A6 this,A6 e];exact hj
theorem C2o{H:Hp}{cc t c2:Nat}{b1 b:Blk}{ds:List DV}(hfr:∀ i,cc<=i->H i=none)(htc:t<cc)(hc:cc<=c2):GL ((H.upd c2 b1).upd t b) ds (H.upd t b) ds:=GL.less' fun j q hj=>by
 by_cases e:j=t
 ·subst e;rw[A0]at hj ⊢;exact hj
 ·rw[A6 e]at hj ⊢;have:j≠c2:=by rintro rfl;rw[hfr _ (by omega)]at hj;cases hj
  rw[A6 this];exact hj
theorem A4p{X:Hp}{k t:Nat}{B:Blk}(h:¬ t=k):I4 [k] X ((F8 X [k]).upd t B)=X.upd t B:=by
 funext j
 simp only[I4];by_cases e:j=k
 ·subst e;rw[if_pos (by simp),A6 (Ne.symm h)]
 ·rw[if_neg (by simpa using e)];by_cases e2:j=t
  ·subst e2;rw[A0,A0]
  ·rw[A6 e2,A6 e2];simp only[F8];rw[if_neg (by simpa using e)]
theorem A8h(k:Int)(h:0<=k/\k<1000)(H:Hp)(c:Nat):AC Tryz.prog 16 [I64 k] H c (fun v H' c' => ∃ d:List UInt8,d.length<=40/\v=.str d/\H'=H) :=
 ((c_Dec' k (by omega) (by omega)).at H c).mono fun v H' c' ⟨h1,h2,h3⟩=>⟨_,A1O (A1z (by omega) (by omega)) (by decide),h1,h2⟩
def MZ(f:Nat)(xs:List DV)(L:List UInt8)(w n:Nat):Prop:=∀ (H:Hp) (cc t i:Nat) (ht:H t=some (mkB L w i)) (hi:i<=300) (htc:t<cc),
  AC Tryz.prog f (.ptr t 0 :: xs) H cc (fun v H' c' => ∃ s j,s.length<=n/\j<=300/\v=.str s/\H'=H.upd t (mkB L w j))
section
variable (L:List UInt8) (hL:L.length<=300) (w:Nat) (hw:w<=100)
include hL in
theorem f_Next(n:Int)(H:Hp)(cc t i:Nat)(ht:H t=some (mkB L w i))(hi:i<=300)(htc:t<cc)(hn:0<n)(hn2:n<=1000):
  AC Tryz.prog 15 [.ptr t 0,I64 n] H cc (fun v H' c' => ∃ k j,k<n.toNat/\j<=300/\v=I64 (k:Nat)/\H'=H.upd t (mkB L w j)):=by
 obtain⟨n,rfl⟩:=Int.eq_ofNat_of_zero_le (Int.le_of_lt hn);refine AC.bodyT B1 rfl (A0C rfl) fun hfr=>?_;have hlen:(bytesC L).length=L.length:=by simp[bytesC]
 by_cases hlt:i<L.length
 ·have hd:decide ((i:Int)≥L.length)=false:=by simp;omega
  have hg:=B5z (A0B hlt);generalize L[i]=b at hg;have hw:=w64 (n:=(i:Int)+1);have hw3:IntKind.i64.wrap ((i:Int)+1-1)=(i:Int):=by rw[w6z (by omega)];omega
  have hb:=b.toNat_lt;have hw4:=w64 (n:=(b.toNat:Int));have hrm:binR .rem (.int .i64 (b.toNat:Int)) (I64 (n:Int))=some (I64 ((b.toNat % n:Nat):Int)):=by
   rw[A0i (by omega)];rfl
  repeat' ((with_reducible first|refine wr ?_|refine A1 ?_ ?_|refine wb2 ?_ ?_<;>(intro hb;try simp only[hb])|fail)<;>try simp only[go_sem,seval,ht,hd,hg,hw,hw3,hw4,hrm,hlen,A0,A2])
  exact⟨_,_,GL.refl _ _,_,i+1,Nat.mod_lt _ (by omega),by omega,rfl,rfl⟩
 ·have hd:decide ((i:Int)≥L.length)=true:=by simp;omega
  repeat' ((with_reducible first|refine wr ?_|refine A1 ?_ ?_|refine wb2 ?_ ?_<;>(intro hb;try simp only[hb])|fail)<;>try simp only[go_sem,seval,ht,hd,hlen,A0,A2])
  exact⟨_,_,GL.refl _ _,0,i,by omega,hi,rfl,(upd_same ht).symm⟩
include hL hw in
theorem f_name(p:List UInt8)(n:Int)(hp:p.length<=4)(hn:0<n)(hn2:n<=1000):MZ 45 [.str p,I64 n] L w 50:=by
 intro H cc t i ht hi htc;refine AC.bodyT B1 rfl (A0C rfl) fun hfr=>?_;have hw1:=w64 (n:=(w:Int)-1);obtain⟨q,q0⟩:∃ q,decide ((w:Int)>0)=q:=⟨_,rfl⟩;cases q
 ·repeat' ((first|apply wr|(refine AC.call (f_Next L hL w _ _ _ t _ (by first|exact ht|exact A0|(rw[hnO];first|exact ht|exact A0)|(simp only[F8];rw[if_neg (by simp;omega)];(repeat rw[hnO]);first|exact A0|exact ht)) (by assumption) (by omega) (by omega) (by omega)) ?_;rintro _ _ _ ⟨k,_,hk,_,rfl,rfl⟩ _;(try simp only[Int.reduceToNat]at hk);(repeat' (rcases A1Q.1 hk with hk|rfl));all_goals try exact absurd hk (A2L _))|(refine AC.call (A8h _ (by omega) _ _) ?_;rintro _ _ _ ⟨s,_,rfl,rfl⟩ _)|(refine wb2 ?_ ?_<;>(intro hb;try simp only[hb]))|exact⟨_,_,by first|exact GL.refl _ _|exact A4v hfr htc (by omega),_,_,by (try simp only[A0A,A0I,A0N]);omega,by assumption,rfl,rfl⟩|(refine⟨by and_intros<;>first|rfl|((repeat rw[hnO]);exact hfr _ (by omega)),?_⟩))<;>try simp (disch:=(first|omega|(simp only[A0A,A0I,A0N];omega))) only[go_sem,seval,L7,A6,A0,A2,A4p,ht,hw1,q0])
 ·have h0:0<(w:Int):=by simpa using q0
  repeat' ((first|apply wr|(refine AC.call (f_Next L hL w _ _ _ t _ (by first|exact ht|exact A0|(rw[hnO];first|exact ht|exact A0)|(simp only[F8];rw[if_neg (by simp;omega)];(repeat rw[hnO]);first|exact A0|exact ht)) (by assumption) (by omega) (by omega) (by omega)) ?_;rintro _ _ _ ⟨k,_,hk,_,rfl,rfl⟩ _;(try simp only[Int.reduceToNat]at hk);(repeat' (rcases A1Q.1 hk with hk|rfl));all_goals try exact absurd hk (A2L _))|(refine AC.call (A8h _ (by omega) _ _) ?_;rintro _ _ _ ⟨s,_,rfl,rfl⟩ _)|(refine wb2 ?_ ?_<;>(intro hb;try simp only[hb]))|exact⟨_,_,by first|exact GL.refl _ _|exact A4v hfr htc (by omega),_,_,by (try simp only[A0A,A0I,A0N]);omega,by assumption,rfl,rfl⟩|(refine⟨by and_intros<;>first|rfl|((repeat rw[hnO]);exact hfr _ (by omega)),?_⟩))<;>try simp (disch:=(first|omega|(simp only[A0A,A0I,A0N];omega))) only[go_sem,seval,L7,A6,A0,A2,A4p,ht,hw1,q0])
include hL hw in
theorem f_Bool(E:Nat)(hE:100<=E/\E<=1000000)(D:Int)(hD : -10<=D/\D<=10)(h:D<=0\/(MZ 122 [I64 0] L w E/\MZ 122 [I64 (D-1)] L w E/\MZ 123 [I64 (D-1)] L w E)):MZ 122 [I64 D] L w (2 * E+20):=by
 intro H cc t i ht hi htc;refine AC.bodyT B1 rfl (A0C rfl) fun hfr=>?_;have hw1:=w64 (n:=D-1);rcases h with h|⟨h1,h2,h3⟩
 ·have qd:decide (D<=0)=true:=by simpa using h
  repeat' ((first|apply wr|(refine AC.call (f_Next L hL w _ _ _ t _ (by first|exact ht|exact A0|(rw[hnO];first|exact ht|exact A0)|(simp only[F8];rw[if_neg (by simp;omega)];(repeat rw[hnO]);first|exact A0|exact ht)) (by assumption) (by omega) (by omega) (by omega)) ?_;rintro _ _ _ ⟨k,_,hk,_,rfl,rfl⟩ _;(try simp only[Int.reduceToNat]at hk);(repeat' (rcases A1Q.1 hk with hk|rfl));all_goals try exact absurd hk (A2L _))|(refine AC.call (f_name L hL w hw _ _ (by decide) (by decide) (by decide) _ _ t _ (by first|exact ht|exact A0|(rw[hnO];first|exact ht|exact A0)|(simp only[F8];rw[if_neg (by simp;omega)];(repeat rw[hnO]);first|exact A0|exact ht)) (by assumption) (by omega)) ?_;rintro _ _ _ ⟨s,_,_,_,rfl,rfl⟩ _)|(refine wb2 ?_ ?_<;>(intro hb;try simp only[hb]))|exact⟨_,_,by first|exact GL.refl _ _|exact A4v hfr htc (by omega),_,_,by (try simp only[A0A,A0I,A0N]);omega,by assumption,rfl,rfl⟩|(refine⟨by and_intros<;>first|rfl|((repeat rw[hnO]);exact hfr _ (by omega)),?_⟩))<;>try simp (disch:=(first|omega|(simp only[A0A,A0I,A0N];omega))) only[go_sem,seval,L7,A6,A0,A2,A4p,ht,hw1,qd])
 ·obtain⟨q,qd⟩:∃ q,decide (D<=0)=q:=⟨_,rfl⟩;cases q;all_goals
   repeat' ((first|apply wr|(refine AC.call (f_Next L hL w _ _ _ t _ (by first|exact ht|exact A0|(rw[hnO];first|exact ht|exact A0)|(simp only[F8];rw[if_neg (by simp;omega)];(repeat rw[hnO]);first|exact A0|exact ht)) (by assumption) (by omega) (by omega) (by omega)) ?_;rintro _ _ _ ⟨k,_,hk,_,rfl,rfl⟩ _;(try simp only[Int.reduceToNat]at hk);(repeat' (rcases A1Q.1 hk with hk|rfl));all_goals try exact absurd hk (A2L _))|(refine AC.call (f_name L hL w hw _ _ (by decide) (by decide) (by decide) _ _ t _ (by first|exact ht|exact A0|(rw[hnO];first|exact ht|exact A0)|(simp only[F8];rw[if_neg (by simp;omega)];(repeat rw[hnO]);first|exact A0|exact ht)) (by assumption) (by omega)) ?_;rintro _ _ _ ⟨s,_,_,_,rfl,rfl⟩ _)|(refine AC.call (h1 _ _ t _ (by first|exact ht|exact A0|(rw[hnO];first|exact ht|exact A0)|(simp only[F8];rw[if_neg (by simp;omega)];(repeat rw[hnO]);first|exact A0|exact ht)) (by assumption) (by omega)) ?_;rintro _ _ _ ⟨s,_,_,_,rfl,rfl⟩ _)|(refine AC.call (h2 _ _ t _ (by first|exact ht|exact A0|(rw[hnO];first|exact ht|exact A0)|(simp only[F8];rw[if_neg (by simp;omega)];(repeat rw[hnO]);first|exact A0|exact ht)) (by assumption) (by omega)) ?_;rintro _ _ _ ⟨s,_,_,_,rfl,rfl⟩ _)|(refine AC.call (h3 _ _ t _ (by first|exact ht|exact A0|(rw[hnO];first|exact ht|exact A0)|(simp only[F8];rw[if_neg (by simp;omega)];(repeat rw[hnO]);first|exact A0|exact ht)) (by assumption) (by omega)) ?_;rintro _ _ _ ⟨s,_,_,_,rfl,rfl⟩ _)|(refine wb2 ?_ ?_<;>(intro hb;try simp only[hb]))|exact⟨_,_,by first|exact GL.refl _ _|exact A4v hfr htc (by omega),_,_,by (try simp only[A0A,A0I,A0N]);omega,by assumption,rfl,rfl⟩|(refine⟨by and_intros<;>first|rfl|((repeat rw[hnO]);exact hfr _ (by omega)),?_⟩))<;>try simp (disch:=(first|omega|(simp only[A0A,A0I,A0N];omega))) only[go_sem,seval,L7,A6,A0,A2,A4p,ht,hw1,qd])
include hL hw in
theorem f_Int(E:Nat)(hE:100<=E/\E<=1000000)(D:Int)(hD : -10<=D/\D<=10)(hB:MZ 122 [I64 (D-1)] L w E)(h:D<=0\/(MZ 123 [I64 0] L w E/\MZ 123 [I64 (D-1)] L w E)):MZ 123 [I64 D] L w (2 * E+20):=by
 intro H cc t i ht hi htc;refine AC.bodyT B1 rfl (A0C rfl) fun hfr=>?_;have hw1:=w64 (n:=D-1);have hw4:=w64 (n:=4 * (w:Int));obtain⟨q,q0⟩:∃ q,decide ((w:Int)>0)=q:=⟨_,rfl⟩;have hq:q=false\/0<(w:Int):=by cases q;exact .inl rfl;exact .inr (by simpa using q0)
 rcases h with h|⟨h1,h2⟩
 ·have qd:decide (D<=0)=true:=by simpa using h
  rcases hq with rfl|h0
  all_goals
   try cases q
   all_goals
    repeat' ((first|apply wr|(refine AC.call (f_Next L hL w _ _ _ t _ (by first|exact ht|exact A0|(rw[hnO];first|exact ht|exact A0)|(simp only[F8];rw[if_neg (by simp;omega)];(repeat rw[hnO]);first|exact A0|exact ht)) (by assumption) (by omega) (by omega) (by omega)) ?_;rintro _ _ _ ⟨k,_,hk,_,rfl,rfl⟩ _;(try simp only[Int.reduceToNat]at hk);(repeat' (rcases A1Q.1 hk with hk|rfl));all_goals try exact absurd hk (A2L _))|(refine AC.call (f_name L hL w hw _ _ (by decide) (by decide) (by decide) _ _ t _ (by first|exact ht|exact A0|(rw[hnO];first|exact ht|exact A0)|(simp only[F8];rw[if_neg (by simp;omega)];(repeat rw[hnO]);first|exact A0|exact ht)) (by assumption) (by omega)) ?_;rintro _ _ _ ⟨s,_,_,_,rfl,rfl⟩ _)|(refine AC.call (hB _ _ t _ (by first|exact ht|exact A0|(rw[hnO];first|exact ht|exact A0)|(simp only[F8];rw[if_neg (by simp;omega)];(repeat rw[hnO]);first|exact A0|exact ht)) (by assumption) (by omega)) ?_;rintro _ _ _ ⟨s,_,_,_,rfl,rfl⟩ _)|(refine AC.call (A8h _ (by omega) _ _) ?_;rintro _ _ _ ⟨s,_,rfl,rfl⟩ _)|(refine wb2 ?_ ?_<;>(intro hb;try simp only[hb]))|exact⟨_,_,by first|exact GL.refl _ _|exact A4v hfr htc (by omega),_,_,by (try simp only[A0A,A0I,A0N]);omega,by assumption,rfl,rfl⟩|(refine⟨by and_intros<;>first|rfl|((repeat rw[hnO]);exact hfr _ (by omega)),?_⟩))<;>try simp (disch:=(first|omega|(simp only[A0A,A0I,A0N];omega))) only[go_sem,seval,L7,A6,A0,A2,A4p,ht,hw1,hw4,q0,qd])
 ·obtain⟨qq,qd⟩:∃ q,decide (D<=0)=q:=⟨_,rfl⟩;rcases hq with rfl|h0
  all_goals
   try cases q
   all_goals
    cases qq;all_goals
     repeat' ((first|apply wr|(refine AC.call (f_Next L hL w _ _ _ t _ (by first|exact ht|exact A0|(rw[hnO];first|exact ht|exact A0)|(simp only[F8];rw[if_neg (by simp;omega)];(repeat rw[hnO]);first|exact A0|exact ht)) (by assumption) (by omega) (by omega) (by omega)) ?_;rintro _ _ _ ⟨k,_,hk,_,rfl,rfl⟩ _;(try simp only[Int.reduceToNat]at hk);(repeat' (rcases A1Q.1 hk with hk|rfl));all_goals try exact absurd hk (A2L _))|(refine AC.call (f_name L hL w hw _ _ (by decide) (by decide) (by decide) _ _ t _ (by first|exact ht|exact A0|(rw[hnO];first|exact ht|exact A0)|(simp only[F8];rw[if_neg (by simp;omega)];(repeat rw[hnO]);first|exact A0|exact ht)) (by assumption) (by omega)) ?_;rintro _ _ _ ⟨s,_,_,_,rfl,rfl⟩ _)|(refine AC.call (hB _ _ t _ (by first|exact ht|exact A0|(rw[hnO];first|exact ht|exact A0)|(simp only[F8];rw[if_neg (by simp;omega)];(repeat rw[hnO]);first|exact A0|exact ht)) (by assumption) (by omega)) ?_;rintro _ _ _ ⟨s,_,_,_,rfl,rfl⟩ _)|(refine AC.call (h1 _ _ t _ (by first|exact ht|exact A0|(rw[hnO];first|exact ht|exact A0)|(simp only[F8];rw[if_neg (by simp;omega)];(repeat rw[hnO]);first|exact A0|exact ht)) (by assumption) (by omega)) ?_;rintro _ _ _ ⟨s,_,_,_,rfl,rfl⟩ _)|(refine AC.call (h2 _ _ t _ (by first|exact ht|exact A0|(rw[hnO];first|exact ht|exact A0)|(simp only[F8];rw[if_neg (by simp;omega)];(repeat rw[hnO]);first|exact A0|exact ht)) (by assumption) (by omega)) ?_;rintro _ _ _ ⟨s,_,_,_,rfl,rfl⟩ _)|(refine AC.call (A8h _ (by omega) _ _) ?_;rintro _ _ _ ⟨s,_,rfl,rfl⟩ _)|(refine wb2 ?_ ?_<;>(intro hb;try simp only[hb]))|exact⟨_,_,by first|exact GL.refl _ _|exact A4v hfr htc (by omega),_,_,by (try simp only[A0A,A0I,A0N]);omega,by assumption,rfl,rfl⟩|(refine⟨by and_intros<;>first|rfl|((repeat rw[hnO]);exact hfr _ (by omega)),?_⟩))<;>try simp (disch:=(first|omega|(simp only[A0A,A0I,A0N];omega))) only[go_sem,seval,L7,A6,A0,A2,A4p,ht,hw1,hw4,q0,qd])
theorem MZ.mono{f:Nat}{xs:List DV}{n m:Nat}(h:MZ f xs L w n)(hm:n<=m):MZ f xs L w m:=fun H cc t i ht hi htc=>(h H cc t i ht hi htc).mono fun v H' c' ⟨s,j,a,b⟩=>⟨s,j,A1O a hm,b⟩
include hL hw in
theorem D9f:(MZ 123 [I64 0] L w 2000/\MZ 123 [I64 1] L w 2000/\MZ 123 [I64 2] L w 2000)/\MZ 122 [I64 0] L w 2000/\MZ 122 [I64 1] L w 2000:=by
 have bm:=f_Bool L hL w hw 100 (by omega) (-1) (by omega) (.inl (by omega));have i0:=f_Int L hL w hw 220 (by omega) 0 (by omega) bm (.inl (by omega));have b0:=(f_Bool L hL w hw 100 (by omega) 0 (by omega) (.inl (by omega))).mono L w (show 220<=460 by omega);have i1:=f_Int L hL w hw 460 (by omega) 1 (by omega) b0 (.inr ⟨i0,i0⟩);have b1:=f_Bool L hL w hw 460 (by omega) 1 (by omega) (.inr ⟨b0,b0,i0⟩);have i2:=f_Int L hL w hw 940 (by omega) 2 (by omega) b1 (.inr ⟨i0.mono L w (by omega),i1⟩);exact⟨⟨i0.mono L w (by omega),i1.mono L w (by omega),i2.mono L w (by omega)⟩,b0.mono L w (by omega),b1.mono L w (by omega)⟩
include hL hw in
theorem B5r(B:Nat)(hB:B<=1000000)(D:Int)(hD : -10<=D/\D<=10)(h:D<=0\/MZ 46 [I64 (D-1)] L w B):MZ 83 [I64 D] L w (2 * B+5000):=by
 intro H cc t i ht hi htc;obtain⟨⟨i0,i1,i2⟩,b0,b1⟩:=D9f L hL w hw;refine AC.bodyT B1 rfl (A0C rfl) fun hfr=>?_;have hw1:=w64 (n:=D-1);rcases h with h|h
 ·have qd:decide (D<=0)=true:=by simpa using h
  repeat' ((first|apply wr|(refine AC.call (f_Next L hL w _ _ _ t _ (by first|exact ht|exact A0|(rw[hnO];first|exact ht|exact A0)|(simp only[F8];rw[if_neg (by simp;omega)];(repeat rw[hnO]);first|exact A0|exact ht)) (by assumption) (by omega) (by omega) (by omega)) ?_;rintro _ _ _ ⟨k,_,hk,_,rfl,rfl⟩ _;(try simp only[Int.reduceToNat]at hk);(repeat' (rcases A1Q.1 hk with hk|rfl));all_goals try exact absurd hk (A2L _))|(refine AC.call (f_name L hL w hw _ _ (by decide) (by decide) (by decide) _ _ t _ (by first|exact ht|exact A0|(rw[hnO];first|exact ht|exact A0)|(simp only[F8];rw[if_neg (by simp;omega)];(repeat rw[hnO]);first|exact A0|exact ht)) (by assumption) (by omega)) ?_;rintro _ _ _ ⟨s,_,_,_,rfl,rfl⟩ _)|(refine AC.call (i0 _ _ t _ (by first|exact ht|exact A0|(rw[hnO];first|exact ht|exact A0)|(simp only[F8];rw[if_neg (by simp;omega)];(repeat rw[hnO]);first|exact A0|exact ht)) (by assumption) (by omega)) ?_;rintro _ _ _ ⟨s,_,_,_,rfl,rfl⟩ _)|(refine AC.call (i1 _ _ t _ (by first|exact ht|exact A0|(rw[hnO];first|exact ht|exact A0)|(simp only[F8];rw[if_neg (by simp;omega)];(repeat rw[hnO]);first|exact A0|exact ht)) (by assumption) (by omega)) ?_;rintro _ _ _ ⟨s,_,_,_,rfl,rfl⟩ _)|(refine AC.call (i2 _ _ t _ (by first|exact ht|exact A0|(rw[hnO];first|exact ht|exact A0)|(simp only[F8];rw[if_neg (by simp;omega)];(repeat rw[hnO]);first|exact A0|exact ht)) (by assumption) (by omega)) ?_;rintro _ _ _ ⟨s,_,_,_,rfl,rfl⟩ _)|(refine AC.call (b0 _ _ t _ (by first|exact ht|exact A0|(rw[hnO];first|exact ht|exact A0)|(simp only[F8];rw[if_neg (by simp;omega)];(repeat rw[hnO]);first|exact A0|exact ht)) (by assumption) (by omega)) ?_;rintro _ _ _ ⟨s,_,_,_,rfl,rfl⟩ _)|(refine AC.call (b1 _ _ t _ (by first|exact ht|exact A0|(rw[hnO];first|exact ht|exact A0)|(simp only[F8];rw[if_neg (by simp;omega)];(repeat rw[hnO]);first|exact A0|exact ht)) (by assumption) (by omega)) ?_;rintro _ _ _ ⟨s,_,_,_,rfl,rfl⟩ _)|(refine wb2 ?_ ?_<;>(intro hb;try simp only[hb]))|exact⟨_,_,by first|exact GL.refl _ _|exact A4v hfr htc (by omega),_,_,by (try simp only[A0A,A0I,A0N]);omega,by assumption,rfl,rfl⟩|(refine⟨by and_intros<;>first|rfl|((repeat rw[hnO]);exact hfr _ (by omega)),?_⟩))<;>try simp (disch:=(first|omega|(simp only[A0A,A0I,A0N];omega))) only[go_sem,seval,L7,A6,A0,A2,A4p,ht,hw1,qd])
 ·obtain⟨q,qd⟩:∃ q,decide (D<=0)=q:=⟨_,rfl⟩;cases q;all_goals
   repeat' ((first|apply wr|(refine AC.call (f_Next L hL w _ _ _ t _ (by first|exact ht|exact A0|(rw[hnO];first|exact ht|exact A0)|(simp only[F8];rw[if_neg (by simp;omega)];(repeat rw[hnO]);first|exact A0|exact ht)) (by assumption) (by omega) (by omega) (by omega)) ?_;rintro _ _ _ ⟨k,_,hk,_,rfl,rfl⟩ _;(try simp only[Int.reduceToNat]at hk);(repeat' (rcases A1Q.1 hk with hk|rfl));all_goals try exact absurd hk (A2L _))|(refine AC.call (f_name L hL w hw _ _ (by decide) (by decide) (by decide) _ _ t _ (by first|exact ht|exact A0|(rw[hnO];first|exact ht|exact A0)|(simp only[F8];rw[if_neg (by simp;omega)];(repeat rw[hnO]);first|exact A0|exact ht)) (by assumption) (by omega)) ?_;rintro _ _ _ ⟨s,_,_,_,rfl,rfl⟩ _)|(refine AC.call (i0 _ _ t _ (by first|exact ht|exact A0|(rw[hnO];first|exact ht|exact A0)|(simp only[F8];rw[if_neg (by simp;omega)];(repeat rw[hnO]);first|exact A0|exact ht)) (by assumption) (by omega)) ?_;rintro _ _ _ ⟨s,_,_,_,rfl,rfl⟩ _)|(refine AC.call (i1 _ _ t _ (by first|exact ht|exact A0|(rw[hnO];first|exact ht|exact A0)|(simp only[F8];rw[if_neg (by simp;omega)];(repeat rw[hnO]);first|exact A0|exact ht)) (by assumption) (by omega)) ?_;rintro _ _ _ ⟨s,_,_,_,rfl,rfl⟩ _)|(refine AC.call (i2 _ _ t _ (by first|exact ht|exact A0|(rw[hnO];first|exact ht|exact A0)|(simp only[F8];rw[if_neg (by simp;omega)];(repeat rw[hnO]);first|exact A0|exact ht)) (by assumption) (by omega)) ?_;rintro _ _ _ ⟨s,_,_,_,rfl,rfl⟩ _)|(refine AC.call (b0 _ _ t _ (by first|exact ht|exact A0|(rw[hnO];first|exact ht|exact A0)|(simp only[F8];rw[if_neg (by simp;omega)];(repeat rw[hnO]);first|exact A0|exact ht)) (by assumption) (by omega)) ?_;rintro _ _ _ ⟨s,_,_,_,rfl,rfl⟩ _)|(refine AC.call (b1 _ _ t _ (by first|exact ht|exact A0|(rw[hnO];first|exact ht|exact A0)|(simp only[F8];rw[if_neg (by simp;omega)];(repeat rw[hnO]);first|exact A0|exact ht)) (by assumption) (by omega)) ?_;rintro _ _ _ ⟨s,_,_,_,rfl,rfl⟩ _)|(refine AC.call (h _ _ t _ (by first|exact ht|exact A0|(rw[hnO];first|exact ht|exact A0)|(simp only[F8];rw[if_neg (by simp;omega)];(repeat rw[hnO]);first|exact A0|exact ht)) (by assumption) (by omega)) ?_;rintro _ _ _ ⟨s,_,_,_,rfl,rfl⟩ _)|(refine wb2 ?_ ?_<;>(intro hb;try simp only[hb]))|exact⟨_,_,by first|exact GL.refl _ _|exact A4v hfr htc (by omega),_,_,by (try simp only[A0A,A0I,A0N]);omega,by assumption,rfl,rfl⟩|(refine⟨by and_intros<;>first|rfl|((repeat rw[hnO]);exact hfr _ (by omega)),?_⟩))<;>try simp (disch:=(first|omega|(simp only[A0A,A0I,A0N];omega))) only[go_sem,seval,L7,A6,A0,A2,A4p,ht,hw1,qd])
end
end Go.Proofs.YtmmjlijdfhkdcaaGreatDoor
set_option maxHeartbeats 40000000
namespace Go.Proofs.YtmmjlijdfhkdcaaGreatDoor
open Go.Eng (IC IOper DReg IFn M8)
open Go.Sym Go.Pb
section
variable (L:List UInt8) (hL:L.length<=300) (w:Nat) (hw:w<=100)
include hL in
theorem f_block(S:Nat)(hS2:S<=1000000)(D:Int)(hS:MZ 83 [I64 D] L w S):MZ 46 [I64 D] L w (3 * S+10):=by
 intro H cc t i ht hi htc;refine AC.bodyT B1 rfl (A0C rfl) fun hfr=>?_;obtain⟨Z,hZ⟩:∃ Z,Z=S+1:=⟨_,rfl⟩;repeat' ((with_reducible first|refine wr ?_|refine A1 ?_ ?_|refine wb2 ?_ ?_<;>(intro hb;try simp only[hb])|fail)<;>try simp only[go_sem,seval])
 refine AC.call (f_Next L hL w 4 _ _ t i ht hi (by omega) (by decide) (by decide)) ?_;rintro v' H' c2 ⟨k,j,hlt,hj,rfl,rfl⟩ hc2;have h3:=A3B Z (show k<=3 by omega);simp only[go_sem,seval];repeat' ((with_reducible first|refine wr ?_|refine A1 ?_ ?_|refine wb2 ?_ ?_<;>(intro hb;try simp only[hb])|fail)<;>try simp only[go_sem,seval])
 refine D4 (fun q:Nat × Nat × List UInt8=>[(0,.ptr t 0),(1,I64 D),(5,.str q.2.2),(6,I64 q.1)]) (fun q=>H.upd t (mkB L w q.2.1))
  (fun q c=>cc<=c/\q.1<=3/\q.2.1<=300/\q.2.2.length+q.1 * Z<=3 * Z+1) (fun q=>q.1) (k,j,[123])
  (by simp[C5,tm,Tm.upd]) (Sub.refl _) ⟨hc2,by show k<=3;omega,hj,by show 1+k * Z<=_;omega⟩ ?_
 rintro⟨n,i2,ss⟩ c ⟨hc,hn,hi2,hl⟩;dsimp only at hc hn hi2 hl ⊢;cases n with
 |succ n =>
  have qn:decide (((n+1:Nat):Int)>0)=true:=decide_eq_true (by omega);have hw1:IntKind.i64.wrap (((n+1:Nat):Int)-1)=(n:Int):=by rw[w6z (by omega)];omega
  rw[Nat.succ_mul]at hl;have a1:=L7 (s:=ss) (t:=[32]) (by simp;omega);generalize ((n+1:Nat):Int)=N1 at qn hw1 ⊢;repeat' ((with_reducible first|refine wr ?_|refine A1 ?_ ?_|refine wb2 ?_ ?_<;>(intro hb;try simp only[hb])|fail)<;>try simp only[go_sem,seval,qn,a1])
  refine AC.call (hS _ _ t i2 A0 hi2 (by omega)) ?_;rintro v' H' c3 ⟨r,i3,l,hi3,rfl,rfl⟩ hc3;have a2:=L7 (s:=ss++[32]) (t:=r) (by simp;omega);rw[A2];simp only[go_sem,seval,a1,a2,hw1];repeat' ((with_reducible first|refine wr ?_|refine A1 ?_ ?_|refine wb2 ?_ ?_<;>(intro hb;try simp only[hb])|fail)<;>try simp only[go_sem,seval,a1,a2,hw1])
  exact⟨(n,i3,ss++[32]++r),by simp[C5,tm,Tm.upd],Sub.refl _,inv ⟨by omega,by omega,hi3,by simp only[A0A,A0G];omega⟩,by simp⟩
 |zero =>
  have a1:=L7 (s:=ss) (t:=[32,125]) (by simp;omega);repeat' ((with_reducible first|refine wr ?_|refine A1 ?_ ?_|refine wb2 ?_ ?_<;>(intro hb;try simp only[hb])|fail)<;>try simp only[go_sem,seval,a1])
  exact⟨_,_,GL.refl _ _,_,i2,by simp;omega,hi2,rfl,rfl⟩
include hL hw in
theorem f_handler(k:Nat)(hk0:k<=1000)(B:Nat)(hB2:B<=1000000)(hB:MZ 46 [I64 2] L w B):MZ 17 [I64 k] L w (B+200):=by
 intro H cc t i ht hi htc;refine AC.bodyT B1 rfl (A0C rfl) fun hfr=>?_;have hrm:binR .rem (I64 (k:Int)) (.int .i64 11)=some (I64 ((k % 11:Nat):Int)):=by rw[A0i (by decide)];rfl
 have hk:=Nat.mod_lt k (show 0<11 by decide);generalize k % 11=m at hrm hk;obtain⟨q,q0⟩:∃ q,decide ((w:Int)>0)=q:=⟨_,rfl⟩;have hq:q=false\/0<(w:Int):=by cases q;exact .inl rfl;exact .inr (by simpa using q0)
 (repeat' (rcases A1Q.1 hk with hk|rfl));all_goals try exact absurd hk (A2L _)
 all_goals
  rcases hq with rfl|h0
  all_goals
   try cases q
   all_goals
    repeat' ((first|apply wr|(refine AC.call (f_Next L hL w _ _ _ t _ (by first|exact ht|exact A0|(rw[hnO];first|exact ht|exact A0)|(simp only[F8];rw[if_neg (by simp;omega)];(repeat rw[hnO]);first|exact A0|exact ht)) (by assumption) (by omega) (by omega) (by omega)) ?_;rintro _ _ _ ⟨k,_,hk,_,rfl,rfl⟩ _)|(refine AC.call (A8h _ (by omega) _ _) ?_;rintro _ _ _ ⟨s,_,rfl,rfl⟩ _)|(refine AC.call (hB _ _ t _ (by first|exact ht|exact A0|(rw[hnO];first|exact ht|exact A0)|(simp only[F8];rw[if_neg (by simp;omega)];(repeat rw[hnO]);first|exact A0|exact ht)) (by assumption) (by omega)) ?_;rintro _ _ _ ⟨s,_,_,_,rfl,rfl⟩ _)|(refine AC.call (f_name L hL w hw _ _ (by decide) (by decide) (by decide) _ _ t _ (by first|exact ht|exact A0|(rw[hnO];first|exact ht|exact A0)|(simp only[F8];rw[if_neg (by simp;omega)];(repeat rw[hnO]);first|exact A0|exact ht)) (by assumption) (by omega)) ?_;rintro _ _ _ ⟨s,_,_,_,rfl,rfl⟩ _)|(refine wb2 ?_ ?_<;>(intro hb;try simp only[hb]))|exact⟨_,_,by first|exact GL.refl _ _|exact A4v hfr htc (by omega)|exact C2o hfr htc (by omega),_,_,by (try simp only[A0A,A0I,A0N]);omega,by assumption,rfl,rfl⟩|(refine⟨by and_intros<;>first|rfl|((repeat rw[hnO]);exact hfr _ (by omega)),?_⟩))<;>try simp (disch:=(first|omega|(simp only[A0A,A0I,A0N];omega))) only[go_sem,seval,L7,A6,A0,A2,A4p,ht,hrm,q0])
end
section
variable (L:List UInt8) (hL:L.length<=300) (w:Nat) (hw:w<=100)
include hL in
theorem f_rules(Hn:Nat)(hH2:Hn<=1000000)(hH:∀ k:Nat,k<=1000->MZ 17 [I64 k] L w Hn):MZ 6 [] L w 100000000:=by
 intro H cc t i ht hi htc;refine AC.bodyT B1 rfl (A0C rfl) fun hfr=>?_;have kL:∀ (G:Hp) (j c0:Nat) (s:List UInt8),j<=300->t<c0->s.length<=1000->(∀ B ds,GL (G.upd t B) ds (H.upd t B) ds)->IW Tryz.prog 50 (pz Tryz.prog 6 (.i (.i .h))) ⟨tm [(0,.ptr t 0),(3,.str s)],G.upd t (mkB L w j),c0⟩ (rt [.tmp 2] fun v H' c' => ∃ v2 H2,GL H' [v] H2 [v2]/\∃ s j,s.length<=100000000/\j<=300/\v2=.str s/\H2=H.upd t (mkB L w j)):=by
  intro G j c0 s hj hc0 hs hG;repeat' ((with_reducible first|refine wr ?_|refine A1 ?_ ?_|refine wb2 ?_ ?_<;>(intro hb;try simp only[hb])|fail)<;>try simp only[go_sem,seval])
  refine D4 (fun q:Nat × Nat × List UInt8=>[(0,.ptr t 0),(3,.str q.2.2),(4,I64 q.1)]) (fun q=>G.upd t (mkB L w q.2.1)) (fun q c=>t<c/\q.1<=3/\q.2.1<=300/\q.2.2.length<=1000+10000000 * q.1) (fun q=>3-q.1) (0,j,s) (by simp[C5,tm,Tm.upd]) (Sub.refl _) ⟨hc0,by omega,hj,hs⟩ ?_;clear hj hc0 hs;rintro⟨i,j,s⟩ c ⟨hc,hi3,hj,hl⟩;dsimp only at hc hi3 hj hl ⊢;by_cases h3:i<3
  ·have qi:decide ((i:Int)<3)=true:=by simp;omega
   try simp (disch:=(first|omega|(simp only[A0A,A0I,A0N];omega))) only[go_sem,seval,L7,A0,A2,qi]
   repeat' (apply wr<;>try simp (disch:=(first|omega|(simp only[A0A,A0I,A0N];omega))) only[go_sem,seval,L7,A0,A2,qi])
   refine AC.call (A8h _ (by omega) _ _) ?_;rintro _ _ c1 ⟨d1,hd1,rfl,rfl⟩ hc1;try simp (disch:=(first|omega|(simp only[A0A,A0I,A0N];omega))) only[go_sem,seval,L7,A0,A2]
   repeat' (apply wr<;>try simp (disch:=(first|omega|(simp only[A0A,A0I,A0N];omega))) only[go_sem,seval,L7,A0,A2])
   refine AC.call (f_Next L hL w 4 _ _ t j A0 hj (by omega) (by decide) (by decide)) ?_;rintro _ _ c2 ⟨p,j2,hp,hj2,rfl,rfl⟩ hc2;try simp (disch:=(first|omega|(simp only[A0A,A0I,A0N];omega))) only[go_sem,seval,L7,A0,A2]
   repeat' (apply wr<;>try simp (disch:=(first|omega|(simp only[A0A,A0I,A0N];omega))) only[go_sem,seval,L7,A0,A2])
   refine AC.call (A8h _ (by omega) _ _) ?_;rintro _ _ c3 ⟨d2,hd2,rfl,rfl⟩ hc3;try simp (disch:=(first|omega|(simp only[A0A,A0I,A0N];omega))) only[go_sem,seval,L7,A0,A2]
   repeat' (apply wr<;>try simp (disch:=(first|omega|(simp only[A0A,A0I,A0N];omega))) only[go_sem,seval,L7,A0,A2])
   refine AC.call (f_Next L hL w 11 _ _ t j2 A0 hj2 (by omega) (by decide) (by decide)) ?_;rintro _ _ c4 ⟨k,j3,hk,hj3,rfl,rfl⟩ hc4;try simp (disch:=(first|omega|(simp only[A0A,A0I,A0N];omega))) only[go_sem,seval,L7,A0,A2]
   repeat' (apply wr<;>try simp (disch:=(first|omega|(simp only[A0A,A0I,A0N];omega))) only[go_sem,seval,L7,A0,A2])
   refine AC.call (f_Next L hL w 5 _ _ t j3 A0 hj3 (by omega) (by decide) (by decide)) ?_;rintro _ _ c5 ⟨n,j4,hn,hj4,rfl,rfl⟩ hc5;try simp (disch:=(first|omega|(simp only[A0A,A0I,A0N];omega))) only[go_sem,seval,L7,A0,A2]
   repeat' (apply wr<;>try simp (disch:=(first|omega|(simp only[A0A,A0I,A0N];omega))) only[go_sem,seval,L7,A0,A2])
   refine D4 (fun q:Nat × Nat × Nat × List UInt8=>[(0,.ptr t 0),(3,.str q.2.2.2),(4,I64 i),(5,I64 q.2.2.1),(6,I64 q.1)]) (fun q=>G.upd t (mkB L w q.2.1)) (fun q c=>t<c/\q.1+q.2.2.1<=20/\q.2.1<=300/\q.2.2.2.length+2000000 * q.1<=9000000+10000000 * i) (fun q=>q.1) (n,j4,k,_) ⟨rfl,rfl,rfl,rfl,rfl,trivial⟩ (Sub.refl _) ⟨by omega,by show n+k<=20;omega,hj4,by simp only[A0A,A0I,A0N];omega⟩ ?_;rintro⟨n,j,k,y⟩ c ⟨hc,hn,hj,hl⟩;dsimp only at hc hn hj hl ⊢;cases n with
   |succ n =>
    have qn:decide (((n+1:Nat):Int)>0)=true:=decide_eq_true (by omega);have hw1:IntKind.i64.wrap (((n+1:Nat):Int)-1)=(n:Int):=by rw[w6z (by omega)];omega
    have hw2:IntKind.i64.wrap ((k:Int)+1)=((k+1:Nat):Int):=by rw[w6z (by omega)];omega
    generalize ((n+1:Nat):Int)=N1 at qn hw1 ⊢;try simp (disch:=(first|omega|(simp only[A0A,A0I,A0N];omega))) only[go_sem,seval,L7,A0,A2,qn]
    repeat' (apply wr<;>try simp (disch:=(first|omega|(simp only[A0A,A0I,A0N];omega))) only[go_sem,seval,L7,A0,A2,qn])
    refine AC.call (hH k (by omega) _ _ t j A0 hj (by omega)) ?_;rintro _ _ c6 ⟨r,j5,l,hj5,rfl,rfl⟩ hc6;try simp (disch:=(first|omega|(simp only[A0A,A0I,A0N];omega))) only[go_sem,seval,L7,A0,A2,hw1,hw2]
    repeat' (apply wr<;>try simp (disch:=(first|omega|(simp only[A0A,A0I,A0N];omega))) only[go_sem,seval,L7,A0,A2,hw1,hw2])
    exact⟨(n,j5,k+1,_),⟨rfl,rfl,rfl⟩,Sub.refl _,inv ⟨by omega,by show n+(k+1)<=20;omega,hj5,by simp only[A0A,A0I,A0N];omega⟩,by simp⟩
   |zero =>
    have hw2:IntKind.i64.wrap ((i:Int)+1)=((i+1:Nat):Int):=by rw[w6z (by omega)];omega
    try simp (disch:=(first|omega|(simp only[A0A,A0I,A0N];omega))) only[go_sem,seval,L7,A0,A2,hw2]
    repeat' (apply wr<;>try simp (disch:=(first|omega|(simp only[A0A,A0I,A0N];omega))) only[go_sem,seval,L7,A0,A2,hw2])
    exact⟨(i+1,j,_),⟨rfl,rfl⟩,Sub.refl _,inv ⟨by omega,by show i+1<=3;omega,hj,by simp only[A0A,A0I,A0N];omega⟩,by simp only;omega⟩
  ·have qi:decide ((i:Int)<3)=false:=by simp;omega
   try simp (disch:=(first|omega|(simp only[A0A,A0I,A0N];omega))) only[go_sem,seval,L7,A0,A2,qi]
   repeat' (apply wr<;>try simp (disch:=(first|omega|(simp only[A0A,A0I,A0N];omega))) only[go_sem,seval,L7,A0,A2,qi])
   exact⟨_,_,hG _ _,s,j,by omega,hj,rfl,rfl⟩
 have kH:∀ (s:List UInt8) (c0:Nat),s.length<=600->cc<=c0->IW Tryz.prog 50 (pz Tryz.prog 6 (.i (.o .h))) ⟨tm [(0,.ptr t 0),(3,.str s)],H,c0⟩ (rt [.tmp 2] fun v H' c' => ∃ v2 H2,GL H' [v] H2 [v2]/\∃ s j,s.length<=100000000/\j<=300/\v2=.str s/\H2=H.upd t (mkB L w j)):=by
  intro s c0 hs hc0;have a1:=L7 (s:=s) (t:=[118,97,114,32,118,48,32]) (by simp;omega);repeat' ((with_reducible first|refine wr ?_|refine A1 ?_ ?_|refine wb2 ?_ ?_<;>(intro hb;try simp only[hb])|fail)<;>try simp only[go_sem,seval,a1])
  refine AC.call (f_Next L hL w 4 _ _ t i (by rw[hnO];exact ht) hi (by omega) (by decide) (by decide)) ?_;rintro _ _ c3 ⟨k,j,hk,hj,rfl,rfl⟩ hc3;generalize hWL:([.str [48],.str [53],.str [45,55],.str [50,49,52,55,52,56,51,54,52,55]]:List DV)=WL;obtain⟨og,hog,hld⟩:∃ og:List UInt8,og.length<=10/\WL[k]? = some (.str og):=by
   subst hWL
   (try simp only[Int.reduceToNat]at hk);(repeat' (rcases A1Q.1 hk with hk|rfl));all_goals first|exact absurd hk (A2L _)|exact⟨_,by decide,rfl⟩
  have hk4:k<4:=hk;have hia:A4t 1 (.slc c0 0 4) (I64 (k:Int))=some (.ptr c0 k):=by simp[A4t];omega
  have a2:=L7 (s:=s++[118,97,114,32,118,48,32]) (t:=og) (by simp;omega);obtain⟨Y,hY,a3⟩:∃ Y:List UInt8,Y.length<=1000/\binR .add (.str (s++[118,97,114,32,118,48,32]++og)) (.str [59,32,118,97,114,32,118,49,32,49,59,32,118,97,114,32,118,50,32,48,59,32,116,105,109,101,114,32,116,109,48,59,32,116,105,109,101,114,32,116,109,49,59,32,101,118,101,110,116,32,101,118,48,59,32,101,118,101,110,116,32,101,118,49,59,10])=some (.str Y):=⟨_,by simp;omega,L7 (by simp;omega)⟩;have ne0:=A4n t c0 (by omega);simp only[go_sem,seval,A0,A2,ne0,hia,hWL,hld,a1,a2,a3];repeat' ((with_reducible first|refine G0 (p:=IW _ _ (pz Tryz.prog 6 (.i (.i .h))) _ _) ?_|refine wr ?_|refine A1 ?_ ?_|refine wb2 ?_ ?_<;>(intro hb;try simp only[hb])|fail)<;>try simp only[go_sem,seval])
  exact IW.stage (by simp[C5,tm,Tm.upd]) (kL _ j _ Y hj (by omega) hY fun B ds=>C2o hfr htc (by omega))
 repeat' ((with_reducible first|refine G0 (p:=IW _ _ (pz Tryz.prog 6 (.i (.o .h))) _ _) ?_|refine wr ?_|refine A1 ?_ ?_|refine wb2 ?_ ?_<;>(intro hb;try simp only[hb])|fail)<;>try simp only[go_sem,seval])
 exact IW.stage (L:=[(0,.ptr t 0),(3,.str _)]) ⟨rfl,rfl,trivial⟩ (kH _ _ (by simp) (by omega))
end
theorem D5z(l:List UInt8)(hl:l.length<=9223372036854775807)(H:Hp)(cc:Nat):
  AC Tryz.prog 5 [.lst (bytesC l)] H cc (fun v H' c' => ∃ t L,L.length<=300/\cc<=t/\t<c'/\v=.ptr t 0/\H'=H.upd t (mkB L 0 0)):=by
 refine AC.bodyT B1 rfl (A0C rfl) fun hfr=>?_;have hlen:(bytesC l).length=l.length:=by simp[bytesC]
 have hmin:(if (300:Int)<((l.length:Nat):Int) then (300:Int) else ((l.length:Nat):Int))=((min l.length 300:Nat):Int):=by split<;>omega
 have hsl:A7q H 1 (.lst (bytesC l)) none (some (I64 ((min l.length 300:Nat):Int)))=some (.lst (bytesC (l.take (min l.length 300)))):=by
  have hb:boundOf (bytesC l).length (some (I64 ((min l.length 300:Nat):Int)))=some (min l.length 300):=by simp[boundOf]
  have hu:Sym.unit 1 (bytesC l)=true:=by simp only[Sym.unit,bytesC,List.all_map];exact A0Q.2 fun x _=>rfl
  simp only[A7q,hb,show boundOf 0 none=some 0 from rfl];rw[if_pos ⟨by rw[hlen];omega,A0Z _,hu⟩,A3T,Nat.sub_zero];unfold bytesC;rw[<- List.map_take]
 repeat' ((with_reducible first|refine wr ?_|refine A1 ?_ ?_|refine wb2 ?_ ?_<;>(intro hb;try simp only[hb])|fail)<;>try simp only[go_sem,seval,hlen,hmin,hsl])
 exact⟨_,_,GL.refl _ _,cc,l.take (min l.length 300),by rw[A1F];omega,A0J _,A2E _,rfl,rfl⟩
end Go.Proofs.YtmmjlijdfhkdcaaGreatDoor
set_option maxHeartbeats 4000000
namespace Go.Proofs.YtmmjlijdfhkdcaaGreatDoor
open Go.Eng (IC IOper DReg IFn M8)
open Go.Sym Go.Pb
theorem C5f:∀ l:List Int,DV.nlL (l.map fun k=>I64 k)=true:=fun l=>O3 (fun _=>rfl) l
abbrev C4b(ks:List (List UInt8))(vs:List Int):DV:=.mp .s (ks.map DV.str) (vs.map fun k=>I64 k)
theorem B4e(ks:List (List UInt8))(vs:List Int):(C4b ks vs).nl=true:=by simp only[DV.nl,J5,C5f,A1X]
theorem c_ops:PC Tryz.prog 147 [] (C4b D3 D0c):=by
 refine PC.ofT B1 rfl (A0C rfl) rfl (B4e _ _) ?_;repeat' ((with_reducible first|refine wr ?_|refine A1 ?_ ?_|refine wb2 ?_ ?_<;>(intro hb;try simp only[hb])|fail)<;>try simp only[go_sem,seval,P0,A2r,A4D,List.nil_beq_eq,List.beq_nil_eq,List.isEmpty_cons,List.isEmpty_nil,A4E,A2B,A1X,A3E,A2])
 exact B0y A0
theorem c_stms:PC Tryz.prog 137 [] (C4b B8 A3f):=by
 refine PC.ofT B1 rfl (A0C rfl) rfl (B4e _ _) ?_;repeat' ((with_reducible first|refine wr ?_|refine A1 ?_ ?_|refine wb2 ?_ ?_<;>(intro hb;try simp only[hb])|fail)<;>try simp only[go_sem,seval,P0,A2r,A4D,List.nil_beq_eq,List.beq_nil_eq,List.isEmpty_cons,List.isEmpty_nil,A4E,A2B,A1X,A3E,A2])
 exact B0y A0
theorem c_lvs:PC Tryz.prog 117 [] (C4b I3 J9):=by
 refine PC.ofT B1 rfl (A0C rfl) rfl (B4e _ _) ?_;repeat' ((with_reducible first|refine wr ?_|refine A1 ?_ ?_|refine wb2 ?_ ?_<;>(intro hb;try simp only[hb])|fail)<;>try simp only[go_sem,seval,P0,A2r,A4D,List.nil_beq_eq,List.beq_nil_eq,List.isEmpty_cons,List.isEmpty_nil,A4E,A2B,A1X,A3E,A2])
 exact B0y A0
theorem c_pdecls:PC Tryz.prog 27 [] (Y6 D0):=by
 refine PC.ofT B1 rfl (A0C rfl) rfl (J5 _) ?_;repeat' ((with_reducible first|refine wr ?_|refine A1 ?_ ?_|refine wb2 ?_ ?_<;>(intro hb;try simp only[hb])|fail)<;>try simp only[go_sem,seval])
 exact K7 (xs:=D0.map DV.str) (u:=1) A0 rfl rfl (G9 _) ⟨[],rfl⟩
theorem c_ptrigs:PC Tryz.prog 29 [] (Y6 D5):=by
 refine PC.ofT B1 rfl (A0C rfl) rfl (J5 _) ?_;repeat' ((with_reducible first|refine wr ?_|refine A1 ?_ ?_|refine wb2 ?_ ?_<;>(intro hb;try simp only[hb])|fail)<;>try simp only[go_sem,seval])
 exact K7 (xs:=D5.map DV.str) (u:=1) A0 rfl rfl (G9 _) ⟨[],rfl⟩
theorem c_wordOf(x:Int):PC Tryz.prog 98 [I64 x] (.str (P5 B8 A3f x)):=by
 refine PC.ofT B1 rfl (A0C rfl) rfl rfl ?_;repeat' ((with_reducible first|refine G0 (p:=IW _ _ (pz Tryz.prog 98 (.o (.o .h))) _ _) ?_|refine wr ?_|refine A1 ?_ ?_|refine wb2 ?_ ?_<;>(intro hb;try simp only[hb])|fail)<;>try simp only[go_sem,seval])
 unfold V8;refine B1i c_stms (σ := Unit) (fun _=>[(0,I64 x)]) (fun _=>nil) (fun D _ _ => ∀ i∈D, ∀ v,A3f[i]? = some v->v≠x) () (by decide) (fun _=>rfl) ⟨rfl,trivial⟩ (Sub.refl _) (fun i hi=>by cases hi) ?_ ?_
 ·intro D _ c hJ hall;repeat' ((with_reducible first|refine wr ?_|refine A1 ?_ ?_|refine wb2 ?_ ?_<;>(intro hb;try simp only[hb])|fail)<;>try simp only[go_sem,seval])
  rw[B1h fun i v hi hv=>hJ i (hall i (by simpa using hi)) v hv];exact B3 rfl
 ·rintro it D _ c i kk vv hJ hDn hDb hiD hk hv;rw[A1A,A0R]at hk hv;obtain⟨w,hw,rfl⟩:=hk;obtain⟨u,hu,rfl⟩:=hv;by_cases hx:u=x
  ·subst hx;repeat' ((with_reducible first|refine wr ?_|refine A1 ?_ ?_|refine wb2 ?_ ?_<;>(intro hb;try simp only[hb])|fail)<;>try simp only[go_sem,seval])
   rw[A7g (by decide) hw hu];exact B3 rfl
  ·have hx':(u == x)=false:=by simpa using hx
   repeat' ((with_reducible first|refine wr ?_|refine A1 ?_ ?_|refine wb2 ?_ ?_<;>(intro hb;try simp only[hb])|fail)<;>try simp only[go_sem,seval,hx'])
   refine⟨(),Sub.refl _,inv (I:=fun _ _=>_) (b:=()) (c:=c) fun j hj v hv'=>?_⟩;rcases A1E.1 hj with rfl|hj
   ·rw[hu]at hv';cases hv';exact hx
   ·exact hJ j hj v hv'
theorem c_signOf(x:Int):PC Tryz.prog 115 [I64 x] (.str (A7u x)):=by
 refine PC.ofT B1 rfl (A0C rfl) rfl rfl ?_;by_cases h10:x=10
 ·subst h10;repeat' ((with_reducible first|refine wr ?_|refine A1 ?_ ?_|refine wb2 ?_ ?_<;>(intro hb;try simp only[hb])|fail)<;>try simp only[go_sem,seval])
  exact B3 rfl
 by_cases h11:x=11
 ·subst h11;repeat' ((with_reducible first|refine wr ?_|refine A1 ?_ ?_|refine wb2 ?_ ?_<;>(intro hb;try simp only[hb])|fail)<;>try simp only[go_sem,seval])
  exact B3 rfl
 have e10:(x == 10)=false:=by simpa using h10
 have e11:(x == 11)=false:=by simpa using h11
 rw[A7u,if_neg h10,if_neg h11];repeat' ((with_reducible first|refine G0 (p:=IW _ _ (pz Tryz.prog 115 (.i (.o (.i (.o .h))))) _ _) ?_|refine wr ?_|refine A1 ?_ ?_|refine wb2 ?_ ?_<;>(intro hb;try simp only[hb])|fail)<;>try simp only[go_sem,seval,e10,e11])
 unfold V8;refine B1i c_ops (σ := Unit) (fun _=>[(0,I64 x)]) (fun _=>nil) (fun D _ _ => ∀ i∈D, ∀ v,D0c[i]? = some v->v≠x) () (by decide) (fun _=>rfl) ⟨rfl,trivial⟩ (Sub.refl _) (fun i hi=>by cases hi) ?_ ?_
 ·intro D _ c hJ hall;repeat' ((with_reducible first|refine wr ?_|refine A1 ?_ ?_|refine wb2 ?_ ?_<;>(intro hb;try simp only[hb])|fail)<;>try simp only[go_sem,seval])
  rw[B1h fun i v hi hv=>hJ i (hall i (by simpa using hi)) v hv];exact B3 rfl
 ·rintro it D _ c i kk vv hJ hDn hDb hiD hk hv;rw[A1A,A0R]at hk hv;obtain⟨w,hw,rfl⟩:=hk;obtain⟨u,hu,rfl⟩:=hv;by_cases hx:u=x
  ·subst hx;repeat' ((with_reducible first|refine wr ?_|refine A1 ?_ ?_|refine wb2 ?_ ?_<;>(intro hb;try simp only[hb])|fail)<;>try simp only[go_sem,seval])
   rw[A7g (by decide) hw hu];exact B3 rfl
  ·have hx':(u == x)=false:=by simpa using hx
   repeat' ((with_reducible first|refine wr ?_|refine A1 ?_ ?_|refine wb2 ?_ ?_<;>(intro hb;try simp only[hb])|fail)<;>try simp only[go_sem,seval,hx'])
   refine⟨(),Sub.refl _,inv (I:=fun _ _=>_) (b:=()) (c:=c) fun j hj v hv'=>?_⟩;rcases A1E.1 hj with rfl|hj
   ·rw[hu]at hv';cases hv';exact hx
   ·exact hJ j hj v hv'
theorem A2m{k v p:Int}{x:List UInt8}:∃ H2,GL (nil.upd 0 ⟨4,true,[I64 k,.str x,I64 v,I64 p]⟩) [.slc 0 0 1] H2 [D9 [⟨k,x,v,p⟩]] :=
 K7 rfl rfl rfl (E4 _) ⟨[],rfl⟩
theorem A4l{o:Option Nat}{xs:List DV}{u n:Nat}(hno:o=none->xs=[])(hl:xs.length=n)(hu:∀ x∈xs,x.cells.length=u):
  ∃ H2,GL (B9 Sym.nil o ⟨u,true,A3 xs⟩) [A8 o n] H2 [.lst xs]:=by
 cases o with
 |none=>rw[hno rfl];exact B7e
 |some i=>exact K7 (id:=i) A0 rfl hl hu ⟨[],by simp⟩
theorem c_named(s:List UInt8)(hs:s.length<=1000000000):PC Tryz.prog 54 [.str s] (D9 (C8 s)):=by
 refine PC.go B1 ?_;have h1:=c_IsNameR s hs;unfold C8;cases h:C4 s with
 |true =>
  rw[if_neg (by decide)];repeat' ((with_reducible first|refine wr ?_|refine cpc h1 ?_|refine A1 ?_ ?_|refine wb2 ?_ ?_<;>(intro hb;try simp only[hb])|fail)<;>try simp only[go_sem,seval,h])
  exact A2m
 |false =>
  rw[if_pos rfl];repeat' ((with_reducible first|refine wr ?_|refine cpc h1 ?_|refine A1 ?_ ?_|refine wb2 ?_ ?_<;>(intro hb;try simp only[hb])|fail)<;>try simp only[go_sem,seval,h])
  exact A2m
theorem c_number31(n:Int):PC Tryz.prog 55 [I64 n] (D9 (N9 n)):=by
 refine PC.go B1 ?_;unfold N9;by_cases h0:n<0
 ·have hd:decide (n<0)=true:=by simpa using h0
  rw[if_pos (.inl h0)];repeat' ((with_reducible first|refine wr ?_|refine A1 ?_ ?_|refine wb2 ?_ ?_<;>(intro hb;try simp only[hb])|fail)<;>try simp only[go_sem,seval,hd])
  exact A2m
 ·have hd:decide (n<0)=false:=by simpa using h0
  by_cases h1:2147483647<n
  ·have hd1:decide (n>2147483647)=true:=by simpa using h1
   rw[if_pos (.inr h1)];repeat' ((with_reducible first|refine wr ?_|refine A1 ?_ ?_|refine wb2 ?_ ?_<;>(intro hb;try simp only[hb])|fail)<;>try simp only[go_sem,seval,hd,hd1])
   exact A2m
  ·have hd1:decide (n>2147483647)=false:=by simpa using h1
   rw[if_neg (by omega)];repeat' ((with_reducible first|refine wr ?_|refine A1 ?_ ?_|refine wb2 ?_ ?_<;>(intro hb;try simp only[hb])|fail)<;>try simp only[go_sem,seval,hd,hd1])
   exact A2m
theorem c_words1(l:List (List UInt8))(hl:l.length<=1000000)(hx:∀ x∈l,x.length<=1000000000):PC Tryz.prog 53 [Y6 l] (D9 (l.map A5)):=by
 refine PC.ofT B1 rfl (A0C rfl) (by simp[DV.nlL,DV.nl,J5]) (K1 _) ?_;repeat' ((with_reducible first|refine wr ?_|refine A1 ?_ ?_|refine wb2 ?_ ?_<;>(intro hb;try simp only[hb])|fail)<;>try simp only[go_sem,seval])
 refine D4 (fun q:Nat × Option Nat=>[(0,Y6 l),(3,A8 q.2 q.1),(4,I64 q.1)]) (fun q=>B9 Sym.nil q.2 ⟨4,true,A3 (((l.take q.1).map A5).map Tok.v)⟩)
  (fun q c=>q.1<=l.length/\(q.2=none->q.1=0)/\(∀ i,q.2=some i->i<c)) (fun q=>l.length-q.1) (0,none)
  (by simp[C5,tm,Tm.upd,A8]) (Sub.nil _) ⟨A0Z _,fun _=>rfl,(fun i hi=>by cases hi)⟩ ?_
 rintro⟨k,o⟩ c ⟨hk,hno,ho⟩;dsimp only at hk hno ho ⊢;by_cases hlt:k<l.length
 ·have hd:=dtz hlt;have hg:=A0B hlt;have hx1:=hx _ (A0V hlt);have hw:=w64 (n:=(k:Int)+1);have e0:(l.take (k+1)).map A5=(l.take k).map A5++[A5 l[k]]:=by rw[A1D,hg,A0S];rfl
  generalize l[k]=x at hg hx1 e0;have h1:=c_IsWordR x;have h2:=c_IsNameR x (by omega);have ne0:=A4n c (c+1) (by omega);have hln:(A3 (((l.take k).map A5).map Tok.v)).length=k * 4:=(C0 (u:=4) (E4 _)).trans (by rw[A0E,A0E,A1F,Nat.min_eq_left hk]);cases hw1:G3 x with
  |true =>
   repeat' ((with_reducible first|refine wr ?_|refine cpc h1 ?_|refine cpc h2 ?_|refine A1 ?_ ?_|refine wb2 ?_ ?_<;>(intro hb;try simp only[hb])|fail)<;>try simp only[go_sem,seval,hd,hg,hw,hw1,ne0,A0,A2])
   refine C6 (E0 (cs:=A3 (((l.take k).map A5).map Tok.v)) (fun e=>by have:=hno e;subst this;exact⟨rfl,rfl⟩) (fun i hi=>by have:=ho i hi;rw[hnO,hnO];exact A0c hi) hln (by omega) (by omega) (by omega)) ?_;simp only[go_sem,seval,ne0];repeat' ((with_reducible first|refine wr ?_|refine A1 ?_ ?_|refine wb2 ?_ ?_<;>(intro hb;try simp only[hb])|fail)<;>try simp only[go_sem,seval,hd,hw,ne0])
   refine⟨(k+1,some (c+1+1)),by simp[C5,tm,Tm.upd,A8],?_,inv ⟨by omega,(fun h=>by cases h),(fun i hi=>by cases hi;omega)⟩,by simp only;omega⟩;dsimp only[B9];rw[e0,A0S,C1];refine K6 ?_;unfold A5;simp only[hw1,if_true,if_false,A1N];rfl
  |false =>
   cases hn1:C4 x with
   |true =>
    repeat' ((with_reducible first|refine wr ?_|refine cpc h1 ?_|refine cpc h2 ?_|refine A1 ?_ ?_|refine wb2 ?_ ?_<;>(intro hb;try simp only[hb])|fail)<;>try simp only[go_sem,seval,hd,hg,hw,hw1,hn1,ne0,A0,A2])
    refine C6 (E0 (cs:=A3 (((l.take k).map A5).map Tok.v)) (fun e=>by have:=hno e;subst this;exact⟨rfl,rfl⟩) (fun i hi=>by have:=ho i hi;rw[hnO,hnO];exact A0c hi) hln (by omega) (by omega) (by omega)) ?_;simp only[go_sem,seval,ne0];repeat' ((with_reducible first|refine wr ?_|refine A1 ?_ ?_|refine wb2 ?_ ?_<;>(intro hb;try simp only[hb])|fail)<;>try simp only[go_sem,seval,hd,hw,ne0])
    refine⟨(k+1,some (c+1+1)),by simp[C5,tm,Tm.upd,A8],?_,inv ⟨by omega,(fun h=>by cases h),(fun i hi=>by cases hi;omega)⟩,by simp only;omega⟩;dsimp only[B9];rw[e0,A0S,C1];refine K6 ?_;unfold A5;simp only[hw1,hn1,if_true,if_false,A1N];rfl
   |false =>
    repeat' ((with_reducible first|refine wr ?_|refine cpc h1 ?_|refine cpc h2 ?_|refine A1 ?_ ?_|refine wb2 ?_ ?_<;>(intro hb;try simp only[hb])|fail)<;>try simp only[go_sem,seval,hd,hg,hw,hw1,hn1,ne0,A0,A2])
    refine C6 (E0 (cs:=A3 (((l.take k).map A5).map Tok.v)) (fun e=>by have:=hno e;subst this;exact⟨rfl,rfl⟩) (fun i hi=>by have:=ho i hi;rw[hnO,hnO];exact A0c hi) hln (by omega) (by omega) (by omega)) ?_;simp only[go_sem,seval,ne0];repeat' ((with_reducible first|refine wr ?_|refine A1 ?_ ?_|refine wb2 ?_ ?_<;>(intro hb;try simp only[hb])|fail)<;>try simp only[go_sem,seval,hd,hw,ne0])
    refine⟨(k+1,some (c+1+1)),by simp[C5,tm,Tm.upd,A8],?_,inv ⟨by omega,(fun h=>by cases h),(fun i hi=>by cases hi;omega)⟩,by simp only;omega⟩;dsimp only[B9];rw[e0,A0S,C1];refine K6 ?_;unfold A5;simp only[hw1,hn1,if_true,if_false,A1N];rfl
 ·have hd:=dfz hlt;repeat' ((with_reducible first|refine wr ?_|refine A1 ?_ ?_|refine wb2 ?_ ?_<;>(intro hb;try simp only[hb])|fail)<;>try simp only[go_sem,seval,hd])
  rw[A0L (by omega)];exact A4l (fun e=>by rw[A1K (l:=l) (by have:=hno e;omega)];rfl) (by simp;omega) (E4 _)
theorem c_join1(l:List (List Tok))(hl:l.length<=1000)(hx:∀ x∈l,1<=x.length/\x.length<=1000000000):PC Tryz.prog 52 [.lst (l.map D9)] (D9 l.flatten):=by
 refine PC.ofT B1 rfl (A0C rfl) (by simp only[DV.nlL,DV.nl,O3 (f:=D9) (fun a=>K1 a),A1X]) (K1 _) ?_;repeat' ((with_reducible first|refine wr ?_|refine A1 ?_ ?_|refine wb2 ?_ ?_<;>(intro hb;try simp only[hb])|fail)<;>try simp only[go_sem,seval])
 refine D4 (fun q:Nat × Option Nat=>[(0,.lst (l.map D9)),(3,A8 q.2 (l.take q.1).flatten.length),(4,I64 q.1)]) (fun q=>B9 Sym.nil q.2 ⟨4,true,A3 ((l.take q.1).flatten.map Tok.v)⟩)
  (fun q c=>q.1<=l.length/\(q.2=none->q.1=0)/\(∀ i,q.2=some i->i<c)/\(l.take q.1).flatten.length<=1000000000 * q.1) (fun q=>l.length-q.1) (0,none)
  (by simp[C5,tm,Tm.upd,A8]) (Sub.nil _) ⟨A0Z _,fun _=>rfl,(fun i hi=>by cases hi),by simp⟩ ?_
 rintro⟨k,o⟩ c ⟨hk,hno,ho,hlen⟩;dsimp only at hk hno ho hlen ⊢;by_cases hlt:k<l.length
 ·have hd:=dtz hlt;have hg:=A0B hlt;obtain⟨hx1,hx2⟩:=hx _ (A0V hlt);have hw:=w64 (n:=(k:Int)+1);have e0:(l.take (k+1)).flatten=(l.take k).flatten++l[k]:=by rw[A1D,hg,List.flatten_append];simp
  generalize l[k]=x at hg hx1 hx2 e0;generalize hy:(l.take k).flatten=y at hlen e0 ⊢;have hun:unit 4 (x.map Tok.v)=true:=by unfold unit;rw[A0Q];intro d hd;simp[E4 x d hd]
  have hny:o=none->y=[]:=fun e=>by rw[<- hy,hno e];rfl
  have hln:(A3 (y.map Tok.v)).length=y.length * 4:=(C0 (u:=4) (E4 _)).trans (by simp);repeat' ((with_reducible first|refine wr ?_|refine A1 ?_ ?_|refine wb2 ?_ ?_<;>(intro hb;try simp only[hb])|fail)<;>try simp only[go_sem,seval,hd,hg,hw,O7 hun])
  refine C6 (E0 (cs:=A3 (y.map Tok.v)) (fun e=>by rw[hny e];exact⟨rfl,rfl⟩) (fun i hi=>A0c hi) hln (by omega) (by omega) (by omega)) ?_;simp only[go_sem,seval];repeat' ((with_reducible first|refine wr ?_|refine A1 ?_ ?_|refine wb2 ?_ ?_<;>(intro hb;try simp only[hb])|fail)<;>try simp only[go_sem,seval,hd,hw])
  refine⟨(k+1,some c),by simp[C5,tm,Tm.upd,A8,e0],?_,inv ⟨by omega,(fun h=>by cases h),(fun i hi=>by cases hi;omega),by simp only;rw[e0,A0A];omega⟩,by simp only;omega⟩;dsimp only[B9];rw[e0,A0S,C1];exact K6 rfl
 ·have hd:=dfz hlt;repeat' ((with_reducible first|refine wr ?_|refine A1 ?_ ?_|refine wb2 ?_ ?_<;>(intro hb;try simp only[hb])|fail)<;>try simp only[go_sem,seval,hd])
  rw[A0L (by omega)];exact A4l (fun e=>by rw[A1K (l:=l) (by have:=hno e;omega)];rfl) (by rw[A0E]) (E4 _)
theorem M7{H:Hp}{i j:Nat}:I5 H (some i) j=if j=i then none else H j:=_root_.id rfl
theorem C3f{H:Hp}{i:Nat}{b:Blk}:I5 (H.upd i b) (some i)=I5 H (some i):=by
 funext j;rw[M7,M7];split
 ·rfl
 ·rename_i h;rw[A6 h]
theorem C6m{H:Hp}{i k:Nat}{b:Blk}(h:¬ k=i):I5 (H.upd k b) (some i)=(I5 H (some i)).upd k b:=by
 funext j;rw[M7]
 by_cases e:j=k
 ·subst e;rw[A0,if_neg h,A0]
 ·rw[A6 e,A6 e,M7]
theorem C6n{i:Nat}:I5 nil (some i)=nil:=by
 funext j;rw[M7];split<;>rfl
theorem D0s{ks:List Nat}{H:Hp}{i:Nat}(h:ks.all (fun k=>k != i)=true):I4 ks H (I5 (F8 H ks) (some i))=I5 H (some i):=by
 have hi:i ∉ ks:=fun hm=>by simpa using A0Q.1 h i hm
 funext j
 simp only[I4,M7,F8];by_cases e:j=i
 ·subst e;rw[if_neg hi,if_pos rfl,if_pos rfl]
 ·by_cases e2:j∈ks
  ·rw[if_pos e2,if_neg e]
  ·rw[if_neg e2,if_neg e,if_neg e,if_neg e2]
attribute [go_sem] C3f C6m C6n
theorem C5q{k i:Nat}{H:Hp}(h:¬ k=i):I4 [k] H (I5 (F8 H [k]) (some i))=I5 H (some i):=D0s (by simpa using h)
attribute [go_sem] C5q
theorem X5{f:Nat}{xs:List DV}{r:DV}{u id n cc:Nat}{H:Hp}{cs:List DV}(h:PC Tryz.prog f [.lst xs] r)(hb:H id=some ⟨u,true,cs⟩)(hcs:cs=A3 xs)(hl:xs.length=n)(hu:∀ x∈xs,x.cells.length=u):
  AC Tryz.prog f [.slc id 0 n] H cc (fun v H' c'=>v=r/\H'=I5 H (some id)/\c'=cc) :=
 AC.ghost (GL.frzS (id:=id) hb rfl (fun j=>by
  by_cases e:j=id
  ·subst e;exact .inl (by rw[M7,if_pos rfl])
  ·exact .inr ⟨e,by rw[M7,if_neg e]⟩) (.cons _ _ _ _ (M6 hl hu ⟨[],by rw[hcs];simp⟩) .nil)) (h.at _ cc)
def wT(x:List UInt8):List Tok:=[A5 x]
theorem A0t(x:List UInt8):1<=(wT x).length/\(wT x).length<=1000000000:=⟨A0J _,by show 1<=_;omega⟩
theorem wd1{x:List UInt8}{id cc:Nat}{H:Hp}(hb:H id=some ⟨1,true,[.str x]⟩)(hx:x.length<=1000000000):
  AC Tryz.prog 53 [.slc id 0 1] H cc (fun v H' c'=>v=D9 (wT x)/\H'=I5 H (some id)/\c'=cc) :=
 X5 (xs:=[.str x]) (c_words1 [x] (by simp) (by simpa using hx)) hb rfl rfl (G9 [x])
theorem wd2{x y:List UInt8}{id cc:Nat}{H:Hp}(hb:H id=some ⟨1,true,[.str x,.str y]⟩)(hx:x.length<=1000000000)(hy:y.length<=1000000000):
  AC Tryz.prog 53 [.slc id 0 2] H cc (fun v H' c'=>v=D9 [A5 x,A5 y]/\H'=I5 H (some id)/\c'=cc) :=
 X5 (xs:=[.str x,.str y]) (c_words1 [x,y] (by simp) (by simp[hx,hy])) hb rfl rfl (G9 [x,y])
theorem A4c(l:List (List Tok)):∀ x∈l.map D9,x.cells.length=1:=fun x hx=>by obtain⟨y, -,rfl⟩:=A1L.1 hx;rfl
theorem jn2{a b:List Tok}{id cc:Nat}{H:Hp}(hH:H id=some ⟨1,true,[D9 a,D9 b]⟩)(ha:1<=a.length/\a.length<=1000000000)(hb:1<=b.length/\b.length<=1000000000):
  AC Tryz.prog 52 [.slc id 0 2] H cc (fun v H' c'=>v=D9 (a++b)/\H'=I5 H (some id)/\c'=cc):=by
 have:=X5 (id:=id) (cc:=cc) (H:=H) (u:=1) (n:=2) (c_join1 [a,b] (by simp) (by simp[ha,hb])) hH rfl rfl (A4c [a,b])
 rwa [A1J,A1J,A3Y,A1H]at this
theorem jn3{a b c:List Tok}{id cc:Nat}{H:Hp}(hH:H id=some ⟨1,true,[D9 a,D9 b,D9 c]⟩)(ha:1<=a.length/\a.length<=1000000000)(hb:1<=b.length/\b.length<=1000000000)(hc:1<=c.length/\c.length<=1000000000):
  AC Tryz.prog 52 [.slc id 0 3] H cc (fun v H' c'=>v=D9 (a++b++c)/\H'=I5 H (some id)/\c'=cc):=by
 have:=X5 (id:=id) (cc:=cc) (H:=H) (u:=1) (n:=3) (c_join1 [a,b,c] (by simp) (by simp[ha,hb,hc])) hH rfl rfl (A4c [a,b,c])
 rwa [A1J,A1J,A1J,A3Y,A1H, <- A0T]at this
theorem B5b(x:List UInt8):1<=(C8 x).length/\(C8 x).length<=1000000000:=by rw[A4];omega
theorem c_operand(e:Ex)(n:Int)(hT:(exT e).length<=100000000)(h:PC Tryz.prog 156 [e.v] (D9 (exT e))):PC Tryz.prog 173 [e.v,I64 n] (D9 (E1 (e.kind,exT e) n)):=by
 refine PC.ofT B1 rfl (A0C rfl) (by simp[DV.nlL,DV.nl,Ex.nl]) (K1 _) ?_;rw[Ex.v_w]at h ⊢;have hlv:=c_level e.kind;obtain⟨hl1, -⟩:=A1d e;obtain⟨R,hR⟩:∃ R,R=D9 (E1 (e.kind,exT e) n):=⟨_,rfl⟩;rw[<- hR];unfold E1 at hR;dsimp only at hR;generalize exT e=T at h hT hl1 hR;by_cases hlt:B5 e.kind<n
 ·have hd:decide (B5 e.kind<n)=true:=by simpa using hlt
  rw[if_pos hlt]at hR;repeat' ((first|(with_reducible first|refine wr ?_|refine cpc hlv ?_|refine cpc h ?_|refine A1 ?_ ?_)|(with_reducible refine wb2 ?_ ?_<;>(intro hb;try simp only[hb]))|(refine AC.call (wd1 rfl (by decide)) ?_<;>rintro _ _ _ ⟨rfl,rfl,rfl⟩ -)|(refine AC.call (jn3 rfl (A0t _) ⟨hl1,by omega⟩ (A0t _)) ?_<;>rintro _ _ _ ⟨rfl,rfl,rfl⟩ -)|fail)<;>try simp only[go_sem,seval,hd])
  exact⟨_,by rw[hR];exact GL.refl _ _⟩
 ·have hd:decide (B5 e.kind<n)=false:=by simpa using hlt
  rw[if_neg hlt]at hR;repeat' ((with_reducible first|refine wr ?_|refine cpc hlv ?_|refine cpc h ?_|refine A1 ?_ ?_|refine wb2 ?_ ?_<;>(intro hb;try simp only[hb])|fail)<;>try simp only[go_sem,seval,hd])
  exact⟨_,by rw[hR];exact GL.refl _ _⟩
theorem C1d{sz:Nat}{xs:List DV}{k:IntKind}:A4t sz (.lst xs) (.int k 1)=B9b sz xs[1]? := B4p (l:=1)
theorem c_exprT:∀ (m:Nat) (e:Ex),e.sz<m->e.sz<=10000000->PC Tryz.prog 156 [e.v] (D9 (exT e)):=by
 intro m
 induction m with
 |zero=>intro e h;omega
 |succ m ih =>
 intro e hm hB;have ihx:∀ x∈e.args,PC Tryz.prog 156 [x.v] (D9 (exT x)):=fun x hx=>ih x (by have:=Ex.sz_arg hx;omega) (by have:=Ex.sz_arg hx;omega);have hop:∀ x∈e.args, ∀ n,PC Tryz.prog 173 [x.v,I64 n] (D9 (E1 (x.kind,exT x) n)):=fun x hx n=>c_operand x n (by have:=(A1d x).2;have:=Ex.sz_arg hx;omega) (ihx x hx);have hle:∀ x∈e.args, ∀ n,1<=(E1 (x.kind,exT x) n).length/\(E1 (x.kind,exT x) n).length<=1000000000:=fun x hx n=>by
  have h1:=A1d x;have h2:=Ex.sz_arg hx;have h3:=A2n (x.kind,exT x) n;dsimp only at h3;omega
 clear ih ihx;obtain⟨R,hR⟩:∃ R,R=D9 (exT e):=⟨_,rfl⟩;have hnm:=e.sz_name;refine PC.ofT B1 rfl (A0C rfl) (by simp[DV.nlL,DV.nl,Ex.nl]) (K1 _) ?_;rw[Ex.v_w, <- hR];cases e with|mk k v n a p =>
 rw[exT,A1y]at hR;dsimp only[Ex.w,Ex.kind,Ex.value,Ex.name,Ex.args,Ex.pos]at hop hle hnm ⊢;unfold F1 at hR;dsimp only at hR;have hlv:=c_level k;have hnu:=c_number31 v;have hna:=c_named n (by omega);by_cases h1:k=1
 ·subst h1;rw[if_pos rfl]at hR;repeat' ((with_reducible first|refine wr ?_|refine cpc hlv ?_|refine cpc hnu ?_|refine A1 ?_ ?_|refine wb2 ?_ ?_<;>(intro hb;try simp only[hb])|fail)<;>try simp only[go_sem,seval])
  exact⟨_,by rw[hR];exact GL.refl _ _⟩
 have d1:(k == 1)=false:=by simpa using h1
 rw[if_neg h1]at hR;by_cases h2:k=2
 ·subst h2;rw[if_pos rfl]at hR;repeat' ((with_reducible first|refine wr ?_|refine cpc hlv ?_|refine cpc hna ?_|refine A1 ?_ ?_|refine wb2 ?_ ?_<;>(intro hb;try simp only[hb])|fail)<;>try simp only[go_sem,seval])
  exact⟨_,by rw[hR];exact GL.refl _ _⟩
 have d2:(k == 2)=false:=by simpa using h2
 rw[if_neg h2]at hR;by_cases h3:k=3
 ·subst h3;rw[if_pos rfl]at hR;repeat' ((first|(with_reducible first|refine wr ?_|refine cpc hlv ?_|refine A1 ?_ ?_)|(with_reducible refine wb2 ?_ ?_<;>(intro hb;try simp only[hb]))|(refine AC.call (wd1 rfl (by decide)) ?_<;>rintro _ _ _ ⟨rfl,rfl,rfl⟩ -)|fail)<;>try simp only[go_sem,seval])
  exact⟨_,by rw[hR];exact GL.refl _ _⟩
 have d3:(k == 3)=false:=by simpa using h3
 rw[if_neg h3]at hR;by_cases h4:k=4
 ·subst h4;rw[if_pos rfl]at hR;repeat' ((first|(with_reducible first|refine wr ?_|refine cpc hlv ?_|refine A1 ?_ ?_)|(with_reducible refine wb2 ?_ ?_<;>(intro hb;try simp only[hb]))|(refine AC.call (wd1 rfl (by decide)) ?_<;>rintro _ _ _ ⟨rfl,rfl,rfl⟩ -)|fail)<;>try simp only[go_sem,seval])
  exact⟨_,by rw[hR];exact GL.refl _ _⟩
 have d4:(k == 4)=false:=by simpa using h4
 rw[if_neg h4]at hR;by_cases h8:k=8
 ·subst h8;rw[if_pos rfl]at hR;repeat' ((first|(with_reducible first|refine wr ?_|refine cpc hlv ?_|refine A1 ?_ ?_)|(with_reducible refine wb2 ?_ ?_<;>(intro hb;try simp only[hb]))|(refine AC.call (wd1 rfl (by decide)) ?_<;>rintro _ _ _ ⟨rfl,rfl,rfl⟩ -)|fail)<;>try simp only[go_sem,seval])
  exact⟨_,by rw[hR];exact GL.refl _ _⟩
 have d8:(k == 8)=false:=by simpa using h8
 rw[if_neg h8]at hR;by_cases h9:k=9
 ·subst h9;rw[if_pos rfl]at hR;repeat' ((first|(with_reducible first|refine wr ?_|refine cpc hlv ?_|refine A1 ?_ ?_)|(with_reducible refine wb2 ?_ ?_<;>(intro hb;try simp only[hb]))|(refine AC.call (wd1 rfl (by decide)) ?_<;>rintro _ _ _ ⟨rfl,rfl,rfl⟩ -)|fail)<;>try simp only[go_sem,seval])
  exact⟨_,by rw[hR];exact GL.refl _ _⟩
 have d9:(k == 9)=false:=by simpa using h9
 rw[if_neg h9]at hR;by_cases h5:k=5
 ·subst h5;rw[if_pos rfl]at hR;repeat' ((first|(with_reducible first|refine wr ?_|refine cpc hlv ?_|refine cpc hna ?_|refine A1 ?_ ?_)|(with_reducible refine wb2 ?_ ?_<;>(intro hb;try simp only[hb]))|(refine AC.call (wd1 rfl (by decide)) ?_<;>rintro _ _ _ ⟨rfl,rfl,rfl⟩ -)|(refine AC.call (jn2 rfl (A0t _) (B5b _)) ?_<;>rintro _ _ _ ⟨rfl,rfl,rfl⟩ -)|fail)<;>try simp only[go_sem,seval])
  exact⟨_,by rw[hR];exact GL.refl _ _⟩
 have d5:(k == 5)=false:=by simpa using h5
 rw[if_neg h5]at hR;by_cases h6:k=6
 ·subst h6;rw[if_pos rfl]at hR;repeat' ((first|(with_reducible first|refine wr ?_|refine cpc hlv ?_|refine cpc hna ?_|refine A1 ?_ ?_)|(with_reducible refine wb2 ?_ ?_<;>(intro hb;try simp only[hb]))|(refine AC.call (wd1 rfl (by decide)) ?_<;>rintro _ _ _ ⟨rfl,rfl,rfl⟩ -)|(refine AC.call (jn2 rfl (A0t _) (B5b _)) ?_<;>rintro _ _ _ ⟨rfl,rfl,rfl⟩ -)|fail)<;>try simp only[go_sem,seval])
  exact⟨_,by rw[hR];exact GL.refl _ _⟩
 have d6:(k == 6)=false:=by simpa using h6
 rw[if_neg h6]at hR;by_cases h7:k=7
 ·subst h7;rw[if_pos rfl]at hR;repeat' ((first|(with_reducible first|refine wr ?_|refine cpc hlv ?_|refine cpc hna ?_|refine A1 ?_ ?_)|(with_reducible refine wb2 ?_ ?_<;>(intro hb;try simp only[hb]))|(refine AC.call (wd1 rfl (by decide)) ?_<;>rintro _ _ _ ⟨rfl,rfl,rfl⟩ -)|(refine AC.call (jn2 rfl (A0t _) (B5b _)) ?_<;>rintro _ _ _ ⟨rfl,rfl,rfl⟩ -)|fail)<;>try simp only[go_sem,seval])
  exact⟨_,by rw[hR];exact GL.refl _ _⟩
 have d7:(k == 7)=false:=by simpa using h7
 rw[if_neg h7]at hR;have hbad:∀ q:List Tok,R=D9 q->q=[O9]->∃ H2,GL ((nil.upd 0 ⟨0,true,[I64 k,I64 v,.str n,I9 a,I64 p]⟩).upd 1 ⟨4,true,[I64 0,.str [],I64 0,I64 0]⟩) [.slc 1 0 1] H2 [R]:=fun q h1 h2=>by
  rw[h1,h2];exact K7 (id:=1) A0 rfl rfl (E4 [O9]) ⟨[],rfl⟩
 have w0:IntKind.i64.wrap 0=0:=by decide
 have w1:IntKind.i64.wrap 1=1:=by decide
 match a with
 |[] =>
  have e1:((0:Int) == 1)=false:=rfl;have e2:((0:Int) == 2)=false:=rfl;try dsimp only[List.map_nil]at hR
  by_cases l6:B5 k=6
  ·have m6:(B5 k == 6)=true:=by simpa using l6
   have m5:decide (B5 k<6)=false:=by simp;omega
   repeat' ((with_reducible first|refine wr ?_|refine cpc hlv ?_|refine A1 ?_ ?_|refine wb2 ?_ ?_<;>(intro hb;try simp only[hb])|fail)<;>try simp only[go_sem,seval,d1,d2,d3,d4,d8,d9,d5,d6,d7,m6,m5,A0N,List.map_nil,A0E])
   exact hbad _ hR rfl
  ·have m6:(B5 k == 6)=false:=by simpa using l6
   by_cases l5:B5 k<6
   ·have m5:decide (B5 k<6)=true:=by simpa using l5
    repeat' ((with_reducible first|refine wr ?_|refine cpc hlv ?_|refine A1 ?_ ?_|refine wb2 ?_ ?_<;>(intro hb;try simp only[hb])|fail)<;>try simp only[go_sem,seval,d1,d2,d3,d4,d8,d9,d5,d6,d7,m6,m5,A0N,List.map_nil,A0E])
    exact hbad _ hR rfl
   ·have m5:decide (B5 k<6)=false:=by simpa using l5
    repeat' ((with_reducible first|refine wr ?_|refine cpc hlv ?_|refine A1 ?_ ?_|refine wb2 ?_ ?_<;>(intro hb;try simp only[hb])|fail)<;>try simp only[go_sem,seval,d1,d2,d3,d4,d8,d9,d5,d6,d7,m6,m5,A0N,List.map_nil,A0E])
    exact hbad _ hR rfl
 |[x] =>
  have hx:=fun n=>by have:=hop x A0K n;rwa [Ex.v_w]at this
  have hxl:=hle x A0K;simp only[A0U,List.map_nil]at hR;by_cases l6:B5 k=6
  ·have m6:(B5 k == 6)=true:=by simpa using l6
   rw[if_pos l6]at hR;have hk:k=10\/k=11:=by
    unfold B5 at l6;repeat' split at l6
    all_goals omega
   rcases hk with rfl|rfl
   ·rw[if_pos rfl]at hR;repeat' ((first|(with_reducible first|refine wr ?_|refine cpc hlv ?_|refine cpc (hx 6) ?_|refine A1 ?_ ?_)|(with_reducible refine wb2 ?_ ?_<;>(intro hb;try simp only[hb]))|(refine AC.call (wd1 rfl (by decide)) ?_<;>rintro _ _ _ ⟨rfl,rfl,rfl⟩ -)|(refine AC.call (jn2 rfl (A0t _) (hxl 6)) ?_<;>rintro _ _ _ ⟨rfl,rfl,rfl⟩ -)|fail)<;>try simp only[go_sem,seval,d1,d2,d3,d4,d8,d9,d5,d6,d7,m6,w0,w1,Ex.v_w])
    exact⟨_,by rw[hR];exact GL.refl _ _⟩
   ·rw[if_neg (by decide)]at hR;repeat' ((first|(with_reducible first|refine wr ?_|refine cpc hlv ?_|refine cpc (hx 6) ?_|refine A1 ?_ ?_)|(with_reducible refine wb2 ?_ ?_<;>(intro hb;try simp only[hb]))|(refine AC.call (wd1 rfl (by decide)) ?_<;>rintro _ _ _ ⟨rfl,rfl,rfl⟩ -)|(refine AC.call (jn2 rfl (A0t _) (hxl 6)) ?_<;>rintro _ _ _ ⟨rfl,rfl,rfl⟩ -)|fail)<;>try simp only[go_sem,seval,d1,d2,d3,d4,d8,d9,d5,d6,d7,m6,w0,w1,Ex.v_w])
    exact⟨_,by rw[hR];exact GL.refl _ _⟩
  ·have m6:(B5 k == 6)=false:=by simpa using l6
   rw[if_neg l6]at hR;by_cases l5:B5 k<6
   ·have m5:decide (B5 k<6)=true:=by simpa using l5
    repeat' ((with_reducible first|refine wr ?_|refine cpc hlv ?_|refine A1 ?_ ?_|refine wb2 ?_ ?_<;>(intro hb;try simp only[hb])|fail)<;>try simp only[go_sem,seval,d1,d2,d3,d4,d8,d9,d5,d6,d7,m6,m5])
    exact hbad _ hR rfl
   ·have m5:decide (B5 k<6)=false:=by simpa using l5
    repeat' ((with_reducible first|refine wr ?_|refine cpc hlv ?_|refine A1 ?_ ?_|refine wb2 ?_ ?_<;>(intro hb;try simp only[hb])|fail)<;>try simp only[go_sem,seval,d1,d2,d3,d4,d8,d9,d5,d6,d7,m6,m5])
    exact hbad _ hR rfl
 |[x,y] =>
  have hx:=fun n=>by have:=hop x A0K n;rwa [Ex.v_w]at this
  have hxl:=hle x A0K;have hy:=fun n=>by have:=hop y (A0H _ A0K) n;rwa [Ex.v_w]at this
  have hyl:=hle y (A0H _ A0K);simp only[A0U,List.map_nil]at hR;by_cases l5:B5 k<6
  ·have m5:decide (B5 k<6)=true:=by simpa using l5
   have m6:(B5 k == 6)=false:=by simp;omega
   rw[if_pos l5]at hR;obtain⟨k1,k2⟩:=B1e (k:=k) (by omega);have k3:12<=k:=by
    apply Classical.byContradiction;intro hc;have:k=10\/k=11:=by omega
    rw[Z1 this]at l5;omega
   obtain⟨j,hj⟩:∃ j:Nat,k=12+(j:Int):=⟨(k-12).toNat,by omega⟩;have hjw:IntKind.i64.wrap (k-12)=(j:Int):=by rw[w6z (by omega)];omega
   have hjn:(k-12).toNat=j:=by omega
   rw[hjn]at hR;have hj13:j<13:=by omega
   have hgj:D3[j]? = some (D3.getD j []):=by
    rw[A0Y,A0B (show j<D3.length from hj13)];rfl
   have hsl:(D3.getD j []).length<=1000000000:=by
    have:∀ i:Nat,i<13->(D3.getD i []).length<=1000000000:=by decide
    exact this j hj13
   generalize D3.getD j []=S at hR hgj hsl;have hw1:IntKind.i64.wrap (B5 k+1)=B5 k+1:=w64 (by have:=T3 k;omega) (by have:=T3 k;omega);by_cases l3:B5 k=3
   ·have m3:(B5 k == 3)=true:=by simpa using l3
    rw[if_pos l3]at hR;repeat' ((first|(with_reducible first|refine wr ?_|refine cpc hlv ?_|refine cpc (hx 4) ?_|refine cpc c_signs31 ?_|refine cpc (hy (B5 k+1)) ?_|refine A1 ?_ ?_)|(with_reducible refine wb2 ?_ ?_<;>(intro hb;try simp only[hb]))|(refine AC.call (wd1 rfl hsl) ?_<;>rintro _ _ _ ⟨rfl,rfl,rfl⟩ -)|(refine AC.call (jn3 rfl (hxl 4) (A0t _) (hyl (B5 k+1))) ?_<;>rintro _ _ _ ⟨rfl,rfl,rfl⟩ -)|fail)<;>try simp only[go_sem,seval,d1,d2,d3,d4,d8,d9,d5,d6,d7,m6,m5,m3,hjw,hgj,hw1,Ex.v_w,C1d,A2O,A2N])
    exact⟨_,by rw[hR];exact GL.refl _ _⟩
   ·have m3:(B5 k == 3)=false:=by simpa using l3
    rw[if_neg l3]at hR;repeat' ((first|(with_reducible first|refine wr ?_|refine cpc hlv ?_|refine cpc (hx (B5 k)) ?_|refine cpc c_signs31 ?_|refine cpc (hy (B5 k+1)) ?_|refine A1 ?_ ?_)|(with_reducible refine wb2 ?_ ?_<;>(intro hb;try simp only[hb]))|(refine AC.call (wd1 rfl hsl) ?_<;>rintro _ _ _ ⟨rfl,rfl,rfl⟩ -)|(refine AC.call (jn3 rfl (hxl (B5 k)) (A0t _) (hyl (B5 k+1))) ?_<;>rintro _ _ _ ⟨rfl,rfl,rfl⟩ -)|fail)<;>try simp only[go_sem,seval,d1,d2,d3,d4,d8,d9,d5,d6,d7,m6,m5,m3,hjw,hgj,hw1,Ex.v_w,C1d,A2O,A2N])
    exact⟨_,by rw[hR];exact GL.refl _ _⟩
  ·have m5:decide (B5 k<6)=false:=by simpa using l5
   rw[if_neg l5]at hR;by_cases l6:B5 k=6
   ·have m6:(B5 k == 6)=true:=by simpa using l6
    repeat' ((with_reducible first|refine wr ?_|refine cpc hlv ?_|refine A1 ?_ ?_|refine wb2 ?_ ?_<;>(intro hb;try simp only[hb])|fail)<;>try simp only[go_sem,seval,d1,d2,d3,d4,d8,d9,d5,d6,d7,m6,m5])
    exact hbad _ hR rfl
   ·have m6:(B5 k == 6)=false:=by simpa using l6
    repeat' ((with_reducible first|refine wr ?_|refine cpc hlv ?_|refine A1 ?_ ?_|refine wb2 ?_ ?_<;>(intro hb;try simp only[hb])|fail)<;>try simp only[go_sem,seval,d1,d2,d3,d4,d8,d9,d5,d6,d7,m6,m5])
    exact hbad _ hR rfl
 |x :: y :: z :: l =>
  simp only[A0U]at hR;obtain⟨A,hA⟩:∃ A,A=(x :: y :: z :: l).map Ex.v:=⟨_,rfl⟩;have n1:((A.length:Int) == 1)=false:=by rw[hA];simp;omega
  have n2:((A.length:Int) == 2)=false:=by rw[hA];simp;omega
  have hex:I9 (x :: y :: z :: l)=.lst A:=by rw[hA]
  rw[hex]at hbad ⊢;by_cases l6:B5 k=6
  ·have m6:(B5 k == 6)=true:=by simpa using l6
   have m5:decide (B5 k<6)=false:=by simp;omega
   repeat' ((with_reducible first|refine wr ?_|refine cpc hlv ?_|refine A1 ?_ ?_|refine wb2 ?_ ?_<;>(intro hb;try simp only[hb])|fail)<;>try simp only[go_sem,seval,d1,d2,d3,d4,d8,d9,d5,d6,d7,m6,m5,n1,n2])
   exact hbad _ hR rfl
  ·have m6:(B5 k == 6)=false:=by simpa using l6
   by_cases l5:B5 k<6
   ·have m5:decide (B5 k<6)=true:=by simpa using l5
    repeat' ((with_reducible first|refine wr ?_|refine cpc hlv ?_|refine A1 ?_ ?_|refine wb2 ?_ ?_<;>(intro hb;try simp only[hb])|fail)<;>try simp only[go_sem,seval,d1,d2,d3,d4,d8,d9,d5,d6,d7,m6,m5,n1,n2])
    exact hbad _ hR rfl
   ·have m5:decide (B5 k<6)=false:=by simpa using l5
    repeat' ((with_reducible first|refine wr ?_|refine cpc hlv ?_|refine A1 ?_ ?_|refine wb2 ?_ ?_<;>(intro hb;try simp only[hb])|fail)<;>try simp only[go_sem,seval,d1,d2,d3,d4,d8,d9,d5,d6,d7,m6,m5,n1,n2])
    exact hbad _ hR rfl
end Go.Proofs.YtmmjlijdfhkdcaaGreatDoor
end
