/-
  HELPERS of the claim: part 8 of its texts.
-/
import Derived.Test.YtkkjpohaffjecaaGreatDoorCmyg
import Derived.Shelf.LaysC
import Derived.Shelf.Strconv.ParseIntPublic10
import Derived.Test.YtkkjpohaffjecaaGreatDoorProg
import Derived.Test.YtkkjpohaffjecaaGreatDoorRows
noncomputable section
set_option linter.unusedVariables false
namespace Go.Proofs
open Go.Shelf
def Tryz.laysC174_ren:Go.Shelf.Ren:=⟨fun |174=>328 |247=>338 |245=>339 |287=>345 |279=>346 |280=>347 |281=>348 |282=>349 |321=>352 |322=>353 |316=>354 |171=>73 |205=>355 |243=>144 |246=>209 |283=>275 |284=>276 |285=>277 |286=>278 |129=>260 |317=>320 |318=>321 |319=>322 |320=>323 |337=>335 |338=>336|n=>n,fun |9=>9 |3=>3 |2=>2 |75=>263 |85=>333 |4=>4 |167=>358 |5=>5 |53=>37 |175=>359 |46=>123 |168=>361 |37=>22 |0=>0 |210=>368 |21=>21 |127=>303 |145=>372 |143=>370 |171=>299 |173=>301 |212=>325 |51=>38 |20=>20 |213=>326 |232=>345 |233=>346 |80=>67|n=>n,fun |15=>6 |16=>7 |17=>0 |18=>4 |19=>5|n=>n⟩
theorem Tryz.laysC174:Go.Proofs.LaysC.n174 Tryz.prog Tryz.laysC174_ren:={
 mixed:=by kernel_rfl
 f129:=Tryz.func260.trans (congrArg some (by kernel_rfl))
 f171:=Tryz.func73.trans (congrArg some (by kernel_rfl))
 f174:=Tryz.func328.trans (congrArg some (by kernel_rfl))
 f205:=Tryz.func355.trans (congrArg some (by kernel_rfl))
 f243:=Tryz.func144.trans (congrArg some (by kernel_rfl))
 f245:=Tryz.func339.trans (congrArg some (by kernel_rfl))
 f246:=Tryz.func209.trans (congrArg some (by kernel_rfl))
 f247:=Tryz.func338.trans (congrArg some (by kernel_rfl))
 f279:=Tryz.func346.trans (congrArg some (by kernel_rfl))
 f280:=Tryz.func347.trans (congrArg some (by kernel_rfl))
 f281:=Tryz.func348.trans (congrArg some (by kernel_rfl))
 f282:=Tryz.func349.trans (congrArg some (by kernel_rfl))
 f283:=Tryz.func275.trans (congrArg some (by kernel_rfl))
 f284:=Tryz.func276.trans (congrArg some (by kernel_rfl))
 f285:=Tryz.func277.trans (congrArg some (by kernel_rfl))
 f286:=Tryz.func278.trans (congrArg some (by kernel_rfl))
 f287:=Tryz.func345.trans (congrArg some (by kernel_rfl))
 f316:=Tryz.func354.trans (congrArg some (by kernel_rfl))
 f317:=Tryz.func320.trans (congrArg some (by kernel_rfl))
 f318:=Tryz.func321.trans (congrArg some (by kernel_rfl))
 f319:=Tryz.func322.trans (congrArg some (by kernel_rfl))
 f320:=Tryz.func323.trans (congrArg some (by kernel_rfl))
 f321:=Tryz.func352.trans (congrArg some (by kernel_rfl))
 f322:=Tryz.func353.trans (congrArg some (by kernel_rfl))
 f337:=Tryz.func335.trans (congrArg some (by kernel_rfl))
 f338:=Tryz.func336.trans (congrArg some (by kernel_rfl))
 t0:=Tryz.underlying0
 a0:=Tryz.isAgg0
 z0:=Tryz.sizeOf0
 v0:=Tryz.zeroValue0
 t2:=Tryz.underlying2
 a2:=Tryz.isAgg2
 z2:=Tryz.sizeOf2
 v2:=Tryz.zeroValue2
 t3:=Tryz.underlying3
 a3:=Tryz.isAgg3
 z3:=Tryz.sizeOf3
 v3:=Tryz.zeroValue3
 t4:=Tryz.underlying4
 a4:=Tryz.isAgg4
 z4:=Tryz.sizeOf4
 v4:=Tryz.zeroValue4
 t5:=Tryz.underlying5
 a5:=Tryz.isAgg5
 z5:=Tryz.sizeOf5
 v5:=Tryz.zeroValue5
 t9:=Tryz.underlying9
 a9:=Tryz.isAgg9
 z9:=Tryz.sizeOf9
 v9:=Tryz.zeroValue9
 t20:=Tryz.underlying20
 a20:=Tryz.isAgg20
 z20:=Tryz.sizeOf20
 v20:=Tryz.zeroValue20
 t21:=Tryz.underlying21
 a21:=Tryz.isAgg21
 z21:=Tryz.sizeOf21
 v21:=Tryz.zeroValue21
 t37:=Tryz.underlying22
 a37:=Tryz.isAgg22
 z37:=Tryz.sizeOf22
 v37:=Tryz.zeroValue22
 t46:=Tryz.underlying123
 a46:=Tryz.isAgg123
 z46:=Tryz.sizeOf123
 v46:=Tryz.zeroValue123
 t51:=Tryz.underlying38
 a51:=Tryz.isAgg38
 z51:=Tryz.sizeOf38
 v51:=Tryz.zeroValue38
 t53:=Tryz.underlying37
 a53:=Tryz.isAgg37
 z53:=Tryz.sizeOf37
 v53:=Tryz.zeroValue37
 t75:=Tryz.underlying263
 a75:=Tryz.isAgg263
 z75:=Tryz.sizeOf263
 v75:=Tryz.zeroValue263
 t85:=Tryz.underlying333
 a85:=Tryz.isAgg333
 z85:=Tryz.sizeOf333
 v85:=Tryz.zeroValue333
 t127:=Tryz.underlying303
 a127:=Tryz.isAgg303
 z127:=Tryz.sizeOf303
 v127:=Tryz.zeroValue303
 t143:=Tryz.underlying370
 a143:=Tryz.isAgg370
 z143:=Tryz.sizeOf370
 v143:=Tryz.zeroValue370
 t145:=Tryz.underlying372
 a145:=Tryz.isAgg372
 z145:=Tryz.sizeOf372
 v145:=Tryz.zeroValue372
 t167:=Tryz.underlying358
 a167:=Tryz.isAgg358
 z167:=Tryz.sizeOf358
 v167:=Tryz.zeroValue358
 t168:=Tryz.underlying361
 a168:=Tryz.isAgg361
 z168:=Tryz.sizeOf361
 v168:=Tryz.zeroValue361
 t171:=Tryz.underlying299
 a171:=Tryz.isAgg299
 z171:=Tryz.sizeOf299
 v171:=Tryz.zeroValue299
 t173:=Tryz.underlying301
 a173:=Tryz.isAgg301
 z173:=Tryz.sizeOf301
 v173:=Tryz.zeroValue301
 t175:=Tryz.underlying359
 a175:=Tryz.isAgg359
 z175:=Tryz.sizeOf359
 v175:=Tryz.zeroValue359
 t210:=Tryz.underlying368
 a210:=Tryz.isAgg368
 z210:=Tryz.sizeOf368
 v210:=Tryz.zeroValue368
 t212:=Tryz.underlying325
 a212:=Tryz.isAgg325
 z212:=Tryz.sizeOf325
 v212:=Tryz.zeroValue325
 t213:=Tryz.underlying326
 a213:=Tryz.isAgg326
 z213:=Tryz.sizeOf326
 t232:=Tryz.underlying345
 a232:=Tryz.isAgg345
 z232:=Tryz.sizeOf345
 v232:=Tryz.zeroValue345
 t233:=Tryz.underlying346
 a233:=Tryz.isAgg346
 z233:=Tryz.sizeOf346
 v233:=Tryz.zeroValue346
 g15:=by kernel_rfl
 g16:=by kernel_rfl
 g17:=by kernel_rfl
 g18:=by kernel_rfl
 g19:=by kernel_rfl
 t80:=Tryz.underlying67
 a80:=Tryz.isAgg67
 z80:=Tryz.sizeOf67
 v80:=Tryz.zeroValue67
 i0:=by kernel_rfl
 i2:=by kernel_rfl
 i3:=by kernel_rfl
 i4:=by kernel_rfl
 i5:=by kernel_rfl
 i9:=by kernel_rfl
 i20:=by kernel_rfl
 i21:=by kernel_rfl
 i37:=by kernel_rfl
 i46:=by kernel_rfl
 i51:=by kernel_rfl
 i53:=by kernel_rfl
 i75:=by kernel_rfl
 i80:=by kernel_rfl
 i85:=by kernel_rfl
 i127:=by kernel_rfl
 i143:=by kernel_rfl
 i145:=by kernel_rfl
 i167:=by kernel_rfl
 i168:=by kernel_rfl
 i171:=by kernel_rfl
 i173:=by kernel_rfl
 i175:=by kernel_rfl
 i210:=by kernel_rfl
 i212:=by kernel_rfl
 i232:=by kernel_rfl
 i233:=by kernel_rfl
 m15:=by kernel_rfl
 m16:=by kernel_rfl
 m17:=by kernel_rfl
 m18:=by kernel_rfl
 m19:=by kernel_rfl
 c0:=by kernel_rfl
 c2:=by kernel_rfl
 c3:=by kernel_rfl
 c4:=by kernel_rfl
 c5:=by kernel_rfl
 c9:=by kernel_rfl
 c20:=by kernel_rfl
 c21:=by kernel_rfl
 c37:=by kernel_rfl
 c46:=by kernel_rfl
 c51:=by kernel_rfl
 c53:=by kernel_rfl
 c75:=by kernel_rfl
 c80:=by kernel_rfl
 c85:=by kernel_rfl
 c127:=by kernel_rfl
 c143:=by kernel_rfl
 c145:=by kernel_rfl
 c167:=by kernel_rfl
 c168:=by kernel_rfl
 c171:=by kernel_rfl
 c173:=by kernel_rfl
 c175:=by kernel_rfl
 c210:=by kernel_rfl
 c212:=by kernel_rfl
 c213:=by kernel_rfl
 c232:=by kernel_rfl
 c233:=by kernel_rfl }
open Go.RowKit in
theorem Tryz.strconv_ParseInt_10_at64_ok(s:ByteArray)(hmax:s.size<=9223372036854775806)(v:Int)(h:Lib.parseIntB 64 s.data.toList=.ok v)(w:World):
  Calls Tryz.prog 328 #[.string s,.int .i64 10,.int .i64 64] w fun e w'=>e=.returned (.tuple #[.int .i64 v,.nilIface])/\(w'=w\/∃ t,w'=Lib.bytesWorld w 5 t):=Any.strconv_ParseInt_10_at64_ok Tryz.laysC174 s hmax v h w
end Go.Proofs
set_option maxHeartbeats 4000000
set_option maxRecDepth 100000
set_option linter.unusedSimpArgs false
namespace Go.Proofs.YtkkjpohaffjecaaGreatDoor
open Go.Eng (IC IOper DReg IFn L2 I0)
open Go.Sym Go.Pb Go.RowKit
theorem arg1{ρ : Ren}{x:DV}{u:Value}{vs:Array Value}(hA:F7 ρ [x] vs)(h:∀ y,VRel ρ x y->y=u):vs = #[u]:=by
 obtain⟨y,h1,h2⟩:=hA.get (i:=0) rfl;have hs:vs.size=1:=hA.1.symm;obtain rfl:=h y h2;cases vs with|mk l=>match l,hs,h1 with
  |[a],_,h1=>simp at h1;subst h1;rfl
theorem E7i{ρ : Ren}{x x2:DV}{u u2:Value}{vs:Array Value}(hA:F7 ρ [x,x2] vs)(h:∀ y,VRel ρ x y->y=u)(h2:∀ y,VRel ρ x2 y->y=u2):vs = #[u,u2]:=by
 obtain⟨y,g1,g2⟩:=hA.get (i:=0) rfl;obtain⟨z,g3,g4⟩:=hA.get (i:=1) rfl;obtain rfl:=h y g2;obtain rfl:=h2 z g4;have hs:vs.size=2:=hA.1.symm;cases vs with|mk r=>match r,hs,g1,g3 with
  |[a,b],_,h1,h3=>simp at h1 h3;subst h1 h3;rfl
theorem E7h{ρ : Ren}{x x2 x3:DV}{u u2 u3:Value}{vs:Array Value}(hA:F7 ρ [x,x2,x3] vs)(h:∀ y,VRel ρ x y->y=u)(h2:∀ y,VRel ρ x2 y->y=u2)(h3:∀ y,VRel ρ x3 y->y=u3):vs = #[u,u2,u3]:=by
 obtain⟨y,g1,g2⟩:=hA.get (i:=0) rfl;obtain⟨z,g3,g4⟩:=hA.get (i:=1) rfl;obtain⟨q,g5,g6⟩:=hA.get (i:=2) rfl;obtain rfl:=h y g2;obtain rfl:=h2 z g4;obtain rfl:=h3 q g6;have hs:vs.size=3:=hA.1.symm;cases vs with|mk r=>match r,hs,g1,g3,g5 with
  |[a,b,c],_,h1,h3,h5=>simp at h1 h3 h5;subst h1 h3 h5;rfl
theorem c_IndexByte(s:List UInt8)(c:UInt8):PC Tryz.prog 329 [.str s,.int .u8 c.toNat] (I64 (Lib.indexByte s c)):=by
 refine PC.of_calls (by kernel_rfl) rfl rfl fun ρ w vs hf hA=>?_;rw[E7i hA (fun y h=>h.str_inv) (fun y h=>h.int_inv)];refine (Tryz.strings_IndexByte _ _ w).mono ?_;rintro e w' ⟨rfl,rfl⟩;refine⟨_,rfl,fun ρ'=>?_,Below.refl _ _⟩;have:((c.toNat:Int).toNat.toUInt8)=c:=by rw[A3E];exact UInt8.ofNat_toNat
 rw[this];exact .int _ _
theorem c_ParseOk(s:List UInt8)(hs:s.length<=281474976710656)(h:∀ c∈s,dgB c=true)(h0:s≠[])(hv:A9j s<=9223372036854775807):PC Tryz.prog 328 [.str s,I64 10,I64 64] (.tup [I64 (A9j s),.inil]):=by
 refine PC.of_calls (by kernel_rfl) rfl rfl fun ρ w vs hf hA=>?_;rw[E7h hA (fun y h=>h.str_inv) (fun y h=>h.int_inv) (fun y h=>h.int_inv)];refine (Tryz.strconv_ParseInt_10_at64_ok _ (by show s.toArray.size<=_;rw[A4D];omega) (A9j s:Int) (by have:=pib h h0;rw[if_pos hv]at this;exact this) w).mono ?_;rintro e w' ⟨rfl,hw⟩;refine⟨_,rfl,fun ρ'=>.tup _ _ rfl (fun i x y hx hy=>?_),?_⟩
 ·match i with
  |0=>simp at hx hy;subst hx hy;exact .int _ _
  |1=>simp at hx hy;subst hx hy;exact .inil
  |_+2=>simp at hx
 ·rcases hw with rfl|⟨t,rfl⟩
  ·exact Below.refl _ _
  ·exact⟨rfl,rfl,rfl,by rw[Lib.bytesWorld_size];omega,fun j hj=>Lib.bytesWorld_at_old _ _ _ _ hj⟩
def C4y:List UInt8:=w8 [115,119,105,116,99,104,32,99,111,105,108,32,108,97,109,112,32,115,111,117,110,100,32,115,104,111,119,32,118,97,114,32,116,105,109,101,114,32,101,118,101,110,116,32,109,111,100,101,32,111,110,32,115,116,97,114,116,32,115,116,111,112,32,99,108,111,115,101,32,111,112,101,110,32,105,102,32,101,108,115,101,32,114,101,112,101,97,116,32,115,99,111,114,101,32,102,105,114,101,32,104,111,108,100,32,114,101,108,101,97,115,101,32,108,105,103,104,116,32,98,108,105,110,107,32,98,101,103,105,110,32,101,110,100,32,112,111,115,116,32,112,108,97,121,32,114,117,110,32,104,97,108,116,32,116,101,120,116,32,99,111,110,115,117,109,101,32,99,108,111,115,101,100,32,97,99,116,105,118,101,32,108,101,102,116,32,112,108,97,121,101,114,32,98,97,108,108,32,116,114,117,101,32,102,97,108,115,101]
theorem D4w:Lib.fields C4y=F3:=by kernel_rfl
theorem D4x:C4y.all (fun b=>decide (b.toNat<128))=true:=by kernel_rfl
theorem c_Fields:PC Tryz.prog 282 [.str C4y] (.lst (F3.map DV.str)):=by
 refine PC.of_callsF (by kernel_rfl) rfl (K0 _) fun ρ w vs hf hA=>?_;rw[arg1 hA (fun y h=>h.str_inv)];obtain⟨r,hr,rfl⟩ := ρ.tab _ (A0G _ A0H);obtain⟨e,fr,hb⟩:=hf _ _ hr;have ht : Lib.TabIs Tryz.prog w "strings.asciiSpace" .u8 Lib.asciiSpaceTab := by
  unfold Lib.TabIs World.var?;rw [show Tryz.prog.globalNamed "strings.asciiSpace" = some 1 by kernel_rfl]
  show (match w.heap[1]? with|some (.cells cs _ _)=>some cs|_=>none)=_;have hb':w.heap[1]? = _:=hb;rw[hb']
 refine (Tryz.strings_Fields _ w (by decide) ?_ ht).mono ?_
 ·intro j b hj;have:=A0R.1 D4x b (A0U hj);simpa using this
 ·rintro e w' ⟨rfl,rfl⟩;have hl:Lib.fields (⟨C4y.toArray⟩:ByteArray).data.toList=F3:=D4w;rw[hl];refine⟨_,w.heap.size,_,9,_,rfl,A0E _,(by show (w.heap.push _)[w.heap.size]? = _;rw[Array.getElem?_push_size]),fun ρ' hρ => VRel.strs hρ rfl (A0E _) (by decide),Below.alloc (Below.refl _ _) (A0E _) _⟩
open Go.Eng (IC IOper DReg IFn L2)
open Go.Sym Go.Pb
theorem c_Fields':PC Tryz.prog 282 [.str [115,119,105,116,99,104,32,99,111,105,108,32,108,97,109,112,32,115,111,117,110,100,32,115,104,111,119,32,118,97,114,32,116,105,109,101,114,32,101,118,101,110,116,32,109,111,100,101,32,111,110,32,115,116,97,114,116,32,115,116,111,112,32,99,108,111,115,101,32,111,112,101,110,32,105,102,32,101,108,115,101,32,114,101,112,101,97,116,32,115,99,111,114,101,32,102,105,114,101,32,104,111,108,100,32,114,101,108,101,97,115,101,32,108,105,103,104,116,32,98,108,105,110,107,32,98,101,103,105,110,32,101,110,100,32,112,111,115,116,32,112,108,97,121,32,114,117,110,32,104,97,108,116,32,116,101,120,116,32,99,111,110,115,117,109,101,32,99,108,111,115,101,100,32,97,99,116,105,118,101,32,108,101,102,116,32,112,108,97,121,101,114,32,98,97,108,108,32,116,114,117,101,32,102,97,108,115,101]] (.lst (F3.map DV.str)):=c_Fields
theorem C2s:∀ k:Nat,k<38->(F3.take k).contains (F3.getD k [])=false:=by decide +kernel
theorem c_words:PC Tryz.prog 216 [] (.mp .s (F3.map DV.str) (F3.map fun _=>DV.bool true)):=by
 refine PC.ofT A2 rfl (A0D rfl) rfl (by simp only[DV.nl];rw[K0,L8 (fun _=>rfl)];rfl) ?_;have hf:=c_Fields';repeat' ((with_reducible first|apply wr|refine cpc hf ?_|fail)<;>try simp only[go_sem,seval])
 clear hf;refine A9 (fun k:Nat=>[(1,.mid 0),(5,.lst (F3.map DV.str)),(6,I64 F3.length),(7,I64 k)]) (fun k=>Sym.nil.upd 0 ⟨0,true,[.mpc .s ((F3.take k).map DV.str) ((F3.take k).map fun _=>DV.bool true)]⟩) (fun k _=>k<=F3.length) (fun k=>F3.length-k) 0 (by simp[C1,tm,Tm.upd]) (Sub.refl _) (by simp) ?_;rintro k c hk;have hlen:F3.length=38:=rfl;by_cases hlt:k<F3.length
 ·have hd:=dtz hlt;have hg:=A0B hlt;have hw:IntKind.i64.wrap ((k:Int)+1)=((k+1:Nat):Int):=by rw[w6z (by omega)];omega
  have hn:(F3.take k).contains F3[k]=false:=by
   have:=C2s k (by omega)
   rwa [A1M,hg,A3W]at this
  have hm:=A9o hn 0;have e1:F3.take (k+1)=F3.take k++[F3[k]]:=by rw[A0S,hg];rfl
  repeat' (apply wr<;>try simp only[go_sem,seval,hd,hg,hw,hm])
  refine⟨k+1,rfl,?_,inv hlt,by omega⟩;rw[e1,A0T,A0T];intro j b hj;by_cases e:j=0
  ·subst e;rw[h_same]at hj ⊢;exact hj
  ·rw[h_ne e]at hj;cases hj
 ·have hd:=dfz hlt;repeat' (apply wr<;>try simp only[go_sem,seval,hd])
  rw[A0M (by omega)];exact C6t h_same
abbrev A4g:DV:=.mp .s (F3.map DV.str) (F3.map fun _=>DV.bool true)
theorem D7q(w:List UInt8):lkV (.bool false) false (F3.map fun _=>DV.bool true) (E4 (.str w) (F3.map DV.str) 0)=some (.bool (O7 w)):=by
 cases h:O7 w with
 |false=>rw[A9o h 0];rfl
 |true =>
  obtain⟨j,hj⟩:=B8m h 0;have hlt:=(A9p hj).2;rw[A0C]at hlt;rw[hj,C7r,A1N,A0B (by omega)];rfl
theorem c_IsWord(s:List UInt8):PC Tryz.prog 201 [.str s] (.bool (O7 s)):=by
 refine PC.go A2 ?_;have hw:=c_words;have hlk:=D7q s;repeat' ((with_reducible first|apply wr|refine cpc hw ?_|fail)<;>try simp only[go_sem,seval,hlk])
 exact A3 rfl
theorem c_IsName(s:List UInt8)(hs:s.length<=1000000000):PC Tryz.prog 133 [.str s] (.bool (D6 s)):=by
 refine PC.go A2 ?_;have hw:=c_IsWord s;have hsp:=c_spanPt s (by omega);cases s with
 |nil =>
  repeat' (apply wr<;>try simp only[go_sem,seval])
  exact A3 rfl
 |cons c r =>
  have hx:B8w (DV.str (c :: r)) (.int .i64 0)=some (.int .u8 (c.toNat:Int)):=rfl;have hlt:=c_letter c;have hd1:decide (((r.length+1:Nat):Int)≥1)=true:=by simp;omega
  repeat' ((with_reducible first|refine wr ?_|refine cpc hw ?_|refine cpc hsp ?_|refine cpc hlt ?_|refine wb2 ?_ ?_<;>(intro hb;try simp only[hb])|fail)<;>try simp only[go_sem,seval,hx,hd1])
  all_goals (refine A3 (congrArg DV.bool ?_);simp_all[D6]<;>omega)
theorem c_wordsR:PC Tryz.prog 272 [] (.lst (F3.map DV.str)):=by
 refine PC.ofT A2 rfl (A0D rfl) rfl (K0 _) ?_;repeat' (apply wr<;>try simp only[go_sem,seval])
 exact O4 (xs:=F3.map DV.str) (u:=1) h_same rfl rfl (Q5 _) ⟨[],rfl⟩
theorem c_IsWordR(s:List UInt8):PC Tryz.prog 205 [.str s] (.bool (O7 s)):=by
 refine PC.go A2 ?_;have hw:=c_wordsR;repeat' ((with_reducible first|apply wr|refine cpc hw ?_|fail)<;>try simp only[go_sem,seval])
 refine A9 (fun k:Nat=>[(0,.str s),(3,.lst (F3.map DV.str)),(4,I64 k)]) (fun _=>nil) (fun k _=>k<=F3.length/\(F3.take k).contains s=false) (fun k=>F3.length-k) 0 (by simp[C1,tm,Tm.upd]) (Sub.nil _) (by simp) ?_;rintro k c ⟨hk,he⟩;have hlen:F3.length=38:=rfl;by_cases hlt:k<F3.length
 ·have hd:=dtz hlt;have hg:=A0B hlt;have hw:IntKind.i64.wrap ((k:Int)+1)=((k+1:Nat):Int):=by rw[w6z (by omega)];omega
  repeat' ((with_reducible first|refine wr ?_|refine wb2 ?_ ?_<;>(intro hb;try simp only[hb])|fail)<;>try simp only[go_sem,seval,hd,hg,hw])
  ·refine A3 (congrArg DV.bool ?_);have:s=F3[k]:=(A1Y.1 hb).symm;unfold O7;rw[List.contains_iff_mem.2 (by rw[this];exact A0L hlt)]
  ·refine⟨k+1,rfl,Sub.refl _,inv ⟨hlt,?_⟩,by omega⟩;rw[A0S,hg,List.contains_append,he];have:¬ s=F3[k]:=fun e=>by rw[e]at hb;simp at hb
   simpa using this
 ·have hd:=dfz hlt;repeat' (apply wr<;>try simp only[go_sem,seval,hd])
  refine A3 (congrArg DV.bool ?_);rw[A0M (by omega)]at he;exact he.symm
theorem c_IsNameR(s:List UInt8)(hs:s.length<=1000000000):PC Tryz.prog 206 [.str s] (.bool (D6 s)):=by
 refine PC.go A2 ?_;have hw:=c_IsWordR s;cases s with
 |nil =>
  repeat' (apply wr<;>try simp only[go_sem,seval])
  exact A3 rfl
 |cons c r =>
  have hx:B8w (DV.str (c :: r)) (.int .i64 0)=some (.int .u8 (c.toNat:Int)):=rfl;have hlt:=c_letterR c;have hd1:decide (((r.length+1:Nat):Int)<1)=false:=by simp;omega
  have hN:D6 (c :: r)=(decide ((r.length+1)<=12) && ltB c && decide (A1u ptB (c :: r)=r.length+1) && !O7 (c :: r)):=by
   simp[D6]
  rw[hN];have hN2:∀ b:Bool,decide (((r.length+1:Nat):Int)>12)=b->decide ((r.length+1)<=12) = !b:=by
   intro b hb;subst hb;rw[A2G];simp;omega
  obtain⟨dd,hdd⟩:∃ dd,dd=decide ((r.length+1)<=12):=⟨_,rfl⟩;rw[<- hdd]at hN2 ⊢;obtain⟨ee,hee⟩:∃ ee,ee=decide (A1u ptB (c :: r)=r.length+1):=⟨_,rfl⟩;rw[<- hee];obtain⟨ff,hff⟩:∃ ff,ff=O7 (c :: r):=⟨_,rfl⟩;rw[<- hff]at hw ⊢;repeat' ((with_reducible first|refine wr ?_|refine cpc hw ?_|refine cpc hlt ?_|refine wb2 ?_ ?_<;>(intro hb;try simp only[hb])|fail)<;>try simp only[go_sem,seval,hx,hd1])
  ·refine A3 (congrArg DV.bool ?_);rw[hN2 _ hb];rfl
  ·refine A3 (congrArg DV.bool ?_);have:ltB c=false:=by simpa using hb
   rw[this];simp
  ·refine A3 (congrArg DV.bool ?_);simp
  ·have hN3:=hN2 _ (by assumption);have hl:ltB c=true:=by simpa using (by assumption:(!ltB c)=false)
   rw[hN3,hl];refine A9 (fun k:Nat=>[(0,.str (c :: r)),(3,I64 k)]) (fun _=>nil) (fun k _=>k<=(c :: r).length/\k<=A1u ptB (c :: r)) (fun k=>(c :: r).length-k) 0 (by simp[C1,tm,Tm.upd]) (Sub.nil _) (by simp) ?_;rintro k cc ⟨hk,he⟩;have hsl:=B3d ptB (c :: r);have hS:(c :: r).length=r.length+1:=rfl;by_cases hlt2:k<(c :: r).length
   ·have hd:decide ((k:Int)<((r.length+1:Nat):Int))=true:=by simp only[A0I];omega
    have hg:=A0B hlt2;have hw:IntKind.i64.wrap ((k:Int)+1)=((k+1:Nat):Int):=by rw[w6z (by omega)];omega
    have hst:=B3e hg he;obtain⟨x,hxx⟩:∃ x,x=(c :: r)[k]:=⟨_,rfl⟩;rw[<- hxx]at hg hst;have h1:=c_letterR x;have h2:=c_digitR x;obtain⟨L,hL⟩:∃ L,L=c :: r:=⟨_,rfl⟩;have hd3:decide ((k:Int)<(L.length:Int))=true:=by rw[hL];exact hd
    rw[<- hL]at hg hst hk he hsl hee ⊢;by_cases hp:ptB x=true
    ·have hgo:∃ b,DV.int IntKind.i64 ((k+1:Nat):Int)=I64 ((b:Nat):Int)/\Sym.Sub Sym.nil Sym.nil/\D3o (fun k _=>k<=L.length/\k<=A1u ptB L) b cc/\L.length-b<L.length-k :=
      ⟨k+1,rfl,Sub.refl _,inv ⟨by rw[hL];exact hlt2,hst.1 hp⟩,by rw[hL];omega⟩
     simp only[ptB,A1G,A0I]at hp;repeat' ((with_reducible first|refine wr ?_|refine cpc h1 ?_|refine cpc h2 ?_|refine wb2 ?_ ?_<;>(intro hb;try simp only[hb])|fail)<;>try simp only[go_sem,seval,hd3,hg,hw])
     ·exfalso;have p1:ltB x=false:=by simpa using (by assumption:(!ltB x)=true)
      have p2:dgB x=false:=by simpa using (by assumption:(!dgB x)=true)
      have p3:=E7g (b:=95) hb;rw[p1,p2]at hp;rcases hp with (hp|hp)|hp
      ·cases hp
      ·cases hp
      ·exact p3 hp
     ·exact hgo
     ·exact hgo
     ·exact hgo
    ·have hp':ptB x=false:=by simpa using hp
     have hj:=hst.2 hp';simp only[ptB,Bool.or_eq_false_iff,A2C]at hp';obtain⟨⟨q1,q2⟩,q3⟩:=hp';have q4:((x.toNat:Int) != 95)=true:=by simp;omega
     repeat' ((with_reducible first|apply wr|refine cpc h1 ?_|refine cpc h2 ?_|fail)<;>try simp only[go_sem,seval,hd3,hg,q1,q2,q4])
     refine A3 (congrArg DV.bool ?_);rw[hee,hj,decide_eq_false];have:L.length=r.length+1:=by rw[hL];rfl
     have:k<L.length:=by rw[hL];exact hlt2
     omega
   ·have hd:decide ((k:Int)<((r.length+1:Nat):Int))=false:=by simp only[A2C];omega
    repeat' (apply wr<;>try simp only[go_sem,seval,hd])
    refine A3 (congrArg DV.bool ?_);rw[hee,decide_eq_true (by omega)]
open Go.Sym
abbrev x138:XT Tryz.prog 138:=mkF
instance t138:FT Tryz.prog 138 x138.d:=x138.ft
abbrev x139:XT Tryz.prog 139:=mkF
instance t139:FT Tryz.prog 139 x139.d:=x139.ft
abbrev x140:XT Tryz.prog 140:=mkF
instance t140:FT Tryz.prog 140 x140.d:=x140.ft
abbrev x274:XT Tryz.prog 274:=mkF
instance t274:FT Tryz.prog 274 x274.d:=x274.ft
abbrev x137:XT Tryz.prog 137:=mkF
instance t137:FT Tryz.prog 137 x137.d:=x137.ft
abbrev x299:XT Tryz.prog 299:=mkF
instance t299:FT Tryz.prog 299 x299.d:=x299.ft
abbrev x242:XT Tryz.prog 242:=mkF
instance t242:FT Tryz.prog 242 x242.d:=x242.ft
abbrev x273:XT Tryz.prog 273:=mkF
instance t273:FT Tryz.prog 273 x273.d:=x273.ft
abbrev x142:XT Tryz.prog 142:=mkF
instance t142:FT Tryz.prog 142 x142.d:=x142.ft
abbrev x207:XT Tryz.prog 207:=mkF
instance t207:FT Tryz.prog 207 x207.d:=x207.ft
abbrev x136:XT Tryz.prog 136:=mkF
instance t136:FT Tryz.prog 136 x136.d:=x136.ft
abbrev x70:XT Tryz.prog 70:=mkF
instance t70:FT Tryz.prog 70 x70.d:=x70.ft
abbrev x27:XT Tryz.prog 27:=mkF
instance t27:FT Tryz.prog 27 x27.d:=x27.ft
abbrev x160:XT Tryz.prog 160:=mkF
instance t160:FT Tryz.prog 160 x160.d:=x160.ft
abbrev x82:XT Tryz.prog 82:=mkF
instance t82:FT Tryz.prog 82 x82.d:=x82.ft
abbrev x36:XT Tryz.prog 36:=mkF
instance t36:FT Tryz.prog 36 x36.d:=x36.ft
abbrev x243:XT Tryz.prog 243:=mkF
instance t243:FT Tryz.prog 243 x243.d:=x243.ft
abbrev x208:XT Tryz.prog 208:=mkF
instance t208:FT Tryz.prog 208 x208.d:=x208.ft
abbrev x143:XT Tryz.prog 143:=mkF
instance t143:FT Tryz.prog 143 x143.d:=x143.ft
abbrev x71:XT Tryz.prog 71:=mkF (i:=⟨135,.seq (.reg [oX 2 0,oX 3 1,oV 4 (.bool false)]) (.seq (.seq (.reg [oF 12 2 0,oL 13 12,oH 14 13,oF 15 3 0,oL 16 15,oH 17 16,oB 18 14 17 .neq,oM 19 18,hF 20 2 1 19,hL 21 20 19,oR 22 (.len (.t 21)) 19,hF 23 3 1 19,hL 24 23 19,oR 25 (.len (.t 24)) 19,oR 26 (.bin .neq (.t 22) (.t 25)) 19,oO 27 19 26]) (.cond (.t 27) (.seq (.reg [oV 4 (.bool false)]) .ret) .skip)) (.seq (.seq (.reg [oI 5 0]) (.blk 0 (.loop (.seq (.seq (.reg [oM 28 5,oF 29 2 0,oL 30 29,oH 31 30,oB 32 28 31 .lss]) (.cond (.t 32) .skip (.exit 0))) (.seq (.blk 1 (.seq (.drw 11 (dQ [oF 35 2 0,oL 36 35,oM 37 5,oA 38 36 37 4,oD 39 38 4,oF 40 3 0,oL 41 40,oM 42 5,oA 43 41 42 4,oD 44 43 4,oP 45 (.eqa true [0,2,0,0] (.t 39) (.t 44))] 0)) (.cond (.t 45) (.seq (.reg [oV 4 (.bool false)]) .ret) .skip))) (.reg [oM 33 5,oK 34 33 .add 1,oM 5 34])))))) (.seq (.seq (.reg [oI 6 0]) (.blk 2 (.loop (.seq (.seq (.reg [oM 46 6,oF 47 2 1,oL 48 47,oH 49 48,oB 50 46 49 .lss]) (.cond (.t 50) .skip (.exit 2))) (.seq (.blk 3 (.seq (.drw 14 ⟨[oF 53 2 1,oL 54 53,oM 55 6,oA 56 54 55 4,oD 57 56 4,oF 58 3 1,oL 59 58,oM 60 6,oA 61 59 60 4,oD 62 61 4,oW 7 (.agg #[.string ⟨#[]⟩,.int .i64 0,.slice none 0 0,.int .i64 0]),oW 8 (.agg #[.string ⟨#[]⟩,.int .i64 0,.slice none 0 0,.int .i64 0]),oS 7 57 4,oS 8 62 4],[],[(0,none),(1,none),(2,none),(3,none),(4,none),(5,none),(6,none),(7,none),(8,none),(9,none),(10,none),(11,none),(12,some [5,6,7,8,9]),(13,some [])]⟩) (.seq (.seq (.reg [oF 63 7 0,oL 64 63,oF 65 8 0,oL 66 65,oB 67 64 66 .neq,oM 68 67,hF 69 7 1 68,hL 70 69 68,hF 71 8 1 68,hL 72 71 68,oR 73 (.bin .neq (.t 70) (.t 72)) 68,oO 74 68 73,oM 75 74,hF 76 7 3 75,hL 77 76 75,hF 78 8 3 75,hL 79 78 75,oR 80 (.bin .neq (.t 77) (.t 79)) 75,oO 81 75 80,oM 82 81,hF 83 7 2 82,hL 84 83 82,oR 85 (.len (.t 84)) 82,hF 86 8 2 82,hL 87 86 82,oR 88 (.len (.t 87)) 82,oR 89 (.bin .neq (.t 85) (.t 88)) 82,oO 90 82 89]) (.cond (.t 90) (.seq (.reg [oV 4 (.bool false)]) .ret) .skip)) (.seq (.reg [oI 9 0]) (.blk 4 (.loop (.seq (.seq (.reg [oM 91 9,oF 92 7 2,oL 93 92,oH 94 93,oB 95 91 94 .lss]) (.cond (.t 95) .skip (.exit 4))) (.seq (.blk 5 (.seq (.drw 14 ⟨[oF 98 7 2,oL 99 98,oM 100 9,oA 101 99 100 4,oD 102 101 4,oF 103 8 2,oL 104 103,oM 105 9,oA 106 104 105 4,oD 107 106 4,oW 10 (.agg #[.int .i64 0,.string ⟨#[]⟩,.slice none 0 0,.int .i64 0]),oW 11 (.agg #[.int .i64 0,.string ⟨#[]⟩,.slice none 0 0,.int .i64 0]),oS 10 102 4,oS 11 107 4],[],[(0,none),(1,none),(2,none),(3,none),(4,none),(5,none),(6,none),(7,none),(8,none),(9,none),(10,none),(11,none),(12,some [5,6,7,8,9]),(13,some [])]⟩) (.seq (.reg [oF 108 10 0,oL 109 108,oF 110 11 0,oL 111 110,oB 112 109 111 .neq,oM 113 112,hF 114 10 1 113,hL 115 114 113,hF 116 11 1 113,hL 117 116 113,oR 118 (.bin .neq (.t 115) (.t 117)) 113,oO 119 113 118,oM 120 119,hF 121 10 3 120,hL 122 121 120,hF 123 11 3 120,hL 124 123 120,oR 125 (.bin .neq (.t 122) (.t 124)) 120,oO 126 120 125,oM 127 126,hF 128 10 2 127,hL 129 128 127,hF 130 11 2 127,hL 131 130 127,⟨some 132,.call 143 [.t 129,.t 131],some (127,false)⟩,oR 133 (.un .not (.t 132)) 127,oO 134 127 133]) (.cond (.t 134) (.seq (.reg [oV 4 (.bool false)]) .ret) .skip)))) (.reg [oM 96 9,oK 97 96 .add 1,oM 9 97]))))))))) (.reg [oM 51 6,oK 52 51 .add 1,oM 6 52])))))) (.seq (.reg [oV 4 (.bool true)]) .ret)))),[.tmp 4]⟩) (by unfold L2;kernel_rfl) (fun h=>by conv=>lhs;cbv)
instance t71:FT Tryz.prog 71 x71.d:=x71.ft
theorem A2z{k v p:Int}{x:List UInt8}:∃ H2,GL (nil.upd 0 ⟨4,true,[I64 k,.str x,I64 v,I64 p]⟩) [.slc 0 0 1] H2 [E3 [⟨k,x,v,p⟩]] :=
 O4 rfl rfl rfl (F0 _) ⟨[],rfl⟩
theorem A5h{o:Option Nat}{xs:List DV}{u n:Nat}(hno:o=none->xs=[])(hl:xs.length=n)(hu:∀ x∈xs,x.cells.length=u):
  ∃ H2,GL (optH Sym.nil o ⟨u,true,cellsL xs⟩) [todoV o n] H2 [.lst xs]:=by
 cases o with
 |none=>rw[hno rfl];exact C0w
 |some i=>exact O4 (id:=i) h_same rfl hl hu ⟨[],by simp⟩
theorem c_named(s:List UInt8)(hs:s.length<=1000000000):PC Tryz.prog 139 [.str s] (E3 (D4 s)):=by
 refine PC.go A2 ?_;have h1:=c_IsNameR s hs;unfold D4;cases h:D6 s with
 |true =>
  rw[if_neg (by decide)];repeat' ((with_reducible first|apply wr|refine cpc h1 ?_|fail)<;>try simp only[go_sem,seval,h])
  exact A2z
 |false =>
  rw[if_pos rfl];repeat' ((with_reducible first|apply wr|refine cpc h1 ?_|fail)<;>try simp only[go_sem,seval,h])
  exact A2z
theorem c_number31(n:Int):PC Tryz.prog 140 [I64 n] (E3 (U0 n)):=by
 refine PC.go A2 ?_;unfold U0;by_cases h0:n<0
 ·have hd:decide (n<0)=true:=by simpa using h0
  rw[if_pos (.inl h0)];repeat' (apply wr<;>try simp only[go_sem,seval,hd])
  exact A2z
 ·have hd:decide (n<0)=false:=by simpa using h0
  by_cases h1:2147483647<n
  ·have hd1:decide (n>2147483647)=true:=by simpa using h1
   rw[if_pos (.inr h1)];repeat' (apply wr<;>try simp only[go_sem,seval,hd,hd1])
   exact A2z
  ·have hd1:decide (n>2147483647)=false:=by simpa using h1
   rw[if_neg (by omega)];repeat' (apply wr<;>try simp only[go_sem,seval,hd,hd1])
   exact A2z
theorem c_words1(l:List (List UInt8))(hl:l.length<=1000000)(hx:∀ x∈l,x.length<=1000000000):PC Tryz.prog 138 [A3w l] (E3 (l.map A1)):=by
 refine PC.ofT A2 rfl (A0D rfl) (by simp[DV.nlL,DV.nl,K0]) (N2 _) ?_;repeat' (apply wr<;>try simp only[go_sem,seval])
 refine A9 (fun q:Nat × Option Nat=>[(0,A3w l),(3,todoV q.2 q.1),(4,I64 q.1)]) (fun q=>optH Sym.nil q.2 ⟨4,true,cellsL (((l.take q.1).map A1).map Tok.v)⟩)
  (fun q c=>q.1<=l.length/\(q.2=none->q.1=0)/\(∀ i,q.2=some i->i<c)) (fun q=>l.length-q.1) (0,none)
  (by simp[C1,tm,Tm.upd,todoV]) (Sub.nil _) ⟨A0O _,fun _=>rfl,(fun i hi=>by cases hi)⟩ ?_
 rintro⟨k,o⟩ c ⟨hk,hno,ho⟩;dsimp only at hk hno ho ⊢;by_cases hlt:k<l.length
 ·have hd:=dtz hlt;have hg:=A0B hlt;have hx1:=hx _ (A0L hlt);have hw:=w64 (n:=(k:Int)+1);have e0:(l.take (k+1)).map A1=(l.take k).map A1++[A1 l[k]]:=by rw[A0S,hg,A0T];rfl
  generalize l[k]=x at hg hx1 e0;have h1:=c_IsWordR x;have h2:=c_IsNameR x (by omega);have ne0:=A0m c (c+1) (by omega);have hln:(cellsL (((l.take k).map A1).map Tok.v)).length=k * 4:=(C2 (u:=4) (F0 _)).trans (by rw[A0C,A0C,A1B,Nat.min_eq_left hk]);cases hw1:O7 x with
  |true =>
   repeat' ((with_reducible first|apply wr|refine cpc h1 ?_|fail)<;>try simp only[go_sem,seval,hd,hg,hw1,h_same,A5])
   refine F4 (D5 (cs:=cellsL (((l.take k).map A1).map Tok.v)) (fun e=>by have:=hno e;subst this;exact⟨rfl,rfl⟩) (fun i hi=>by have:=ho i hi;rw[hnO,hnO];exact A4m hi) hln (by omega) (by omega) (by omega)) ?_;simp only[go_sem,seval];repeat' (apply wr<;>try simp only[go_sem,seval,hw])
   refine⟨(k+1,some (c+1+1)),by simp[todoV],?_,inv ⟨by omega,(fun h=>by cases h),(fun i hi=>by cases hi;omega)⟩,by simp only;omega⟩;dsimp only[optH];rw[e0,A0T,C4];refine A2w ?_;unfold A1;simp only[hw1,if_true];rfl
  |false =>
   cases hn1:D6 x with
   |true =>
    repeat' ((with_reducible first|apply wr|refine cpc h1 ?_|refine cpc h2 ?_|fail)<;>try simp only[go_sem,seval,hd,hg,hw1,hn1,h_same,A5])
    refine F4 (D5 (cs:=cellsL (((l.take k).map A1).map Tok.v)) (fun e=>by have:=hno e;subst this;exact⟨rfl,rfl⟩) (fun i hi=>by have:=ho i hi;rw[hnO,hnO];exact A4m hi) hln (by omega) (by omega) (by omega)) ?_;simp only[go_sem,seval];repeat' (apply wr<;>try simp only[go_sem,seval,hw])
    refine⟨(k+1,some (c+1+1)),by simp[todoV],?_,inv ⟨by omega,(fun h=>by cases h),(fun i hi=>by cases hi;omega)⟩,by simp only;omega⟩;dsimp only[optH];rw[e0,A0T,C4];refine A2w ?_;unfold A1;simp only[hw1,hn1,if_true,if_false,A1U];rfl
   |false =>
    repeat' ((with_reducible first|apply wr|refine cpc h1 ?_|refine cpc h2 ?_|fail)<;>try simp only[go_sem,seval,hd,hg,hw1,hn1,h_same,A5])
    refine F4 (D5 (cs:=cellsL (((l.take k).map A1).map Tok.v)) (fun e=>by have:=hno e;subst this;exact⟨rfl,rfl⟩) (fun i hi=>by have:=ho i hi;rw[hnO,hnO];exact A4m hi) hln (by omega) (by omega) (by omega)) ?_;simp only[go_sem,seval];repeat' (apply wr<;>try simp only[go_sem,seval,hw])
    refine⟨(k+1,some (c+1+1)),by simp[todoV],?_,inv ⟨by omega,(fun h=>by cases h),(fun i hi=>by cases hi;omega)⟩,by simp only;omega⟩;dsimp only[optH];rw[e0,A0T,C4];refine A2w ?_;unfold A1;simp only[hw1,hn1,if_false,A1U];rfl
 ·have hd:=dfz hlt;repeat' (apply wr<;>try simp only[go_sem,seval,hd])
  rw[A0M (by omega)];exact A5h (fun e=>by rw[A2D (l:=l) (by have:=hno e;omega)];rfl) (by simp;omega) (F0 _)
theorem c_join1(l:List (List Tok))(hl:l.length<=1000)(hx:∀ x∈l,1<=x.length/\x.length<=1000000000):PC Tryz.prog 137 [.lst (l.map E3)] (E3 l.flatten):=by
 refine PC.ofT A2 rfl (A0D rfl) (by simp only[DV.nlL,DV.nl,L8 (f:=E3) (fun a=>N2 a),A3H]) (N2 _) ?_;repeat' (apply wr<;>try simp only[go_sem,seval])
 refine A9 (fun q:Nat × Option Nat=>[(0,.lst (l.map E3)),(3,todoV q.2 (l.take q.1).flatten.length),(4,I64 q.1)]) (fun q=>optH Sym.nil q.2 ⟨4,true,cellsL ((l.take q.1).flatten.map Tok.v)⟩)
  (fun q c=>q.1<=l.length/\(q.2=none->q.1=0)/\(∀ i,q.2=some i->i<c)/\(l.take q.1).flatten.length<=1000000000 * q.1) (fun q=>l.length-q.1) (0,none)
  (by simp[C1,tm,Tm.upd,todoV]) (Sub.nil _) ⟨A0O _,fun _=>rfl,(fun i hi=>by cases hi),by simp⟩ ?_
 rintro⟨k,o⟩ c ⟨hk,hno,ho,hlen⟩;dsimp only at hk hno ho hlen ⊢;by_cases hlt:k<l.length
 ·have hd:=dtz hlt;have hg:=A0B hlt;obtain⟨hx1,hx2⟩:=hx _ (A0L hlt);have hw:=w64 (n:=(k:Int)+1);have e0:(l.take (k+1)).flatten=(l.take k).flatten++l[k]:=by rw[A0S,hg,A2W];simp
  generalize l[k]=x at hg hx1 hx2 e0;generalize hy:(l.take k).flatten=y at hlen e0 ⊢;have hun:unit 4 (x.map Tok.v)=true:=by unfold unit;rw[A0R];intro d hd;simp[F0 x d hd]
  have hny:o=none->y=[]:=fun e=>by rw[<- hy,hno e];rfl
  have hln:(cellsL (y.map Tok.v)).length=y.length * 4:=(C2 (u:=4) (F0 _)).trans (by simp);repeat' (apply wr<;>try simp only[go_sem,seval,hd,hg,Q6 hun])
  refine F4 (D5 (cs:=cellsL (y.map Tok.v)) (fun e=>by rw[hny e];exact⟨rfl,rfl⟩) (fun i hi=>A4m hi) hln (by omega) (by omega) (by omega)) ?_;simp only[go_sem,seval];repeat' (apply wr<;>try simp only[go_sem,seval,hw])
  refine⟨(k+1,some c),by simp[todoV,e0],?_,inv ⟨by omega,(fun h=>by cases h),(fun i hi=>by cases hi;omega),by simp only;rw[e0,A0A];omega⟩,by simp only;omega⟩;dsimp only[optH];rw[e0,A0T,C4];exact A2w rfl
 ·have hd:=dfz hlt;repeat' (apply wr<;>try simp only[go_sem,seval,hd])
  rw[A0M (by omega)];exact A5h (fun e=>by rw[A2D (l:=l) (by have:=hno e;omega)];rfl) (by rw[A0C]) (F0 _)
theorem T1{H:Hp}{i j:Nat}:delO H (some i) j=if j=i then none else H j:=_root_.id rfl
theorem C9o{H:Hp}{i:Nat}{b:Blk}:delO (H.upd i b) (some i)=delO H (some i):=by
 funext j;rw[T1,T1];split
 ·rfl
 ·rename_i h;rw[h_ne h]
theorem D2v{H:Hp}{i k:Nat}{b:Blk}(h:¬ k=i):delO (H.upd k b) (some i)=(delO H (some i)).upd k b:=by
 funext j;rw[T1]
 by_cases e:j=k
 ·subst e;rw[h_same,if_neg h,h_same]
 ·rw[h_ne e,h_ne e,T1]
theorem D2w{i:Nat}:delO nil (some i)=nil:=by
 funext j;rw[T1];split<;>rfl
theorem D7p{ks:List Nat}{H:Hp}{i:Nat}(h:ks.all (fun k=>k != i)=true):L4 ks H (delO (X9 H ks) (some i))=delO H (some i):=by
 have hi:i ∉ ks:=fun hm=>by simpa using A0R.1 h i hm
 funext j
 simp only[L4,T1,X9];by_cases e:j=i
 ·subst e;rw[if_neg hi,if_pos rfl,if_pos rfl]
 ·by_cases e2:j∈ks
  ·rw[if_pos e2,if_neg e]
  ·rw[if_neg e2,if_neg e,if_neg e,if_neg e2]
attribute [go_sem] C9o D2v D2w
theorem D1u{k i:Nat}{H:Hp}(h:¬ k=i):L4 [k] H (delO (X9 H [k]) (some i))=delO H (some i):=D7p (by simpa using h)
attribute [go_sem] D1u
theorem A0l{f:Nat}{xs:List DV}{r:DV}{u id n cc:Nat}{H:Hp}{cs:List DV}(h:PC Tryz.prog f [.lst xs] r)(hb:H id=some ⟨u,true,cs⟩)(hcs:cs=cellsL xs)(hl:xs.length=n)(hu:∀ x∈xs,x.cells.length=u):
  AC Tryz.prog f [.slc id 0 n] H cc (fun v H' c'=>v=r/\H'=delO H (some id)/\c'=cc) :=
 AC.ghost (GL.frzS (id:=id) hb rfl (fun j=>by
  by_cases e:j=id
  ·subst e;exact .inl (by rw[T1,if_pos rfl])
  ·exact .inr ⟨e,by rw[T1,if_neg e]⟩) (.cons _ _ _ _ (P0 hl hu ⟨[],by rw[hcs];simp⟩) .nil)) (h.at _ cc)
def wT(x:List UInt8):List Tok:=[A1 x]
theorem A0v(x:List UInt8):1<=(wT x).length/\(wT x).length<=1000000000:=⟨A0E _,by show 1<=_;omega⟩
theorem wd1{x:List UInt8}{id cc:Nat}{H:Hp}(hb:H id=some ⟨1,true,[.str x]⟩)(hx:x.length<=1000000000):
  AC Tryz.prog 138 [.slc id 0 1] H cc (fun v H' c'=>v=E3 (wT x)/\H'=delO H (some id)/\c'=cc) :=
 A0l (xs:=[.str x]) (c_words1 [x] (by simp) (by simpa using hx)) hb rfl rfl (Q5 [x])
theorem wd2{x y:List UInt8}{id cc:Nat}{H:Hp}(hb:H id=some ⟨1,true,[.str x,.str y]⟩)(hx:x.length<=1000000000)(hy:y.length<=1000000000):
  AC Tryz.prog 138 [.slc id 0 2] H cc (fun v H' c'=>v=E3 [A1 x,A1 y]/\H'=delO H (some id)/\c'=cc) :=
 A0l (xs:=[.str x,.str y]) (c_words1 [x,y] (by simp) (by simp[hx,hy])) hb rfl rfl (Q5 [x,y])
theorem A5a(l:List (List Tok)):∀ x∈l.map E3,x.cells.length=1:=fun x hx=>by obtain⟨y, -,rfl⟩:=A1A.1 hx;rfl
theorem jn2{a b:List Tok}{id cc:Nat}{H:Hp}(hH:H id=some ⟨1,true,[E3 a,E3 b]⟩)(ha:1<=a.length/\a.length<=1000000000)(hb:1<=b.length/\b.length<=1000000000):
  AC Tryz.prog 137 [.slc id 0 2] H cc (fun v H' c'=>v=E3 (a++b)/\H'=delO H (some id)/\c'=cc):=by
 have:=A0l (id:=id) (cc:=cc) (H:=H) (u:=1) (n:=2) (c_join1 [a,b] (by simp) (by simp[ha,hb])) hH rfl rfl (A5a [a,b])
 rwa [A1L,A1L,A2O,A0W]at this
theorem jn3{a b c:List Tok}{id cc:Nat}{H:Hp}(hH:H id=some ⟨1,true,[E3 a,E3 b,E3 c]⟩)(ha:1<=a.length/\a.length<=1000000000)(hb:1<=b.length/\b.length<=1000000000)(hc:1<=c.length/\c.length<=1000000000):
  AC Tryz.prog 137 [.slc id 0 3] H cc (fun v H' c'=>v=E3 (a++b++c)/\H'=delO H (some id)/\c'=cc):=by
 have:=A0l (id:=id) (cc:=cc) (H:=H) (u:=1) (n:=3) (c_join1 [a,b,c] (by simp) (by simp[ha,hb,hc])) hH rfl rfl (A5a [a,b,c])
 rwa [A1L,A1L,A1L,A2O,A0W, <- A0P]at this
theorem B8i(x:List UInt8):1<=(D4 x).length/\(D4 x).length<=1000000000:=by rw[A0];omega
theorem c_operand(e:Ex)(n:Int)(hT:(exT e).length<=100000000)(h:PC Tryz.prog 242 [e.v] (E3 (exT e))):PC Tryz.prog 299 [e.v,I64 n] (E3 (E6 (e.kind,exT e) n)):=by
 refine PC.ofT A2 rfl (A0D rfl) (by simp[DV.nlL,DV.nl,Ex.nl]) (N2 _) ?_;rw[Ex.v_w]at h ⊢;have hlv:=c_level e.kind;obtain⟨hl1, -⟩:=A3f e;obtain⟨R,hR⟩:∃ R,R=E3 (E6 (e.kind,exT e) n):=⟨_,rfl⟩;rw[<- hR];unfold E6 at hR;dsimp only at hR;generalize exT e=T at h hT hl1 hR;by_cases hlt:B6 e.kind<n
 ·have hd:decide (B6 e.kind<n)=true:=by simpa using hlt
  rw[if_pos hlt]at hR;repeat' ((first|(with_reducible first|refine wr ?_|refine cpc hlv ?_|refine cpc h ?_)|(with_reducible refine wb2 ?_ ?_<;>(intro hb;try simp only[hb]))|(refine AC.call (wd1 rfl (by decide)) ?_<;>rintro _ _ _ ⟨rfl,rfl,rfl⟩ -)|(refine AC.call (jn3 rfl (A0v _) ⟨hl1,by omega⟩ (A0v _)) ?_<;>rintro _ _ _ ⟨rfl,rfl,rfl⟩ -)|fail)<;>try simp only[go_sem,seval,hd])
  exact⟨_,by rw[hR];exact GL.refl _ _⟩
 ·have hd:decide (B6 e.kind<n)=false:=by simpa using hlt
  rw[if_neg hlt]at hR;repeat' ((with_reducible first|apply wr|refine cpc hlv ?_|refine cpc h ?_|fail)<;>try simp only[go_sem,seval,hd])
  exact⟨_,by rw[hR];exact GL.refl _ _⟩
theorem C6f{sz:Nat}{xs:List DV}{k:IntKind}:A0p sz (.lst xs) (.int k 1)=C3v sz xs[1]? := B8b (l:=1)
theorem c_exprT:∀ (m:Nat) (e:Ex),e.sz<m->e.sz<=10000000->PC Tryz.prog 242 [e.v] (E3 (exT e)):=by
 intro m
 induction m with
 |zero=>intro e h;omega
 |succ m ih =>
 intro e hm hB;have ihx:∀ x∈e.args,PC Tryz.prog 242 [x.v] (E3 (exT x)):=fun x hx=>ih x (by have:=Ex.sz_arg hx;omega) (by have:=Ex.sz_arg hx;omega);have hop:∀ x∈e.args, ∀ n,PC Tryz.prog 299 [x.v,I64 n] (E3 (E6 (x.kind,exT x) n)):=fun x hx n=>c_operand x n (by have:=(A3f x).2;have:=Ex.sz_arg hx;omega) (ihx x hx);have hle:∀ x∈e.args, ∀ n,1<=(E6 (x.kind,exT x) n).length/\(E6 (x.kind,exT x) n).length<=1000000000:=fun x hx n=>by
  have h1:=A3f x;have h2:=Ex.sz_arg hx;have h3:=A3a (x.kind,exT x) n;dsimp only at h3;omega
 clear ih ihx;obtain⟨R,hR⟩:∃ R,R=E3 (exT e):=⟨_,rfl⟩;have hnm:=e.sz_name;refine PC.ofT A2 rfl (A0D rfl) (by simp[DV.nlL,Ex.nl]) (N2 _) ?_;rw[Ex.v_w, <- hR];cases e with|mk k v n a p =>
 rw[exT,A5z]at hR;dsimp only[Ex.w,Ex.kind,Ex.value,Ex.name,Ex.args,Ex.pos]at hop hle hnm ⊢;unfold K9 at hR;dsimp only at hR;have hlv:=c_level k;have hnu:=c_number31 v;have hna:=c_named n (by omega);by_cases h1:k=1
 ·subst h1;rw[if_pos rfl]at hR;repeat' ((with_reducible first|apply wr|refine cpc hlv ?_|refine cpc hnu ?_|fail)<;>try simp only[go_sem,seval])
  exact⟨_,by rw[hR];exact GL.refl _ _⟩
 have d1:(k == 1)=false:=by simpa using h1
 rw[if_neg h1]at hR;by_cases h2:k=2
 ·subst h2;rw[if_pos rfl]at hR;repeat' ((with_reducible first|apply wr|refine cpc hlv ?_|refine cpc hna ?_|fail)<;>try simp only[go_sem,seval])
  exact⟨_,by rw[hR];exact GL.refl _ _⟩
 have d2:(k == 2)=false:=by simpa using h2
 rw[if_neg h2]at hR;by_cases h3:k=3
 ·subst h3;rw[if_pos rfl]at hR;repeat' ((first|(with_reducible first|refine wr ?_|refine cpc hlv ?_)|(with_reducible refine wb2 ?_ ?_<;>(intro hb;try simp only[hb]))|(refine AC.call (wd1 rfl (by decide)) ?_<;>rintro _ _ _ ⟨rfl,rfl,rfl⟩ -)|fail)<;>try simp only[go_sem,seval])
  exact⟨_,by rw[hR];exact GL.refl _ _⟩
 have d3:(k == 3)=false:=by simpa using h3
 rw[if_neg h3]at hR;by_cases h4:k=4
 ·subst h4;rw[if_pos rfl]at hR;repeat' ((first|(with_reducible first|refine wr ?_|refine cpc hlv ?_)|(with_reducible refine wb2 ?_ ?_<;>(intro hb;try simp only[hb]))|(refine AC.call (wd1 rfl (by decide)) ?_<;>rintro _ _ _ ⟨rfl,rfl,rfl⟩ -)|fail)<;>try simp only[go_sem,seval])
  exact⟨_,by rw[hR];exact GL.refl _ _⟩
 have d4:(k == 4)=false:=by simpa using h4
 rw[if_neg h4]at hR;by_cases h8:k=8
 ·subst h8;rw[if_pos rfl]at hR;repeat' ((first|(with_reducible first|refine wr ?_|refine cpc hlv ?_)|(with_reducible refine wb2 ?_ ?_<;>(intro hb;try simp only[hb]))|(refine AC.call (wd1 rfl (by decide)) ?_<;>rintro _ _ _ ⟨rfl,rfl,rfl⟩ -)|fail)<;>try simp only[go_sem,seval])
  exact⟨_,by rw[hR];exact GL.refl _ _⟩
 have d8:(k == 8)=false:=by simpa using h8
 rw[if_neg h8]at hR;by_cases h9:k=9
 ·subst h9;rw[if_pos rfl]at hR;repeat' ((first|(with_reducible first|refine wr ?_|refine cpc hlv ?_)|(with_reducible refine wb2 ?_ ?_<;>(intro hb;try simp only[hb]))|(refine AC.call (wd1 rfl (by decide)) ?_<;>rintro _ _ _ ⟨rfl,rfl,rfl⟩ -)|fail)<;>try simp only[go_sem,seval])
  exact⟨_,by rw[hR];exact GL.refl _ _⟩
 have d9:(k == 9)=false:=by simpa using h9
 rw[if_neg h9]at hR;by_cases h5:k=5
 ·subst h5;rw[if_pos rfl]at hR;repeat' ((first|(with_reducible first|refine wr ?_|refine cpc hlv ?_|refine cpc hna ?_)|(with_reducible refine wb2 ?_ ?_<;>(intro hb;try simp only[hb]))|(refine AC.call (wd1 rfl (by decide)) ?_<;>rintro _ _ _ ⟨rfl,rfl,rfl⟩ -)|(refine AC.call (jn2 rfl (A0v _) (B8i _)) ?_<;>rintro _ _ _ ⟨rfl,rfl,rfl⟩ -)|fail)<;>try simp only[go_sem,seval])
  exact⟨_,by rw[hR];exact GL.refl _ _⟩
 have d5:(k == 5)=false:=by simpa using h5
 rw[if_neg h5]at hR;by_cases h6:k=6
 ·subst h6;rw[if_pos rfl]at hR;repeat' ((first|(with_reducible first|refine wr ?_|refine cpc hlv ?_|refine cpc hna ?_)|(with_reducible refine wb2 ?_ ?_<;>(intro hb;try simp only[hb]))|(refine AC.call (wd1 rfl (by decide)) ?_<;>rintro _ _ _ ⟨rfl,rfl,rfl⟩ -)|(refine AC.call (jn2 rfl (A0v _) (B8i _)) ?_<;>rintro _ _ _ ⟨rfl,rfl,rfl⟩ -)|fail)<;>try simp only[go_sem,seval])
  exact⟨_,by rw[hR];exact GL.refl _ _⟩
 have d6:(k == 6)=false:=by simpa using h6
 rw[if_neg h6]at hR;by_cases h7:k=7
 ·subst h7;rw[if_pos rfl]at hR;repeat' ((first|(with_reducible first|refine wr ?_|refine cpc hlv ?_|refine cpc hna ?_)|(with_reducible refine wb2 ?_ ?_<;>(intro hb;try simp only[hb]))|(refine AC.call (wd1 rfl (by decide)) ?_<;>rintro _ _ _ ⟨rfl,rfl,rfl⟩ -)|(refine AC.call (jn2 rfl (A0v _) (B8i _)) ?_<;>rintro _ _ _ ⟨rfl,rfl,rfl⟩ -)|fail)<;>try simp only[go_sem,seval])
  exact⟨_,by rw[hR];exact GL.refl _ _⟩
 have d7:(k == 7)=false:=by simpa using h7
 rw[if_neg h7]at hR;have hbad:∀ q:List Tok,R=E3 q->q=[W9]->∃ H2,GL ((nil.upd 0 ⟨0,true,[I64 k,I64 v,.str n,G9 a,I64 p]⟩).upd 1 ⟨4,true,[I64 0,.str [],I64 0,I64 0]⟩) [.slc 1 0 1] H2 [R]:=fun q h1 h2=>by
  rw[h1,h2];exact O4 (id:=1) h_same rfl rfl (F0 [W9]) ⟨[],rfl⟩
 have w0:IntKind.i64.wrap 0=0:=by decide
 have w1:IntKind.i64.wrap 1=1:=by decide
 match a with
 |[] =>
  have e1:((0:Int) == 1)=false:=rfl;have e2:((0:Int) == 2)=false:=rfl;try dsimp only[List.map_nil]at hR
  by_cases l6:B6 k=6
  ·have m6:(B6 k == 6)=true:=by simpa using l6
   have m5:decide (B6 k<6)=false:=by simp;omega
   repeat' ((with_reducible first|apply wr|refine cpc hlv ?_|fail)<;>try simp only[go_sem,seval,d1,d2,d3,d4,d8,d9,d5,d6,d7,m6,m5,A1H,List.map_nil])
   exact hbad _ hR rfl
  ·have m6:(B6 k == 6)=false:=by simpa using l6
   by_cases l5:B6 k<6
   ·have m5:decide (B6 k<6)=true:=by simpa using l5
    repeat' ((with_reducible first|apply wr|refine cpc hlv ?_|fail)<;>try simp only[go_sem,seval,d1,d2,d3,d4,d8,d9,d5,d6,d7,m6,m5,A1H,List.map_nil])
    exact hbad _ hR rfl
   ·have m5:decide (B6 k<6)=false:=by simpa using l5
    repeat' ((with_reducible first|apply wr|refine cpc hlv ?_|fail)<;>try simp only[go_sem,seval,d1,d2,d3,d4,d8,d9,d5,d6,d7,m6,m5,A1H,List.map_nil])
    exact hbad _ hR rfl
 |[x] =>
  have hx:=fun n=>by have:=hop x A0H n;rwa [Ex.v_w]at this
  have hxl:=hle x A0H;simp only[A0Q,List.map_nil]at hR;by_cases l6:B6 k=6
  ·have m6:(B6 k == 6)=true:=by simpa using l6
   rw[if_pos l6]at hR;have hk:k=10\/k=11:=by
    unfold B6 at l6;repeat' split at l6
    all_goals omega
   rcases hk with rfl|rfl
   ·rw[if_pos rfl]at hR;repeat' ((first|(with_reducible first|refine wr ?_|refine cpc hlv ?_|refine cpc (hx 6) ?_)|(with_reducible refine wb2 ?_ ?_<;>(intro hb;try simp only[hb]))|(refine AC.call (wd1 rfl (by decide)) ?_<;>rintro _ _ _ ⟨rfl,rfl,rfl⟩ -)|(refine AC.call (jn2 rfl (A0v _) (hxl 6)) ?_<;>rintro _ _ _ ⟨rfl,rfl,rfl⟩ -)|fail)<;>try simp only[go_sem,seval,d1,d2,d3,d4,d8,d9,d5,d6,d7,m6,w0,w1,Ex.v_w])
    exact⟨_,by rw[hR];exact GL.refl _ _⟩
   ·rw[if_neg (by decide)]at hR;repeat' ((first|(with_reducible first|refine wr ?_|refine cpc hlv ?_|refine cpc (hx 6) ?_)|(with_reducible refine wb2 ?_ ?_<;>(intro hb;try simp only[hb]))|(refine AC.call (wd1 rfl (by decide)) ?_<;>rintro _ _ _ ⟨rfl,rfl,rfl⟩ -)|(refine AC.call (jn2 rfl (A0v _) (hxl 6)) ?_<;>rintro _ _ _ ⟨rfl,rfl,rfl⟩ -)|fail)<;>try simp only[go_sem,seval,d1,d2,d3,d4,d8,d9,d5,d6,d7,m6,w0,w1,Ex.v_w])
    exact⟨_,by rw[hR];exact GL.refl _ _⟩
  ·have m6:(B6 k == 6)=false:=by simpa using l6
   rw[if_neg l6]at hR;by_cases l5:B6 k<6
   ·have m5:decide (B6 k<6)=true:=by simpa using l5
    repeat' ((with_reducible first|apply wr|refine cpc hlv ?_|fail)<;>try simp only[go_sem,seval,d1,d2,d3,d4,d8,d9,d5,d6,d7,m6,m5])
    exact hbad _ hR rfl
   ·have m5:decide (B6 k<6)=false:=by simpa using l5
    repeat' ((with_reducible first|apply wr|refine cpc hlv ?_|fail)<;>try simp only[go_sem,seval,d1,d2,d3,d4,d8,d9,d5,d6,d7,m6,m5])
    exact hbad _ hR rfl
 |[x,y] =>
  have hx:=fun n=>by have:=hop x A0H n;rwa [Ex.v_w]at this
  have hxl:=hle x A0H;have hy:=fun n=>by have:=hop y (A0G _ A0H) n;rwa [Ex.v_w]at this
  have hyl:=hle y (A0G _ A0H);simp only[A0Q,List.map_nil]at hR;by_cases l5:B6 k<6
  ·have m5:decide (B6 k<6)=true:=by simpa using l5
   have m6:(B6 k == 6)=false:=by simp;omega
   rw[if_pos l5]at hR;obtain⟨k1,k2⟩:=B3t (k:=k) (by omega);have k3:12<=k:=by
    apply Classical.byContradiction;intro hc;have:k=10\/k=11:=by omega
    rw[A5q this]at l5;omega
   obtain⟨j,hj⟩:∃ j:Nat,k=12+(j:Int):=⟨(k-12).toNat,by omega⟩;have hjw:IntKind.i64.wrap (k-12)=(j:Int):=by rw[w6z (by omega)];omega
   have hjn:(k-12).toNat=j:=by omega
   rw[hjn]at hR;have hj13:j<13:=by omega
   have hgj:D9[j]? = some (D9.getD j []):=by
    rw[A1M,A0B (show j<D9.length from hj13)];rfl
   have hsl:(D9.getD j []).length<=1000000000:=by
    have:∀ i:Nat,i<13->(D9.getD i []).length<=1000000000:=by decide
    exact this j hj13
   generalize D9.getD j []=S at hR hgj hsl;have hw1:IntKind.i64.wrap (B6 k+1)=B6 k+1:=w64 (by have:=W8 k;omega) (by have:=W8 k;omega);by_cases l3:B6 k=3
   ·have m3:(B6 k == 3)=true:=by simpa using l3
    rw[if_pos l3]at hR;repeat' ((first|(with_reducible first|refine wr ?_|refine cpc hlv ?_|refine cpc (hx 4) ?_|refine cpc c_signs31 ?_|refine cpc (hy (B6 k+1)) ?_)|(with_reducible refine wb2 ?_ ?_<;>(intro hb;try simp only[hb]))|(refine AC.call (wd1 rfl hsl) ?_<;>rintro _ _ _ ⟨rfl,rfl,rfl⟩ -)|(refine AC.call (jn3 rfl (hxl 4) (A0v _) (hyl (B6 k+1))) ?_<;>rintro _ _ _ ⟨rfl,rfl,rfl⟩ -)|fail)<;>try simp only[go_sem,seval,d1,d2,d3,d4,d8,d9,d5,d6,d7,m6,m5,m3,hjw,hgj,hw1,Ex.v_w,C6f,A2L,A3D])
    exact⟨_,by rw[hR];exact GL.refl _ _⟩
   ·have m3:(B6 k == 3)=false:=by simpa using l3
    rw[if_neg l3]at hR;repeat' ((first|(with_reducible first|refine wr ?_|refine cpc hlv ?_|refine cpc (hx (B6 k)) ?_|refine cpc c_signs31 ?_|refine cpc (hy (B6 k+1)) ?_)|(with_reducible refine wb2 ?_ ?_<;>(intro hb;try simp only[hb]))|(refine AC.call (wd1 rfl hsl) ?_<;>rintro _ _ _ ⟨rfl,rfl,rfl⟩ -)|(refine AC.call (jn3 rfl (hxl (B6 k)) (A0v _) (hyl (B6 k+1))) ?_<;>rintro _ _ _ ⟨rfl,rfl,rfl⟩ -)|fail)<;>try simp only[go_sem,seval,d1,d2,d3,d4,d8,d9,d5,d6,d7,m6,m5,m3,hjw,hgj,hw1,Ex.v_w,C6f,A2L,A3D])
    exact⟨_,by rw[hR];exact GL.refl _ _⟩
  ·have m5:decide (B6 k<6)=false:=by simpa using l5
   rw[if_neg l5]at hR;by_cases l6:B6 k=6
   ·have m6:(B6 k == 6)=true:=by simpa using l6
    repeat' ((with_reducible first|apply wr|refine cpc hlv ?_|fail)<;>try simp only[go_sem,seval,d1,d2,d3,d4,d8,d9,d5,d6,d7,m6,m5])
    exact hbad _ hR rfl
   ·have m6:(B6 k == 6)=false:=by simpa using l6
    repeat' ((with_reducible first|apply wr|refine cpc hlv ?_|fail)<;>try simp only[go_sem,seval,d1,d2,d3,d4,d8,d9,d5,d6,d7,m6,m5])
    exact hbad _ hR rfl
 |x :: y :: z :: l =>
  simp only[A0Q]at hR;obtain⟨A,hA⟩:∃ A,A=(x :: y :: z :: l).map Ex.v:=⟨_,rfl⟩;have n1:((A.length:Int) == 1)=false:=by rw[hA];simp;omega
  have n2:((A.length:Int) == 2)=false:=by rw[hA];simp;omega
  have hex:G9 (x :: y :: z :: l)=.lst A:=by rw[hA]
  rw[hex]at hbad ⊢;by_cases l6:B6 k=6
  ·have m6:(B6 k == 6)=true:=by simpa using l6
   have m5:decide (B6 k<6)=false:=by simp;omega
   repeat' ((with_reducible first|apply wr|refine cpc hlv ?_|fail)<;>try simp only[go_sem,seval,d1,d2,d3,d4,d8,d9,d5,d6,d7,m6,m5,n1])
   exact hbad _ hR rfl
  ·have m6:(B6 k == 6)=false:=by simpa using l6
   by_cases l5:B6 k<6
   ·have m5:decide (B6 k<6)=true:=by simpa using l5
    repeat' ((with_reducible first|apply wr|refine cpc hlv ?_|fail)<;>try simp only[go_sem,seval,d1,d2,d3,d4,d8,d9,d5,d6,d7,m6,m5,n2])
    exact hbad _ hR rfl
   ·have m5:decide (B6 k<6)=false:=by simpa using l5
    repeat' ((with_reducible first|apply wr|refine cpc hlv ?_|fail)<;>try simp only[go_sem,seval,d1,d2,d3,d4,d8,d9,d5,d6,d7,m6,m5])
    exact hbad _ hR rfl
end Go.Proofs.YtkkjpohaffjecaaGreatDoor
set_option maxHeartbeats 8000000
namespace Go.Proofs.YtkkjpohaffjecaaGreatDoor
open Go.Eng (IC IOper DReg IFn L2)
open Go.Sym Go.Pb
theorem lw(x:List UInt8):(wT x).length=1:=rfl
theorem jn4{a b c d:List Tok}{id cc:Nat}{H:Hp}(hH:H id=some ⟨1,true,[E3 a,E3 b,E3 c,E3 d]⟩)(ha:1<=a.length/\a.length<=1000000000)(hb:1<=b.length/\b.length<=1000000000)(hc:1<=c.length/\c.length<=1000000000)(hd:1<=d.length/\d.length<=1000000000):
  AC Tryz.prog 137 [.slc id 0 4] H cc (fun v H' c'=>v=E3 (a++b++c++d)/\H'=delO H (some id)/\c'=cc):=by
 have:=A0l (id:=id) (cc:=cc) (H:=H) (u:=1) (n:=4) (c_join1 [a,b,c,d] (by simp) (by simp[ha,hb,hc,hd])) hH rfl rfl (A5a [a,b,c,d])
 rwa [A1L,A1L,A1L,A1L,A2O,A0W, <- A0P, <- A0P]at this
theorem jn5{a b c d e:List Tok}{id cc:Nat}{H:Hp}(hH:H id=some ⟨1,true,[E3 a,E3 b,E3 c,E3 d,E3 e]⟩)(ha:1<=a.length/\a.length<=1000000000)(hb:1<=b.length/\b.length<=1000000000)(hc:1<=c.length/\c.length<=1000000000)(hd:1<=d.length/\d.length<=1000000000)(he:1<=e.length/\e.length<=1000000000):
  AC Tryz.prog 137 [.slc id 0 5] H cc (fun v H' c'=>v=E3 (a++b++c++d++e)/\H'=delO H (some id)/\c'=cc):=by
 have:=A0l (id:=id) (cc:=cc) (H:=H) (u:=1) (n:=5) (c_join1 [a,b,c,d,e] (by simp) (by simp[ha,hb,hc,hd,he])) hH rfl rfl (A5a [a,b,c,d,e])
 rwa [A1L,A1L,A1L,A1L,A1L,A2O,A0W, <- A0P, <- A0P, <- A0P]at this
theorem C2p(l:List Ex)(i:Nat)(hl:Ex.szs l<=10000000):1<=(agT l i).length/\(agT l i).length<=100000000:=by
 unfold agT;cases h:l[i]? with
 |none=>exact⟨A0E _,by decide⟩
 |some e =>
  have h1:=A3f e;have h2:=Ex.szs_mem (A0U h);dsimp only;omega
theorem c_arg(l:List Ex)(i:Nat)(hi:i<=5)(hl:Ex.szs l<=10000000):PC Tryz.prog 273 [G9 l,I64 i] (E3 (agT l i)):=by
 refine PC.ofT A2 rfl (A0D rfl) (by simp[DV.nlL,DV.nl,A1f]) (N2 _) ?_;unfold agT;cases h:l[i]? with
 |none =>
  have hlt:l.length<=i:=List.getElem?_eq_none_iff.1 h;have hd:decide ((i:Int)≥(l.length:Int))=true:=by simp;omega
  repeat' (apply wr<;>try simp only[go_sem,seval,hd,A0C])
  exact A2z
 |some e =>
  have hlt:=(A0J.1 h).1;have hd:decide ((i:Int)≥(l.length:Int))=false:=by simp;omega
  have he:=c_exprT (e.sz+1) e (by omega) (by have:=Ex.szs_mem (A0U h);omega);rw[Ex.v_w]at he;repeat' ((with_reducible first|apply wr|refine cpc he ?_|fail)<;>try simp only[go_sem,seval,hd,h,Ex.v_w,A0C])
  exact⟨_,GL.refl _ _⟩
theorem B3i{c:Nat}{k v p:Int}{x:List UInt8}:∃ H2,GL (nil.upd c ⟨4,true,[I64 k,.str x,I64 v,I64 p]⟩) [.slc c 0 1] H2 [E3 [⟨k,x,v,p⟩]] :=
 O4 h_same rfl rfl (F0 _) ⟨[],rfl⟩
theorem c_text31(s:List UInt8)(hs:s.length<=1000000000):PC Tryz.prog 274 [.str s] (E3 (A1n s)):=by
 refine PC.ofT A2 rfl (A0D rfl) rfl (N2 _) ?_;unfold A1n;repeat' (apply wr<;>try simp only[go_sem,seval])
 refine A9 (fun k:Nat=>[(0,.str s),(3,I64 k)]) (fun _=>Sym.nil) (fun k c=>k<=s.length/\(s.take k).all txB=true) (fun k=>s.length-k) 0 (by simp[C1,tm,Tm.upd]) (Sub.nil _) ⟨A0O _,rfl⟩ ?_;rintro k c ⟨hk,ha⟩;by_cases hlt:k<s.length
 ·have hd:=dtz hlt;have hg:=A0B hlt;have hw:=w64 (n:=(k:Int)+1);have e0:(s.take (k+1)).all txB=((s.take k).all txB && txB s[k]):=by rw[A0S,hg,A3Q];simp
  have e1:txB s[k]=false->s.all txB=false:=fun h=>by
   cases hz:s.all txB with
   |false=>rfl
   |true=>rw[A0R]at hz;rw[hz _ (A0L hlt)]at h;cases h
  generalize s[k]=x at hg e0 e1;by_cases h1:x.toNat<32
  ·have hd1:decide ((x.toNat:Int)<32)=true:=by simp;omega
   rw[if_pos (.inl (e1 (by simp[txB];omega)))];repeat' (apply wr<;>try simp only[go_sem,seval,hd,hg,hd1])
   exact B3i
  ·have hd1:decide ((x.toNat:Int)<32)=false:=by simp;omega
   by_cases h2:126<x.toNat
   ·have hd2:decide ((x.toNat:Int)>126)=true:=by simp;omega
    rw[if_pos (.inl (e1 (by simp[txB];omega)))];repeat' (apply wr<;>try simp only[go_sem,seval,hd,hg,hd1,hd2])
    exact B3i
   ·have hd2:decide ((x.toNat:Int)>126)=false:=by simp;omega
    have e2:txB x=true:=by simp[txB];omega
    repeat' (apply wr<;>try simp only[go_sem,seval,hd,hg,hw,hd1,hd2])
    exact⟨k+1,by simp[],Sub.nil _,inv ⟨by omega,by rw[e0,ha,e2];rfl⟩,by omega⟩
 ·have hd:=dfz hlt;rw[A0M (by omega)]at ha;by_cases h3:32<s.length
  ·have hd3:decide ((s.length:Int)>32)=true:=by simp;omega
   rw[if_pos (.inr h3)];repeat' (apply wr<;>try simp only[go_sem,seval,hd,hd3])
   exact B3i
  ·have hd3:decide ((s.length:Int)>32)=false:=by simp;omega
   rw[if_neg (by rw[ha];simp;omega)];repeat' (apply wr<;>try simp only[go_sem,seval,hd,hd3])
   exact B3i
theorem D0t(x:Pb.St):Pb.St.szs [x]=x.sz:=by rw[Pb.St.szs,Pb.St.szs];omega
theorem c_stmtT(m:Nat)(ihs:∀ x:Pb.St,x.sz<m->PC Tryz.prog 207 [x.v] (E3 (stT x)))(ihb:∀ l:List Pb.St,Pb.St.szs l<m->PC Tryz.prog 142 [D3 l] (E3 (blT l)))
  (hlb:∀ l:List Pb.St,Pb.St.szs l<m->1<=(blT l).length/\(blT l).length<=100000000) (hls:∀ x:Pb.St,x.sz<m->1<=(stT x).length/\(stT x).length<=100000000)
  (s:Pb.St) (hm:s.sz<=m) (hB:s.sz<=10000000):PC Tryz.prog 207 [s.v] (E3 (stT s)):=by
 obtain⟨R,hR⟩:∃ R,R=E3 (stT s):=⟨_,rfl⟩;have hnm:=s.sz_name;have htx:=s.sz_text;have hax:Ex.szs s.args<=10000000:=by cases s with|mk k n t a x y p=>rw[Pb.St.sz]at hB;show Ex.szs a<=_;omega
 have hxx:=s.sz_thn;have hyy:=s.sz_els;refine PC.ofT A2 rfl (A0D rfl) (by simp[DV.nlL,Pb.St.nl]) (N2 _) ?_;rw[Pb.St.v_w, <- hR];cases s with|mk k n t a x y p =>
 unfold stT at hR;dsimp only[Pb.St.w,Pb.St.kind,Pb.St.name,Pb.St.text,Pb.St.args,Pb.St.thn,Pb.St.els,Pb.St.pos]at hnm htx hax hxx hyy ⊢;have hna:=c_named n (by omega);have hte:=c_text31 t (by omega);have ha0:=c_arg a 0 (by decide) hax;have ha1:=c_arg a 1 (by decide) hax;have la0:=C2p a 0 hax;have la1:=C2p a 1 hax;rw[show ((0:Nat):Int)=0 from rfl]at ha0;rw[show ((1:Nat):Int)=1 from rfl]at ha1;have hbx:=ihb x (by omega);have hby:=ihb y (by omega);have lbx:=hlb x (by omega);have lby:=hlb y (by omega);by_cases h1:k=1
 ·subst h1;rw[if_pos rfl]at hR;repeat' ((first|(with_reducible first|refine wr ?_|refine cpc hna ?_|refine cpc ha0 ?_)|(with_reducible refine wb2 ?_ ?_<;>(intro hb;try simp only[hb]))|(refine AC.call (wd1 rfl (by first|assumption|decide)) ?_<;>rintro _ _ _ ⟨rfl,rfl,rfl⟩ -)|(refine AC.call (jn2 rfl ?_ ?_) ?_<;>first|(constructor<;>(try simp only[A0A,lw,A0,A6,A4])<;>omega)|rintro _ _ _ ⟨rfl,rfl,rfl⟩ -)|(refine AC.call (jn3 rfl ?_ ?_ ?_) ?_<;>first|(constructor<;>(try simp only[A0A,lw,A0,A6,A4])<;>omega)|rintro _ _ _ ⟨rfl,rfl,rfl⟩ -)|(refine AC.call (jn4 rfl ?_ ?_ ?_ ?_) ?_<;>first|(constructor<;>(try simp only[A0A,lw,A0,A6,A4])<;>omega)|rintro _ _ _ ⟨rfl,rfl,rfl⟩ -)|(refine AC.call (jn5 rfl ?_ ?_ ?_ ?_ ?_) ?_<;>first|(constructor<;>(try simp only[A0A,lw,A0,A6,A4])<;>omega)|rintro _ _ _ ⟨rfl,rfl,rfl⟩ -)|fail)<;>try simp only[go_sem,seval])
  exact⟨_,by rw[hR];exact GL.refl _ _⟩
 rw[if_neg h1]at hR;have d1:(k == 1)=false:=by simpa using h1
 by_cases hbk:k<2\/19<k
 ·rw[if_pos hbk]at hR;by_cases h2:k<2
  ·have d2:decide (k<2)=true:=by simpa using h2
   repeat' (apply wr<;>try simp only[go_sem,seval,d1,d2])
   rw[hR];exact O4 (id:=1) h_same rfl rfl (F0 [W9]) ⟨[],rfl⟩
  ·have d2:decide (k<2)=false:=by simpa using h2
   have d3:decide (k>19)=true:=by simp;omega
   repeat' (apply wr<;>try simp only[go_sem,seval,d1,d2,d3])
   rw[hR];exact O4 (id:=1) h_same rfl rfl (F0 [W9]) ⟨[],rfl⟩
 rw[if_neg hbk]at hR;have e2:decide (k<2)=false:=by simp;omega
 have e3:decide (k>19)=false:=by simp;omega
 dsimp only at hR;obtain⟨j,hj⟩:∃ j:Nat,k=2+(j:Int):=⟨(k-2).toNat,by omega⟩;have hjw:IntKind.i64.wrap (k-2)=(j:Int):=by rw[w6z (by omega)];omega
 have hjn:(k-2).toNat=j:=by omega
 rw[hjn]at hR;have hj18:j<18:=by omega
 have hgj:B9[j]? = some (B9.getD j []):=by
  rw[A1M,A0B (show j<B9.length from hj18)];rfl
 have hsl:(B9.getD j []).length<=1000000000:=by
  have:∀ i:Nat,i<18->(B9.getD i []).length<=1000000000:=by decide
  exact this j hj18
 generalize B9.getD j []=S at hR hgj hsl;have dk:∀ q:Int,¬ k=q->(k == q)=false:=fun q h=>by simpa using h
 repeat' ((first|(with_reducible first|refine H9 (p:=IW _ _ (pz Tryz.prog 207 (.i (.o (.i (.o .h))))) _ _) ?_|refine wr ?_|refine cpc c_stmts31 ?_)|(with_reducible refine wb2 ?_ ?_<;>(intro hb;try simp only[hb]))|(refine AC.call (wd1 rfl (by first|assumption|decide)) ?_<;>rintro _ _ _ ⟨rfl,rfl,rfl⟩ -)|fail)<;>try simp only[go_sem,seval,d1,e2,e3,hjw,hgj])
 unfold B1f;by_cases h2:k=2\/k=3
 ·rw[if_pos h2]at hR;have dd:(k == 2)=true\/(k == 2)=false/\(k == 3)=true:=by
   rcases h2 with rfl|rfl
   ·exact .inl rfl
   ·exact .inr ⟨rfl,rfl⟩
  clear h2 hj hjn h1 hbk
  match y with
  |[] =>
   dsimp only at hR;rcases dd with d2|⟨d2,d3⟩
   ·repeat' ((first|(with_reducible first|refine wr ?_|refine cpc ha0 ?_|refine cpc hbx ?_)|(with_reducible refine wb2 ?_ ?_<;>(intro hb;try simp only[hb]))|(refine AC.call (wd1 rfl (by first|assumption|decide)) ?_<;>rintro _ _ _ ⟨rfl,rfl,rfl⟩ -)|(refine AC.call (jn2 rfl ?_ ?_) ?_<;>first|(constructor<;>(try simp only[A0A,lw,A0,A6,A4])<;>omega)|rintro _ _ _ ⟨rfl,rfl,rfl⟩ -)|(refine AC.call (jn3 rfl ?_ ?_ ?_) ?_<;>first|(constructor<;>(try simp only[A0A,lw,A0,A6,A4])<;>omega)|rintro _ _ _ ⟨rfl,rfl,rfl⟩ -)|(refine AC.call (jn4 rfl ?_ ?_ ?_ ?_) ?_<;>first|(constructor<;>(try simp only[A0A,lw,A0,A6,A4])<;>omega)|rintro _ _ _ ⟨rfl,rfl,rfl⟩ -)|(refine AC.call (jn5 rfl ?_ ?_ ?_ ?_ ?_) ?_<;>first|(constructor<;>(try simp only[A0A,lw,A0,A6,A4])<;>omega)|rintro _ _ _ ⟨rfl,rfl,rfl⟩ -)|fail)<;>try simp only[go_sem,seval,d2,List.map_nil,A1H])
    exact⟨_,by rw[hR];exact GL.refl _ _⟩
   ·repeat' ((first|(with_reducible first|refine wr ?_|refine cpc ha0 ?_|refine cpc hbx ?_)|(with_reducible refine wb2 ?_ ?_<;>(intro hb;try simp only[hb]))|(refine AC.call (wd1 rfl (by first|assumption|decide)) ?_<;>rintro _ _ _ ⟨rfl,rfl,rfl⟩ -)|(refine AC.call (jn2 rfl ?_ ?_) ?_<;>first|(constructor<;>(try simp only[A0A,lw,A0,A6,A4])<;>omega)|rintro _ _ _ ⟨rfl,rfl,rfl⟩ -)|(refine AC.call (jn3 rfl ?_ ?_ ?_) ?_<;>first|(constructor<;>(try simp only[A0A,lw,A0,A6,A4])<;>omega)|rintro _ _ _ ⟨rfl,rfl,rfl⟩ -)|(refine AC.call (jn4 rfl ?_ ?_ ?_ ?_) ?_<;>first|(constructor<;>(try simp only[A0A,lw,A0,A6,A4])<;>omega)|rintro _ _ _ ⟨rfl,rfl,rfl⟩ -)|(refine AC.call (jn5 rfl ?_ ?_ ?_ ?_ ?_) ?_<;>first|(constructor<;>(try simp only[A0A,lw,A0,A6,A4])<;>omega)|rintro _ _ _ ⟨rfl,rfl,rfl⟩ -)|fail)<;>try simp only[go_sem,seval,d2,d3,List.map_nil,A1H])
    exact⟨_,by rw[hR];exact GL.refl _ _⟩
  |[q] =>
   rw[D0t]at hyy;have hq:=ihs q (by omega);have lq:=hls q (by omega);rw[Pb.St.v_w]at hq;dsimp only at hR;have hone:blT [q]=wT [123]++stT q++wT [125]:=by unfold blT;rw[O9,O9,A0W];rfl
   have hby':=hby;rw[hone]at hby lby;by_cases hk2:q.kind=2
   ·rw[if_pos hk2]at hR;have m2:(q.kind == 2)=true:=by simpa using hk2
    rcases dd with d2|⟨d2,d3⟩
    ·repeat' ((first|(with_reducible first|refine wr ?_|refine cpc ha0 ?_|refine cpc hbx ?_|refine cpc hq ?_)|(with_reducible refine wb2 ?_ ?_<;>(intro hb;try simp only[hb]))|(refine AC.call (wd1 rfl (by first|assumption|decide)) ?_<;>rintro _ _ _ ⟨rfl,rfl,rfl⟩ -)|(refine AC.call (jn2 rfl ?_ ?_) ?_<;>first|(constructor<;>(try simp only[A0A,lw,A0,A6,A4])<;>omega)|rintro _ _ _ ⟨rfl,rfl,rfl⟩ -)|(refine AC.call (jn3 rfl ?_ ?_ ?_) ?_<;>first|(constructor<;>(try simp only[A0A,lw,A0,A6,A4])<;>omega)|rintro _ _ _ ⟨rfl,rfl,rfl⟩ -)|(refine AC.call (jn4 rfl ?_ ?_ ?_ ?_) ?_<;>first|(constructor<;>(try simp only[A0A,lw,A0,A6,A4])<;>omega)|rintro _ _ _ ⟨rfl,rfl,rfl⟩ -)|(refine AC.call (jn5 rfl ?_ ?_ ?_ ?_ ?_) ?_<;>first|(constructor<;>(try simp only[A0A,lw,A0,A6,A4])<;>omega)|rintro _ _ _ ⟨rfl,rfl,rfl⟩ -)|fail)<;>try simp only[go_sem,seval,d2,m2,Pb.St.v_w])
     exact⟨_,by rw[hR];exact GL.refl _ _⟩
    ·repeat' ((first|(with_reducible first|refine wr ?_|refine cpc ha0 ?_|refine cpc hbx ?_|refine cpc hq ?_)|(with_reducible refine wb2 ?_ ?_<;>(intro hb;try simp only[hb]))|(refine AC.call (wd1 rfl (by first|assumption|decide)) ?_<;>rintro _ _ _ ⟨rfl,rfl,rfl⟩ -)|(refine AC.call (jn2 rfl ?_ ?_) ?_<;>first|(constructor<;>(try simp only[A0A,lw,A0,A6,A4])<;>omega)|rintro _ _ _ ⟨rfl,rfl,rfl⟩ -)|(refine AC.call (jn3 rfl ?_ ?_ ?_) ?_<;>first|(constructor<;>(try simp only[A0A,lw,A0,A6,A4])<;>omega)|rintro _ _ _ ⟨rfl,rfl,rfl⟩ -)|(refine AC.call (jn4 rfl ?_ ?_ ?_ ?_) ?_<;>first|(constructor<;>(try simp only[A0A,lw,A0,A6,A4])<;>omega)|rintro _ _ _ ⟨rfl,rfl,rfl⟩ -)|(refine AC.call (jn5 rfl ?_ ?_ ?_ ?_ ?_) ?_<;>first|(constructor<;>(try simp only[A0A,lw,A0,A6,A4])<;>omega)|rintro _ _ _ ⟨rfl,rfl,rfl⟩ -)|fail)<;>try simp only[go_sem,seval,d2,d3,m2,Pb.St.v_w])
     exact⟨_,by rw[hR];exact GL.refl _ _⟩
   ·rw[if_neg hk2]at hR;have m2:(q.kind == 2)=false:=by simpa using hk2
    rcases dd with d2|⟨d2,d3⟩
    ·repeat' ((first|(with_reducible first|refine wr ?_|refine cpc ha0 ?_|refine cpc hbx ?_|refine cpc hby ?_)|(with_reducible refine wb2 ?_ ?_<;>(intro hb;try simp only[hb]))|(refine AC.call (wd1 rfl (by first|assumption|decide)) ?_<;>rintro _ _ _ ⟨rfl,rfl,rfl⟩ -)|(refine AC.call (jn2 rfl ?_ ?_) ?_<;>first|(constructor<;>(try simp only[A0A,lw,A0,A6,A4])<;>omega)|rintro _ _ _ ⟨rfl,rfl,rfl⟩ -)|(refine AC.call (jn3 rfl ?_ ?_ ?_) ?_<;>first|(constructor<;>(try simp only[A0A,lw,A0,A6,A4])<;>omega)|rintro _ _ _ ⟨rfl,rfl,rfl⟩ -)|(refine AC.call (jn4 rfl ?_ ?_ ?_ ?_) ?_<;>first|(constructor<;>(try simp only[A0A,lw,A0,A6,A4])<;>omega)|rintro _ _ _ ⟨rfl,rfl,rfl⟩ -)|(refine AC.call (jn5 rfl ?_ ?_ ?_ ?_ ?_) ?_<;>first|(constructor<;>(try simp only[A0A,lw,A0,A6,A4])<;>omega)|rintro _ _ _ ⟨rfl,rfl,rfl⟩ -)|fail)<;>try simp only[go_sem,seval,d2,m2,Pb.St.v_w])
     exact⟨_,by rw[hR];exact GL.refl _ _⟩
    ·repeat' ((first|(with_reducible first|refine wr ?_|refine cpc ha0 ?_|refine cpc hbx ?_|refine cpc hby ?_)|(with_reducible refine wb2 ?_ ?_<;>(intro hb;try simp only[hb]))|(refine AC.call (wd1 rfl (by first|assumption|decide)) ?_<;>rintro _ _ _ ⟨rfl,rfl,rfl⟩ -)|(refine AC.call (jn2 rfl ?_ ?_) ?_<;>first|(constructor<;>(try simp only[A0A,lw,A0,A6,A4])<;>omega)|rintro _ _ _ ⟨rfl,rfl,rfl⟩ -)|(refine AC.call (jn3 rfl ?_ ?_ ?_) ?_<;>first|(constructor<;>(try simp only[A0A,lw,A0,A6,A4])<;>omega)|rintro _ _ _ ⟨rfl,rfl,rfl⟩ -)|(refine AC.call (jn4 rfl ?_ ?_ ?_ ?_) ?_<;>first|(constructor<;>(try simp only[A0A,lw,A0,A6,A4])<;>omega)|rintro _ _ _ ⟨rfl,rfl,rfl⟩ -)|(refine AC.call (jn5 rfl ?_ ?_ ?_ ?_ ?_) ?_<;>first|(constructor<;>(try simp only[A0A,lw,A0,A6,A4])<;>omega)|rintro _ _ _ ⟨rfl,rfl,rfl⟩ -)|fail)<;>try simp only[go_sem,seval,d2,d3,m2,Pb.St.v_w])
     exact⟨_,by rw[hR];exact GL.refl _ _⟩
  |q :: q2 :: l =>
   dsimp only at hR;obtain⟨A,hA⟩:∃ A,A=(q :: q2 :: l).map Pb.St.v:=⟨_,rfl⟩;have n1:((A.length:Int) == 1)=false:=by rw[hA];simp;omega
   have n2:decide ((A.length:Int)>0)=true:=by rw[hA];simp;omega
   have hex:D3 (q :: q2 :: l)=.lst A:=by rw[hA]
   rw[hex]at hby ⊢;rcases dd with d2|⟨d2,d3⟩
   ·repeat' ((first|(with_reducible first|refine wr ?_|refine cpc ha0 ?_|refine cpc hbx ?_|refine cpc hby ?_)|(with_reducible refine wb2 ?_ ?_<;>(intro hb;try simp only[hb]))|(refine AC.call (wd1 rfl (by first|assumption|decide)) ?_<;>rintro _ _ _ ⟨rfl,rfl,rfl⟩ -)|(refine AC.call (jn2 rfl ?_ ?_) ?_<;>first|(constructor<;>(try simp only[A0A,lw,A0,A6,A4])<;>omega)|rintro _ _ _ ⟨rfl,rfl,rfl⟩ -)|(refine AC.call (jn3 rfl ?_ ?_ ?_) ?_<;>first|(constructor<;>(try simp only[A0A,lw,A0,A6,A4])<;>omega)|rintro _ _ _ ⟨rfl,rfl,rfl⟩ -)|(refine AC.call (jn4 rfl ?_ ?_ ?_ ?_) ?_<;>first|(constructor<;>(try simp only[A0A,lw,A0,A6,A4])<;>omega)|rintro _ _ _ ⟨rfl,rfl,rfl⟩ -)|(refine AC.call (jn5 rfl ?_ ?_ ?_ ?_ ?_) ?_<;>first|(constructor<;>(try simp only[A0A,lw,A0,A6,A4])<;>omega)|rintro _ _ _ ⟨rfl,rfl,rfl⟩ -)|fail)<;>try simp only[go_sem,seval,d2,n1,n2])
    exact⟨_,by rw[hR];exact GL.refl _ _⟩
   ·repeat' ((first|(with_reducible first|refine wr ?_|refine cpc ha0 ?_|refine cpc hbx ?_|refine cpc hby ?_)|(with_reducible refine wb2 ?_ ?_<;>(intro hb;try simp only[hb]))|(refine AC.call (wd1 rfl (by first|assumption|decide)) ?_<;>rintro _ _ _ ⟨rfl,rfl,rfl⟩ -)|(refine AC.call (jn2 rfl ?_ ?_) ?_<;>first|(constructor<;>(try simp only[A0A,lw,A0,A6,A4])<;>omega)|rintro _ _ _ ⟨rfl,rfl,rfl⟩ -)|(refine AC.call (jn3 rfl ?_ ?_ ?_) ?_<;>first|(constructor<;>(try simp only[A0A,lw,A0,A6,A4])<;>omega)|rintro _ _ _ ⟨rfl,rfl,rfl⟩ -)|(refine AC.call (jn4 rfl ?_ ?_ ?_ ?_) ?_<;>first|(constructor<;>(try simp only[A0A,lw,A0,A6,A4])<;>omega)|rintro _ _ _ ⟨rfl,rfl,rfl⟩ -)|(refine AC.call (jn5 rfl ?_ ?_ ?_ ?_ ?_) ?_<;>first|(constructor<;>(try simp only[A0A,lw,A0,A6,A4])<;>omega)|rintro _ _ _ ⟨rfl,rfl,rfl⟩ -)|fail)<;>try simp only[go_sem,seval,d2,d3,n1,n2])
    exact⟨_,by rw[hR];exact GL.refl _ _⟩
 rw[if_neg h2]at hR;have d2:=dk 2 (fun h=>h2 (.inl h));have d3:=dk 3 (fun h=>h2 (.inr h));by_cases h4:k=4
 ·subst h4;rw[if_pos rfl]at hR;repeat' ((first|(with_reducible first|refine wr ?_|refine cpc ha0 ?_)|(with_reducible refine wb2 ?_ ?_<;>(intro hb;try simp only[hb]))|(refine AC.call (wd1 rfl (by first|assumption|decide)) ?_<;>rintro _ _ _ ⟨rfl,rfl,rfl⟩ -)|(refine AC.call (jn2 rfl ?_ ?_) ?_<;>first|(constructor<;>(try simp only[A0A,lw,A0,A6,A4])<;>omega)|rintro _ _ _ ⟨rfl,rfl,rfl⟩ -)|(refine AC.call (jn3 rfl ?_ ?_ ?_) ?_<;>first|(constructor<;>(try simp only[A0A,lw,A0,A6,A4])<;>omega)|rintro _ _ _ ⟨rfl,rfl,rfl⟩ -)|(refine AC.call (jn4 rfl ?_ ?_ ?_ ?_) ?_<;>first|(constructor<;>(try simp only[A0A,lw,A0,A6,A4])<;>omega)|rintro _ _ _ ⟨rfl,rfl,rfl⟩ -)|(refine AC.call (jn5 rfl ?_ ?_ ?_ ?_ ?_) ?_<;>first|(constructor<;>(try simp only[A0A,lw,A0,A6,A4])<;>omega)|rintro _ _ _ ⟨rfl,rfl,rfl⟩ -)|fail)<;>try simp only[go_sem,seval,d2,d3])
  exact⟨_,by rw[hR];exact GL.refl _ _⟩
 rw[if_neg h4]at hR;have d4:=dk 4 h4;by_cases h18:k=18
 ·subst h18;rw[if_pos rfl]at hR;repeat' ((first|(with_reducible first|refine wr ?_|refine cpc ha0 ?_|refine cpc hte ?_)|(with_reducible refine wb2 ?_ ?_<;>(intro hb;try simp only[hb]))|(refine AC.call (wd1 rfl (by first|assumption|decide)) ?_<;>rintro _ _ _ ⟨rfl,rfl,rfl⟩ -)|(refine AC.call (jn2 rfl ?_ ?_) ?_<;>first|(constructor<;>(try simp only[A0A,lw,A0,A6,A4])<;>omega)|rintro _ _ _ ⟨rfl,rfl,rfl⟩ -)|(refine AC.call (jn3 rfl ?_ ?_ ?_) ?_<;>first|(constructor<;>(try simp only[A0A,lw,A0,A6,A4])<;>omega)|rintro _ _ _ ⟨rfl,rfl,rfl⟩ -)|(refine AC.call (jn4 rfl ?_ ?_ ?_ ?_) ?_<;>first|(constructor<;>(try simp only[A0A,lw,A0,A6,A4])<;>omega)|rintro _ _ _ ⟨rfl,rfl,rfl⟩ -)|(refine AC.call (jn5 rfl ?_ ?_ ?_ ?_ ?_) ?_<;>first|(constructor<;>(try simp only[A0A,lw,A0,A6,A4])<;>omega)|rintro _ _ _ ⟨rfl,rfl,rfl⟩ -)|fail)<;>try simp only[go_sem,seval,d2,d3,d4])
  exact⟨_,by rw[hR];exact GL.refl _ _⟩
 rw[if_neg h18]at hR;have d18:=dk 18 h18;by_cases h8:k=8\/k=10
 ·rw[if_pos h8]at hR;rcases h8 with rfl|rfl
  ·repeat' ((first|(with_reducible first|refine wr ?_|refine cpc ha0 ?_|refine cpc hna ?_)|(with_reducible refine wb2 ?_ ?_<;>(intro hb;try simp only[hb]))|(refine AC.call (wd1 rfl (by first|assumption|decide)) ?_<;>rintro _ _ _ ⟨rfl,rfl,rfl⟩ -)|(refine AC.call (jn2 rfl ?_ ?_) ?_<;>first|(constructor<;>(try simp only[A0A,lw,A0,A6,A4])<;>omega)|rintro _ _ _ ⟨rfl,rfl,rfl⟩ -)|(refine AC.call (jn3 rfl ?_ ?_ ?_) ?_<;>first|(constructor<;>(try simp only[A0A,lw,A0,A6,A4])<;>omega)|rintro _ _ _ ⟨rfl,rfl,rfl⟩ -)|(refine AC.call (jn4 rfl ?_ ?_ ?_ ?_) ?_<;>first|(constructor<;>(try simp only[A0A,lw,A0,A6,A4])<;>omega)|rintro _ _ _ ⟨rfl,rfl,rfl⟩ -)|(refine AC.call (jn5 rfl ?_ ?_ ?_ ?_ ?_) ?_<;>first|(constructor<;>(try simp only[A0A,lw,A0,A6,A4])<;>omega)|rintro _ _ _ ⟨rfl,rfl,rfl⟩ -)|fail)<;>try simp only[go_sem,seval,d2,d3,d4,d18])
   exact⟨_,by rw[hR];exact GL.refl _ _⟩
  ·repeat' ((first|(with_reducible first|refine wr ?_|refine cpc ha0 ?_|refine cpc hna ?_)|(with_reducible refine wb2 ?_ ?_<;>(intro hb;try simp only[hb]))|(refine AC.call (wd1 rfl (by first|assumption|decide)) ?_<;>rintro _ _ _ ⟨rfl,rfl,rfl⟩ -)|(refine AC.call (jn2 rfl ?_ ?_) ?_<;>first|(constructor<;>(try simp only[A0A,lw,A0,A6,A4])<;>omega)|rintro _ _ _ ⟨rfl,rfl,rfl⟩ -)|(refine AC.call (jn3 rfl ?_ ?_ ?_) ?_<;>first|(constructor<;>(try simp only[A0A,lw,A0,A6,A4])<;>omega)|rintro _ _ _ ⟨rfl,rfl,rfl⟩ -)|(refine AC.call (jn4 rfl ?_ ?_ ?_ ?_) ?_<;>first|(constructor<;>(try simp only[A0A,lw,A0,A6,A4])<;>omega)|rintro _ _ _ ⟨rfl,rfl,rfl⟩ -)|(refine AC.call (jn5 rfl ?_ ?_ ?_ ?_ ?_) ?_<;>first|(constructor<;>(try simp only[A0A,lw,A0,A6,A4])<;>omega)|rintro _ _ _ ⟨rfl,rfl,rfl⟩ -)|fail)<;>try simp only[go_sem,seval,d2,d3,d4,d18])
   exact⟨_,by rw[hR];exact GL.refl _ _⟩
 rw[if_neg h8]at hR;have d8:=dk 8 (fun h=>h8 (.inl h));have d10:=dk 10 (fun h=>h8 (.inr h));by_cases h9:k=9
 ·subst h9;rw[if_pos rfl]at hR;repeat' ((first|(with_reducible first|refine wr ?_|refine cpc ha0 ?_|refine cpc ha1 ?_|refine cpc hna ?_)|(with_reducible refine wb2 ?_ ?_<;>(intro hb;try simp only[hb]))|(refine AC.call (wd1 rfl (by first|assumption|decide)) ?_<;>rintro _ _ _ ⟨rfl,rfl,rfl⟩ -)|(refine AC.call (jn2 rfl ?_ ?_) ?_<;>first|(constructor<;>(try simp only[A0A,lw,A0,A6,A4])<;>omega)|rintro _ _ _ ⟨rfl,rfl,rfl⟩ -)|(refine AC.call (jn3 rfl ?_ ?_ ?_) ?_<;>first|(constructor<;>(try simp only[A0A,lw,A0,A6,A4])<;>omega)|rintro _ _ _ ⟨rfl,rfl,rfl⟩ -)|(refine AC.call (jn4 rfl ?_ ?_ ?_ ?_) ?_<;>first|(constructor<;>(try simp only[A0A,lw,A0,A6,A4])<;>omega)|rintro _ _ _ ⟨rfl,rfl,rfl⟩ -)|(refine AC.call (jn5 rfl ?_ ?_ ?_ ?_ ?_) ?_<;>first|(constructor<;>(try simp only[A0A,lw,A0,A6,A4])<;>omega)|rintro _ _ _ ⟨rfl,rfl,rfl⟩ -)|fail)<;>try simp only[go_sem,seval,d2,d3,d4,d18,d8,d10])
  exact⟨_,by rw[hR];exact GL.refl _ _⟩
 rw[if_neg h9]at hR;have d9:=dk 9 h9;by_cases h19:k=19
 ·subst h19;rw[if_pos rfl]at hR;repeat' ((first|(with_reducible first|refine wr ?_)|(with_reducible refine wb2 ?_ ?_<;>(intro hb;try simp only[hb]))|(refine AC.call (wd1 rfl (by first|assumption|decide)) ?_<;>rintro _ _ _ ⟨rfl,rfl,rfl⟩ -)|(refine AC.call (jn2 rfl ?_ ?_) ?_<;>first|(constructor<;>(try simp only[A0A,lw,A0,A6,A4])<;>omega)|rintro _ _ _ ⟨rfl,rfl,rfl⟩ -)|(refine AC.call (jn3 rfl ?_ ?_ ?_) ?_<;>first|(constructor<;>(try simp only[A0A,lw,A0,A6,A4])<;>omega)|rintro _ _ _ ⟨rfl,rfl,rfl⟩ -)|(refine AC.call (jn4 rfl ?_ ?_ ?_ ?_) ?_<;>first|(constructor<;>(try simp only[A0A,lw,A0,A6,A4])<;>omega)|rintro _ _ _ ⟨rfl,rfl,rfl⟩ -)|(refine AC.call (jn5 rfl ?_ ?_ ?_ ?_ ?_) ?_<;>first|(constructor<;>(try simp only[A0A,lw,A0,A6,A4])<;>omega)|rintro _ _ _ ⟨rfl,rfl,rfl⟩ -)|fail)<;>try simp only[go_sem,seval,d2,d3,d4,d18,d8,d10,d9])
  exact⟨_,by rw[hR];exact GL.refl _ _⟩
 rw[if_neg h19]at hR;have d19:=dk 19 h19;repeat' ((first|(with_reducible first|refine wr ?_|refine cpc hna ?_)|(with_reducible refine wb2 ?_ ?_<;>(intro hb;try simp only[hb]))|(refine AC.call (wd1 rfl (by first|assumption|decide)) ?_<;>rintro _ _ _ ⟨rfl,rfl,rfl⟩ -)|(refine AC.call (jn2 rfl ?_ ?_) ?_<;>first|(constructor<;>(try simp only[A0A,lw,A0,A6,A4])<;>omega)|rintro _ _ _ ⟨rfl,rfl,rfl⟩ -)|(refine AC.call (jn3 rfl ?_ ?_ ?_) ?_<;>first|(constructor<;>(try simp only[A0A,lw,A0,A6,A4])<;>omega)|rintro _ _ _ ⟨rfl,rfl,rfl⟩ -)|(refine AC.call (jn4 rfl ?_ ?_ ?_ ?_) ?_<;>first|(constructor<;>(try simp only[A0A,lw,A0,A6,A4])<;>omega)|rintro _ _ _ ⟨rfl,rfl,rfl⟩ -)|(refine AC.call (jn5 rfl ?_ ?_ ?_ ?_ ?_) ?_<;>first|(constructor<;>(try simp only[A0A,lw,A0,A6,A4])<;>omega)|rintro _ _ _ ⟨rfl,rfl,rfl⟩ -)|fail)<;>try simp only[go_sem,seval,d2,d3,d4,d18,d8,d10,d9,d19])
 exact⟨_,by rw[hR];exact GL.refl _ _⟩
theorem c_wordsO(x:List UInt8)(hx:x.length<=1000000000)(H:Hp)(cc:Nat):AC Tryz.prog 138 [A3w [x]] H cc (fun v H' c' => ∃ id,cc<=id/\id<c'/\v=.slc id 0 1/\H'=H.upd id ⟨4,true,(A1 x).v.cells⟩):=by
 refine AC.bodyT A2 rfl (A0D rfl) fun hfr=>?_;have h1:=c_IsWordR x;have h2:=c_IsNameR x (by omega);repeat' (apply wr<;>try simp only[go_sem,seval])
 refine A9 (fun q:Option Nat=>[(0,A3w [x]),(3,todoV q 1),(4,I64 (if q=none then 0 else 1))]) (fun q=>optH H q ⟨4,true,(A1 x).v.cells⟩)
  (fun q c=>cc<=c/\(∀ i,q=some i->cc<=i/\i<c)) (fun q=>if q=none then 1 else 0) none
  (by simp[C1,tm,Tm.upd,todoV]) (Sub.refl _) ⟨A0E _,(fun i hi=>by cases hi)⟩ ?_
 rintro o c ⟨hc,ho⟩;cases o with
 |none =>
  have hd:decide ((0:Int)<1)=true:=by decide
  have hw:IntKind.i64.wrap (0+1)=1:=by decide
  have hw':IntKind.i64.wrap 1=1:=by decide
  have hr0:∀ i:Nat,H (c+i)=none:=fun i=>hfr _ (by omega);have ne0:=A0m c (c+1) (by omega);cases hw1:O7 x with
  |true =>
   repeat' ((with_reducible first|apply wr|refine cpc h1 ?_|fail)<;>try simp only[go_sem,seval,hw1,h_same,A5])
   refine F4 (A2x (by decide) (by decide) (by decide)) ?_;simp only[go_sem,seval];repeat' (apply wr<;>try simp only[go_sem,seval,hw'])
   refine⟨some (c+1+1),by simp[todoV],?_,inv ⟨by omega,(fun i hi=>by cases hi;omega)⟩,by simp⟩;intro j b hj;simp only[optH]at hj;by_cases e1:j=c+1+1
   ·subst e1;rw[h_same]at hj ⊢;rw[<- hj];unfold A1;simp only[hw1,if_true]
   ·rw[h_ne e1]at hj ⊢;have:j<cc:=Classical.byContradiction fun h=>by rw[hfr j (by omega)]at hj;cases hj
    rw[hnO,hnO];exact hj
  |false =>
   cases hn1:D6 x with
   |true =>
    repeat' ((with_reducible first|apply wr|refine cpc h1 ?_|refine cpc h2 ?_|fail)<;>try simp only[go_sem,seval,hw1,hn1,h_same,A5])
    refine F4 (A2x (by decide) (by decide) (by decide)) ?_;simp only[go_sem,seval];repeat' (apply wr<;>try simp only[go_sem,seval,hw'])
    refine⟨some (c+1+1),by simp[todoV],?_,inv ⟨by omega,(fun i hi=>by cases hi;omega)⟩,by simp⟩;intro j b hj;simp only[optH]at hj;by_cases e1:j=c+1+1
    ·subst e1;rw[h_same]at hj ⊢;rw[<- hj];unfold A1;simp only[hw1,hn1,if_true,if_false,A1U]
    ·rw[h_ne e1]at hj ⊢;have:j<cc:=Classical.byContradiction fun h=>by rw[hfr j (by omega)]at hj;cases hj
     rw[hnO,hnO];exact hj
   |false =>
    repeat' ((with_reducible first|apply wr|refine cpc h1 ?_|refine cpc h2 ?_|fail)<;>try simp only[go_sem,seval,hw1,hn1,h_same,A5])
    refine F4 (A2x (by decide) (by decide) (by decide)) ?_;simp only[go_sem,seval];repeat' (apply wr<;>try simp only[go_sem,seval,hw'])
    refine⟨some (c+1+1),by simp[todoV],?_,inv ⟨by omega,(fun i hi=>by cases hi;omega)⟩,by simp⟩;intro j b hj;simp only[optH]at hj;by_cases e1:j=c+1+1
    ·subst e1;rw[h_same]at hj ⊢;rw[<- hj];unfold A1;simp only[hw1,hn1,if_false,A1U]
    ·rw[h_ne e1]at hj ⊢;have:j<cc:=Classical.byContradiction fun h=>by rw[hfr j (by omega)]at hj;cases hj
     rw[hnO,hnO];exact hj
 |some i =>
  have hd:decide ((1:Int)<1)=false:=by decide
  repeat' (apply wr<;>try simp only[go_sem,seval])
  exact⟨_,_,GL.refl _ _,i,(ho i rfl).1,(ho i rfl).2,rfl,rfl⟩
theorem E4a{x:List UInt8}{id cc:Nat}{H:Hp}(hb:H id=some ⟨1,true,[.str x]⟩)(hx:x.length<=1000000000):
  AC Tryz.prog 138 [.slc id 0 1] H cc (fun v H' c' => ∃ i,cc<=i/\i<c'/\v=.slc i 0 1/\H'=(delO H (some id)).upd i ⟨4,true,(A1 x).v.cells⟩) :=
 AC.ghost (GL.frzS (id:=id) hb rfl (fun j=>by
  by_cases e:j=id
  ·subst e;exact .inl (by rw[T1,if_pos rfl])
  ·exact .inr ⟨e,by rw[T1,if_neg e]⟩) (.cons _ _ _ _ (P0 (xs:=[.str x]) rfl (Q5 [x]) ⟨[],rfl⟩) .nil)) (c_wordsO x hx _ cc)
theorem A9a:∀ l:List Pb.St,O9 l=(l.map stT).flatten
 |[]=>rfl
 |e :: l=>by rw[O9,A9a l];rfl
theorem c_blockT(l:List Pb.St)(hl:l.length<=10000000)(hs:∀ x∈l,PC Tryz.prog 207 [x.v] (E3 (stT x)))(hx:∀ x∈l,1<=(stT x).length/\(stT x).length<=100000000)(hT:(blT l).length<=100000000):PC Tryz.prog 142 [D3 l] (E3 (blT l)):=by
 refine PC.ofT A2 rfl (A0D rfl) (by simp[DV.nlL,DV.nl,W1]) (N2 _) ?_;obtain⟨R,hR⟩:∃ R,R=E3 (blT l):=⟨_,rfl⟩;rw[<- hR];unfold blT at hR;rw[A9a]at hR;have hT':(l.map stT).flatten.length<=100000000:=by
  unfold blT at hT;rw[A9a]at hT;simp only[A0A,A0N]at hT;omega
 repeat' (apply wr<;>try simp only[go_sem,seval])
 refine AC.call (E4a rfl (by decide)) ?_;rintro v H' c1 ⟨i,hi1,hi2,rfl,rfl⟩ -;simp only[go_sem,seval];repeat' (apply wr<;>try simp only[go_sem,seval])
 obtain⟨F,hF⟩:∃ F:Nat->List Tok, ∀ k,F k=wT [123]++((l.take k).map stT).flatten:=⟨_,fun _=>rfl⟩;have hF0:F 0=wT [123]:=by rw[hF];simp
 refine A9 (fun q:Nat × Nat=>[(0,D3 l),(3,.slc q.2 0 (F q.1).length),(4,I64 q.1)]) (fun q=>Sym.nil.upd q.2 ⟨4,true,cellsL ((F q.1).map Tok.v)⟩)
  (fun q c=>q.1<=l.length/\q.2<c) (fun q=>l.length-q.1) (0,i)
  (by simp[C1,tm,Tm.upd,hF0,lw]) (by dsimp only;rw[hF0];exact Sub.refl _) ⟨A0O _,hi2⟩ ?_
 clear hi1 hi2;rintro⟨k,i⟩ c ⟨hk,hi⟩;dsimp only at hk hi ⊢;by_cases hlt:k<l.length
 ·have hd:=dtz hlt;have hg:=A0B hlt;have hsx:=hs _ (A0L hlt);obtain⟨hx1,hx2⟩:=hx _ (A0L hlt);have hw:=w64 (n:=(k:Int)+1);have e0:F (k+1)=F k++stT l[k]:=by rw[hF,hF,A0S,hg,A0T,A2W];simp
  have hle:((l.take k).map stT).flatten.length<=100000000:=by
   have h1:(l.map stT).flatten=((l.take k).map stT).flatten++((l.drop k).map stT).flatten:=by rw[<- A2W, <- A0T,A1W]
   rw[h1,A0A]at hT';omega
  have hle2:(F k).length<=200000000:=by rw[hF,A0A,lw];omega
  rw[Pb.St.v_w]at hsx;generalize l[k]=x at hg hx1 hx2 e0 hsx;generalize F k=y at hle2 e0 ⊢;have hln:(cellsL (y.map Tok.v)).length=y.length * 4:=(C2 (u:=4) (F0 _)).trans (by simp);have hun:unit 4 ((stT x).map Tok.v)=true:=by unfold unit;rw[A0R];intro d hd;simp[F0 (stT x) d hd]
  repeat' ((with_reducible first|apply wr|refine cpc hsx ?_|fail)<;>try simp only[go_sem,seval,hd,hg,Pb.St.v_w,Q6 hun])
  refine F4 (A1l hln (by omega) (by omega)) ?_;simp only[go_sem,seval];repeat' (apply wr<;>try simp only[go_sem,seval,hw])
  refine⟨(k+1,c),by simp[e0],?_,inv ⟨by omega,by simp only;omega⟩,by simp only;omega⟩;dsimp only;rw[e0,A0T,C4];intro j b hj;by_cases e1:j=c
  ·subst e1;rw[h_same]at hj ⊢;exact hj
  ·rw[h_ne e1]at hj;cases hj
 ·have hd:=dfz hlt;rw[hF,A0M (by omega)];have hun:unit 4 ((wT [125]).map Tok.v)=true:=by unfold unit;rw[A0R];intro d hd;simp[F0 (wT [125]) d hd]
  have hle2:(wT [123]++(l.map stT).flatten).length<=200000000:=by rw[A0A,lw];omega
  have hR':R=E3 ((wT [123]++(l.map stT).flatten)++wT [125]):=hR;generalize wT [123]++(l.map stT).flatten=y at hle2 hR' ⊢;have hln:(cellsL (y.map Tok.v)).length=y.length * 4:=(C2 (u:=4) (F0 _)).trans (by simp);have hnic:¬ i=c:=by omega
  have hlw:=lw [125];repeat' (apply wr<;>try simp only[go_sem,seval,hd])
  refine AC.call (wd1 h_same (by decide)) ?_;rintro v H' c2 ⟨rfl,rfl,rfl⟩ -;simp only[go_sem,seval,hnic,Q6 hun];repeat' (apply wr<;>try simp only[go_sem,seval,hnic,Q6 hun])
  refine F4 (A1l hln (by omega) (by omega)) ?_;simp only[go_sem,seval];repeat' (apply wr<;>try simp only[go_sem,seval])
  rw[hR'];exact O4 (id:=c+1) h_same rfl (by simp) (F0 _) ⟨[],by rw[A0T,C4,A0W]⟩
theorem c_stT:∀ m:Nat,m<=5000000->(∀ x:Pb.St,x.sz<m->PC Tryz.prog 207 [x.v] (E3 (stT x)))/\(∀ l:List Pb.St,Pb.St.szs l<m->PC Tryz.prog 142 [D3 l] (E3 (blT l))):=by
 intro m
 induction m with
 |zero=>exact fun _=>⟨fun x h=>by omega,fun l h=>by omega⟩
 |succ m ih =>
  intro hm;obtain⟨i1,i2⟩:=ih (by omega);have A:∀ x:Pb.St,x.sz<m+1->PC Tryz.prog 207 [x.v] (E3 (stT x)):=fun x hx =>
   c_stmtT m i1 i2 (fun l hl=>by have:=A8t l;omega) (fun y hy=>by have:=A8k y;omega) x (by omega) (by omega)
  refine⟨A,fun l hl=>?_⟩;have h1:=Pb.St.szs_len l;have h2:=A8t l;exact c_blockT l (by omega) (fun x hx=>A x (by have:=Pb.St.szs_mem hx;omega)) (fun x hx=>by have:=A8k x;have:=Pb.St.szs_mem hx;omega) (by omega)
theorem c_blkT(l:List Pb.St)(h:Pb.St.szs l<5000000):PC Tryz.prog 142 [D3 l] (E3 (blT l)):=(c_stT 5000000 (A0E _)).2 l h
theorem D0v{X H1:Hp}{o:Option Nat}{c n0:Nat}{b b3 b3':Blk}(hX:∀ j q,X j=some q->j<c)(ho:∀ i,o=some i->X i=none)(hH:∀ j,j<c->H1 j=optH X o b j)(hn:c<=n0)(hb:b3=b3'):
  Sym.Sub (optH X (some n0) b3) ((delO H1 o).upd n0 b3'):=by
 subst hb;intro j q hj;simp only[optH]at hj;by_cases e:j=n0
 ·subst e;rw[h_same]at hj ⊢;exact hj
 ·rw[h_ne e]at hj ⊢;have h1:=hX j q hj;have h2:∀ i,o=some i->¬ j=i:=fun i hi e2=>by rw[e2,ho i hi]at hj;cases hj
  rw[B0 h2,hH j h1,B7 h2];exact hj
theorem B0h{H:Hp}{i:Nat}(h:H i=none):delO H (some i)=H:=by
 funext j;rw[T1];split
 ·rename_i e;rw[e,h]
 ·rfl
theorem C6r{X:Hp}{o:Option Nat}{xs:List DV}{u n:Nat}(hno:o=none->xs=[])(hl:xs.length=n)(hu:∀ x∈xs,x.cells.length=u):
  ∃ H2,GL (optH X o ⟨u,true,cellsL xs⟩) [todoV o n] H2 [.lst xs]:=by
 cases o with
 |none=>rw[hno rfl];exact C0w
 |some i=>exact O4 (id:=i) h_same rfl hl hu ⟨[],by simp⟩
def wT2(x y:List UInt8):List Tok:=[A1 x,A1 y]
theorem E3z{x y:List UInt8}{id cc:Nat}{H:Hp}(hb:H id=some ⟨1,true,[.str x,.str y]⟩)(hx:x.length<=1000000000)(hy:y.length<=1000000000):
  AC Tryz.prog 138 [.slc id 0 2] H cc (fun v H' c'=>v=E3 (wT2 x y)/\H'=delO H (some id)/\c'=cc):=wd2 hb hx hy
theorem B4c{X:Hp}{i j:Nat}(h:¬ j=i):(X.del i) j=X j:=by rw[show X.del i=delO X (some i) from rfl,T1,if_neg h]
theorem A5b(l:List Tok):unit 4 (l.map Tok.v)=true:=by unfold unit;rw[A0R];intro d hd;simp[F0 l d hd]
theorem Q4(l:List Tok):(cellsL (l.map Tok.v)).length=l.length * 4:=(C2 (u:=4) (F0 _)).trans (by simp)
theorem c_declT(d:Dc)(hn:d.name.length<=1000000000):PC Tryz.prog 136 [d.v] (E3 (dcT d)):=by
 refine PC.ofT A2 rfl (A0D rfl) rfl (N2 _) ?_;obtain⟨R,hR⟩:∃ R,R=E3 (dcT d):=⟨_,rfl⟩;rw[<- hR];obtain⟨k,n,v,p⟩:=d;unfold dcT at hR;dsimp only at hR hn ⊢;have hna:=c_named n hn;have hnu:=c_number31 v;have hnn:=c_number31 (-v);by_cases hbk:k<1\/8<k
 ·rw[if_pos hbk]at hR;by_cases h2:k<1
  ·have d2:decide (k<1)=true:=by simpa using h2
   repeat' (apply wr<;>try simp only[go_sem,seval,d2])
   rw[hR];exact O4 (id:=1) h_same rfl rfl (F0 [W9]) ⟨[],rfl⟩
  ·have d2:decide (k<1)=false:=by simp;omega
   have d3:decide (k>8)=true:=by simp;omega
   repeat' (apply wr<;>try simp only[go_sem,seval,d2,d3])
   rw[hR];exact O4 (id:=1) h_same rfl rfl (F0 [W9]) ⟨[],rfl⟩
 rw[if_neg hbk]at hR;have e2:decide (k<1)=false:=by simp;omega
 have e3:decide (k>8)=false:=by simp;omega
 try dsimp only at hR
 obtain⟨j,hj⟩:∃ j:Nat,k=1+(j:Int):=⟨(k-1).toNat,by omega⟩;have hjw:IntKind.i64.wrap (k-1)=(j:Int):=by rw[w6z (by omega)];omega
 have hjn:(k-1).toNat=j:=by omega
 rw[hjn]at hR;have hj8:j<8:=by omega
 have hgj:E5[j]? = some (E5.getD j []):=by
  rw[A1M,A0B (show j<E5.length from hj8)];rfl
 have hsl:(E5.getD j []).length<=1000000000:=by
  have:∀ i:Nat,i<8->(E5.getD i []).length<=1000000000:=by decide
  exact this j hj8
 generalize E5.getD j []=S at hR hgj hsl;by_cases h6:6<k
 ·have d6:decide (k>6)=true:=by simpa using h6
  rw[if_pos h6]at hR;repeat' ((first|(with_reducible first|refine wr ?_|refine cpc c_decls31 ?_|refine cpc hna ?_)|(with_reducible refine wb2 ?_ ?_<;>(intro hb;try simp only[hb]))|(refine AC.call (wd1 rfl (by first|assumption|decide)) ?_<;>rintro _ _ _ ⟨rfl,rfl,rfl⟩ -)|(refine AC.call (jn2 rfl ?_ ?_) ?_<;>first|(constructor<;>(try simp only[A0A,lw,A0,A6,A4])<;>omega)|rintro _ _ _ ⟨rfl,rfl,rfl⟩ -)|(refine AC.call (jn3 rfl ?_ ?_ ?_) ?_<;>first|(constructor<;>(try simp only[A0A,lw,A0,A6,A4])<;>omega)|rintro _ _ _ ⟨rfl,rfl,rfl⟩ -)|fail)<;>try simp only[go_sem,seval,e2,e3,hjw,hgj,d6])
  exact⟨_,by rw[hR];exact GL.refl _ _⟩
 rw[if_neg h6]at hR;have d6:decide (k>6)=false:=by simp;omega
 by_cases hm:v<0 /\ -2147483647<=v/\k=6
 ·obtain⟨m1,m2,hk6⟩:=hm;have x3:(k == 6)=true:=by simpa using hk6
  have x1:decide (v<0)=true:=by simpa using m1
  have x2:decide (v ≥ -2147483647)=true:=by simpa using m2
  have hng:IntKind.i64.wrap (0-v) = -v:=by rw[w6z (by omega)];omega
  rw[if_pos ⟨m1,m2,hk6⟩]at hR;repeat' ((first|(with_reducible first|refine wr ?_|refine cpc c_decls31 ?_|refine cpc hna ?_|refine cpc hnn ?_)|(with_reducible refine wb2 ?_ ?_<;>(intro hb;try simp only[hb]))|(refine AC.call (wd1 rfl (by first|assumption|decide)) ?_<;>rintro _ _ _ ⟨rfl,rfl,rfl⟩ -)|(refine AC.call (jn2 rfl ?_ ?_) ?_<;>first|(constructor<;>(try simp only[A0A,lw,A0,A6,A4])<;>omega)|rintro _ _ _ ⟨rfl,rfl,rfl⟩ -)|(refine AC.call (jn3 rfl ?_ ?_ ?_) ?_<;>first|(constructor<;>(try simp only[A0A,lw,A0,A6,A4])<;>omega)|rintro _ _ _ ⟨rfl,rfl,rfl⟩ -)|fail)<;>try simp only[go_sem,seval,e2,e3,hjw,hgj,d6,x1,x2,x3,hng])
  exact⟨_,by rw[hR];exact GL.refl _ _⟩
 rw[if_neg hm]at hR;by_cases m1:v<0
 ·have x1:decide (v<0)=true:=by simpa using m1
  by_cases m2 : -2147483647<=v
  ·have x2:decide (v ≥ -2147483647)=true:=by simpa using m2
   have x3:(k == 6)=false:=by simp;omega
   repeat' ((first|(with_reducible first|refine wr ?_|refine cpc c_decls31 ?_|refine cpc hna ?_|refine cpc hnu ?_)|(with_reducible refine wb2 ?_ ?_<;>(intro hb;try simp only[hb]))|(refine AC.call (wd1 rfl (by first|assumption|decide)) ?_<;>rintro _ _ _ ⟨rfl,rfl,rfl⟩ -)|(refine AC.call (jn2 rfl ?_ ?_) ?_<;>first|(constructor<;>(try simp only[A0A,lw,A0,A6,A4])<;>omega)|rintro _ _ _ ⟨rfl,rfl,rfl⟩ -)|(refine AC.call (jn3 rfl ?_ ?_ ?_) ?_<;>first|(constructor<;>(try simp only[A0A,lw,A0,A6,A4])<;>omega)|rintro _ _ _ ⟨rfl,rfl,rfl⟩ -)|fail)<;>try simp only[go_sem,seval,e2,e3,hjw,hgj,d6,x1,x2,x3])
   exact⟨_,by rw[hR];exact GL.refl _ _⟩
  ·have x2:decide (v ≥ -2147483647)=false:=by simp;omega
   repeat' ((first|(with_reducible first|refine wr ?_|refine cpc c_decls31 ?_|refine cpc hna ?_|refine cpc hnu ?_)|(with_reducible refine wb2 ?_ ?_<;>(intro hb;try simp only[hb]))|(refine AC.call (wd1 rfl (by first|assumption|decide)) ?_<;>rintro _ _ _ ⟨rfl,rfl,rfl⟩ -)|(refine AC.call (jn2 rfl ?_ ?_) ?_<;>first|(constructor<;>(try simp only[A0A,lw,A0,A6,A4])<;>omega)|rintro _ _ _ ⟨rfl,rfl,rfl⟩ -)|(refine AC.call (jn3 rfl ?_ ?_ ?_) ?_<;>first|(constructor<;>(try simp only[A0A,lw,A0,A6,A4])<;>omega)|rintro _ _ _ ⟨rfl,rfl,rfl⟩ -)|fail)<;>try simp only[go_sem,seval,e2,e3,hjw,hgj,d6,x1,x2])
   exact⟨_,by rw[hR];exact GL.refl _ _⟩
 ·have x1:decide (v<0)=false:=by simp;omega
  repeat' ((first|(with_reducible first|refine wr ?_|refine cpc c_decls31 ?_|refine cpc hna ?_|refine cpc hnu ?_)|(with_reducible refine wb2 ?_ ?_<;>(intro hb;try simp only[hb]))|(refine AC.call (wd1 rfl (by first|assumption|decide)) ?_<;>rintro _ _ _ ⟨rfl,rfl,rfl⟩ -)|(refine AC.call (jn2 rfl ?_ ?_) ?_<;>first|(constructor<;>(try simp only[A0A,lw,A0,A6,A4])<;>omega)|rintro _ _ _ ⟨rfl,rfl,rfl⟩ -)|(refine AC.call (jn3 rfl ?_ ?_ ?_) ?_<;>first|(constructor<;>(try simp only[A0A,lw,A0,A6,A4])<;>omega)|rintro _ _ _ ⟨rfl,rfl,rfl⟩ -)|fail)<;>try simp only[go_sem,seval,e2,e3,hjw,hgj,d6,x1])
  exact⟨_,by rw[hR];exact GL.refl _ _⟩
theorem c_rulesT(r:Ru)(hB:r.sz<4000000)(hT:(r.decls.flatMap dcT++r.modes.flatMap mdT).length<=100000000):PC Tryz.prog 70 [r.v] (E3 (ruT r)):=by
 refine PC.ofT A2 rfl (A0D rfl) (by simp[DV.nlL,DV.nl,K4,K3]) (N2 _) ?_;obtain⟨R,hR⟩:∃ R,R=E3 (ruT r):=⟨_,rfl⟩;rw[<- hR];obtain⟨D,M⟩:=r;dsimp only at hT;unfold ruT at hR;dsimp only[Ru.v]at hR ⊢;have hDs:(D.map Dc.sz).sum+(M.map Md.sz).sum<4000000:=hB;have hDl:D.length<=(D.map Dc.sz).sum:=I2 fun x _=>by show 1<=1+_;omega
 have hMl:M.length<=(M.map Md.sz).sum:=I2 fun x _=>by show 1<=1+_+_;omega
 repeat' (apply wr<;>try simp only[go_sem,seval])
 obtain⟨F,hF⟩:∃ F:Nat->List Tok, ∀ k,F k=(D.take k).flatMap dcT:=⟨_,fun _=>rfl⟩;have hF0:F 0=[]:=by rw[hF];rfl
 have hFl:∀ k,(F k).length<=100000000:=fun k=>by
  have h1:D.flatMap dcT=F k++(D.drop k).flatMap dcT:=by rw[hF, <- A2P,A1W]
  rw[h1]at hT;simp only[A0A]at hT;omega
 refine A9 (fun q:Nat × Option Nat=>[(1,.ptr 0 0),(3,todoV q.2 (F q.1).length),(4,I64 q.1)]) (fun q=>optH (Sym.nil.upd 0 ⟨0,true,[C3 D,C7 M]⟩) q.2 ⟨4,true,cellsL ((F q.1).map Tok.v)⟩)
  (fun q c=>1<=c/\q.1<=D.length/\(q.2=none->F q.1=[])/\(∀ i,q.2=some i->1<=i/\i<c)) (fun q=>D.length-q.1) (0,none)
  (by simp[C1,tm,Tm.upd,todoV]) (Sub.refl _) ⟨by omega,A0O _,fun _=>hF0,(fun i hi=>by cases hi)⟩ ?_
 rintro⟨k,o⟩ c ⟨hc,hk,hno,ho⟩;dsimp only at hc hk hno ho ⊢;have hbx:optH (Sym.nil.upd 0 ⟨0,true,[C3 D,C7 M]⟩) o ⟨4,true,cellsL ((F k).map Tok.v)⟩ 0=some ⟨0,true,[C3 D,C7 M]⟩:=by rw[B7 (fun i hi=>by have:=ho i hi;omega),h_same]
 by_cases hlt:k<D.length
 ·have hd:=dtz hlt;have hg:=A0B hlt;have hsz:=J5 (f:=Dc.sz) (A0L hlt);have hdt:=c_declT D[k] (by have h5:D[k].name.length<Dc.sz D[k]:=(by unfold Dc.sz;omega);omega);have hdl:=C2g D[k];have hw:=w64 (n:=(k:Int)+1);have e0:F (k+1)=F k++dcT D[k]:=by rw[hF,hF,A0S,hg,A2P];simp
  have hFk:=hFl k;generalize D[k]=x at hg hdt hdl e0;have hun:unit 4 ((dcT x).map Tok.v)=true:=by unfold unit;rw[A0R];intro d hd;simp[F0 (dcT x) d hd]
  have hln:(cellsL ((F k).map Tok.v)).length=(F k).length * 4:=(C2 (u:=4) (F0 _)).trans (by simp);repeat' ((with_reducible first|apply wr|refine cpc hdt ?_|fail)<;>try simp only[go_sem,seval,hd,hg,hbx,Q6 hun])
  refine F4 (D5 (cs:=cellsL ((F k).map Tok.v)) (fun e=>by rw[hno e];exact⟨rfl,rfl⟩) (fun i hi=>A4m hi) hln (by omega) (by omega) (by omega)) ?_;simp only[go_sem,seval];repeat' (apply wr<;>try simp only[go_sem,seval,hw])
  refine⟨(k+1,some c),by simp[todoV,e0],?_,inv ⟨by omega,by omega,(fun h=>by cases h),(fun i hi=>by cases hi;omega)⟩,by simp only;omega⟩;dsimp only;refine D0v (n0:=c) (c:=c) (fun j q hq=>?_) (fun i hi=>?_) (fun j hj=>rfl) (A0E _) (by rw[e0,A0T,C4])
  ·by_cases e:j=0
   ·omega
   ·rw[h_ne e]at hq;cases hq
  ·have:=ho i hi;rw[hnO];rfl
 ·have hd:=dfz hlt;repeat' (apply wr<;>try simp only[go_sem,seval,hd,hbx])
  have hFD:F k=D.flatMap dcT:=by rw[hF,A0M (by omega)]
  have hc0:=hc;obtain⟨G,hG⟩:∃ G:Nat->List Tok, ∀ k,G k=D.flatMap dcT++(M.take k).flatMap mdT:=⟨_,fun _=>rfl⟩;have hG0:G 0=F k:=by rw[hG,hFD];simp
  have hGl:∀ k,(G k).length<=100000000:=fun k=>by
   have h1:M.flatMap mdT=(M.take k).flatMap mdT++(M.drop k).flatMap mdT:=by rw[<- A2P,A1W]
   rw[h1]at hT;rw[hG];simp only[A0A]at hT ⊢;omega
  refine A9 (fun q:Nat × Option Nat=>[(1,.ptr 0 0),(3,todoV q.2 (G q.1).length),(5,I64 q.1)]) (fun q=>optH (Sym.nil.upd 0 ⟨0,true,[C3 D,C7 M]⟩) q.2 ⟨4,true,cellsL ((G q.1).map Tok.v)⟩)
   (fun q c=>1<=c/\q.1<=M.length/\(q.2=none->G q.1=[])/\(∀ i,q.2=some i->1<=i/\i<c)/\((M.take q.1).any fun m=>m.hds.any U4)=false) (fun q=>M.length-q.1) (0,o)
   (by simp[C1,tm,Tm.upd,hG0]) (by dsimp only;rw[hG0];exact Sub.refl _) ⟨hc,A0O _,(by dsimp only;rw[hG0];exact hno),ho,rfl⟩ ?_
  clear hbx hno ho hG0 hFD hFl hF0 hF hc hc0 hlt hd hk;rintro⟨k,o⟩ c ⟨hc,hk,hno,ho,hbad⟩;dsimp only at hc hk hno ho hbad ⊢;have hbx:optH (Sym.nil.upd 0 ⟨0,true,[C3 D,C7 M]⟩) o ⟨4,true,cellsL ((G k).map Tok.v)⟩ 0=some ⟨0,true,[C3 D,C7 M]⟩:=by rw[B7 (fun i hi=>by have:=ho i hi;omega),h_same]
  by_cases hlt:k<M.length
  ·have hd:=dtz hlt;have hg:=A0B hlt;have hsz:=J5 (f:=Md.sz) (A0L hlt);have hw:=w64 (n:=(k:Int)+1);have e0:G (k+1)=G k++mdT M[k]:=by rw[hG,hG,A0S,hg,A2P];simp
   have b0:((M.take (k+1)).any fun m=>m.hds.any U4)=(M[k].hds.any U4):=by rw[A0S,hg,List.any_append,hbad];simp
   have b1:(M[k].hds.any U4)=true->R=E3 [W9]:=fun h=>by rw[hR,if_pos (List.any_eq_true.2 ⟨_,A0L hlt,h⟩)]
   have hGk:=hGl k;have hGk1:=hGl (k+1);generalize M[k]=m at hg hsz e0 b0 b1;have hln:(cellsL ((G k).map Tok.v)).length=(G k).length * 4:=(C2 (u:=4) (F0 _)).trans (by simp);have hnl:m.name.length<=1000000000:=by
    have h5:m.name.length<Md.sz m:=by unfold Md.sz;omega
    omega
   have hna:=c_named m.name hnl;have hnu:=c_number31 m.prio;have hbo:∀ i:Nat,o=some i->optH (Sym.nil.upd 0 ⟨0,true,[C3 D,C7 M]⟩) o ⟨4,true,cellsL ((G k).map Tok.v)⟩ i=some ⟨4,true,cellsL ((G k).map Tok.v)⟩:=fun i hi=>by subst hi;exact h_same
   have hbn:∀ j:Nat,c<=j->optH (Sym.nil.upd 0 ⟨0,true,[C3 D,C7 M]⟩) o ⟨4,true,cellsL ((G k).map Tok.v)⟩ j=none:=fun j hj=>by rw[B7 (fun i hi=>by have:=ho i hi;omega),hnO];rfl
   generalize hHH:optH (Sym.nil.upd 0 ⟨0,true,[C3 D,C7 M]⟩) o ⟨4,true,cellsL ((G k).map Tok.v)⟩=HH at hbx hbo hbn ⊢;have ne0:=A2a 0 c (c+1+1) (c+1+9) (c+1+11) (by omega);have hd1:delO HH (some (c+1+1))=HH:=B0h (hbn _ (by omega));have hd2:delO HH (some (c+1+9))=HH:=B0h (hbn _ (by omega));have hd3:delO HH (some (c+1+11))=HH:=B0h (hbn _ (by omega));repeat' (apply wr<;>try simp only[go_sem,seval,hd,hg,hbx,ne0,h_same,A5])
   refine AC.call (wd1 (x:=[109,111,100,101]) (by simp[X9,Hp.upd]) (by decide)) ?_;rintro v H' c2 ⟨rfl,rfl,rfl⟩ -;simp only[go_sem,seval,ne0,h_same,hd1];repeat' (apply wr<;>try simp only[go_sem,seval,ne0,h_same,A5,hd1,hd2,hd3])
   refine⟨by and_intros<;>(repeat rw[hnO])<;>exact hbn _ (by omega),?_⟩;repeat' ((with_reducible first|apply wr|refine cpc hna ?_|fail)<;>try simp only[go_sem,seval,ne0,h_same])
   refine⟨by and_intros<;>(repeat rw[hnO])<;>exact hbn _ (by omega),?_⟩;repeat' ((with_reducible first|apply wr|refine cpc hnu ?_|fail)<;>try simp only[go_sem,seval,h_same])
   refine⟨by and_intros<;>(repeat rw[hnO])<;>exact hbn _ (by omega),?_⟩;repeat' (apply wr<;>try simp only[go_sem,seval,ne0,h_same,A5,hd1,hd2,hd3])
   refine AC.call (wd1 (x:=[123]) (by simp[Hp.upd]) (by decide)) ?_;rintro v H' c2 ⟨rfl,rfl,rfl⟩ -;simp only[go_sem,seval,ne0,hd2];refine⟨by and_intros<;>(repeat rw[hnO])<;>exact hbn _ (by omega),?_⟩;repeat' (apply wr<;>try simp only[go_sem,seval,ne0,h_same,A5,hd1,hd2,hd3])
   refine AC.call (jn4 h_same (by constructor<;>(try simp only[A0A,lw,A0,A6,A4])<;>omega) (by constructor<;>(try simp only[A0A,lw,A0,A6,A4])<;>omega) (by constructor<;>(try simp only[A0A,lw,A0,A6,A4])<;>omega) (by constructor<;>(try simp only[A0A,lw,A0,A6,A4])<;>omega)) ?_;rintro v H' c2 ⟨rfl,rfl,rfl⟩ -;have hun4:unit 4 ((wT [109,111,100,101]++D4 m.name++U0 m.prio++wT [123]).map Tok.v)=true:=by unfold unit;rw[A0R];intro d hd;simp[F0 _ d hd]
   have hl4:(wT [109,111,100,101]++D4 m.name++U0 m.prio++wT [123]).length=4:=by simp only[A0A,lw,A0,A6]
   have hsrc:A3x (HH.upd c ⟨0,true,[.str m.name,I64 m.prio,K8 m.hds,I64 m.pos]⟩) 4 (E3 (wT [109,111,100,101]++D4 m.name++U0 m.prio++wT [123]))=some (4,cellsL ((wT [109,111,100,101]++D4 m.name++U0 m.prio++wT [123]).map Tok.v)):=by
    rw[Q6 hun4,A0C,hl4]
   obtain⟨Q,hQ⟩:∃ Q,Q=wT [109,111,100,101]++D4 m.name++U0 m.prio++wT [123]:=⟨_,rfl⟩;rw[<- hQ]at hsrc ⊢;simp only[go_sem,seval,ne0,hd3,hsrc];repeat' (apply wr<;>try simp only[go_sem,seval,ne0,h_same,A5,hd1,hd2,hd3,hsrc])
   refine⟨by rw[hnO];exact hbn _ (by omega),?_⟩;rw[D5 (cs:=cellsL ((G k).map Tok.v)) (fun e=>by rw[hno e];exact⟨rfl,rfl⟩) (fun i hi=>by have:=ho i hi;rw[hnO];exact hbo i hi) hln (by omega) (by omega) (by omega)];simp only[go_sem,seval];repeat' (apply wr<;>try simp only[go_sem,seval])
   have hQl:Q.length=4:=by rw[hQ];exact hl4
   obtain⟨K,hK⟩:∃ K:Nat->List Tok, ∀ j,K j=G k++Q++(m.hds.take j).flatMap hdT:=⟨_,fun _=>rfl⟩;have hK0:K 0=G k++Q:=by rw[hK];simp
   have hKl:∀ j,(K j).length<=100000000:=fun j=>by
    have h1:m.hds.flatMap hdT=(m.hds.take j).flatMap hdT++(m.hds.drop j).flatMap hdT:=by rw[<- A2P,A1W]
    have h2:mdT m=Q++m.hds.flatMap hdT++wT [125]:=by rw[hQ];rfl
    rw[e0,h2,h1]at hGk1;rw[hK];simp only[A0A]at hGk1 ⊢;omega
   have hKe:K m.hds.length++wT [125]=G (k+1):=by
    have h2:mdT m=Q++m.hds.flatMap hdT++wT [125]:=by rw[hQ];rfl
    rw[hK,e0,h2,A1P];simp only[A0P]
   have hhl:m.hds.length<=4000000:=by
    have h5:m.hds.length<=(m.hds.map Hd.sz).sum:=I2 fun x _=>by show 1<=1+_+_;omega
    have h6:(m.hds.map Hd.sz).sum<Md.sz m:=by unfold Md.sz;omega
    omega
   refine A9 (fun q:Nat × Nat=>[(1,.ptr 0 0),(3,.slc q.2 0 (K q.1).length),(5,I64 k),(6,.ptr c 0),(7,I64 q.1)]) (fun q=>((Sym.nil.upd 0 ⟨0,true,[C3 D,C7 M]⟩).upd c ⟨0,true,[.str m.name,I64 m.prio,K8 m.hds,I64 m.pos]⟩).upd q.2 ⟨4,true,cellsL ((K q.1).map Tok.v)⟩)
    (fun q n=>c<q.2/\q.2<n/\q.1<=m.hds.length/\((m.hds.take q.1).any U4)=false) (fun q=>m.hds.length-q.1) (0,c+1+15)
    (by simp[C1,tm,Tm.upd,hK0,hQl]) ?_ ⟨by simp only;omega,by simp only;omega,A0O _,rfl⟩ ?_
   ·dsimp only;rw[hK0,A0T,C4];intro j b hj;by_cases e1:j=c+1+15
    ·subst e1;rw[h_same]at hj ⊢;exact hj
    rw[h_ne e1]at hj ⊢;rw[B0 (fun i hi=>by
     have h1:=ho i hi;intro e;subst e;rw[hnO,hnO]at hj;cases hj)]
    by_cases e2:j=c
    ·subst e2;rw[h_same]at hj ⊢;exact hj
    rw[h_ne e2]at hj ⊢;by_cases e3:j=0
    ·subst e3;rw[h_same]at hj;rw[hbx];exact hj
    ·rw[h_ne e3]at hj;cases hj
   clear hbo hbn hd1 hd2 hd3 hsrc hl4 hun4 hHH hbx hno ho;rintro⟨j,i⟩ n ⟨hi1,hi2,hj,hbj⟩;dsimp only at hi1 hi2 hj hbj ⊢;by_cases hjl:j<m.hds.length
   ·have hdj:decide ((j:Int)<(m.hds.length:Int))=true:=by simpa using hjl
    have hgj:=A0B hjl;have hwj:=w64 (n:=(j:Int)+1);have k0:K (j+1)=K j++hdT m.hds[j]:=by rw[hK,hK,A0S,hgj,A2P];simp
    have c0:((m.hds.take (j+1)).any U4)=U4 m.hds[j]:=by rw[A0S,hgj,List.any_append,hbj];simp
    have c1:U4 m.hds[j]=true->R=E3 [W9]:=fun h=>b1 (List.any_eq_true.2 ⟨_,A0L hjl,h⟩);have hszj:=J5 (f:=Hd.sz) (A0L hjl);have h6:(m.hds.map Hd.sz).sum<Md.sz m:=by unfold Md.sz;omega
    have hKj:=hKl j;have hKj1:=hKl (j+1);generalize m.hds[j]=h at hgj k0 c0 c1 hszj;have ne0:=W3 0 c i n (by omega);have hb9:U4 h=true->∃ H2,GL (((((Sym.nil.upd 0 ⟨0,true,[C3 D,C7 M]⟩).upd c ⟨0,true,[.str m.name,I64 m.prio,K8 m.hds,I64 m.pos]⟩).upd i ⟨4,true,cellsL ((K j).map Tok.v)⟩).upd n ⟨0,true,[I64 h.trig,.str h.name,D3 h.body,I64 h.pos]⟩).upd (n+1) ⟨4,true,[I64 0,.str [],I64 0,I64 0]⟩) [.slc (n+1) 0 1] H2 [R]:=fun hb=>by
     rw[c1 hb];exact O4 h_same rfl rfl (F0 [W9]) ⟨[],rfl⟩
    by_cases t1:h.trig<1
    ·have x1:decide (h.trig<1)=true:=by simpa using t1
     repeat' (apply wr<;>try simp only[go_sem,seval,hdj,hgj,x1,ne0,h_same,A5])
     exact hb9 (by unfold U4;rw[x1];rfl)
    have x1:decide (h.trig<1)=false:=by simpa using t1
    by_cases t2:6<h.trig
    ·have x2:decide (h.trig>6)=true:=by simpa using t2
     have x2':decide (6<h.trig)=true:=by simpa using t2
     repeat' (apply wr<;>try simp only[go_sem,seval,hdj,hgj,x1,x2,ne0,h_same,A5])
     exact hb9 (by unfold U4;rw[x2',Bool.or_true])
    have x2:decide (h.trig>6)=false:=by simpa using t2
    have x2':decide (6<h.trig)=false:=by simpa using t2
    have c2:U4 h=false:=by unfold U4;rw[x1,x2'];rfl
    clear hb9 c1;obtain⟨y,hy⟩:∃ y:Nat,h.trig=1+(y:Int):=⟨(h.trig-1).toNat,by omega⟩;have hyw:IntKind.i64.wrap (h.trig-1)=(y:Int):=by rw[w6z (by omega)];omega
    have hyn:(h.trig-1).toNat=y:=by omega
    have hy6:y<6:=by omega
    have hgy:E9[y]? = some (E9.getD y []):=by
     rw[A1M,A0B (show y<E9.length from hy6)];rfl
    have hsl:(E9.getD y []).length<=1000000000:=by
     have:∀ i:Nat,i<6->(E9.getD i []).length<=1000000000:=by decide
     exact this y hy6
    have hTT:hdT h=wT2 [111,110] (E9.getD y [])++(if 2<h.trig then D4 h.name else [])++blT h.body:=by unfold hdT;rw[hyn];rfl
    generalize E9.getD y []=S at hgy hsl hTT;have hnh:=c_named h.name (by have h5:h.name.length<Hd.sz h:=(by unfold Hd.sz;omega);omega);have hbb:=c_blkT h.body (by have h5:Pb.St.szs h.body<Hd.sz h:=(by unfold Hd.sz;omega);omega);obtain⟨bl1, -⟩:=A8t h.body;rw[k0,hTT]at hKj1;simp only[A0A]at hKj1;have hbn:∀ j':Nat,n<=j'->(((Sym.nil.upd 0 ⟨0,true,[C3 D,C7 M]⟩).upd c ⟨0,true,[.str m.name,I64 m.prio,K8 m.hds,I64 m.pos]⟩).upd i ⟨4,true,cellsL ((K j).map Tok.v)⟩) j'=none:=fun j' h'=>by rw[hnO,hnO,hnO];rfl
    have ne0:=A2a 0 c i n (n+1+7) (by omega);repeat' ((with_reducible first|apply wr|refine cpc c_trigs31 ?_|fail)<;>try simp only[go_sem,seval,hdj,hgj,x1,x2,hyw,hgy,ne0,h_same,A5])
    refine⟨by and_intros<;>(repeat rw[hnO])<;>rfl,?_⟩;refine AC.call (E3z h_same (by decide) hsl) ?_;rintro v H' c3 ⟨rfl,rfl,rfl⟩ -;have hw2:(wT2 [111,110] S).length=2:=rfl;have hun:=A5b (wT2 [111,110] S);have hunB:=A5b (blT h.body);have hunN:=A5b (D4 h.name);have hnl1:=A0 h.name;have hlnK:=Q4 (K j);simp only[go_sem,seval,ne0,h_same,Q6 hun];repeat' (apply wr<;>try simp only[go_sem,seval,ne0,h_same,A5,Q6 hun])
    refine⟨by and_intros<;>(repeat rw[hnO])<;>rfl,?_⟩;rw[A1l hlnK (by omega) (by omega)];have ne0:=A2a 0 c i n (n+1+11) (by omega);simp only[go_sem,seval];by_cases t3:2<h.trig
    ·have x3:decide (h.trig>2)=true:=by simpa using t3
     rw[if_pos t3]at hTT hKj1;try simp only[A0A]at hKj1
     repeat' ((with_reducible first|apply wr|refine cpc hnh ?_|fail)<;>try simp only[go_sem,seval,ne0,h_same,x3,Q6 hunN])
     refine F4 (A1l (by rw[A0A,Q4,Q4];omega) (by omega) (by omega)) ?_;have ne0:=A5k 0 c i n (n+1+11) (n+1+11+1) (by omega);simp only[go_sem,seval];repeat' ((with_reducible first|apply wr|refine cpc hbb ?_|fail)<;>try simp only[go_sem,seval,ne0,h_same,Q6 hunB])
     refine F4 (A1l (by rw[A0A,A0A,Q4,Q4,Q4];omega) (by omega) (by omega)) ?_;simp only[go_sem,seval];repeat' (apply wr<;>try simp only[go_sem,seval,hwj])
     refine⟨(j+1,n+1+11+1+1),by simp[k0,hTT,A2S],?_,inv ⟨by simp only;omega,by simp only;omega,by simp only;omega,by rw[c0];exact c2⟩,by simp only;omega⟩;dsimp only;intro j' b' hj';by_cases e1:j'=n+1+11+1+1
     ·subst e1;rw[h_same]at hj' ⊢;rw[<- hj',k0,hTT];simp only[A0T,C4,A0P];try rfl
     rw[h_ne e1]at hj' ⊢;by_cases e2:j'=c
     ·subst e2;rw[h_same]at hj'
      repeat (first|rw[h_same]|rw[hnO]|rw[B4c (by omega)])
      exact hj'
     rw[h_ne e2]at hj';by_cases e3:j'=0
     ·subst e3;rw[h_same]at hj'
      repeat (first|rw[h_same]|rw[hnO]|rw[B4c (by omega)])
      exact hj'
     ·rw[h_ne e3]at hj';cases hj'
    ·have x3:decide (h.trig>2)=false:=by simpa using t3
     rw[if_neg t3]at hTT hKj1;try simp only[A1H]at hKj1
     repeat' ((with_reducible first|apply wr|refine cpc hbb ?_|fail)<;>try simp only[go_sem,seval,ne0,h_same,x3,Q6 hunB])
     refine F4 (A1l (by rw[A0A,Q4,Q4];omega) (by omega) (by omega)) ?_;have ne0:=A5k 0 c i n (n+1+11) (n+1+11+1) (by omega);simp only[go_sem,seval];repeat' (apply wr<;>try simp only[go_sem,seval,hwj])
     refine⟨(j+1,n+1+11+1),by simp[k0,hTT,A2S],?_,inv ⟨by simp only;omega,by simp only;omega,by simp only;omega,by rw[c0];exact c2⟩,by simp only;omega⟩;dsimp only;intro j' b' hj';by_cases e1:j'=n+1+11+1
     ·subst e1;rw[h_same]at hj' ⊢;rw[<- hj',k0,hTT];simp only[A0T,C4,A0P,List.nil_append];try rfl
     rw[h_ne e1]at hj' ⊢;by_cases e2:j'=c
     ·subst e2;rw[h_same]at hj'
      repeat (first|rw[h_same]|rw[hnO]|rw[B4c (by omega)])
      exact hj'
     rw[h_ne e2]at hj';by_cases e3:j'=0
     ·subst e3;rw[h_same]at hj'
      repeat (first|rw[h_same]|rw[hnO]|rw[B4c (by omega)])
      exact hj'
     ·rw[h_ne e3]at hj';cases hj'
   ·have hdj:decide ((j:Int)<(m.hds.length:Int))=false:=by simpa using hjl
    have ne0:=W3 0 c i n (by omega);have hjE:j=m.hds.length:=by omega
    subst hjE;rw[A1P]at hbj;have hlw:=lw [125];have hun:=A5b (wT [125]);have hln2:=Q4 (K m.hds.length);have hKm:=hKl m.hds.length;repeat' (apply wr<;>try simp only[go_sem,seval,hdj,ne0,h_same])
    refine AC.call (wd1 h_same (by decide)) ?_;rintro v H' c3 ⟨rfl,rfl,rfl⟩ -;simp only[go_sem,seval,ne0,h_same,Q6 hun];repeat' (apply wr<;>try simp only[go_sem,seval,ne0,h_same,A5,Q6 hun])
    refine F4 (A1l hln2 (by omega) (by omega)) ?_;simp only[go_sem,seval];repeat' (apply wr<;>try simp only[go_sem,seval,hw])
    refine⟨(k+1,some (n+1)),by simp[todoV, <- hKe,hlw],?_,inv ⟨by omega,by simp only;omega,(fun h=>by cases h),(fun i hi=>by cases hi;omega),by rw[b0];exact hbj⟩,by simp only;omega⟩;dsimp only[optH];rw[<- hKe,A0T,C4];intro j b hj;by_cases e1:j=n+1
    ·subst e1;rw[h_same]at hj ⊢;exact hj
    rw[h_ne e1]at hj ⊢;by_cases e2:j=0
    ·subst e2;rw[h_same]at hj;rw[show ∀ X:Hp,X.del i=delO X (some i) from fun _=>rfl,T1,if_neg (by omega),hnO,hnO,h_same];exact hj
    ·rw[h_ne e2]at hj;cases hj
  ·have hd:=dfz hlt;rw[A0M (by omega)]at hbad;rw[if_neg (by rw[hbad];decide)]at hR;repeat' (apply wr<;>try simp only[go_sem,seval,hd,hbx])
   rw[hR,hG,A0M (by omega)];rw[hG,A0M (by omega)]at hno;exact C6r (fun e=>by rw[hno e];rfl) (by simp) (F0 _)
theorem B6k(p:Bool):∀ (l l':List Ex) (k:Nat),l.length=l'.length->(N4 p (l.take k) (l'.take k)=true)->∀ x x',l[k]? = some x->l'[k]? = some x'->N4 p (l.take (k+1)) (l'.take (k+1))=B1e p x x'/\(B1e p x x'=false->N4 p l l'=false)
 |[],_,k,_,_,x,x',h,_=>by simp at h
 |_ :: _,[],k,h,_,_,_,_,_=>by simp at h
 |a :: l,a' :: l',0,_,_,x,x',h,h'=>by
  cases h;cases h';refine⟨?_,fun e=>?_⟩
  ·simp[N4]
  ·rw[N4,e];rfl
 |a :: l,a' :: l',k+1,hl,he,x,x',h,h'=>by
  rw[A1D,A1D,N4,A0F]at he;have ih:=B6k p l l' k (by simpa using hl) he.2 x x' (by simpa using h) (by simpa using h');refine⟨?_,fun e=>?_⟩
  ·rw[A1D,A1D,N4,he.1,A2N];exact ih.1
  ·rw[N4,ih.2 e,A3V]
theorem B2e(p:Bool):∀ (l l':List Ex),¬ l.length=l'.length->N4 p l l'=false
 |[],[],h=>absurd rfl h
 |[],_ :: _,_=>rfl
 |_ :: _,[],_=>rfl
 |a :: l,a' :: l',h=>by rw[N4,B2e p l l' (by simpa using h),A3V]
theorem c_sameEs(p:Bool)(l l':List Ex)(hl:l.length<=100000000000)(h:∀ x∈l, ∀ y,PC Tryz.prog 243 [x.v,y.v,.bool p] (.bool (B1e p x y))):PC Tryz.prog 208 [G9 l,G9 l',.bool p] (.bool (N4 p l l')):=by
 refine PC.go A2 ?_;by_cases hlen:l.length=l'.length
 ·have hd0:((l.length:Int) != (l'.length:Int))=false:=by simp[hlen]
  repeat' (apply wr<;>try simp only[go_sem,seval,hd0,A0C])
  refine A9 (fun k:Nat=>[(0,G9 l),(1,G9 l'),(2,.bool p),(7,I64 k)]) (fun _=>Sym.nil) (fun k c=>k<=l.length/\N4 p (l.take k) (l'.take k)=true) (fun k=>l.length-k) 0 (by simp[C1,tm,Tm.upd]) (Sub.nil _) ⟨A0O _,rfl⟩ ?_;rintro k c ⟨hk,he⟩;by_cases hlt:k<l.length
  ·have hd:=dtz hlt;have hg:=A0B hlt;have hg':=A0B (l:=l') (i:=k) (by omega);have hw:=w64 (n:=(k:Int)+1);have hc:=h _ (A0L hlt) (l'[k]'(by omega));obtain⟨s1,s2⟩:=B6k p l l' k hlen he _ _ hg hg';generalize l[k]=x at hg hc s1 s2;generalize l'[k]'(by omega)=x' at hg' hc s1 s2;rw[Ex.v_w,Ex.v_w]at hc;cases hx:B1e p x x' with
   |true =>
    repeat' ((with_reducible first|apply wr|refine cpc hc ?_|fail)<;>try simp only[go_sem,seval,hd,hg,hg',hw,hx,Ex.v_w,A0C])
    exact⟨k+1,by simp[],Sub.nil _,inv ⟨by omega,by rw[s1];exact hx⟩,by omega⟩
   |false =>
    repeat' ((with_reducible first|apply wr|refine cpc hc ?_|fail)<;>try simp only[go_sem,seval,hd,hg,hg',hx,Ex.v_w,A0C])
    exact⟨_,by rw[s2 hx];exact GL.refl _ _⟩
  ·have hd:=dfz hlt;rw[A0M (by omega),A0M (by omega)]at he;repeat' (apply wr<;>try simp only[go_sem,seval,hd,A0C])
   exact⟨_,by rw[he];exact GL.refl _ _⟩
 ·have hd0:((l.length:Int) != (l'.length:Int))=true:=by simp;omega
  repeat' (apply wr<;>try simp only[go_sem,seval,hd0,A0C])
  exact⟨_,by rw[B2e p l l' hlen];exact GL.refl _ _⟩
theorem c_sameE(p:Bool):∀ (m:Nat) (a b:Ex),a.sz<m->a.sz<=100000000000->PC Tryz.prog 243 [a.v,b.v,.bool p] (.bool (B1e p a b)):=by
 intro m
 induction m with
 |zero=>intro a b h;omega
 |succ m ih =>
 intro a b hm hB;have hs:=c_sameEs p a.args b.args (by have:=a.sz_args;omega) (fun x hx y=>ih x y (by have:=Ex.sz_arg hx;omega) (by have:=Ex.sz_arg hx;omega));have e0:B1e p a b=(a.kind == b.kind && (a.value == b.value && (a.name == b.name && ((p || a.pos == b.pos) && N4 p a.args b.args)))):=by
  cases a with|mk k v n l q=>cases b with|mk k' v' n' l' q'=>rw[B1e];rfl
 refine PC.go A2 ?_;rw[Ex.v_w,Ex.v_w,e0];cases h1:a.kind == b.kind with
 |false =>
  repeat' (apply wr<;>try simp only[go_sem,seval,h1])
  exact⟨_,GL.refl _ _⟩
 |true =>
  cases h2:a.value == b.value with
  |false =>
   repeat' (apply wr<;>try simp only[go_sem,seval,h1,h2])
   exact⟨_,GL.refl _ _⟩
  |true =>
   cases h3:a.name == b.name with
   |false =>
    repeat' (apply wr<;>try simp only[go_sem,seval,h1,h2,h3])
    exact⟨_,GL.refl _ _⟩
   |true =>
    cases hp:p with
    |true =>
     subst hp;repeat' ((with_reducible first|apply wr|refine cpc hs ?_|fail)<;>try simp only[go_sem,seval,h1,h2,h3])
     exact⟨_,GL.refl _ _⟩
    |false =>
     subst hp;cases h4:a.pos == b.pos with
     |false =>
      repeat' (apply wr<;>try simp only[go_sem,seval,h1,h2,h3,h4])
      exact⟨_,GL.refl _ _⟩
     |true =>
      repeat' ((with_reducible first|apply wr|refine cpc hs ?_|fail)<;>try simp only[go_sem,seval,h1,h2,h3,h4])
      exact⟨_,GL.refl _ _⟩
theorem B4z:∀ (l l':List Pb.St) (k:Nat),l.length=l'.length->(M0 (l.take k) (l'.take k)=true)->∀ x x',l[k]? = some x->l'[k]? = some x'->M0 (l.take (k+1)) (l'.take (k+1))=B7t x x'/\(B7t x x'=false->M0 l l'=false)
 |[],_,k,_,_,x,x',h,_=>by simp at h
 |_ :: _,[],k,h,_,_,_,_,_=>by simp at h
 |a :: l,a' :: l',0,_,_,x,x',h,h'=>by
  cases h;cases h';refine⟨?_,fun e=>?_⟩
  ·simp[M0]
  ·rw[M0,e];rfl
 |a :: l,a' :: l',k+1,hl,he,x,x',h,h'=>by
  rw[A1D,A1D,M0,A0F]at he;have ih:=B4z l l' k (by simpa using hl) he.2 x x' (by simpa using h) (by simpa using h');refine⟨?_,fun e=>?_⟩
  ·rw[A1D,A1D,M0,he.1,A2N];exact ih.1
  ·rw[M0,ih.2 e,A3V]
theorem B1j:∀ (l l':List Pb.St),¬ l.length=l'.length->M0 l l'=false
 |[],[],h=>absurd rfl h
 |[],_ :: _,_=>rfl
 |_ :: _,[],_=>rfl
 |a :: l,a' :: l',h=>by rw[M0,B1j l l' (by simpa using h),A3V]
theorem D5v(a b:Pb.St):B7t a b=(a.kind == b.kind && (a.name == b.name && (a.text == b.text && (a.pos == b.pos && (N4 false a.args b.args && (M0 a.thn b.thn && M0 a.els b.els)))))):=by
 cases a with|mk k n t a x y q=>cases b with|mk k' n' t' a' x' y' q'=>rw[B7t];rfl
theorem c_sameS:∀ (m:Nat) (l l':List Pb.St),Pb.St.szs l<m->Pb.St.szs l<=100000000000->PC Tryz.prog 143 [D3 l,D3 l'] (.bool (M0 l l')):=by
 intro m
 induction m with
 |zero=>intro a b h;omega
 |succ m ih =>
 intro l l' hm hB;have hl:=Pb.St.szs_len l;refine PC.go A2 ?_;by_cases hlen:l.length=l'.length
 ·have hd0:((l.length:Int) != (l'.length:Int))=false:=by simp[hlen]
  repeat' (apply wr<;>try simp only[go_sem,seval,hd0,A0C])
  refine A9 (fun k:Nat=>[(0,D3 l),(1,D3 l'),(5,I64 k)]) (fun _=>Sym.nil) (fun k c=>k<=l.length/\M0 (l.take k) (l'.take k)=true) (fun k=>l.length-k) 0 (by simp[C1,tm,Tm.upd]) (Sub.nil _) ⟨A0O _,rfl⟩ ?_;rintro k c ⟨hk,he⟩;by_cases hlt:k<l.length
  ·have hd:=dtz hlt;have hg:=A0B hlt;have hg':=A0B (l:=l') (i:=k) (by omega);have hw:=w64 (n:=(k:Int)+1);obtain⟨s1,s2⟩:=B4z l l' k hlen he _ _ hg hg';have hsx:=Pb.St.szs_mem (A0L hlt);generalize l[k]=x at hg hsx s1 s2;generalize l'[k]'(by omega)=x' at hg' s1 s2;have ht:=x.sz_thn;have hy:=x.sz_els;have hargs:∀ y∈x.args,y.sz<x.sz:=fun y hy=>Pb.St.sz_arg hy;have hal:=x.sz_args;have ca:=c_sameEs false x.args x'.args (by omega) (fun y hy z=>c_sameE false (y.sz+1) y z (by omega) (by have:=hargs y hy;omega));have ct:=ih x.thn x'.thn (by omega) (by omega);have cy:=ih x.els x'.els (by omega) (by omega);rw[D5v]at s1 s2;have ne0:=A0m (c+8) (c+9) (by omega);have hn8:∀ i:Nat,Sym.nil (c+i)=none:=fun _=>rfl;repeat' (apply wr<;>try simp only[go_sem,seval,hd,hg,hg',Pb.St.v_w,A0C,ne0,h_same])
   refine⟨by and_intros<;>(repeat rw[hnO])<;>rfl,?_⟩;repeat' ((with_reducible first|refine H9 (p:=IW _ _ (pz Tryz.prog 143 (.o (.i (.o (.i .h))))) _ _) ?_|refine wr ?_|fail)<;>try simp only[go_sem,seval,ne0,h_same,A5])
   unfold B1f;clear hd hg hg';cases h1:x.kind == x'.kind with
   |false =>
    have n1:(x.kind != x'.kind)=true:=by rw[bne,h1];rfl
    repeat' (apply wr<;>try simp only[go_sem,seval,ne0,h_same,n1])
    exact⟨_,by rw[s2 (by rw[h1];rfl)];exact GL.refl _ _⟩
   |true =>
    have n1:(x.kind != x'.kind)=false:=by rw[bne,h1];rfl
    cases h2:x.name == x'.name with
    |false =>
     repeat' (apply wr<;>try simp only[go_sem,seval,ne0,h_same,n1,h2])
     exact⟨_,by rw[s2 (by rw[h1,h2];rfl)];exact GL.refl _ _⟩
    |true =>
     cases h3:x.text == x'.text with
     |false =>
      repeat' (apply wr<;>try simp only[go_sem,seval,ne0,h_same,n1,h2,h3])
      exact⟨_,by rw[s2 (by rw[h1,h2,h3];rfl)];exact GL.refl _ _⟩
     |true =>
      cases h4:x.pos == x'.pos with
      |false =>
       have n4:(x.pos != x'.pos)=true:=by rw[bne,h4];rfl
       repeat' (apply wr<;>try simp only[go_sem,seval,ne0,h_same,n1,h2,h3,n4])
       exact⟨_,by rw[s2 (by rw[h1,h2,h3,h4];rfl)];exact GL.refl _ _⟩
      |true =>
       have n4:(x.pos != x'.pos)=false:=by rw[bne,h4];rfl
       cases h5:N4 false x.args x'.args with
       |false =>
        repeat' ((with_reducible first|apply wr|refine cpc ca ?_|fail)<;>try simp only[go_sem,seval,ne0,h_same,n1,h2,h3,n4,h5])
        exact⟨_,by rw[s2 (by rw[h1,h2,h3,h4,h5];rfl)];exact GL.refl _ _⟩
       |true =>
        cases h6:M0 x.thn x'.thn with
        |false =>
         repeat' ((with_reducible first|apply wr|refine cpc ca ?_|refine cpc ct ?_|fail)<;>try simp only[go_sem,seval,ne0,h_same,n1,h2,h3,n4,h5,h6])
         exact⟨_,by rw[s2 (by rw[h1,h2,h3,h4,h5,h6];rfl)];exact GL.refl _ _⟩
        |true =>
         cases h7:M0 x.els x'.els with
         |false =>
          repeat' ((with_reducible first|apply wr|refine cpc ca ?_|refine cpc ct ?_|refine cpc cy ?_|fail)<;>try simp only[go_sem,seval,ne0,h_same,n1,h2,h3,n4,h5,h6,h7])
          exact⟨_,by rw[s2 (by rw[h1,h2,h3,h4,h5,h6,h7];rfl)];exact GL.refl _ _⟩
         |true =>
          repeat' ((with_reducible first|apply wr|refine cpc ca ?_|refine cpc ct ?_|refine cpc cy ?_|fail)<;>try simp only[go_sem,seval,hw,ne0,h_same,n1,h2,h3,n4,h5,h6,h7])
          exact⟨k+1,by simp[],Sub.nil _,inv ⟨by omega,by rw[s1,h1,h2,h3,h4,h5,h6,h7];rfl⟩,by omega⟩
  ·have hd:=dfz hlt;rw[A0M (by omega),A0M (by omega)]at he;repeat' (apply wr<;>try simp only[go_sem,seval,hd,A0C])
   exact⟨_,by rw[he];exact GL.refl _ _⟩
 ·have hd0:((l.length:Int) != (l'.length:Int))=true:=by simp;omega
  repeat' (apply wr<;>try simp only[go_sem,seval,hd0,A0C])
  exact⟨_,by rw[B1j l l' hlen];exact GL.refl _ _⟩
def B7w(a b:Ru):Bool:=@decide (a=b) (Classical.propDecidable _)
theorem D6a{a b:Ru}(h:a=b):B7w a b=true:=by unfold B7w;exact @decide_eq_true _ (_) h
theorem D6b{a b:Ru}(h:¬ a=b):B7w a b=false:=by unfold B7w;exact @decide_eq_false _ (_) h
theorem B2y{α : Type}{l l':List α}{k:Nat}{x x' : α}(h:l.take k=l'.take k)(hx:l[k]? = some x)(hx':l'[k]? = some x')(e:x=x'):l.take (k+1)=l'.take (k+1):=by
 rw[A0S,A0S,h,hx,hx',e]
theorem N8{α : Type}{l l':List α}{k:Nat}{x x' : α}(hx:l[k]? = some x)(hx':l'[k]? = some x')(e:¬ x=x'):¬ l=l':=by
 rintro rfl;rw[hx]at hx';exact e (Option.some.inj hx')
theorem C0b{H H':Hp}{c:Nat}(h1:∀ j b,H j=some b->j<c)(h2:∀ j,j<c->H' j=H j):Sym.Sub H H':=fun j b hj=>by rw[h2 j (h1 j b hj)];exact hj
theorem c_Same31(a b:Ru)(hB:a.sz<=100000000000):PC Tryz.prog 71 [a.v,b.v] (.bool (B7w a b)):=by
 refine PC.go A2 ?_;obtain⟨R,hR⟩:∃ R,R=B7w a b:=⟨_,rfl⟩;rw[<- hR];obtain⟨D,M⟩:=a;obtain⟨D',M'⟩:=b;have hF:(¬ D=D'\/¬ M=M')->R=false:=fun h=>by
  rw[hR];exact D6b fun e=>by cases e;exact h.elim (· rfl) (· rfl)
 have hT:D=D'->M=M'->R=true:=fun h1 h2=>by rw[hR];exact D6a (by rw[h1,h2])
 clear hR;have hDs:(D.map Dc.sz).sum+(M.map Md.sz).sum<=100000000000:=hB;have hDl:D.length<=(D.map Dc.sz).sum:=I2 fun x _=>by show 1<=1+_;omega
 have hMl:M.length<=(M.map Md.sz).sum:=I2 fun x _=>by show 1<=1+_+_;omega
 dsimp only[Ru.v];by_cases l1:D.length=D'.length
 case neg =>
  have f1:((D.length:Int) != (D'.length:Int))=true:=by simp;omega
  repeat' (apply wr<;>try simp only[go_sem,seval,f1,A0C])
  exact⟨_,by rw[hF (.inl fun e=>l1 (by rw[e]))];exact GL.refl _ _⟩
 have f1:((D.length:Int) != (D'.length:Int))=false:=by simp[l1]
 by_cases l2:M.length=M'.length
 case neg =>
  have f2:((M.length:Int) != (M'.length:Int))=true:=by simp;omega
  repeat' (apply wr<;>try simp only[go_sem,seval,f1,f2,A0C])
  exact⟨_,by rw[hF (.inr fun e=>l2 (by rw[e]))];exact GL.refl _ _⟩
 have f2:((M.length:Int) != (M'.length:Int))=false:=by simp[l2]
 repeat' (apply wr<;>try simp only[go_sem,seval,f1,f2,A0C])
 refine A9 (fun k:Nat=>[(2,.ptr 0 0),(3,.ptr 1 0),(5,I64 k)]) (fun _=>(Sym.nil.upd 0 ⟨0,true,[C3 D,C7 M]⟩).upd 1 ⟨0,true,[C3 D',C7 M']⟩) (fun k c=>2<=c/\k<=D.length/\D.take k=D'.take k) (fun k=>D.length-k) 0 (by simp[C1,tm,Tm.upd]) (Sub.refl _) ⟨by omega,A0O _,rfl⟩ ?_;rintro k c ⟨hc,hk,he⟩;by_cases hlt:k<D.length
 ·have hd:=dtz hlt;have hg:=A0B hlt;have hg':=A0B (l:=D') (i:=k) (by omega);have hw:=w64 (n:=(k:Int)+1);generalize D[k]=x at hg;generalize D'[k]'(by omega)=x' at hg';have hq:(x.kind == x'.kind && (x.name == x'.name && (x.value == x'.value && x.pos == x'.pos)))=true↔x=x':=by
   cases x;cases x';simp only[A0F,A1Y,Dc.mk.injEq]
  by_cases hx:x=x'
  ·have hqt:(true != (x.kind == x'.kind && (x.name == x'.name && (x.value == x'.value && x.pos == x'.pos))))=false:=by rw[hq.2 hx];rfl
   repeat' (apply wr<;>try simp only[go_sem,seval,hd,hg,hg',hw,D4k,hqt,A0C])
   exact⟨k+1,by simp[],Sub.refl _,inv ⟨by omega,by omega,B2y he hg hg' hx⟩,by omega⟩
  ·have hqf:(true != (x.kind == x'.kind && (x.name == x'.name && (x.value == x'.value && x.pos == x'.pos))))=true:=by
    rw[show (x.kind == x'.kind && (x.name == x'.name && (x.value == x'.value && x.pos == x'.pos)))=false from by
     cases hz:(x.kind == x'.kind && (x.name == x'.name && (x.value == x'.value && x.pos == x'.pos))) with
     |false=>rfl
     |true=>exact absurd (hq.1 hz) hx]
    rfl
   repeat' (apply wr<;>try simp only[go_sem,seval,hd,hg,hg',D4k,hqf,A0C])
   exact⟨_,by rw[hF (.inl (N8 hg hg' hx))];exact GL.refl _ _⟩
 ·have hd:=dfz hlt;rw[A0M (by omega),A0M (by omega)]at he;repeat' (apply wr<;>try simp only[go_sem,seval,hd,A0C])
  have hDD:=he;clear hd hlt he hk;refine A9 (fun k:Nat=>[(2,.ptr 0 0),(3,.ptr 1 0),(6,I64 k)]) (fun _=>(Sym.nil.upd 0 ⟨0,true,[C3 D,C7 M]⟩).upd 1 ⟨0,true,[C3 D',C7 M']⟩) (fun k c=>2<=c/\k<=M.length/\M.take k=M'.take k) (fun k=>M.length-k) 0 (by simp[C1,tm,Tm.upd]) (Sub.refl _) ⟨hc,A0O _,rfl⟩ ?_;clear hc k c;rintro k c ⟨hc,hk,he⟩;by_cases hlt:k<M.length
  ·have hd:=dtz hlt;have hg:=A0B hlt;have hg':=A0B (l:=M') (i:=k) (by omega);have hw:=w64 (n:=(k:Int)+1);have hsx:=J5 (f:=Md.sz) (A0L hlt);generalize M[k]=x at hg hsx;generalize M'[k]'(by omega)=x' at hg';have hxs:(x.hds.map Hd.sz).sum<Md.sz x:=by unfold Md.sz;omega
   have hxl:x.hds.length<=(x.hds.map Hd.sz).sum:=I2 fun x _=>by show 1<=1+_+_;omega
   have ne0:=W3 0 1 (c+10) (c+11) (by omega);repeat' (apply wr<;>try simp only[go_sem,seval,hd,hg,hg',ne0,h_same,A0C])
   refine⟨by and_intros<;>(repeat rw[hnO])<;>rfl,?_⟩;repeat' ((with_reducible first|refine H9 (p:=IW _ _ (pz Tryz.prog 71 (.i (.i (.i (.i (.o .h)))))) _ _) ?_|refine wr ?_|fail)<;>try simp only[go_sem,seval,ne0,h_same,A5])
   unfold B1f;clear hd;by_cases h1:x.name=x'.name
   case neg =>
    have nh1:(x.name == x'.name)=false:=by simpa using h1
    repeat' (apply wr<;>try simp only[go_sem,seval,ne0,h_same,nh1])
    exact⟨_,by rw[hF (.inr (N8 hg hg' fun e=>h1 (by rw[e])))];exact GL.refl _ _⟩
   case pos =>
    have nh1:(x.name == x'.name)=true:=by simpa using h1
    by_cases h2:x.prio=x'.prio
    case neg =>
     have nh2:(x.prio != x'.prio)=true:=by simpa using h2
     repeat' (apply wr<;>try simp only[go_sem,seval,ne0,h_same,nh1,nh2])
     exact⟨_,by rw[hF (.inr (N8 hg hg' fun e=>h2 (by rw[e])))];exact GL.refl _ _⟩
    case pos =>
     have nh2:(x.prio != x'.prio)=false:=by simpa using h2
     by_cases h3:x.pos=x'.pos
     case neg =>
      have nh3:(x.pos != x'.pos)=true:=by simpa using h3
      repeat' (apply wr<;>try simp only[go_sem,seval,ne0,h_same,nh1,nh2,nh3])
      exact⟨_,by rw[hF (.inr (N8 hg hg' fun e=>h3 (by rw[e])))];exact GL.refl _ _⟩
     case pos =>
      have nh3:(x.pos != x'.pos)=false:=by simpa using h3
      by_cases h4:x.hds.length=x'.hds.length
      case neg =>
       have nh4:((x.hds.length:Int) != (x'.hds.length:Int))=true:=by simp;omega
       repeat' (apply wr<;>try simp only[go_sem,seval,ne0,h_same,A0C,nh1,nh2,nh3,nh4])
       exact⟨_,by rw[hF (.inr (N8 hg hg' fun e=>h4 (by rw[e])))];exact GL.refl _ _⟩
      case pos =>
       have nh4:((x.hds.length:Int) != (x'.hds.length:Int))=false:=by simp[h4]
       repeat' (apply wr<;>try simp only[go_sem,seval,ne0,h_same,A0C,nh1,nh2,nh3,nh4])
       refine A9 (fun j:Nat=>[(2,.ptr 0 0),(3,.ptr 1 0),(6,I64 k),(7,.ptr (c+10) 0),(8,.ptr (c+11) 0),(9,I64 j)]) (fun _=>(((Sym.nil.upd 0 ⟨0,true,[C3 D,C7 M]⟩).upd 1 ⟨0,true,[C3 D',C7 M']⟩).upd (c+10) ⟨0,true,[.str x.name,I64 x.prio,K8 x.hds,I64 x.pos]⟩).upd (c+11) ⟨0,true,[.str x'.name,I64 x'.prio,K8 x'.hds,I64 x'.pos]⟩) (fun j n=>c+12<=n/\j<=x.hds.length/\x.hds.take j=x'.hds.take j) (fun j=>x.hds.length-j) 0 (by simp[C1,tm,Tm.upd]) ?_ ⟨by omega,A0O _,rfl⟩ ?_
       ·intro j b hj;by_cases e1:j=c+11
        ·subst e1;rw[h_same]at hj ⊢;exact hj
        rw[h_ne e1]at hj ⊢;by_cases e2:j=c+10
        ·subst e2;rw[h_same]at hj ⊢;exact hj
        rw[h_ne e2]at hj ⊢
        repeat rw[hnO]
        exact hj
       rintro j n ⟨hn,hj,hej⟩;by_cases hjl:j<x.hds.length
       ·have hdj:decide ((j:Int)<(x.hds.length:Int))=true:=by simpa using hjl
        have gj:=A0B hjl;have gj':=A0B (l:=x'.hds) (i:=j) (by omega);have hwj:=w64 (n:=(j:Int)+1);have hsj:=J5 (f:=Hd.sz) (A0L hjl);generalize x.hds[j]=y at gj hsj;generalize x'.hds[j]'(by omega)=y' at gj';have hbs:Pb.St.szs y.body<Hd.sz y:=by unfold Hd.sz;omega
        have cs:=c_sameS (Pb.St.szs y.body+1) y.body y'.body (by omega) (by omega);have ne0:=A5k 0 1 (c+10) (c+11) (n+10) (n+11) (by omega);repeat' (apply wr<;>try simp only[go_sem,seval,hdj,gj,gj',ne0,h_same,A0C])
        refine⟨by and_intros<;>(repeat rw[hnO])<;>rfl,?_⟩;repeat' ((with_reducible first|refine H9 (p:=IW _ _ (pz Tryz.prog 71 (.i (.o (.i (.o (.o (.o .h))))))) _ _) ?_|refine wr ?_|fail)<;>try simp only[go_sem,seval,ne0,h_same,A5])
        unfold B1f;clear hdj;by_cases q1:y.trig=y'.trig
        case neg =>
         have nq1:(y.trig != y'.trig)=true:=by simpa using q1
         repeat' (apply wr<;>try simp only[go_sem,seval,ne0,h_same,nq1])
         exact⟨_,by rw[hF (.inr (N8 hg hg' fun e=>N8 gj gj' (fun e2=>by exact q1 (by rw[e2])) (by rw[e])))];exact GL.refl _ _⟩
        case pos =>
         have nq1:(y.trig != y'.trig)=false:=by simpa using q1
         by_cases q2:y.name=y'.name
         case neg =>
          have nq2:(y.name == y'.name)=false:=by simpa using q2
          repeat' (apply wr<;>try simp only[go_sem,seval,ne0,h_same,nq1,nq2])
          exact⟨_,by rw[hF (.inr (N8 hg hg' fun e=>N8 gj gj' (fun e2=>by exact q2 (by rw[e2])) (by rw[e])))];exact GL.refl _ _⟩
         case pos =>
          have nq2:(y.name == y'.name)=true:=by simpa using q2
          by_cases q3:y.pos=y'.pos
          case neg =>
           have nq3:(y.pos != y'.pos)=true:=by simpa using q3
           repeat' (apply wr<;>try simp only[go_sem,seval,ne0,h_same,nq1,nq2,nq3])
           exact⟨_,by rw[hF (.inr (N8 hg hg' fun e=>N8 gj gj' (fun e2=>by exact q3 (by rw[e2])) (by rw[e])))];exact GL.refl _ _⟩
          case pos =>
           have nq3:(y.pos != y'.pos)=false:=by simpa using q3
           cases q4:M0 y.body y'.body with
           |false =>
            repeat' ((with_reducible first|apply wr|refine cpc cs ?_|fail)<;>try simp only[go_sem,seval,ne0,h_same,nq1,nq2,nq3,q4])
            exact⟨_,by rw[hF (.inr (N8 hg hg' fun e=>N8 gj gj' (fun e2=>by rw[e2,(A0j _ _).2 rfl]at q4;cases q4) (by rw[e])))];exact GL.refl _ _⟩
           |true =>
            repeat' ((with_reducible first|apply wr|refine cpc cs ?_|fail)<;>try simp only[go_sem,seval,hwj,ne0,h_same,nq1,nq2,nq3,q4])
            exact⟨j+1,by simp[],(C0b (c:=n) (fun j0 b0 h0=>by by_cases a1:j0=c+11;omega;rw[h_ne a1]at h0;by_cases a2:j0=c+10;omega;rw[h_ne a2]at h0;by_cases a3:j0=1;omega;rw[h_ne a3]at h0;by_cases a4:j0=0;omega;rw[h_ne a4]at h0;cases h0) (fun j0 h0=>by repeat rw[hnO])),inv ⟨by omega,by omega,B2y hej gj gj' (by cases y;cases y';simp only[Hd.mk.injEq]at *;exact⟨q1,q2,(A0j _ _).1 q4,q3⟩)⟩,by omega⟩
       ·have hdj:decide ((j:Int)<(x.hds.length:Int))=false:=by simpa using hjl
        rw[A0M (by omega),A0M (by omega)]at hej;have ne0:=W3 0 1 (c+10) (c+11) (by omega);repeat' (apply wr<;>try simp only[go_sem,seval,hdj,hw,ne0,h_same,A0C])
        exact⟨k+1,by simp[],(C0b (c:=c) (fun j0 b0 h0=>by by_cases a3:j0=1;omega;rw[h_ne a3]at h0;by_cases a4:j0=0;omega;rw[h_ne a4]at h0;cases h0) (fun j0 h0=>by repeat rw[hnO])),inv ⟨by omega,by omega,B2y he hg hg' (by cases x;cases x';simp only[Md.mk.injEq]at *;exact⟨h1,h2,hej,h3⟩)⟩,by omega⟩
  ·have hd:=dfz hlt;rw[A0M (by omega),A0M (by omega)]at he;repeat' (apply wr<;>try simp only[go_sem,seval,hd,A0C])
   exact⟨_,by rw[hT hDD he];exact GL.refl _ _⟩
theorem c_plainE:∀ (m:Nat) (l:List Ex),Ex.szs l<m->Ex.szs l<=100000000000->PC Tryz.prog 160 [G9 l] (G9 (l.map Ex.plain)):=by
 intro m
 induction m with
 |zero=>intro l h;omega
 |succ m ih =>
 intro l hm hB;have hl:=Ex.szs_len l;refine PC.ofT A2 rfl (A0D rfl) (by simp[DV.nlL,DV.nl,A1f]) (A1f _) ?_;repeat' (apply wr<;>try simp only[go_sem,seval])
 obtain⟨F,hF⟩:∃ F:Nat->List Ex, ∀ k,F k=(l.take k).map Ex.plain:=⟨_,fun _=>rfl⟩;have hF0:F 0=[]:=by rw[hF];rfl
 have hFl:∀ k,(F k).length<=l.length:=fun k=>by rw[hF,A0C,A1B];omega
 refine A9 (fun q:Nat × Option Nat=>[(0,G9 l),(3,todoV q.2 (F q.1).length),(4,I64 q.1)]) (fun q=>optH Sym.nil q.2 ⟨5,true,cellsL ((F q.1).map Ex.v)⟩)
  (fun q c=>q.1<=l.length/\(q.2=none->F q.1=[])/\(∀ i,q.2=some i->i<c)) (fun q=>l.length-q.1) (0,none)
  (by simp[C1,tm,Tm.upd,todoV]) (Sub.nil _) ⟨A0O _,fun _=>hF0,(fun i hi=>by cases hi)⟩ ?_
 rintro⟨k,o⟩ c ⟨hk,hno,ho⟩;dsimp only at hk hno ho ⊢;by_cases hlt:k<l.length
 ·have hd:=dtz hlt;have hg:=A0B hlt;have hsx:=Ex.szs_mem (A0L hlt);have hw:=w64 (n:=(k:Int)+1);have e0:F (k+1)=F k++[l[k].plain]:=by rw[hF,hF,A0S,hg,A0T];rfl
  have hFk:=hFl k;generalize l[k]=x at hg hsx e0;have hax:Ex.szs x.args<x.sz:=by cases x with|mk k v n a p=>rw[Ex.sz];show Ex.szs a<_;omega
  have hc:=ih x.args (by omega) (by omega);have hln:(cellsL ((F k).map Ex.v)).length=(F k).length * 5:=(C2 (u:=5) (A5x _)).trans (by simp);have ne0:=R9 c (c+1) (c+2) (by omega);repeat' ((with_reducible first|apply wr|refine cpc hc ?_|fail)<;>try simp only[go_sem,seval,hd,hg,Ex.v_w,h_same,A5])
  refine F4 (D5 (cs:=cellsL ((F k).map Ex.v)) (fun e=>by rw[hno e];exact⟨rfl,rfl⟩) (fun i hi=>by have:=ho i hi;rw[hnO,hnO];exact A4m hi) hln (by omega) (by omega) (by omega)) ?_;simp only[go_sem,seval];repeat' (apply wr<;>try simp only[go_sem,seval,hw])
  refine⟨(k+1,some (c+1+1)),by simp[todoV,e0],?_,inv ⟨by omega,(fun h=>by cases h),(fun i hi=>by cases hi;omega)⟩,by simp only;omega⟩;dsimp only[optH];rw[e0,A0T,C4];refine A2w ?_;cases x with|mk kk v n a p=>simp only[Ex.plain,Ex.plains_map,Ex.kind,Ex.value,Ex.name,Ex.args,Ex.pos,A5y]
 ·have hd:=dfz hlt;repeat' (apply wr<;>try simp only[go_sem,seval,hd])
  rw[hF,A0M (by omega)];exact A5h (fun e=>by have:=hno e;rw[hF,A0M (by omega)]at this;rw[this];rfl) (by simp) (A5x _)
theorem c_plainS:∀ (m:Nat) (l:List Pb.St),Pb.St.szs l<m->Pb.St.szs l<=100000000000->PC Tryz.prog 82 [D3 l] (D3 (l.map Pb.St.plain)):=by
 intro m
 induction m with
 |zero=>intro l h;omega
 |succ m ih =>
 intro l hm hB;have hl:=Pb.St.szs_len l;refine PC.ofT A2 rfl (A0D rfl) (by simp[DV.nlL,DV.nl,W1]) (W1 _) ?_;repeat' (apply wr<;>try simp only[go_sem,seval])
 obtain⟨F,hF⟩:∃ F:Nat->List Pb.St, ∀ k,F k=(l.take k).map Pb.St.plain:=⟨_,fun _=>rfl⟩;have hF0:F 0=[]:=by rw[hF];rfl
 have hFl:∀ k,(F k).length<=l.length:=fun k=>by rw[hF,A0C,A1B];omega
 refine A9 (fun q:Nat × Option Nat=>[(0,D3 l),(3,todoV q.2 (F q.1).length),(4,I64 q.1)]) (fun q=>optH Sym.nil q.2 ⟨7,true,cellsL ((F q.1).map Pb.St.v)⟩)
  (fun q c=>q.1<=l.length/\(q.2=none->F q.1=[])/\(∀ i,q.2=some i->i<c)) (fun q=>l.length-q.1) (0,none)
  (by simp[C1,tm,Tm.upd,todoV]) (Sub.nil _) ⟨A0O _,fun _=>hF0,(fun i hi=>by cases hi)⟩ ?_
 rintro⟨k,o⟩ c ⟨hk,hno,ho⟩;dsimp only at hk hno ho ⊢;by_cases hlt:k<l.length
 ·have hd:=dtz hlt;have hg:=A0B hlt;have hsx:=Pb.St.szs_mem (A0L hlt);have hw:=w64 (n:=(k:Int)+1);have e0:F (k+1)=F k++[l[k].plain]:=by rw[hF,hF,A0S,hg,A0T];rfl
  have hFk:=hFl k;generalize l[k]=x at hg hsx e0;have hax:Ex.szs x.args<x.sz:=by cases x with|mk k n t a x y p=>rw[Pb.St.sz];show Ex.szs a<_;omega
  have htx:=x.sz_thn;have hyx:=x.sz_els;have hc:=c_plainE (Ex.szs x.args+1) x.args (by omega) (by omega);have hct:=ih x.thn (by omega) (by omega);have hcy:=ih x.els (by omega) (by omega);have hln:(cellsL ((F k).map Pb.St.v)).length=(F k).length * 7:=(C2 (u:=7) (A8j _)).trans (by simp);have hbn:∀ j:Nat,c<=j->optH Sym.nil o ⟨7,true,cellsL ((F k).map Pb.St.v)⟩ j=none:=fun j hj=>by rw[B7 (fun i hi=>by have:=ho i hi;omega)];rfl
  have ne0:=R9 c (c+1) (c+2) (by omega);repeat' ((with_reducible first|apply wr|refine cpc hc ?_|fail)<;>try simp only[go_sem,seval,hd,hg,Pb.St.v_w,h_same,A5])
  refine⟨by and_intros<;>(repeat rw[hnO])<;>exact hbn _ (by omega),?_⟩;repeat' ((with_reducible first|apply wr|refine cpc hct ?_|fail)<;>try simp only[go_sem,seval,h_same])
  refine⟨by and_intros<;>(repeat rw[hnO])<;>exact hbn _ (by omega),?_⟩;repeat' ((with_reducible first|apply wr|refine cpc hcy ?_|fail)<;>try simp only[go_sem,seval,h_same,A5])
  refine⟨by and_intros<;>(repeat rw[hnO])<;>exact hbn _ (by omega),?_⟩;repeat' (apply wr<;>try simp only[go_sem,seval,h_same])
  refine F4 (D5 (cs:=cellsL ((F k).map Pb.St.v)) (fun e=>by rw[hno e];exact⟨rfl,rfl⟩) (fun i hi=>by have:=ho i hi;rw[hnO,hnO];exact A4m hi) hln (by omega) (by omega) (by omega)) ?_;simp only[go_sem,seval];repeat' (apply wr<;>try simp only[go_sem,seval,hw])
  refine⟨(k+1,some (c+1+17+1)),by simp[todoV,e0],?_,inv ⟨by omega,(fun h=>by cases h),(fun i hi=>by cases hi;omega)⟩,by simp only;omega⟩;dsimp only[optH];rw[e0,A0T,C4];refine A2w ?_;cases x with|mk kk n t a x y p=>simp only[Pb.St.plain,Ex.plains_map,Pb.St.plains_map,Pb.St.kind,Pb.St.name,Pb.St.text,Pb.St.args,Pb.St.thn,Pb.St.els,Pb.St.pos,C5s]
 ·have hd:=dfz hlt;repeat' (apply wr<;>try simp only[go_sem,seval,hd])
  rw[hF,A0M (by omega)];exact A5h (fun e=>by have:=hno e;rw[hF,A0M (by omega)]at this;rw[this];rfl) (by simp) (A8j _)
theorem c_Plain31(r:Ru)(hB:r.sz<=100000000000):PC Tryz.prog 36 [r.v] r.plain.v:=by
 refine PC.ofT A2 rfl (A0D rfl) (by simp[DV.nlL,DV.nl,K4,K3]) (Ru.nl _) ?_;obtain⟨D,M⟩:=r;have hDs:(D.map Dc.sz).sum+(M.map Md.sz).sum<=100000000000:=hB;have hDl:D.length<=(D.map Dc.sz).sum:=I2 fun x _=>by show 1<=1+_;omega
 have hMl:M.length<=(M.map Md.sz).sum:=I2 fun x _=>by show 1<=1+_+_;omega
 dsimp only[Ru.v,Ru.plain];repeat' (apply wr<;>try simp only[go_sem,seval])
 obtain⟨F,hF⟩:∃ F:Nat->List Dc, ∀ k,F k=(D.take k).map Dc.plain:=⟨_,fun _=>rfl⟩;have hF0:F 0=[]:=by rw[hF];rfl
 have hFl:∀ k,(F k).length<=D.length:=fun k=>by rw[hF,A0C,A1B];omega
 refine A9 (fun q:Nat × Option Nat=>[(1,.ptr 0 0),(2,.ptr 1 0),(3,.ptr 2 0),(4,I64 q.1)]) (fun q=>optH (((Sym.nil.upd 0 ⟨0,true,[C3 D,C7 M]⟩).upd 1 ⟨0,true,[.snil,.snil]⟩).upd 2 ⟨0,true,[todoV q.2 (F q.1).length,.snil]⟩) q.2 ⟨4,true,cellsL ((F q.1).map Dc.v)⟩)
  (fun q c=>3<=c/\q.1<=D.length/\(q.2=none->F q.1=[])/\(∀ i,q.2=some i->3<=i/\i<c)) (fun q=>D.length-q.1) (0,none)
  (by simp[C1,tm,Tm.upd]) (Sub.refl _) ⟨by omega,A0O _,fun _=>hF0,(fun i hi=>by cases hi)⟩ ?_
 rintro⟨k,o⟩ c ⟨hc,hk,hno,ho⟩;dsimp only at hc hk hno ho ⊢;have hbr:optH (((Sym.nil.upd 0 ⟨0,true,[C3 D,C7 M]⟩).upd 1 ⟨0,true,[.snil,.snil]⟩).upd 2 ⟨0,true,[todoV o (F k).length,.snil]⟩) o ⟨4,true,cellsL ((F k).map Dc.v)⟩ 0=some ⟨0,true,[C3 D,C7 M]⟩:=by rw[B7 (fun i hi=>by have:=ho i hi;omega),hnO,hnO,h_same]
 by_cases hlt:k<D.length
 ·have hd:=dtz hlt;have hg:=A0B hlt;have hw:=w64 (n:=(k:Int)+1);have e0:F (k+1)=F k++[D[k].plain]:=by rw[hF,hF,A0S,hg,A0T];rfl
  have hFk:=hFl k;generalize D[k]=x at hg e0;have hln:(cellsL ((F k).map Dc.v)).length=(F k).length * 4:=(C2 (u:=4) (A3i _)).trans (by simp);have hbx:optH (((Sym.nil.upd 0 ⟨0,true,[C3 D,C7 M]⟩).upd 1 ⟨0,true,[.snil,.snil]⟩).upd 2 ⟨0,true,[todoV o (F k).length,.snil]⟩) o ⟨4,true,cellsL ((F k).map Dc.v)⟩ 2=some ⟨0,true,[todoV o (F k).length,.snil]⟩:=by rw[B7 (fun i hi=>by have:=ho i hi;omega),h_same]
  have hb1:optH (((Sym.nil.upd 0 ⟨0,true,[C3 D,C7 M]⟩).upd 1 ⟨0,true,[.snil,.snil]⟩).upd 2 ⟨0,true,[todoV o (F k).length,.snil]⟩) o ⟨4,true,cellsL ((F k).map Dc.v)⟩ 1=some ⟨0,true,[.snil,.snil]⟩:=by rw[B7 (fun i hi=>by have:=ho i hi;omega),hnO,h_same]
  have hbo:∀ i:Nat,o=some i->optH (((Sym.nil.upd 0 ⟨0,true,[C3 D,C7 M]⟩).upd 1 ⟨0,true,[.snil,.snil]⟩).upd 2 ⟨0,true,[todoV o (F k).length,.snil]⟩) o ⟨4,true,cellsL ((F k).map Dc.v)⟩ i=some ⟨4,true,cellsL ((F k).map Dc.v)⟩:=fun i hi=>by subst hi;exact h_same
  have hdx:∀ X:Hp,delO X o 2=X 2:=fun X=>B0 (fun i hi=>by have:=ho i hi;omega);generalize hHH:optH (((Sym.nil.upd 0 ⟨0,true,[C3 D,C7 M]⟩).upd 1 ⟨0,true,[.snil,.snil]⟩).upd 2 ⟨0,true,[todoV o (F k).length,.snil]⟩) o ⟨4,true,cellsL ((F k).map Dc.v)⟩=HH at hbr hbx hbo hb1 ⊢;have ne0:=A5k 0 1 2 c (c+1) (c+1+1) (by omega);repeat' (apply wr<;>try simp only[go_sem,seval,hd,hg,hbr,hbx,ne0,h_same,A5])
  refine F4 (D5 (cs:=cellsL ((F k).map Dc.v)) (fun e=>by rw[hno e];exact⟨rfl,rfl⟩) (fun i hi=>by have:=ho i hi;rw[hnO,hnO];exact hbo i hi) hln (by omega) (by omega) (by omega)) ?_;simp only[go_sem,seval,ne0,hdx,hbx];repeat' (apply wr<;>try simp only[go_sem,seval,hw,ne0])
  refine⟨(k+1,some (c+1+1)),by simp[],?_,inv ⟨by omega,by omega,(fun h=>by cases h),(fun i hi=>by cases hi;omega)⟩,by simp only;omega⟩;dsimp only[optH,todoV];rw[e0,A0T,C4,A0A,A0N];intro j b hj;by_cases e1:j=c+1+1
  ·subst e1;rw[h_same]at hj;rw[hnO,h_same, <- hj];rfl
  rw[h_ne e1]at hj;by_cases e2:j=2
  ·subst e2;rw[h_same]at hj ⊢;exact hj
  rw[h_ne e2]at hj ⊢;rw[h_ne e1];by_cases e3:j=1
  ·subst e3;rw[h_same]at hj;rw[B0 (fun i hi=>by have:=ho i hi;omega),hnO,hnO,hb1];exact hj
  rw[h_ne e3]at hj;by_cases e4:j=0
  ·subst e4;rw[h_same]at hj;rw[B0 (fun i hi=>by have:=ho i hi;omega),hnO,hnO,hbr];exact hj
  ·rw[h_ne e4]at hj;cases hj
 ·have hd:=dfz hlt;repeat' (apply wr<;>try simp only[go_sem,seval,hd,hbr])
  refine IW.keep [1,2,3,6] [.ptr 0 0,.ptr 1 0,.ptr 2 0,I64 0] (g_fin (Hb:=((Sym.nil.upd 0 ⟨0,true,[C3 D,C7 M]⟩).upd 1 ⟨0,true,[.snil,.snil]⟩)) (ci:=2) (u:=4) (pre:=[]) (suf:=[.snil]) (xs:=(F k).map Dc.v) (by simp[DV.one]) (fun h=>by rw[hno h];rfl) (fun i hi=>by have:=ho i hi;exact⟨by omega,by rw[hnO,hnO];rfl⟩) (by simp) (A3i _)) ?_;have hFD:F k=D.map Dc.plain:=by rw[hF,A0M (by omega)]
  rw[hFD];clear hno ho hbr hFD hlt hd hFl hF0 hF hk;obtain⟨G,hG⟩:∃ G:Nat->List Md, ∀ k,G k=(M.take k).map Md.plain:=⟨_,fun _=>rfl⟩;have hG0:G 0=[]:=by rw[hG];rfl
  have hGl:∀ k,(G k).length<=M.length:=fun k=>by rw[hG,A0C,A1B];omega
  refine A9 (fun q:Nat × Option Nat=>[(1,.ptr 0 0),(2,.ptr 1 0),(3,.ptr 2 0),(6,I64 q.1)]) (fun q=>optH (((Sym.nil.upd 0 ⟨0,true,[C3 D,C7 M]⟩).upd 1 ⟨0,true,[.snil,.snil]⟩).upd 2 ⟨0,true,[C3 (D.map Dc.plain),todoV q.2 (G q.1).length]⟩) q.2 ⟨4,true,cellsL ((G q.1).map Md.v)⟩)
   (fun q c=>3<=c/\q.1<=M.length/\(q.2=none->G q.1=[])/\(∀ i,q.2=some i->3<=i/\i<c)) (fun q=>M.length-q.1) (0,none)
   (by simp[C1,tm,Tm.upd]) (by rw[hG0];exact Sub.refl _) ⟨hc,A0O _,fun _=>hG0,(fun i hi=>by cases hi)⟩ ?_
  clear hc k c o;rintro⟨k,o⟩ c ⟨hc,hk,hno,ho⟩;dsimp only at hc hk hno ho ⊢;have hGk:=hGl k;have hbr:optH (((Sym.nil.upd 0 ⟨0,true,[C3 D,C7 M]⟩).upd 1 ⟨0,true,[.snil,.snil]⟩).upd 2 ⟨0,true,[C3 (D.map Dc.plain),todoV o (G k).length]⟩) o ⟨4,true,cellsL ((G k).map Md.v)⟩ 0=some ⟨0,true,[C3 D,C7 M]⟩:=by rw[B7 (fun i hi=>by have:=ho i hi;omega),hnO,hnO,h_same]
  have hbx:optH (((Sym.nil.upd 0 ⟨0,true,[C3 D,C7 M]⟩).upd 1 ⟨0,true,[.snil,.snil]⟩).upd 2 ⟨0,true,[C3 (D.map Dc.plain),todoV o (G k).length]⟩) o ⟨4,true,cellsL ((G k).map Md.v)⟩ 2=some ⟨0,true,[C3 (D.map Dc.plain),todoV o (G k).length]⟩:=by rw[B7 (fun i hi=>by have:=ho i hi;omega),h_same]
  have hb1:optH (((Sym.nil.upd 0 ⟨0,true,[C3 D,C7 M]⟩).upd 1 ⟨0,true,[.snil,.snil]⟩).upd 2 ⟨0,true,[C3 (D.map Dc.plain),todoV o (G k).length]⟩) o ⟨4,true,cellsL ((G k).map Md.v)⟩ 1=some ⟨0,true,[.snil,.snil]⟩:=by rw[B7 (fun i hi=>by have:=ho i hi;omega),hnO,h_same]
  have hbo:∀ i:Nat,o=some i->optH (((Sym.nil.upd 0 ⟨0,true,[C3 D,C7 M]⟩).upd 1 ⟨0,true,[.snil,.snil]⟩).upd 2 ⟨0,true,[C3 (D.map Dc.plain),todoV o (G k).length]⟩) o ⟨4,true,cellsL ((G k).map Md.v)⟩ i=some ⟨4,true,cellsL ((G k).map Md.v)⟩:=fun i hi=>by subst hi;exact h_same
  have hbn:∀ j:Nat,c<=j->optH (((Sym.nil.upd 0 ⟨0,true,[C3 D,C7 M]⟩).upd 1 ⟨0,true,[.snil,.snil]⟩).upd 2 ⟨0,true,[C3 (D.map Dc.plain),todoV o (G k).length]⟩) o ⟨4,true,cellsL ((G k).map Md.v)⟩ j=none:=fun j hj=>by rw[B7 (fun i hi=>by have:=ho i hi;omega),hnO,hnO,hnO];rfl
  have hT:(todoV o (G k).length).one=true:=by cases o<;>rfl
  have hdx:∀ X:Hp,delO X o 2=X 2:=fun X=>B0 (fun i hi=>by have:=ho i hi;omega);by_cases hlt:k<M.length
  ·have hd:=dtz hlt;have hg:=A0B hlt;have hw:=w64 (n:=(k:Int)+1);have e0:G (k+1)=G k++[M[k].plain]:=by rw[hG,hG,A0S,hg,A0T];rfl
   have hsx:=J5 (f:=Md.sz) (A0L hlt);generalize M[k]=x at hg hsx e0;have hxs:(x.hds.map Hd.sz).sum<Md.sz x:=by unfold Md.sz;omega
   have hxl:x.hds.length<=(x.hds.map Hd.sz).sum:=I2 fun x _=>by show 1<=1+_+_;omega
   have hln:(cellsL ((G k).map Md.v)).length=(G k).length * 4:=(C2 (u:=4) (A8m _)).trans (by simp);generalize hHH:optH (((Sym.nil.upd 0 ⟨0,true,[C3 D,C7 M]⟩).upd 1 ⟨0,true,[.snil,.snil]⟩).upd 2 ⟨0,true,[C3 (D.map Dc.plain),todoV o (G k).length]⟩) o ⟨4,true,cellsL ((G k).map Md.v)⟩=HH at hbr hbx hbo hb1 hbn ⊢;have ne0:=W3 0 1 2 (c+13) (by omega);repeat' (apply wr<;>try simp only[go_sem,seval,hd,hg,hbr,ne0,h_same,A5])
   obtain⟨K,hK⟩:∃ K:Nat->List Hd, ∀ j,K j=(x.hds.take j).map Hd.plain:=⟨_,fun _=>rfl⟩;have hK0:K 0=[]:=by rw[hK];rfl
   have hKl:∀ j,(K j).length<=x.hds.length:=fun j=>by rw[hK,A0C,A1B];omega
   refine A9 (fun q:Nat × Option Nat=>[(1,.ptr 0 0),(2,.ptr 1 0),(3,.ptr 2 0),(6,I64 k),(7,.ptr (c+13) 0),(8,I64 q.1)]) (fun q=>optH (HH.upd (c+13) ⟨0,true,[.str x.name,I64 x.prio,todoV q.2 (K q.1).length,I64 0]⟩) q.2 ⟨4,true,cellsL ((K q.1).map Hd.v)⟩)
    (fun q n=>c+15<=n/\q.1<=x.hds.length/\(q.2=none->K q.1=[])/\(∀ i,q.2=some i->c+15<=i/\i<n)) (fun q=>x.hds.length-q.1) (0,none)
    (by simp[C1,tm,Tm.upd]) (by rw[hK0];exact Sub.refl _) ⟨A0E _,A0O _,fun _=>hK0,(fun i hi=>by cases hi)⟩ ?_
   rintro⟨j,o2⟩ n ⟨hn,hj,hno2,ho2⟩;dsimp only at hn hj hno2 ho2 ⊢;have hKj:=hKl j;have h2r:optH (HH.upd (c+13) ⟨0,true,[.str x.name,I64 x.prio,todoV o2 (K j).length,I64 0]⟩) o2 ⟨4,true,cellsL ((K j).map Hd.v)⟩ 0=some ⟨0,true,[C3 D,C7 M]⟩:=by rw[B7 (fun i hi=>by have:=ho2 i hi;omega),hnO,hbr]
   have h2b:optH (HH.upd (c+13) ⟨0,true,[.str x.name,I64 x.prio,todoV o2 (K j).length,I64 0]⟩) o2 ⟨4,true,cellsL ((K j).map Hd.v)⟩ (c+13)=some ⟨0,true,[.str x.name,I64 x.prio,todoV o2 (K j).length,I64 0]⟩:=by rw[B7 (fun i hi=>by have:=ho2 i hi;omega),h_same]
   have h2o:∀ i:Nat,o2=some i->optH (HH.upd (c+13) ⟨0,true,[.str x.name,I64 x.prio,todoV o2 (K j).length,I64 0]⟩) o2 ⟨4,true,cellsL ((K j).map Hd.v)⟩ i=some ⟨4,true,cellsL ((K j).map Hd.v)⟩:=fun i hi=>by subst hi;exact h_same
   have h2n:∀ i:Nat,n<=i->optH (HH.upd (c+13) ⟨0,true,[.str x.name,I64 x.prio,todoV o2 (K j).length,I64 0]⟩) o2 ⟨4,true,cellsL ((K j).map Hd.v)⟩ i=none:=fun i hi=>by rw[B7 (fun i hi=>by have:=ho2 i hi;omega),hnO];exact hbn _ (by omega)
   have h2j:∀ i:Nat,i<c+13->optH (HH.upd (c+13) ⟨0,true,[.str x.name,I64 x.prio,todoV o2 (K j).length,I64 0]⟩) o2 ⟨4,true,cellsL ((K j).map Hd.v)⟩ i=HH i:=fun i hi=>by rw[B7 (fun i hi=>by have:=ho2 i hi;omega),hnO]
   have hT2:(todoV o2 (K j).length).one=true:=by cases o2<;>rfl
   have hdx2:∀ X:Hp,delO X o2 (c+13)=X (c+13):=fun X=>B0 (fun i hi=>by have:=ho2 i hi;omega);by_cases hjl:j<x.hds.length
   ·have hdj:decide ((j:Int)<(x.hds.length:Int))=true:=by simpa using hjl
    have hgj:=A0B hjl;have hwj:=w64 (n:=(j:Int)+1);have k0:K (j+1)=K j++[x.hds[j].plain]:=by rw[hK,hK,A0S,hgj,A0T];rfl
    have hsj:=J5 (f:=Hd.sz) (A0L hjl);generalize x.hds[j]=y at hgj hsj k0;have hbs:Pb.St.szs y.body<Hd.sz y:=by unfold Hd.sz;omega
    have cb:=c_plainS (Pb.St.szs y.body+1) y.body (by omega) (by omega);have hlj:(cellsL ((K j).map Hd.v)).length=(K j).length * 4:=(C2 (u:=4) (A3d _)).trans (by simp);generalize hH2:optH (HH.upd (c+13) ⟨0,true,[.str x.name,I64 x.prio,todoV o2 (K j).length,I64 0]⟩) o2 ⟨4,true,cellsL ((K j).map Hd.v)⟩=H2 at h2r h2b h2o h2n h2j ⊢;have ne0:=A2a 0 1 2 (c+13) n (by omega);repeat' ((with_reducible first|apply wr|refine cpc cb ?_|fail)<;>try simp only[go_sem,seval,hdj,hg,hgj,h2r,h2b,ne0,h_same,A5])
    refine⟨by and_intros<;>(repeat rw[hnO])<;>exact h2n _ (by omega),?_⟩;rw[D5 (cs:=cellsL ((K j).map Hd.v)) (fun e=>by rw[hno2 e];exact⟨rfl,rfl⟩) (fun i hi=>by have:=ho2 i hi;rw[hnO,hnO];exact h2o i hi) hlj (by omega) (by omega) (by omega)];have ne0:=D7j 0 1 2 (c+13) n (n+1+10) (n+1+14) (by omega);simp only[go_sem,seval,ne0,hdx2,h2b];repeat' (apply wr<;>try simp only[go_sem,seval,ne0,hwj])
    refine⟨(j+1,some (n+1+14)),by simp,?_,inv ⟨by omega,by omega,(fun h=>by cases h),(fun i hi=>by cases hi;omega)⟩,by simp only;omega⟩;dsimp only[optH,todoV];rw[k0,A0T,C4,A0A,A0N];intro i b hi;by_cases e1:i=n+1+14
    ·subst e1;rw[h_same]at hi;rw[hnO,h_same, <- hi];simp only[Hd.plain,Pb.St.plains_map];rfl
    rw[h_ne e1]at hi;by_cases e2:i=c+13
    ·subst e2;rw[h_same]at hi ⊢;exact hi
    rw[h_ne e2]at hi ⊢;rw[h_ne e1];have hic:i<c:=Classical.byContradiction fun h=>by rw[hbn i (by omega)]at hi;cases hi
    rw[B0 (fun i' hi'=>by have:=ho2 i' hi';omega),hnO,hnO,h2j i (by omega)];exact hi
   ·have hdj:decide ((j:Int)<(x.hds.length:Int))=false:=by simpa using hjl
    have ne0:=A2a 0 1 2 (c+13) n (by omega);repeat' ((with_reducible first|refine H9 (p:=IW _ _ (pz Tryz.prog 36 (.o (.o (.o (.i (.i .h)))))) _ _) ?_|refine wr ?_|fail)<;>try simp only[go_sem,seval,hdj,hg,h2r,ne0])
    unfold B1f;have hKM:K j=x.hds.map Hd.plain:=by rw[hK,A0M (by omega)]
    refine IW.keep [1,2,3,6,7] [.ptr 0 0,.ptr 1 0,.ptr 2 0,I64 k,.ptr (c+13) 0] (g_fin (Hb:=HH) (ci:=c+13) (u:=4) (pre:=[.str x.name,I64 x.prio]) (suf:=[I64 0]) (xs:=(K j).map Hd.v) (by simp[DV.one]) (fun h=>by rw[hno2 h];rfl) (fun i hi=>by have:=ho2 i hi;exact⟨by omega,hbn _ (by omega)⟩) (by simp) (A3d _)) ?_;rw[hKM];dsimp only[List.cons_append,List.nil_append];show IW Tryz.prog _ _ ⟨tm [(1,.ptr 0 0),(2,.ptr 1 0),(3,.ptr 2 0),(6,I64 k),(7,.ptr (c+13) 0)],_,_⟩ _;have ne0:=A5k 0 1 2 (c+13) n (n+1) (by omega);repeat' (apply wr<;>try simp only[go_sem,seval,hbx,ne0,h_same])
    refine F4 (D5 (cs:=cellsL ((G k).map Md.v)) (fun e=>by rw[hno e];exact⟨rfl,rfl⟩) (fun i hi=>by have:=ho i hi;rw[hnO,hnO];exact hbo i hi) hln (by omega) (by omega) (by omega)) ?_;simp only[go_sem,seval,ne0,hdx,hbx];repeat' (apply wr<;>try simp only[go_sem,seval,hw,ne0])
    refine⟨(k+1,some (n+1)),by simp[],?_,inv ⟨by omega,by omega,(fun h=>by cases h),(fun i hi=>by cases hi;omega)⟩,by simp only;omega⟩;dsimp only[optH,todoV];rw[e0,A0T,C4,A0A,A0N];intro i b hi;by_cases e1:i=n+1
    ·subst e1;rw[h_same]at hi;rw[hnO,h_same, <- hi];rfl
    rw[h_ne e1]at hi;by_cases e2:i=2
    ·subst e2;rw[h_same]at hi ⊢;exact hi
    rw[h_ne e2]at hi ⊢;rw[h_ne e1];by_cases e3:i=1
    ·subst e3;rw[h_same]at hi;rw[B0 (fun i hi=>by have:=ho i hi;omega),hnO,hnO,hb1];exact hi
    rw[h_ne e3]at hi;by_cases e4:i=0
    ·subst e4;rw[h_same]at hi;rw[B0 (fun i hi=>by have:=ho i hi;omega),hnO,hnO,hbr];exact hi
    ·rw[h_ne e4]at hi;cases hi
  ·have hd:=dfz hlt;generalize hHH:optH (((Sym.nil.upd 0 ⟨0,true,[C3 D,C7 M]⟩).upd 1 ⟨0,true,[.snil,.snil]⟩).upd 2 ⟨0,true,[C3 (D.map Dc.plain),todoV o (G k).length]⟩) o ⟨4,true,cellsL ((G k).map Md.v)⟩=HH at hbr hbx hbo hb1 hbn ⊢;have ne0:=R9 0 1 2 (by omega);repeat' (apply wr<;>try simp only[go_sem,seval,hd,hbr,hbx,hb1,ne0])
   refine F4 (A6e (by rfl) (by decide) (by cases o<;>rfl)) ?_;simp only[go_sem,seval];repeat' (apply wr<;>try simp only[go_sem,seval])
   rw[I1 (rv2 rfl rfl)];have hGM:M.map Md.plain=G k:=by rw[hG,A0M (by omega)]
   rw[hGM];exact⟨Sym.nil,D4e (cc:=0) (G k) (fun _ _=>rfl) (fun _ _=>A0O _) hno (fun i hi=>by have:=ho i hi;show (HH.upd 1 _) i=_;rw[hnO];exact hbo i hi) (fun j hj=>by omega)⟩
theorem c_ValidR31(r:Ru)(hB:r.sz<4000000):PC Tryz.prog 27 [r.v] (.bool (C2v r)):=by
 refine PC.go A2 ?_;have hg:=C8k r;have hGT:∀ t∈ruT r,J3 t:=fun t ht=>(hg t ht).1;have hval:∀ t∈ruT r,0<=t.value/\t.value<=9223372036854775807:=fun t ht=>by have:=(hg t ht).2;omega
 obtain⟨l1,l2⟩:=D0z r;have hsz:=D0y (E:=0) hGT;have ht:=c_rulesT r hB (by omega);have hp:=c_Plain31 r (by omega);obtain⟨f,hf⟩:=(B3f (ruT r) 0).get;have hr:=c_rules (ruT r) 0 (by omega) hval f rd0 _ hf (A0O _);have hv:C2v r=(okR (A7y (ruT r) 0).2 && B7w (A7y (ruT r) 0).1.plain r.plain):=rfl;rw[hv];have hpo:=c_Plain31 (A7y (ruT r) 0).1 (by omega);have hps:(A7y (ruT r) 0).1.plain.sz<=100000000000:=by rw[Ru.plain_sz];omega
 have hsm:=c_Same31 (A7y (ruT r) 0).1.plain r.plain hps;generalize A7y (ruT r) 0=w at hr hpo hsm hsz ⊢;generalize hL:ruT r=L at ht hr;repeat' ((with_reducible first|apply wr|refine cpc ht ?_|fail)<;>try simp only[go_sem,seval])
 refine AC.call (hr _ _ 1 rfl (by decide)) ?_;rintro v H' c2 ⟨rfl,rfl⟩ hc2;dsimp only at hc2 ⊢;have ne0:=R9 0 1 c2 (by omega);simp only[go_sem,seval,h_same,A5];repeat' (apply wr<;>try simp only[go_sem,seval])
 refine AC.call (c_rdok L 0 w.2 _ _ 1 (by rw[hnO];exact h_same) (by omega)) ?_;rintro v H' c3 ⟨rfl,rfl⟩ hc3;cases hok:okR w.2 with
 |false =>
  simp only[go_sem,seval];repeat' (apply wr<;>try simp only[go_sem,seval,hok,ne0,h_same,A5])
  refine⟨by repeat rw[hnO]<;>rfl,?_⟩;repeat' (apply wr<;>try simp only[go_sem,seval])
  exact⟨_,GL.refl _ _⟩
 |true =>
  simp only[go_sem,seval,ne0,h_same];repeat' ((with_reducible first|apply wr|refine cpc hpo ?_|fail)<;>try simp only[go_sem,seval,ne0,h_same])
  refine⟨by and_intros<;>(repeat rw[hnO])<;>rfl,?_⟩;repeat' ((with_reducible first|apply wr|refine cpc hp ?_|refine cpc hsm ?_|fail)<;>try simp only[go_sem,seval])
  exact⟨_,GL.refl _ _⟩
end Go.Proofs.YtkkjpohaffjecaaGreatDoor
set_option maxHeartbeats 4000000
namespace Go.Proofs.YtkkjpohaffjecaaGreatDoor
open Go.Eng (IC IOper DReg IFn L2)
open Go.Sym
abbrev x224:XT Tryz.prog 224:=mkF
instance t224:FT Tryz.prog 224 x224.d:=x224.ft
abbrev x153:XT Tryz.prog 153:=mkF
instance t153:FT Tryz.prog 153 x153.d:=x153.ft
abbrev x231:XT Tryz.prog 231:=mkF
instance t231:FT Tryz.prog 231 x231.d:=x231.ft
abbrev x227:XT Tryz.prog 227:=mkF
instance t227:FT Tryz.prog 227 x227.d:=x227.ft
abbrev x226:XT Tryz.prog 226:=mkF
instance t226:FT Tryz.prog 226 x226.d:=x226.ft
abbrev x210:XT Tryz.prog 210:=mkF
instance t210:FT Tryz.prog 210 x210.d:=x210.ft
abbrev x271:XT Tryz.prog 271:=mkF
instance t271:FT Tryz.prog 271 x271.d:=x271.ft
abbrev x135:XT Tryz.prog 135:=mkF
instance t135:FT Tryz.prog 135 x135.d:=x135.ft
abbrev x203:XT Tryz.prog 203:=mkF
instance t203:FT Tryz.prog 203 x203.d:=x203.ft
abbrev x204:XT Tryz.prog 204:=mkF
instance t204:FT Tryz.prog 204 x204.d:=x204.ft
abbrev x270:XT Tryz.prog 270:=mkF
instance t270:FT Tryz.prog 270 x270.d:=x270.ft
abbrev x66:XT Tryz.prog 66:=mkF
instance t66:FT Tryz.prog 66 x66.d:=x66.ft
abbrev x69:XT Tryz.prog 69:=mkF
instance t69:FT Tryz.prog 69 x69.d:=x69.ft
abbrev x26:XT Tryz.prog 26:=mkF
instance t26:FT Tryz.prog 26 x26.d:=x26.ft
abbrev x65:XT Tryz.prog 65:=mkF
instance t65:FT Tryz.prog 65 x65.d:=x65.ft
abbrev x68:XT Tryz.prog 68:=mkF
instance t68:FT Tryz.prog 68 x68.d:=x68.ft
abbrev x100:XT Tryz.prog 100:=mkF
instance t100:FT Tryz.prog 100 x100.d:=x100.ft
abbrev x174:XT Tryz.prog 174:=mkF
instance t174:FT Tryz.prog 174 x174.d:=x174.ft
abbrev x64:XT Tryz.prog 64:=mkF
instance t64:FT Tryz.prog 64 x64.d:=x64.ft
abbrev x132:XT Tryz.prog 132:=mkF
instance t132:FT Tryz.prog 132 x132.d:=x132.ft
abbrev x67:XT Tryz.prog 67:=mkF
instance t67:FT Tryz.prog 67 x67.d:=x67.ft
abbrev x134:XT Tryz.prog 134:=mkF
instance t134:FT Tryz.prog 134 x134.d:=x134.ft
abbrev x202:XT Tryz.prog 202:=mkF
instance t202:FT Tryz.prog 202 x202.d:=x202.ft
abbrev x268:XT Tryz.prog 268:=mkF
instance t268:FT Tryz.prog 268 x268.d:=x268.ft
abbrev x269:XT Tryz.prog 269:=mkF
instance t269:FT Tryz.prog 269 x269.d:=x269.ft
abbrev x319:XT Tryz.prog 319:=mkF
instance t319:FT Tryz.prog 319 x319.d:=x319.ft
end Go.Proofs.YtkkjpohaffjecaaGreatDoor
set_option maxHeartbeats 8000000
namespace Go.Proofs.YtkkjpohaffjecaaGreatDoor
open Go.Eng (IC IOper DReg IFn L2)
open Go.Sym Go.Pb
theorem c_IF_hd{g:Hd->Bool}{f:Nat}{a cs:List DV}(xs:List (Hd))(hx:xs.length<=9223372036854775807)(na:DV.nlL a=true)(ncs:DV.nlL cs=true)(hf:∀ x∈xs,PC Tryz.prog f (a++[Hd.v x]++cs) (.bool (g x))):
  PC Tryz.prog 174 [K8 xs,.func f a cs] (I64 (O5 g xs 0)):=by
 refine PC.ofT A2 rfl (A0D rfl) (by simp[DV.nlL,DV.nl,B3q,na,ncs]) rfl ?_;repeat' (apply wr<;>try simp only[go_sem,seval,A0C])
 refine A9 (fun k:Nat=>[(0,K8 xs),(1,.func f a cs),(7,I64 xs.length),(8,I64 k)]) (fun _=>nil) (fun k _=>k<=xs.length/\O5 g xs 0=O5 g (xs.drop k) k) (fun k=>xs.length-k) 0 (by simp[C1,tm,Tm.upd]) (Sub.nil _) (by simp) ?_;rintro k c ⟨hk,he⟩;by_cases hlt:k<xs.length
 ·have hd:=dtz hlt;have hg:=A0B hlt;have hw:=w64 (n:=(k:Int)+1);have hst:=P8 (g:=g) hg;have hc:=hf xs[k] (A0L hlt);repeat' ((with_reducible first|refine wr ?_|refine cpc hc ?_|refine wb2 ?_ ?_<;>(intro hb;try simp only[hb])|fail)<;>try simp only[go_sem,seval,hd,hg,hw])
  ·refine A3 ?_;rw[he,hst,hb];rfl
  ·exact⟨k+1,rfl,Sub.refl _,inv ⟨by omega,by rw[he,hst,hb];rfl⟩,by omega⟩
 ·have hd:=dfz hlt;repeat' (apply wr<;>try simp only[go_sem,seval,hd])
  refine A3 ?_;rw[he,U2 (by omega)]
theorem c_CF_hd{g:Hd->Bool}{f:Nat}{a cs:List DV}(xs:List (Hd))(hx:xs.length<=9223372036854775807)(na:DV.nlL a=true)(ncs:DV.nlL cs=true)(hf:∀ x∈xs,PC Tryz.prog f (a++[Hd.v x]++cs) (.bool (g x))):
  PC Tryz.prog 100 [K8 xs,.func f a cs] (.bool (xs.any g)):=by
 refine PC.ofT A2 rfl (A0D rfl) (by simp[DV.nlL,DV.nl,B3q,na,ncs]) rfl ?_;have hc:=c_IF_hd xs hx na ncs hf;repeat' ((with_reducible first|apply wr|refine cpc hc ?_|fail)<;>try simp only[go_sem,seval])
 refine A3 ?_;rw[U3]
theorem c_IF_dc{g:Dc->Bool}{f:Nat}{a cs:List DV}(xs:List (Dc))(hx:xs.length<=9223372036854775807)(na:DV.nlL a=true)(ncs:DV.nlL cs=true)(hf:∀ x∈xs,PC Tryz.prog f (a++[Dc.v x]++cs) (.bool (g x))):
  PC Tryz.prog 132 [C3 xs,.func f a cs] (I64 (O5 g xs 0)):=by
 refine PC.ofT A2 rfl (A0D rfl) (by simp[DV.nlL,DV.nl,K4,na,ncs]) rfl ?_;repeat' (apply wr<;>try simp only[go_sem,seval,A0C])
 refine A9 (fun k:Nat=>[(0,C3 xs),(1,.func f a cs),(7,I64 xs.length),(8,I64 k)]) (fun _=>nil) (fun k _=>k<=xs.length/\O5 g xs 0=O5 g (xs.drop k) k) (fun k=>xs.length-k) 0 (by simp[C1,tm,Tm.upd]) (Sub.nil _) (by simp) ?_;rintro k c ⟨hk,he⟩;by_cases hlt:k<xs.length
 ·have hd:=dtz hlt;have hg:=A0B hlt;have hw:=w64 (n:=(k:Int)+1);have hst:=P8 (g:=g) hg;have hc:=hf xs[k] (A0L hlt);repeat' ((with_reducible first|refine wr ?_|refine cpc hc ?_|refine wb2 ?_ ?_<;>(intro hb;try simp only[hb])|fail)<;>try simp only[go_sem,seval,hd,hg,hw])
  ·refine A3 ?_;rw[he,hst,hb];rfl
  ·exact⟨k+1,rfl,Sub.refl _,inv ⟨by omega,by rw[he,hst,hb];rfl⟩,by omega⟩
 ·have hd:=dfz hlt;repeat' (apply wr<;>try simp only[go_sem,seval,hd])
  refine A3 ?_;rw[he,U2 (by omega)]
theorem c_CF_dc{g:Dc->Bool}{f:Nat}{a cs:List DV}(xs:List (Dc))(hx:xs.length<=9223372036854775807)(na:DV.nlL a=true)(ncs:DV.nlL cs=true)(hf:∀ x∈xs,PC Tryz.prog f (a++[Dc.v x]++cs) (.bool (g x))):
  PC Tryz.prog 64 [C3 xs,.func f a cs] (.bool (xs.any g)):=by
 refine PC.ofT A2 rfl (A0D rfl) (by simp[DV.nlL,DV.nl,K4,na,ncs]) rfl ?_;have hc:=c_IF_dc xs hx na ncs hf;repeat' ((with_reducible first|apply wr|refine cpc hc ?_|fail)<;>try simp only[go_sem,seval])
 refine A3 ?_;rw[U3]
theorem c_IF_md{g:Md->Bool}{f:Nat}{a cs:List DV}(xs:List (Md))(hx:xs.length<=9223372036854775807)(na:DV.nlL a=true)(ncs:DV.nlL cs=true)(hf:∀ x∈xs,PC Tryz.prog f (a++[Md.v x]++cs) (.bool (g x))):
  PC Tryz.prog 134 [C7 xs,.func f a cs] (I64 (O5 g xs 0)):=by
 refine PC.ofT A2 rfl (A0D rfl) (by simp[DV.nlL,DV.nl,K3,na,ncs]) rfl ?_;repeat' (apply wr<;>try simp only[go_sem,seval,A0C])
 refine A9 (fun k:Nat=>[(0,C7 xs),(1,.func f a cs),(7,I64 xs.length),(8,I64 k)]) (fun _=>nil) (fun k _=>k<=xs.length/\O5 g xs 0=O5 g (xs.drop k) k) (fun k=>xs.length-k) 0 (by simp[C1,tm,Tm.upd]) (Sub.nil _) (by simp) ?_;rintro k c ⟨hk,he⟩;by_cases hlt:k<xs.length
 ·have hd:=dtz hlt;have hg:=A0B hlt;have hw:=w64 (n:=(k:Int)+1);have hst:=P8 (g:=g) hg;have hc:=hf xs[k] (A0L hlt);repeat' ((with_reducible first|refine wr ?_|refine cpc hc ?_|refine wb2 ?_ ?_<;>(intro hb;try simp only[hb])|fail)<;>try simp only[go_sem,seval,hd,hg,hw])
  ·refine A3 ?_;rw[he,hst,hb];rfl
  ·exact⟨k+1,rfl,Sub.refl _,inv ⟨by omega,by rw[he,hst,hb];rfl⟩,by omega⟩
 ·have hd:=dfz hlt;repeat' (apply wr<;>try simp only[go_sem,seval,hd])
  refine A3 ?_;rw[he,U2 (by omega)]
theorem c_CF_md{g:Md->Bool}{f:Nat}{a cs:List DV}(xs:List (Md))(hx:xs.length<=9223372036854775807)(na:DV.nlL a=true)(ncs:DV.nlL cs=true)(hf:∀ x∈xs,PC Tryz.prog f (a++[Md.v x]++cs) (.bool (g x))):
  PC Tryz.prog 67 [C7 xs,.func f a cs] (.bool (xs.any g)):=by
 refine PC.ofT A2 rfl (A0D rfl) (by simp[DV.nlL,DV.nl,K3,na,ncs]) rfl ?_;have hc:=c_IF_md xs hx na ncs hf;repeat' ((with_reducible first|apply wr|refine cpc hc ?_|fail)<;>try simp only[go_sem,seval])
 refine A3 ?_;rw[U3]
theorem c_IF_st{g:Pb.St->Bool}{f:Nat}{a cs:List DV}(xs:List (Pb.St))(hx:xs.length<=9223372036854775807)(na:DV.nlL a=true)(ncs:DV.nlL cs=true)(hf:∀ x∈xs,PC Tryz.prog f (a++[Pb.St.v x]++cs) (.bool (g x))):
  PC Tryz.prog 268 [D3 xs,.func f a cs] (I64 (O5 g xs 0)):=by
 refine PC.ofT A2 rfl (A0D rfl) (by simp[DV.nlL,DV.nl,W1,na,ncs]) rfl ?_;repeat' (apply wr<;>try simp only[go_sem,seval,A0C])
 refine A9 (fun k:Nat=>[(0,D3 xs),(1,.func f a cs),(7,I64 xs.length),(8,I64 k)]) (fun _=>nil) (fun k _=>k<=xs.length/\O5 g xs 0=O5 g (xs.drop k) k) (fun k=>xs.length-k) 0 (by simp[C1,tm,Tm.upd]) (Sub.nil _) (by simp) ?_;rintro k c ⟨hk,he⟩;by_cases hlt:k<xs.length
 ·have hd:=dtz hlt;have hg:=A0B hlt;have hw:=w64 (n:=(k:Int)+1);have hst:=P8 (g:=g) hg;have hc:=hf xs[k] (A0L hlt);rw[Pb.St.v_w]at hc;repeat' ((with_reducible first|refine wr ?_|refine cpc hc ?_|refine wb2 ?_ ?_<;>(intro hb;try simp only[hb])|fail)<;>try simp only[go_sem,seval,hd,hg,hw,Pb.St.v_w])
  ·refine A3 ?_;rw[he,hst,hb];rfl
  ·exact⟨k+1,rfl,Sub.refl _,inv ⟨by omega,by rw[he,hst,hb];rfl⟩,by omega⟩
 ·have hd:=dfz hlt;repeat' (apply wr<;>try simp only[go_sem,seval,hd])
  refine A3 ?_;rw[he,U2 (by omega)]
theorem c_CF_st{g:Pb.St->Bool}{f:Nat}{a cs:List DV}(xs:List (Pb.St))(hx:xs.length<=9223372036854775807)(na:DV.nlL a=true)(ncs:DV.nlL cs=true)(hf:∀ x∈xs,PC Tryz.prog f (a++[Pb.St.v x]++cs) (.bool (g x))):
  PC Tryz.prog 202 [D3 xs,.func f a cs] (.bool (xs.any g)):=by
 refine PC.ofT A2 rfl (A0D rfl) (by simp[DV.nlL,DV.nl,W1,na,ncs]) rfl ?_;have hc:=c_IF_st xs hx na ncs hf;repeat' ((with_reducible first|apply wr|refine cpc hc ?_|fail)<;>try simp only[go_sem,seval])
 refine A3 ?_;rw[U3]
theorem c_IF_ex{g:Ex->Bool}{f:Nat}{a cs:List DV}(xs:List (Ex))(hx:xs.length<=9223372036854775807)(na:DV.nlL a=true)(ncs:DV.nlL cs=true)(hf:∀ x∈xs,PC Tryz.prog f (a++[Ex.v x]++cs) (.bool (g x))):
  PC Tryz.prog 319 [G9 xs,.func f a cs] (I64 (O5 g xs 0)):=by
 refine PC.ofT A2 rfl (A0D rfl) (by simp[DV.nlL,DV.nl,A1f,na,ncs]) rfl ?_;repeat' (apply wr<;>try simp only[go_sem,seval,A0C])
 refine A9 (fun k:Nat=>[(0,G9 xs),(1,.func f a cs),(7,I64 xs.length),(8,I64 k)]) (fun _=>nil) (fun k _=>k<=xs.length/\O5 g xs 0=O5 g (xs.drop k) k) (fun k=>xs.length-k) 0 (by simp[C1,tm,Tm.upd]) (Sub.nil _) (by simp) ?_;rintro k c ⟨hk,he⟩;by_cases hlt:k<xs.length
 ·have hd:=dtz hlt;have hg:=A0B hlt;have hw:=w64 (n:=(k:Int)+1);have hst:=P8 (g:=g) hg;have hc:=hf xs[k] (A0L hlt);rw[Ex.v_w]at hc;repeat' ((with_reducible first|refine wr ?_|refine cpc hc ?_|refine wb2 ?_ ?_<;>(intro hb;try simp only[hb])|fail)<;>try simp only[go_sem,seval,hd,hg,hw,Ex.v_w])
  ·refine A3 ?_;rw[he,hst,hb];rfl
  ·exact⟨k+1,rfl,Sub.refl _,inv ⟨by omega,by rw[he,hst,hb];rfl⟩,by omega⟩
 ·have hd:=dfz hlt;repeat' (apply wr<;>try simp only[go_sem,seval,hd])
  refine A3 ?_;rw[he,U2 (by omega)]
theorem c_CF_ex{g:Ex->Bool}{f:Nat}{a cs:List DV}(xs:List (Ex))(hx:xs.length<=9223372036854775807)(na:DV.nlL a=true)(ncs:DV.nlL cs=true)(hf:∀ x∈xs,PC Tryz.prog f (a++[Ex.v x]++cs) (.bool (g x))):
  PC Tryz.prog 269 [G9 xs,.func f a cs] (.bool (xs.any g)):=by
 refine PC.ofT A2 rfl (A0D rfl) (by simp[DV.nlL,DV.nl,A1f,na,ncs]) rfl ?_;have hc:=c_IF_ex xs hx na ncs hf;repeat' ((with_reducible first|apply wr|refine cpc hc ?_|fail)<;>try simp only[go_sem,seval])
 refine A3 ?_;rw[U3]
theorem D1j{H:Hp}{a b:Bool}(h:a=b):∃ H2,GL H [.bool a] H2 [.bool b]:=⟨H,by rw[h];exact GL.refl _ _⟩
theorem B4y{b1 b2 b3:Blk}{cc:Nat}(u:Unit)(h:1<=cc):Sym.Sub (Sym.nil.upd 0 b1) (((Sym.nil.upd 0 b1).upd cc b2).upd cc b3):=by
 intro j b hj;simp only[Hp.upd,Sym.nil]at hj ⊢;split at hj
 ·rename_i h0;rw[if_neg (by omega),if_neg (by omega),if_pos h0];exact hj
 ·cases hj
theorem c_levS(k:Int):PC Tryz.prog 227 [I64 k] (I64 (B6 k)):=by
 refine PC.go A2 ?_;repeat' ((with_reducible first|refine wr ?_|refine wb2 ?_ ?_<;>(intro hb;try simp only[hb])|fail)<;>try simp only[go_sem,seval])
 all_goals refine A3 (congrArg I64 ?_)
 all_goals simp_all[B6]
 all_goals omega
theorem c_namedS(k:Int):PC Tryz.prog 231 [I64 k] (.bool (B5s k)):=by
 refine PC.go A2 ?_;repeat' ((with_reducible first|refine wr ?_|refine wb2 ?_ ?_<;>(intro hb;try simp only[hb])|fail)<;>try simp only[go_sem,seval])
 all_goals refine A3 (congrArg DV.bool ?_)
 all_goals (cases h5:k == 5<;>cases h6:k == 6<;>cases h7:k == 7<;>simp_all[B5s])
theorem c_wrapped(e x:Ex)(i:Nat)(h:e.args[i]? = some x)(hi:i<=1):PC Tryz.prog 226 [e.v,I64 i] (.bool (Y7 e.kind x.kind i)):=by
 refine PC.go A2 ?_;rw[Ex.v_w];have h1:=c_levS e.kind;have h2:=c_levS x.kind;repeat' ((with_reducible first|refine wr ?_|refine cpc h1 ?_|refine cpc h2 ?_|refine wb2 ?_ ?_<;>(intro hb;try simp only[hb])|fail)<;>try simp only[go_sem,seval,h,Ex.v_w])
 all_goals refine D1j ?_
 all_goals unfold Y7
 all_goals (cases hi1:i == 1<;>cases h3:B6 e.kind == 3<;>simp_all)
 all_goals omega
theorem c_measure:∀ (m:Nat) (e:Ex),e.sz<m->e.sz<=100000000->PC Tryz.prog 224 [e.v] (msV (msM e)):=by
 intro m
 induction m with
 |zero=>intro e h;omega
 |succ m ih =>
 intro e hm hB;have hnl:=e.sz_name;have hx:∀ x∈e.args,PC Tryz.prog 224 [x.v] (msV (msM x)):=fun x hx=>ih x (by have:=Ex.sz_arg hx;omega) (by have:=Ex.sz_arg hx;omega);have hwr:∀ (x:Ex) (i:Nat),e.args[i]? = some x->i<=1->PC Tryz.prog 226 [e.w,I64 i] (.bool (Y7 e.kind x.kind i)):=fun x i h hi=>by have:=c_wrapped e x i h hi;rwa [Ex.v_w]at this
 refine PC.ofT A2 rfl (A0D rfl) (by simp[DV.nlL,Ex.nl]) (D7m _) ?_;rw[Ex.v_w];obtain⟨R,hR⟩:∃ R,R=msV (msM e):=⟨_,rfl⟩;rw[<- hR];have hle:=B8j e.kind 0 e.args;have hal:Ex.szs e.args<e.sz:=by cases e with|mk k v n a p=>rw[Ex.sz];show Ex.szs a<_;omega
 have hargs:∀ x∈e.args,x.sz<=Ex.szs e.args:=fun x hx=>Ex.szs_mem hx;cases e with|mk k v n a p =>
 rw[msM]at hR;dsimp only[Ex.w,Ex.kind,Ex.value,Ex.name,Ex.args,Ex.pos]at hx hwr hle hal hargs hnl ⊢;have hl:=c_levS k;have hnk:=c_namedS k;have hin:=c_IsName n (by omega);have none0:kOk k=false\/a.length≠I7 k\/A4n k n=false\/A1x k v=false->R=.tup [I64 0,I64 0,.bool false]:=fun h=>by rw[hR,if_pos h];rfl
 have ci:((I7 k:Nat):Int)<=2:=by unfold I7;(repeat' split)<;>decide
 have kA:∀ nm vl:Bool,A4n k n=nm->A1x k v=vl->kOk k=true->IW Tryz.prog 113 (pz Tryz.prog 224 (.o (.i (.o (.o (.o .h)))))) ⟨tm [(1,.ptr 0 0),(2,I64 0),(3,I64 0),(5,I64 (I7 k)),(7,.bool nm),(8,.bool vl)],Sym.nil.upd 0 ⟨0,true,[I64 k,I64 v,.str n,G9 a,I64 p]⟩,1⟩ (rt [.tmp 2,.tmp 3,.tmp 4] fun v H' x => ∃ H2,GL H' [v] H2 [R]):=by
  intro nm vl hnm hvl hkk;by_cases hlen:a.length=I7 k
  ·have d0:((a.length:Int) != (I7 k:Int))=false:=by simp[hlen]
   cases nm with
   |false =>
    repeat' (apply wr<;>try simp only[go_sem,seval,d0])
    exact A3 (none0 (.inr (.inr (.inl hnm)))).symm
   |true =>
    cases vl with
    |false =>
     repeat' (apply wr<;>try simp only[go_sem,seval,d0])
     exact A3 (none0 (.inr (.inr (.inr hvl)))).symm
    |true =>
     rw[if_neg (by simp[hkk,hnm,hvl,hlen])]at hR;by_cases hc0:I7 k=0
     ·have d1:((I7 k:Int) == 0)=true:=by simp[hc0]
      rw[if_pos hc0]at hR;repeat' (apply wr<;>try simp only[go_sem,seval,d0,d1])
      exact A3 hR.symm
     ·have d1:((I7 k:Int) == 0)=false:=by simp[hc0]
      rw[if_neg hc0]at hR;repeat' (apply wr<;>try simp only[go_sem,seval,d0,d1])
      have hl2:a.length<=2:=by omega
      refine A9 (fun q:Nat × Nat × Nat=>[(1,.ptr 0 0),(5,I64 (I7 k)),(80,G9 a),(81,I64 a.length),(82,I64 q.1),(2,I64 q.2.1),(3,I64 q.2.2)]) (fun _=>Sym.nil.upd 0 ⟨0,true,[I64 k,I64 v,.str n,G9 a,I64 p]⟩)
       (fun q cc=>1<=cc/\q.1<=a.length/\q.2.1<=q.1 * 1000000000/\q.2.2<=1000000000/\msL k 0 a=(match msL k q.1 (a.drop q.1) with
        |none=>none
        |some (o2,d2)=>some (q.2.1+o2,max q.2.2 d2))) (fun q=>a.length-q.1) (0,0,0) (by simp[C1,tm,Tm.upd]) (Sub.refl _)
       ⟨A0E _,A0O _,A0O _,A0O _,by
        rw[A4E];cases msL k 0 a with
        |none=>rfl
        |some q=>obtain⟨o2,d2⟩:=q;simp⟩ ?_
      rintro⟨i,o,d⟩ cc ⟨h1c,hk,ho,hd3,he⟩;dsimp only at hk ho hd3 he ⊢;by_cases hlt:i<a.length
      ·have hd:=dtz hlt;have hg:=A0B hlt;have hw:=w64 (n:=(i:Int)+1);rw[C7l hg]at he;have hmx:=hx _ (A0L hlt);have hax:=hargs _ (A0L hlt);have hwx:=hwr _ i hg (by omega);have hms:=D3v a[i];generalize a[i]=x at hg he hmx hax hwx hms;rw[Ex.v_w]at hmx;have hwx:PC Tryz.prog 226 [DV.agg [I64 k,I64 v,DV.str n,G9 a,I64 p],I64 i] (.bool (Y7 k x.kind i)):=hwx;have ne0:=A0m 0 cc (by omega);cases hq:msM x with
       |none =>
        rw[hq]at he hmx;dsimp only[msV]at he hmx;rw[he]at hR;repeat' ((with_reducible first|apply wr|refine cpc hmx ?_|fail)<;>try simp only[go_sem,seval,hd,hg,Ex.v_w])
        exact A3 hR.symm
       |some qq =>
        obtain⟨o1,d1'⟩:=qq;rw[hq]at he hmx;dsimp only[msV]at he hmx;have:=hms o1 d1' hq;have w1:=w64 (n:=(o:Int)+(o1:Int));have w2:=w64 (n:=(d1':Int)+1);cases hwb:Y7 k x.kind i with
        |true =>
         rw[hwb]at he;repeat' ((with_reducible first|apply wr|refine cpc hmx ?_|refine cpc hwx ?_|fail)<;>try simp only[go_sem,seval,hd,hg,hw,Ex.v_w,ne0,hwb,w1,w2])
         all_goals (refine⟨(i+1,o+o1,max d (d1'+1)),⟨by simp,by simp,?_⟩,?_,inv ⟨by omega,by simp only;omega,by simp only;omega,by simp only;omega,?_⟩,by simp only;omega⟩)
         all_goals first
          |(refine congrArg I64 ?_;dsimp only;split<;>omega)
          |exact B4y () h1c
          |(rw[he];dsimp only;cases msL k (i+1) (a.drop (i+1)) with
           |none=>rfl
           |some q=>obtain⟨o2,d2⟩:=q;simp[A2S,Nat.max_assoc])
        |false =>
         rw[hwb]at he;repeat' ((with_reducible first|apply wr|refine cpc hmx ?_|refine cpc hwx ?_|fail)<;>try simp only[go_sem,seval,hd,hg,hw,Ex.v_w,ne0,hwb,w1])
         all_goals (refine⟨(i+1,o+o1,max d (d1')),⟨by simp,by simp,?_⟩,?_,inv ⟨by omega,by simp only;omega,by simp only;omega,by simp only;omega,?_⟩,by simp only;omega⟩)
         all_goals first
          |(refine congrArg I64 ?_;dsimp only;split<;>omega)
          |exact B4y () h1c
          |(rw[he];dsimp only;cases msL k (i+1) (a.drop (i+1)) with
           |none=>rfl
           |some q=>obtain⟨o2,d2⟩:=q;simp[A2S,Nat.max_assoc])
      ·have hd:=dfz hlt;rw[A1Q (by omega)]at he;have w1:=w64 (n:=(d:Int)+1);by_cases hc1:I7 k=1
       ·have e1:((I7 k:Int) == 1)=true:=by simp[hc1]
        rw[he,hc1]at hR;repeat' (apply wr<;>try simp only[go_sem,seval,hd,e1,w1])
        refine A3 ?_;rw[hR];simp[msV,msL]
       ·have e1:((I7 k:Int) == 1)=false:=by simp;omega
        rw[he]at hR;simp only[if_neg hc1]at hR;repeat' (apply wr<;>try simp only[go_sem,seval,hd,e1])
        refine A3 ?_;rw[hR];simp[msV,msL]
  ·have d0:((a.length:Int) != (I7 k:Int))=true:=by simp;omega
   repeat' (apply wr<;>try simp only[go_sem,seval,d0])
   exact A3 (none0 (.inr (.inl hlen))).symm
 have kB:∀ nm:Bool,A4n k n=nm->kOk k=true->IW Tryz.prog 113 (pz Tryz.prog 224 (.o (.o (.o (.o (.o .h)))))) ⟨tm [(1,.ptr 0 0),(2,I64 0),(3,I64 0),(5,I64 (I7 k)),(7,.bool nm)],Sym.nil.upd 0 ⟨0,true,[I64 k,I64 v,.str n,G9 a,I64 p]⟩,1⟩ (rt [.tmp 2,.tmp 3,.tmp 4] fun v H' x => ∃ H2,GL H' [v] H2 [R]):=by
  intro nm hnm hkk;repeat' ((with_reducible first|refine H9 (p:=IW _ _ (pz Tryz.prog 224 (.o (.i (.o (.o (.o .h)))))) _ _) ?_|refine wr ?_|refine wb2 ?_ ?_<;>(intro hb;try simp only[hb])|fail)<;>try simp only[go_sem,seval])
  all_goals refine IW.stage (L:=[(1,.ptr 0 0),(2,I64 0),(3,I64 0),(5,I64 (I7 k)),(7,.bool nm),(8,.bool (A1x k v))]) ?_ (kA nm _ hnm rfl hkk)
  all_goals simp_all[C1,tm,Tm.upd,A1x]
  all_goals omega
 have kC:kOk k=true->IW Tryz.prog 113 (pz Tryz.prog 224 (.o (.o (.o (.i .h))))) ⟨tm [(1,.ptr 0 0),(2,I64 0),(3,I64 0),(5,I64 (I7 k))],Sym.nil.upd 0 ⟨0,true,[I64 k,I64 v,.str n,G9 a,I64 p]⟩,1⟩ (rt [.tmp 2,.tmp 3,.tmp 4] fun v H' x => ∃ H2,GL H' [v] H2 [R]):=by
  intro hkk;repeat' ((with_reducible first|refine H9 (p:=IW _ _ (pz Tryz.prog 224 (.o (.o (.o (.o (.o .h)))))) _ _) ?_|refine wr ?_|refine cpc hnk ?_|refine cpc hin ?_|refine wb2 ?_ ?_<;>(intro hb;try simp only[hb])|fail)<;>try simp only[go_sem,seval])
  all_goals refine IW.stage (L:=[(1,.ptr 0 0),(2,I64 0),(3,I64 0),(5,I64 (I7 k)),(7,.bool (A4n k n))]) ?_ (kB _ rfl hkk)
  all_goals simp_all[C1,tm,Tm.upd,A4n]
 by_cases l6:B6 k=6
 ·have m6:(B6 k == 6)=true:=by simpa using l6
  repeat' ((with_reducible first|refine H9 (p:=IW _ _ (pz Tryz.prog 224 (.o (.o (.o (.i .h))))) _ _) ?_|refine wr ?_|refine cpc hl ?_|fail)<;>try simp only[go_sem,seval,m6])
  refine IW.stage ?_ (kC (by simp[kOk];left;omega));simp[C1,tm,Tm.upd,I7,l6]
 have m6:(B6 k == 6)=false:=by simpa using l6
 by_cases l5:B6 k<6
 ·have m5:decide (B6 k<6)=true:=by simpa using l5
  repeat' ((with_reducible first|refine H9 (p:=IW _ _ (pz Tryz.prog 224 (.o (.o (.o (.i .h))))) _ _) ?_|refine wr ?_|refine cpc hl ?_|fail)<;>try simp only[go_sem,seval,m6,m5])
  refine IW.stage ?_ (kC (by simp[kOk];left;omega));simp[C1,tm,Tm.upd,I7,l6,l5]
 have m5:decide (B6 k<6)=false:=by simpa using l5
 repeat' ((with_reducible first|refine H9 (p:=IW _ _ (pz Tryz.prog 224 (.o (.o (.o (.i .h))))) _ _) ?_|refine wr ?_|refine cpc hl ?_|refine wb2 ?_ ?_<;>(intro hb;try simp only[hb])|fail)<;>try simp only[go_sem,seval,m6,m5])
 all_goals first
  |(refine IW.stage ?_ (kC (by simp_all[kOk]<;>omega));simp[C1,tm,Tm.upd,I7,l6,l5];done)
  |(refine A3 (none0 (.inl ?_)).symm;simp_all[kOk]<;>omega)
theorem c_ValidExpr(e:Ex)(hB:e.sz<=100000000):PC Tryz.prog 153 [e.v] (.bool (S4 e)):=by
 refine PC.go A2 ?_;have hm:=c_measure _ e (A1O _) hB;unfold S4;rw[Ex.v_w]at hm ⊢;cases hq:msM e with
 |none =>
  rw[hq]at hm;dsimp only[msV]at hm;repeat' ((with_reducible first|apply wr|refine cpc hm ?_|fail)<;>try simp only[go_sem,seval])
  all_goals exact A3 rfl
 |some q =>
  obtain⟨o,d⟩:=q;rw[hq]at hm;dsimp only[msV]at hm;repeat' ((with_reducible first|refine wr ?_|refine cpc hm ?_|refine wb2 ?_ ?_<;>(intro hb;try simp only[hb])|fail)<;>try simp only[go_sem,seval])
  all_goals (refine A3 (congrArg DV.bool ?_);by_cases h1:o<=32<;>by_cases h2:d<=16<;>simp_all<;>omega)
end Go.Proofs.YtkkjpohaffjecaaGreatDoor
namespace Go.Pb
open Go.Sym
def Shp.v(s:Shp):DV:=.agg [.bool s.name,.bool s.text,I64 s.args,.bool s.thn,.bool s.els]
end Go.Pb
namespace Go.Proofs.YtkkjpohaffjecaaGreatDoor
open Go.Eng (IC IOper DReg IFn L2)
open Go.Sym Go.Pb
def D2b(k:Int):Bool:=decide (1<=k) && decide (k<=19)
theorem c_shapeOf(k:Int):PC Tryz.prog 210 [I64 k] (.tup [(J6 k).v,.bool (D2b k)]):=by
 refine PC.go A2 ?_;repeat' ((with_reducible first|refine wr ?_|refine wb2 ?_ ?_<;>(intro hb;try simp only[hb])|fail)<;>try simp only[go_sem,seval])
 all_goals refine A3 ?_
 all_goals simp_all[J6,D2b,Shp.v,Tm.upd]
 all_goals omega
theorem c_isText(s:List UInt8)(hs:s.length<=1000000000):PC Tryz.prog 271 [.str s] (.bool (S1 s)):=by
 refine PC.go A2 ?_;repeat' (apply wr<;>try simp only[go_sem,seval])
 refine A9 (fun k:Nat=>[(0,.str s),(3,I64 k)]) (fun _=>Sym.nil) (fun k _=>k<=s.length/\(s.take k).all txB=true) (fun k=>s.length-k) 0 (by simp[C1,tm,Tm.upd]) (Sub.refl _) ⟨A0O _,rfl⟩ ?_;rintro k cc ⟨hk,he⟩;by_cases hlt:k<s.length
 ·have hd:=dtz hlt;have hg:=A0B hlt;have hw:=w64 (n:=(k:Int)+1);generalize s[k]=x at hg;have hx:txB x=(decide (32<=x.toNat) && decide (x.toNat<=126)):=rfl;repeat' ((with_reducible first|refine wr ?_|refine wb2 ?_ ?_<;>(intro hb;try simp only[hb])|fail)<;>try simp only[go_sem,seval,hd,hg,hw])
  ·refine A3 (congrArg DV.bool ?_);have:=Y6 txB s k _ hg (by simp_all<;>omega);simp[S1,this]
  ·refine A3 (congrArg DV.bool ?_);have:=Y6 txB s k _ hg (by simp_all<;>omega);simp[S1,this]
  ·exact⟨k+1,rfl,Sub.refl _,inv ⟨by omega,by rw[A0u txB s k _ hg,he];simp_all<;>omega⟩,by omega⟩
 have hd:=dfz hlt;have hall:=A2p txB s k (by omega) he;repeat' (apply wr<;>try simp only[go_sem,seval,hd])
 refine A3 (congrArg DV.bool ?_);simp[S1,hall];omega
theorem c_validDecl(d:Dc)(hB:d.name.length<=1000000000):PC Tryz.prog 66 [d.v] (.bool (Y8 d)):=by
 refine PC.go A2 ?_;have hn:=c_IsName d.name hB;repeat' ((with_reducible first|refine wr ?_|refine cpc hn ?_|refine wb2 ?_ ?_<;>(intro hb;try simp only[hb])|fail)<;>try simp only[go_sem,seval])
 all_goals (refine A3 (congrArg DV.bool ?_);simp_all[Y8]<;>omega)
theorem c_vS1(e:Ex)(hB:e.sz<=100000000):PC Tryz.prog 270 [e.v] (.bool (!S4 e)):=by
 refine PC.go A2 ?_;have h:=c_ValidExpr e hB;rw[Ex.v_w]at h ⊢;repeat' ((with_reducible first|apply wr|refine cpc h ?_|fail)<;>try simp only[go_sem,seval])
 exact A3 rfl
theorem D5a(d:Nat)(s:Pb.St):N7 d s=(D2b s.kind && (s.args.length == (J6 s.kind).args && s.args.all S4) &&
   ((if (J6 s.kind).name=true then D6 s.name else s.name == []) && (if (J6 s.kind).text=true then S1 s.text else s.text == [])) &&
   (((J6 s.kind).thn || s.thn.isEmpty) && ((J6 s.kind).els || s.els.isEmpty)) && (M4 s.thn (d+1) && M4 s.els (d+1))):=by
 cases s with|mk k n t a x y p=>rw[N7];rfl
theorem A3n{α : Type}(g : α -> Bool)(l:List α):l.any (fun x => !g x) = !l.all g:=by
 induction l with
 |nil=>rfl
 |cons x l ih=>rw[List.any_cons,A2T,ih,Bool.not_and]
theorem c_vSt(s:Pb.St)(d:Nat)(hd:d<=1000000000)(hB:s.sz<=100000000)(hX:PC Tryz.prog 135 [D3 s.thn,I64 (d+1:Nat)] (.bool (M4 s.thn (d+1))))(hY:PC Tryz.prog 135 [D3 s.els,I64 (d+1:Nat)] (.bool (M4 s.els (d+1)))):
  PC Tryz.prog 204 [s.v,I64 d] (.bool (N7 d s)):=by
 rw[D5a];have hsa:Ex.szs s.args<s.sz:=by cases s with|mk k n t a x y p=>rw[Pb.St.sz];show Ex.szs a<_;omega
 have hal:=Ex.szs_len s.args;have hxl:=Pb.St.szs_len s.thn;have hyl:=Pb.St.szs_len s.els;have hxs:=s.sz_thn;have hys:=s.sz_els;have hnl:=s.sz_name;have htl:=s.sz_text;have hn:=c_IsName s.name (by omega);have ht:=c_isText s.text (by omega);have hsh:=c_shapeOf s.kind;have hca:=c_CF_ex (f:=270) (a:=[]) (cs:=[]) (g:=fun e => !S4 e) s.args (by omega) rfl rfl (fun x hx=>c_vS1 x (by have:=Ex.szs_mem hx;omega));rw[A3n]at hca;have hw:=w64 (n:=(d:Int)+1);refine PC.ofT A2 rfl (A0D rfl) (by rw[Pb.St.v_w];simp[DV.nlL,DV.nl,A1f,W1]) rfl ?_;cases s with|mk k n t a x y p =>
 dsimp only[Pb.St.kind,Pb.St.name,Pb.St.text,Pb.St.args,Pb.St.thn,Pb.St.els,Pb.St.pos]at *;have hX:PC Tryz.prog 135 [D3 x,I64 ((d:Int)+1)] (.bool (M4 x (d+1))):=hX;have hY:PC Tryz.prog 135 [D3 y,I64 ((d:Int)+1)] (.bool (M4 y (d+1))):=hY;have ev:(Pb.St.mk k n t a x y p).v=.agg [I64 k,.str n,.str t,G9 a,D3 x,D3 y,I64 p]:=Pb.St.v_w _;rw[ev];generalize M4 x (d+1)=bx at *;generalize M4 y (d+1)=bY at *;generalize D2b k=kb at *;obtain⟨nb,tb,ar,xb,yb,hs⟩:∃ nb tb ar xb yb,J6 k=⟨nb,tb,ar,xb,yb⟩:=⟨_,_,_,_,_,rfl⟩;simp only[hs,Shp.v]at hsh ⊢;have kA:∀ (cc:Nat) (nm tx:Bool),IW Tryz.prog 86 (pz Tryz.prog 204 (.i (.i (.o (.i .h))))) ⟨tm [(1,I64 d),(2,.ptr 0 0),(5,.ptr 1 0),(7,.bool nm),(8,.bool tx)],(Sym.nil.upd 0 ⟨0,true,[I64 k,.str n,.str t,G9 a,D3 x,D3 y,I64 p]⟩).upd 1 ⟨0,true,[.bool nb,.bool tb,I64 ar,.bool xb,.bool yb]⟩,cc⟩ (rt [.tmp 4] fun v H' c => ∃ H2,GL H' [v] H2 [.bool ((nm && tx) && ((xb || x.isEmpty) && (yb || y.isEmpty)) && (bx && bY))]):=by
  intro cc nm tx;have ex:x.isEmpty = !decide ((x.length:Int)>0):=by cases x<;>simp
  have ey:y.isEmpty = !decide ((y.length:Int)>0):=by cases y<;>simp
  rw[ex,ey];cases nm with
  |false =>
   repeat' (apply wr<;>try simp only[go_sem,seval])
   exact A3 (by simp)
  |true =>
  cases tx with
  |false =>
   repeat' (apply wr<;>try simp only[go_sem,seval])
   exact A3 (by simp)
  |true =>
  generalize hlx:decide ((x.length:Int)>0)=lx at *;generalize hly:decide ((y.length:Int)>0)=ly at *;cases bx<;>cases bY<;>cases xb<;>cases lx<;>cases yb<;>cases ly;all_goals (repeat' ((with_reducible first|apply wr|refine cpc hX ?_|refine cpc hY ?_|fail)<;>try simp only[go_sem,seval,hlx,hly,hw,A0C]))
  all_goals exact A3 rfl
 have kB:∀ cc:Nat,IW Tryz.prog 86 (pz Tryz.prog 204 (.i (.i (.i .h)))) ⟨tm [(1,I64 d),(2,.ptr 0 0),(5,.ptr 1 0),(7,.bool (n == [])),(8,.bool (t == []))],(Sym.nil.upd 0 ⟨0,true,[I64 k,.str n,.str t,G9 a,D3 x,D3 y,I64 p]⟩).upd 1 ⟨0,true,[.bool nb,.bool tb,I64 ar,.bool xb,.bool yb]⟩,cc⟩ (rt [.tmp 4] fun v H' c => ∃ H2,GL H' [v] H2 [.bool (((if nb=true then D6 n else n == []) && (if tb=true then S1 t else t == [])) && ((xb || x.isEmpty) && (yb || y.isEmpty)) && (bx && bY))]):=by
  intro cc;cases nb<;>cases tb;all_goals (repeat' ((with_reducible first|refine H9 (p:=IW _ _ (pz Tryz.prog 204 (.i (.i (.o (.i .h))))) _ _) ?_|refine wr ?_|refine cpc hn ?_|refine cpc ht ?_|fail)<;>try simp only[go_sem,seval]))
  all_goals (refine IW.stage ?_ (kA _ _ _);simp[C1,tm,Tm.upd])
 cases kb with
 |false =>
  repeat' ((with_reducible first|apply wr|refine cpc hsh ?_|fail)<;>try simp only[go_sem,seval])
  exact A3 (by simp)
 |true =>
 by_cases hal2:a.length=ar
 ·have d0:((a.length:Int) != (ar:Int))=false:=by simp[hal2]
  cases hall:a.all S4 with
  |false =>
   rw[hall]at hca;repeat' ((with_reducible first|apply wr|refine cpc hsh ?_|refine cpc hca ?_|fail)<;>try simp only[go_sem,seval,d0,A0C])
   exact A3 (by simp)
  |true =>
   rw[hall]at hca;have e1:(a.length == ar)=true:=by simpa using hal2
   rw[e1];simp only[A2N];repeat' ((with_reducible first|refine H9 (p:=IW _ _ (pz Tryz.prog 204 (.i (.i (.i .h)))) _ _) ?_|refine wr ?_|refine cpc hsh ?_|refine cpc hca ?_|fail)<;>try simp only[go_sem,seval,d0,A0C,A5])
   refine IW.stage (L:=[(1,I64 d),(2,.ptr 0 0),(5,.ptr 1 0),(7,.bool (n == [])),(8,.bool (t == []))]) ?_ (kB _);simp[C1,tm,Tm.upd]
 ·have d0:((a.length:Int) != (ar:Int))=true:=by simp;omega
  repeat' ((with_reducible first|apply wr|refine cpc hsh ?_|fail)<;>try simp only[go_sem,seval,d0,A0C])
  exact A3 (by simp;omega)
theorem c_vB1(s:Pb.St)(d:Nat)(h:PC Tryz.prog 204 [s.v,I64 d] (.bool (N7 d s))):PC Tryz.prog 203 [s.v,.fptr [I64 d]] (.bool (!N7 d s)):=by
 rw[Pb.St.v_w]at h ⊢;refine PC.go A2 ?_;repeat' ((with_reducible first|apply wr|refine cpc h ?_|fail)<;>try simp only[go_sem,seval])
 exact A3 rfl
theorem B1h(d:Nat):∀ l:List Pb.St,F8 d l=l.all (N7 d)
 |[]=>by rw[F8];rfl
 |s :: l=>by rw[F8,B1h d l];rfl
theorem c_validBlock:∀ (m:Nat) (l:List Pb.St) (d:Nat),Pb.St.szs l<m->Pb.St.szs l<=100000000->d+Pb.St.szs l<=1000000000->PC Tryz.prog 135 [D3 l,I64 d] (.bool (M4 l d)):=by
 intro m
 induction m with
 |zero=>intro l d h;omega
 |succ m ih =>
 intro l d hm hB hd;have hl:=Pb.St.szs_len l;have hcf:=c_CF_st (f:=203) (a:=[]) (cs:=[.fptr [I64 d]]) (g:=fun s => !N7 d s) l (by omega) rfl rfl (fun s hs=>by
  have h1:=Pb.St.szs_mem hs;have h2:=s.sz_thn;have h3:=s.sz_els;exact c_vB1 s d (c_vSt s d (by omega) (by omega) (ih _ _ (by omega) (by omega) (by omega)) (ih _ _ (by omega) (by omega) (by omega))))
 rw[A3n, <- B1h]at hcf;refine PC.go A2 ?_;have el:l.isEmpty = !decide ((l.length:Int)>0):=by cases l<;>simp
 have e64:decide (l.length<=64) = !decide ((l.length:Int)>64):=by rw[<- decide_not];exact decide_eq_decide.2 (by omega)
 have e8:decide (d<=8) = !decide ((d:Int)>8):=by rw[<- decide_not];exact decide_eq_decide.2 (by omega)
 unfold M4;rw[el,e64,e8];repeat' ((first|(with_reducible first|refine wr ?_)|(with_reducible refine wb2 ?_ ?_<;>(intro hb;try simp only[hb]))|(refine AC.call (hcf.lend rfl (GL.one (id:=0) (b:=⟨0,true,[I64 d]⟩) rfl rfl (.cons _ _ _ _ (.same _) (.cons _ _ _ _ (.func _ _ _ _ _ .nil (.cons _ _ _ _ (.ptr 0 _ (A0O _) rfl) .nil)) .nil)))) ?_<;>rintro v H' c' ⟨rfl,rfl,rfl⟩ hcc)|fail)<;>try simp only[go_sem,seval,A0C])
 all_goals (refine A3 (congrArg DV.bool ?_);simp_all)
theorem c_validHd(h:Hd)(hB:Pb.St.szs h.body<=100000000):PC Tryz.prog 135 [D3 h.body,I64 1] (.bool (M4 h.body 1)) :=
 c_validBlock _ h.body 1 (A1O _) hB (by omega)
theorem D8h(h:Hd):h.v=.agg [I64 h.trig,.str h.name,D3 h.body,I64 h.pos]:=rfl
theorem c_validMode(d:Md)(hB:d.sz<=100000000):PC Tryz.prog 69 [d.v] (.bool (Q0 d)):=by
 have hsz:d.sz=1+d.name.length+(d.hds.map Hd.sz).sum:=rfl;have hhl:d.hds.length<=(d.hds.map Hd.sz).sum:=I2 fun x _=>by show 1<=1+_+_;omega
 have hn:=c_IsName d.name (by omega);refine PC.go A2 ?_;have ev:d.v=.agg [.str d.name,I64 d.prio,K8 d.hds,I64 d.pos]:=rfl;rw[ev];cases hnm:D6 d.name with
 |false =>
  rw[hnm]at hn;repeat' ((with_reducible first|apply wr|refine cpc hn ?_|fail)<;>try simp only[go_sem,seval])
  exact A3 (by simp[Q0,hnm])
 |true =>
 rw[hnm]at hn;by_cases p0:d.prio<0
 ·have q0:decide (d.prio<0)=true:=by simpa using p0
  repeat' ((with_reducible first|apply wr|refine cpc hn ?_|fail)<;>try simp only[go_sem,seval,q0])
  exact A3 (by simp[Q0,hnm];omega)
 have q0:decide (d.prio<0)=false:=by simpa using p0
 by_cases p1:d.prio>2147483647
 ·have q1:decide (d.prio>2147483647)=true:=by simpa using p1
  repeat' ((with_reducible first|apply wr|refine cpc hn ?_|fail)<;>try simp only[go_sem,seval,q0,q1])
  exact A3 (by simp[Q0,hnm];omega)
 have q1:decide (d.prio>2147483647)=false:=by simpa using p1
 by_cases p2:d.hds.length>32
 ·have q2:decide ((d.hds.length:Int)>32)=true:=by simp;omega
  repeat' ((with_reducible first|apply wr|refine cpc hn ?_|fail)<;>try simp only[go_sem,seval,q0,q1,q2,A0C])
  exact A3 (by simp[Q0,hnm];omega)
 have q2:decide ((d.hds.length:Int)>32)=false:=by simp;omega
 have er:Q0 d=d.hds.all A0x:=by
  unfold Q0;rw[hnm,show decide (0<=d.prio)=true by simp;omega,show decide (d.prio<=2147483647)=true by simp;omega,show decide (d.hds.length<=32)=true by simp;omega];rfl
 rw[er];repeat' ((with_reducible first|apply wr|refine cpc hn ?_|fail)<;>try simp only[go_sem,seval,q0,q1,q2,A0C])
 refine A9 (fun k:Nat=>[(27,K8 d.hds),(28,I64 d.hds.length),(29,I64 k)]) (fun _=>Sym.nil) (fun k _=>k<=d.hds.length/\(d.hds.take k).all A0x=true) (fun k=>d.hds.length-k) 0 (by simp[C1,tm,Tm.upd]) (Sub.nil _) ⟨A0O _,rfl⟩ ?_;rintro k cc ⟨hk,he⟩;by_cases hlt:k<d.hds.length
 ·have hd:=dtz hlt;have hg:=A0B hlt;have hw:=w64 (n:=(k:Int)+1);have hs:d.hds[k].sz<=(d.hds.map Hd.sz).sum:=J5 (A0L hlt);generalize d.hds[k]=h at hg hs;have hhs:h.sz=1+h.name.length+Pb.St.szs h.body:=rfl;have hn2:=c_IsName h.name (by omega);have hb2:=c_validHd h (by omega);have hf:=Y6 A0x d.hds k _ hg;have ht:=A0u A0x d.hds k _ hg;have eh:A0x h=(decide (1<=h.trig) && decide (h.trig<=6) && (if 3<=h.trig then D6 h.name else h.name == []) && M4 h.body 1):=rfl;by_cases t3:3<=h.trig
  ·have u3:decide (h.trig≥3)=true:=by simpa using t3
   rw[if_pos t3]at eh;repeat' ((with_reducible first|refine wr ?_|refine cpc hn2 ?_|refine cpc hb2 ?_|refine wb2 ?_ ?_<;>(intro hb;try simp only[hb])|fail)<;>try simp only[go_sem,seval,hd,hg,hw,u3,D8h,h_same,A5])
   all_goals first
    |(refine A3 (congrArg DV.bool (hf ?_).symm);rw[eh];clear hf ht eh er;simp_all<;>omega)
    |(refine⟨k+1,rfl,Sub.nil _,inv ⟨by omega,?_⟩,by omega⟩;rw[ht,he,eh];clear hf ht eh er;simp_all<;>omega)
  ·have u3:decide (h.trig≥3)=false:=by simpa using t3
   rw[if_neg t3]at eh;repeat' ((with_reducible first|refine wr ?_|refine cpc hb2 ?_|refine wb2 ?_ ?_<;>(intro hb;try simp only[hb])|fail)<;>try simp only[go_sem,seval,hd,hg,hw,u3,D8h,h_same,A5])
   all_goals first
    |(refine A3 (congrArg DV.bool (hf ?_).symm);rw[eh];clear hf ht eh er;simp_all<;>omega)
    |(refine⟨k+1,rfl,Sub.nil _,inv ⟨by omega,?_⟩,by omega⟩;rw[ht,he,eh];clear hf ht eh er;simp_all<;>omega)
 have hd:=dfz hlt;have hall:=A2p A0x d.hds k (by omega) he;repeat' (apply wr<;>try simp only[go_sem,seval,hd])
 exact A3 (by rw[hall])
theorem c_V1(d:Dc)(hB:d.name.length<=1000000000):PC Tryz.prog 65 [d.v] (.bool (!Y8 d)):=by
 have h:=c_validDecl d hB;have ev:d.v=.agg [I64 d.kind,.str d.name,I64 d.value,I64 d.pos]:=rfl;rw[ev]at h ⊢;refine PC.go A2 ?_;repeat' ((with_reducible first|apply wr|refine cpc h ?_|fail)<;>try simp only[go_sem,seval])
 exact A3 rfl
theorem c_V2(d:Md)(hB:d.sz<=100000000):PC Tryz.prog 68 [d.v] (.bool (!Q0 d)):=by
 have h:=c_validMode d hB;have ev:d.v=.agg [.str d.name,I64 d.prio,K8 d.hds,I64 d.pos]:=rfl;rw[ev]at h ⊢;refine PC.go A2 ?_;repeat' ((with_reducible first|apply wr|refine cpc h ?_|fail)<;>try simp only[go_sem,seval])
 exact A3 rfl
theorem c_Valid(r:Ru)(hB:r.sz<=100000000):PC Tryz.prog 26 [r.v] (.bool (L1 r)):=by
 obtain⟨D,M⟩:=r;have hDs:(D.map Dc.sz).sum+(M.map Md.sz).sum<=100000000:=hB;have hDl:D.length<=(D.map Dc.sz).sum:=I2 fun x _=>by show 1<=1+_;omega
 have hMl:M.length<=(M.map Md.sz).sum:=I2 fun x _=>by show 1<=1+_+_;omega
 have h1:=c_CF_dc (f:=65) (a:=[]) (cs:=[]) (g:=fun e => !Y8 e) D (by omega) rfl rfl (fun x hx=>c_V1 x (by
  have:x.sz<=(D.map Dc.sz).sum:=J5 hx;have e:x.sz=1+x.name.length:=rfl;omega))
 have h2:=c_CF_md (f:=68) (a:=[]) (cs:=[]) (g:=fun e => !Q0 e) M (by omega) rfl rfl (fun x hx=>c_V2 x (by
  have:x.sz<=(M.map Md.sz).sum:=J5 hx;omega))
 rw[A3n]at h1 h2;refine PC.go A2 ?_;dsimp only[Ru.v];unfold L1;dsimp only;have e1:decide (D.length<=128) = !decide ((D.length:Int)>128):=by rw[<- decide_not];exact decide_eq_decide.2 (by omega)
 have e2:decide (M.length<=16) = !decide ((M.length:Int)>16):=by rw[<- decide_not];exact decide_eq_decide.2 (by omega)
 rw[e1,e2];generalize D.all Y8=bD at *;generalize M.all Q0=bM at *;repeat' ((with_reducible first|refine wr ?_|refine cpc h1 ?_|refine cpc h2 ?_|refine wb2 ?_ ?_<;>(intro hb;try simp only[hb])|fail)<;>try simp only[go_sem,seval,A0C])
 all_goals (refine A3 (congrArg DV.bool ?_);simp_all)
end Go.Proofs.YtkkjpohaffjecaaGreatDoor
set_option linter.unusedSectionVars false
namespace Go.Proofs.YtkkjpohaffjecaaGreatDoor
open Go.Sym Go.Pb Go.RowKit
section
variable {H:Type} {enc:TypeId × Value->H} {W:World} {hT:TabOk W}
theorem A8x:∀ l:List (DataW H),Rows.uptoBulkAll l=(l.map Rows.uptoBulk).sum
 |[]=>by simp[Rows.uptoBulkAll]
 |d :: l=>by rw[Rows.uptoBulkAll,A8x l];simp
theorem G6:Bulky (Rows.uptoBulk (H:=H)) where
 pos:=fun d=>by
  cases d with
  |lit l=>cases l<;>simp[Rows.uptoBulk]
  |nil=>simp[Rows.uptoBulk]
  |ptr d=>simp[Rows.uptoBulk]
  |slice elems spare=>simp[Rows.uptoBulk]
  |agg parts=>simp[Rows.uptoBulk]
  |iface t d=>simp[Rows.uptoBulk]
  |map entries=>simp[Rows.uptoBulk]
  |held h=>simp[Rows.uptoBulk]
 str:=fun l=>by simp[Rows.uptoBulk]
 slc:=fun xs ys=>by simp only[Rows.uptoBulk,A8x];omega
 agg:=fun xs=>by simp only[Rows.uptoBulk,A8x]
abbrev RB(enc:TypeId × Value->H)(W:World)(hT:TabOk W)(t:TypeId)(N:Nat){α : Type}(G : α -> DV)(sz : α -> Nat):Prop:=ReadsB enc Tryz.prog W hT (Rows.uptoBulk (H:=H)) t N G sz
theorem rbI(N:Nat):RB enc W hT 3 N I64 (fun _=>1):=D6d G6 Tryz.underlying3
theorem rbS(N:Nat):RB enc W hT 9 N DV.str (fun s=>s.length+1):=D6c G6 Tryz.underlying9
theorem C3i{fs:Array Field}{k:Nat}(hk:fs.size=k)(h0:((fs.toList.map (·.offset)) == List.range k && fs.toList.all fun f=>Tryz.prog.cellsOf f.type == 1)=true):∀ (j:Nat) f,fs[j]? = some f->f.offset=j/\Tryz.prog.cellsOf f.type=1:=by
 have h:(fs.toList.map (·.offset))=List.range k/\∀ f∈fs.toList,Tryz.prog.cellsOf f.type=1:=by
  rw[A0F]at h0;exact⟨by simpa using h0.1,fun f hf=>by simpa using A0R.1 h0.2 f hf⟩
 intro j f hf;have hf':fs.toList[j]? = some f:=by simpa using hf
 refine⟨?_,h.2 f (A0U hf')⟩;have e:(fs.toList.map (·.offset))[j]? = some f.offset:=by simp[hf']
 rw[h.1]at e;have:=(A0J.1 e);obtain⟨h1,h2⟩:=this;rw[List.getElem_range]at h2;exact h2.symm
theorem D7s{α : Type}{l:List α}(h:l.length=4):∃ a b c d,l=[a,b,c,d]:=by
 match l,h with
 |[a,b,c,d],_=>exact⟨a,b,c,d,rfl⟩
theorem E5c{α : Type}{l:List α}(h:l.length=5):∃ a b c d e,l=[a,b,c,d,e]:=by
 match l,h with
 |[a,b,c,d,e],_=>exact⟨a,b,c,d,e,rfl⟩
theorem E5b{α : Type}{l:List α}(h:l.length=7):∃ a b c d e f g,l=[a,b,c,d,e,f,g]:=by
 match l,h with
 |[a,b,c,d,e,f,g],_=>exact⟨a,b,c,d,e,f,g,rfl⟩
theorem E5d{α : Type}{l:List α}(h:l.length=2):∃ a b,l=[a,b]:=by
 match l,h with
 |[a,b],_=>exact⟨a,b,rfl⟩
theorem RB.val{t:TypeId}{N n:Nat}{α : Type}{G : α -> DV}{sz : α -> Nat}{y:Value × DataW H × List MemPlace}(h:RB enc W hT t N G sz)(hn:DataW.trod enc Tryz.prog W 0 (fun _=>true) true n t [y.1]=some y.2)(hb:Rows.uptoBulk y.2.1<=N)(hG:∀ a,(G a).cells=[G a]):
  ∃ a,sz a<=Rows.uptoBulk y.2.1/\VRel (topR W hT) (G a) y.1:=by
 obtain⟨a,r,q⟩:=h n _ _ hn hb;rw[hG]at q;exact⟨a,r,q.2 0 _ _ rfl rfl⟩
theorem D3r{N:Nat}(h:RB enc W hT 73 N Ex.v Ex.sz):RB enc W hT 69 (N+1) (fun l:List Ex=>G9 l) (fun l=>(l.map Ex.sz).sum) :=
 A1z G6 (u:=5) (by omega) Tryz.underlying69 (by kernel_rfl) (fun a=>by rw[Ex.v_w];rfl) (fun a d hd=>by
  rw[Ex.v_w]at hd;have hd:d∈[I64 a.kind,I64 a.value,.str a.name,G9 a.args,I64 a.pos]:=hd;simp at hd;rcases hd with rfl|rfl|rfl|rfl|rfl<;>rfl) h
theorem E0c:∀ N,RB enc W hT 73 N Ex.v Ex.sz
 |0=>fun n cs x h hx=>by have:=G6.pos x.1;omega
 |N+1=>fun n cs x h hx=>by
  obtain⟨m,ys,rfl,hl,hb,hp⟩:=A0k G6 Tryz.underlying73 rfl (C3i rfl (by kernel_rfl)) (by kernel_rfl) h;obtain⟨y0,y1,y2,y3,y4,rfl⟩:=E5c hl;simp only[A0Q,List.map_nil,A1R,A2U]at hb;obtain⟨a0, -,r0⟩:=(rbI _).val (hp 0 _ y0 rfl rfl) (A0E _) (fun _=>rfl);obtain⟨a1, -,r1⟩:=(rbI _).val (hp 1 _ y1 rfl rfl) (A0E _) (fun _=>rfl);obtain⟨a2,s2,r2⟩:=(rbS _).val (hp 2 _ y2 rfl rfl) (A0E _) (fun _=>rfl);obtain⟨a3,s3,r3⟩:=(D3r (E0c N)).val (hp 3 _ y3 rfl rfl) (by omega) (fun _=>rfl);obtain⟨a4, -,r4⟩:=(rbI _).val (hp 4 _ y4 rfl rfl) (A0E _) (fun _=>rfl);refine⟨.mk a0 a1 a2 a3 a4,?_,?_⟩
  ·rw[Ex.sz,Ex.szs_map];omega
  ·rw[Ex.v_w];exact .cons r0 (.cons r1 (.cons r2 (.cons r3 (.cons r4 .nil))))
theorem C6d{N:Nat}(h:RB enc W hT 71 N Pb.St.v Pb.St.sz):RB enc W hT 45 (N+1) (fun l:List Pb.St=>D3 l) (fun l=>(l.map Pb.St.sz).sum) :=
 A1z G6 (u:=7) (by omega) Tryz.underlying45 (by kernel_rfl) (fun a=>by rw[Pb.St.v_w];rfl) (fun a d hd=>by
  rw[Pb.St.v_w]at hd;have hd:d∈[I64 a.kind,.str a.name,.str a.text,G9 a.args,D3 a.thn,D3 a.els,I64 a.pos]:=hd;simp at hd;rcases hd with rfl|rfl|rfl|rfl|rfl|rfl|rfl<;>rfl) h
theorem D6e:∀ N,RB enc W hT 71 N Pb.St.v Pb.St.sz
 |0=>fun n cs x h hx=>by have:=G6.pos x.1;omega
 |N+1=>fun n cs x h hx=>by
  obtain⟨m,ys,rfl,hl,hb,hp⟩:=A0k G6 Tryz.underlying71 rfl (C3i rfl (by kernel_rfl)) (by kernel_rfl) h;obtain⟨y0,y1,y2,y3,y4,y5,y6,rfl⟩:=E5b hl;simp only[A0Q,List.map_nil,A1R,A2U]at hb;obtain⟨a0, -,r0⟩:=(rbI _).val (hp 0 _ y0 rfl rfl) (A0E _) (fun _=>rfl);obtain⟨a1,s1,r1⟩:=(rbS _).val (hp 1 _ y1 rfl rfl) (A0E _) (fun _=>rfl);obtain⟨a2,s2,r2⟩:=(rbS _).val (hp 2 _ y2 rfl rfl) (A0E _) (fun _=>rfl);obtain⟨a3,s3,r3⟩:=(D3r (E0c N)).val (hp 3 _ y3 rfl rfl) (by omega) (fun _=>rfl);obtain⟨a4,s4,r4⟩:=(C6d (D6e N)).val (hp 4 _ y4 rfl rfl) (by omega) (fun _=>rfl);obtain⟨a5,s5,r5⟩:=(C6d (D6e N)).val (hp 5 _ y5 rfl rfl) (by omega) (fun _=>rfl);obtain⟨a6, -,r6⟩:=(rbI _).val (hp 6 _ y6 rfl rfl) (A0E _) (fun _=>rfl);refine⟨.mk a0 a1 a2 a3 a4 a5 a6,?_,?_⟩
  ·rw[Pb.St.sz,Ex.szs_map,Pb.St.szs_map,Pb.St.szs_map];omega
  ·rw[Pb.St.v_w];exact .cons r0 (.cons r1 (.cons r2 (.cons r3 (.cons r4 (.cons r5 (.cons r6 .nil))))))
theorem E4l(N:Nat):RB enc W hT 94 N Dc.v Dc.sz:=fun n cs x h hx=>by
 obtain⟨m,ys,rfl,hl,hb,hp⟩:=A0k G6 Tryz.underlying94 rfl (C3i rfl (by kernel_rfl)) (by kernel_rfl) h;obtain⟨y0,y1,y2,y3,rfl⟩:=D7s hl;simp only[A0Q,List.map_nil,A1R,A2U]at hb;obtain⟨a0, -,r0⟩:=(rbI _).val (hp 0 _ y0 rfl rfl) (A0E _) (fun _=>rfl);obtain⟨a1,s1,r1⟩:=(rbS _).val (hp 1 _ y1 rfl rfl) (A0E _) (fun _=>rfl);obtain⟨a2, -,r2⟩:=(rbI _).val (hp 2 _ y2 rfl rfl) (A0E _) (fun _=>rfl);obtain⟨a3, -,r3⟩:=(rbI _).val (hp 3 _ y3 rfl rfl) (A0E _) (fun _=>rfl);exact⟨⟨a0,a1,a2,a3⟩,by unfold Dc.sz;show 1+a1.length<=_;omega,.cons r0 (.cons r1 (.cons r2 (.cons r3 .nil)))⟩
theorem E0d(N:Nat):RB enc W hT 23 (N+1) (fun l:List Dc=>C3 l) (fun l=>(l.map Dc.sz).sum) :=
 A1z G6 (u:=4) (by omega) Tryz.underlying23 (by kernel_rfl) (fun a=>rfl) (fun a d hd=>by
  have hd:d∈[I64 a.kind,.str a.name,I64 a.value,I64 a.pos]:=hd;simp at hd;rcases hd with rfl|rfl|rfl|rfl<;>rfl) (E4l N)
theorem E4k(N:Nat):RB enc W hT 47 N Hd.v Hd.sz:=fun n cs x h hx=>by
 obtain⟨m,ys,rfl,hl,hb,hp⟩:=A0k G6 Tryz.underlying47 rfl (C3i rfl (by kernel_rfl)) (by kernel_rfl) h;obtain⟨y0,y1,y2,y3,rfl⟩:=D7s hl;simp only[A0Q,List.map_nil,A1R,A2U]at hb;obtain⟨a0, -,r0⟩:=(rbI _).val (hp 0 _ y0 rfl rfl) (A0E _) (fun _=>rfl);obtain⟨a1,s1,r1⟩:=(rbS _).val (hp 1 _ y1 rfl rfl) (A0E _) (fun _=>rfl);obtain⟨a2,s2,r2⟩:=(C6d (D6e N)).val (hp 2 _ y2 rfl rfl) (by omega) (fun _=>rfl);obtain⟨a3, -,r3⟩:=(rbI _).val (hp 3 _ y3 rfl rfl) (A0E _) (fun _=>rfl);exact⟨⟨a0,a1,a2,a3⟩,by unfold Hd.sz;rw[Pb.St.szs_map];show 1+a1.length+(a2.map Pb.St.sz).sum<=_;omega,.cons r0 (.cons r1 (.cons r2 (.cons r3 .nil)))⟩
theorem E0b(N:Nat):RB enc W hT 42 (N+1) (fun l:List Hd=>K8 l) (fun l=>(l.map Hd.sz).sum) :=
 A1z G6 (u:=4) (by omega) Tryz.underlying42 (by kernel_rfl) (fun a=>rfl) (fun a d hd=>by
  have hd:d∈[I64 a.trig,.str a.name,D3 a.body,I64 a.pos]:=hd;simp at hd;rcases hd with rfl|rfl|rfl|rfl<;>rfl) (E4k N)
theorem E4j(N:Nat):RB enc W hT 44 N Md.v Md.sz:=fun n cs x h hx=>by
 obtain⟨m,ys,rfl,hl,hb,hp⟩:=A0k G6 Tryz.underlying44 rfl (C3i rfl (by kernel_rfl)) (by kernel_rfl) h;obtain⟨y0,y1,y2,y3,rfl⟩:=D7s hl;simp only[A0Q,List.map_nil,A1R,A2U]at hb;obtain⟨a0,s0,r0⟩:=(rbS _).val (hp 0 _ y0 rfl rfl) (A0E _) (fun _=>rfl);obtain⟨a1, -,r1⟩:=(rbI _).val (hp 1 _ y1 rfl rfl) (A0E _) (fun _=>rfl);obtain⟨a2,s2,r2⟩:=(E0b N).val (hp 2 _ y2 rfl rfl) (by omega) (fun _=>rfl);obtain⟨a3, -,r3⟩:=(rbI _).val (hp 3 _ y3 rfl rfl) (A0E _) (fun _=>rfl);exact⟨⟨a0,a1,a2,a3⟩,by unfold Md.sz;show 1+a0.length+(a2.map Hd.sz).sum<=_;omega,.cons r0 (.cons r1 (.cons r2 (.cons r3 .nil)))⟩
theorem E0a(N:Nat):RB enc W hT 24 (N+1) (fun l:List Md=>C7 l) (fun l=>(l.map Md.sz).sum) :=
 A1z G6 (u:=4) (by omega) Tryz.underlying24 (by kernel_rfl) (fun a=>rfl) (fun a d hd=>by
  have hd:d∈[.str a.name,I64 a.prio,K8 a.hds,I64 a.pos]:=hd;simp at hd;rcases hd with rfl|rfl|rfl|rfl<;>rfl) (E4j N)
theorem E4i(N:Nat):RB enc W hT 26 N Ru.v Ru.sz:=fun n cs x h hx=>by
 obtain⟨m,ys,rfl,hl,hb,hp⟩:=A0k G6 Tryz.underlying26 rfl (C3i rfl (by kernel_rfl)) (by kernel_rfl) h;obtain⟨y0,y1,rfl⟩:=E5d hl;simp only[A0Q,List.map_nil,A1R,A2U]at hb;obtain⟨a0,s0,r0⟩:=(E0d N).val (hp 0 _ y0 rfl rfl) (by omega) (fun _=>rfl);obtain⟨a1,s1,r1⟩:=(E0a N).val (hp 1 _ y1 rfl rfl) (by omega) (fun _=>rfl);exact⟨⟨a0,a1⟩,by unfold Ru.sz;show (a0.map Dc.sz).sum+(a1.map Md.sz).sum<=_;omega,.cons r0 (.cons r1 .nil)⟩
theorem B4q{l:List (DataW H)}(hk:Rows.uptoSmall H l=true){d:DataW H}(h:d∈l):Rows.uptoBulk d<=1048576:=by
 have hk:Rows.uptoBulkAll l<=1048576:=by simpa[Rows.uptoSmall] using hk
 have:∀ {l:List (DataW H)},d∈l->Rows.uptoBulk d<=Rows.uptoBulkAll l:=by
  intro l h
  induction l with
  |nil=>cases h
  |cons x r ih =>
   simp only[Rows.uptoBulkAll];rcases A0Y.1 h with rfl|e
   ·omega
   ·have:=ih e;omega
 exact A1E (this h) hk
end
end Go.Proofs.YtkkjpohaffjecaaGreatDoor
set_option maxHeartbeats 4000000
namespace Go.Proofs.YtkkjpohaffjecaaGreatDoor
open Go.Eng (IC IOper DReg IFn L2)
open Go.Sym
abbrev x112:XT Tryz.prog 112:=mkF
instance t112:FT Tryz.prog 112 x112.d:=x112.ft
abbrev x52:XT Tryz.prog 52:=mkF
instance t52:FT Tryz.prog 52 x52.d:=x52.ft
abbrev x110:XT Tryz.prog 110:=mkF
instance t110:FT Tryz.prog 110 x110.d:=x110.ft
abbrev x111:XT Tryz.prog 111:=mkF
instance t111:FT Tryz.prog 111 x111.d:=x111.ft
abbrev x87:XT Tryz.prog 87:=mkF
instance t87:FT Tryz.prog 87 x87.d:=x87.ft
abbrev x51:XT Tryz.prog 51:=mkF
instance t51:FT Tryz.prog 51 x51.d:=x51.ft
abbrev x49:XT Tryz.prog 49:=mkF
instance t49:FT Tryz.prog 49 x49.d:=x49.ft
abbrev x50:XT Tryz.prog 50:=mkF
instance t50:FT Tryz.prog 50 x50.d:=x50.ft
abbrev x14:XT Tryz.prog 14:=mkF
instance t14:FT Tryz.prog 14 x14.d:=x14.ft
abbrev x297:XT Tryz.prog 297:=mkF
instance t297:FT Tryz.prog 297 x297.d:=x297.ft
abbrev x159:XT Tryz.prog 159:=mkF
instance t159:FT Tryz.prog 159 x159.d:=x159.ft
abbrev x168:XT Tryz.prog 168:=mkF
instance t168:FT Tryz.prog 168 x168.d:=x168.ft
abbrev x296:XT Tryz.prog 296:=mkF
instance t296:FT Tryz.prog 296 x296.d:=x296.ft
abbrev x89:XT Tryz.prog 89:=mkF
instance t89:FT Tryz.prog 89 x89.d:=x89.ft
abbrev x236:XT Tryz.prog 236:=mkF
instance t236:FT Tryz.prog 236 x236.d:=x236.ft
abbrev x158:XT Tryz.prog 158:=mkF
instance t158:FT Tryz.prog 158 x158.d:=x158.ft
abbrev x157:XT Tryz.prog 157:=mkF
instance t157:FT Tryz.prog 157 x157.d:=x157.ft
abbrev x81:XT Tryz.prog 81:=mkF
instance t81:FT Tryz.prog 81 x81.d:=x81.ft
abbrev x105:XT Tryz.prog 105:=mkF (i:=⟨8,.seq (.reg [oX 2 0,oV 3 (.bool false)]) (.seq (.reg [oF 4 2 0,oD 5 4 4,oD 6 1 4,oP 7 (.eqa false [0,0,0,0] (.t 5) (.t 6)),oM 3 7]) .ret),[.tmp 3]⟩) (by unfold L2;kernel_rfl) (fun h=>by conv=>lhs;cbv)
instance t105:FT Tryz.prog 105 x105.d:=x105.ft
abbrev x104:XT Tryz.prog 104:=mkF
instance t104:FT Tryz.prog 104 x104.d:=x104.ft
abbrev x43:XT Tryz.prog 43:=mkF
instance t43:FT Tryz.prog 43 x43.d:=x43.ft
abbrev x10:XT Tryz.prog 10:=mkF
instance t10:FT Tryz.prog 10 x10.d:=x10.ft
open Go.Sym Go.Pb
theorem c_opOf(k:Int):PC Tryz.prog 112 [I64 k] (I64 (Pb.stOp k)):=by
 refine PC.go A2 ?_;repeat' ((with_reducible first|refine wr ?_|refine wb2 ?_ ?_<;>(intro hb;try simp only[hb])|fail)<;>try simp only[go_sem,seval])
 all_goals (refine A3 (congrArg I64 ?_);simp_all[Pb.stOp]<;>omega)
theorem c_op34(k:Int):PC Tryz.prog 297 [I64 k] (I64 (Pb.stOp k)):=by
 refine PC.go A2 ?_;repeat' ((with_reducible first|refine wr ?_|refine wb2 ?_ ?_<;>(intro hb;try simp only[hb])|fail)<;>try simp only[go_sem,seval])
 all_goals (refine A3 (congrArg I64 ?_);simp_all[Pb.stOp]<;>omega)
def GC(f:Nat)(mk:DV->DV->List DV)(args:List DV)(x y:Cg)(r:DV):Prop:=∀ (H0:Hp) (c t:Nat) (a b:Option Nat),GN H0 t a b x c ->
 AC Tryz.prog f (.ptr t 0 :: args) (GM H0 t a b mk x) c (fun v H' c'=>v=r/\∃ a' b',GN H0 t a' b' y c'/\H'=GM H0 t a' b' mk y)
abbrev mkP(e p v m:DV)(t n:Int):DV->DV->List DV:=fun I S=>[I,S,e,p,v,I64 t,I64 n,m]
abbrev mkR(d m:DV):DV->DV->List DV:=fun I S=>[d,m,I,S]
theorem c_emit(e p v m:DV)(t n op k:Int)(x:Cg)(hx:x.1.length<=100000000):GC 52 (mkP e p v m t n) [I64 op,I64 k] x (x.1++[⟨op,k⟩],x.2) (I64 x.1.length):=by
 intro H0 c t' a b h;refine AC.bodyT A2 rfl (A0D rfl) fun hfr=>?_;have hM:=W6 (mk:=mkP e p v m t n) h;have h1:=h.tc;have hw:IntKind.i64.wrap (((x.1.length+1:Nat):Int)-1)=(x.1.length:Int):=by rw[w6z (by omega)];omega
 have ne0:=R9 t' c (c+1) (by omega);repeat' (apply wr<;>try simp only[go_sem,seval,hM])
 refine F4 (D5 (cs:=X8 x.1) (fun e=>⟨O6 (h.an e),by rw[h.an e];rfl⟩) (fun i hi=>?_) (A2d _) (by omega) (by omega) (by omega)) ?_
 ·have:=h.ha i hi;rw[hnO];exact A4x h hi
 have dm:∀ X,delO X a t'=X t':=fun X=>B0 (fun i hi e=>(h.ha i hi).1 e.symm);simp only[go_sem,seval,dm,hM,ne0];repeat' (apply wr<;>try simp only[go_sem,seval,h_same,hw])
 refine⟨_,_,GL.less' (C9l (y:=(x.1++[⟨op,k⟩],x.2)) (i:=c+1) h (by omega) rfl (by rw[B2a]) (by simp[todoV])),rfl,some (c+1),b,h.newA (by omega) (by omega) rfl,rfl⟩
theorem c_emit34(d m:DV)(op k:Int)(x:Cg)(hx:x.1.length<=100000000):GC 159 (mkR d m) [I64 op,I64 k] x (x.1++[⟨op,k⟩],x.2) (I64 x.1.length):=by
 intro H0 c t' a b h;refine AC.bodyT A2 rfl (A0D rfl) fun hfr=>?_;have hM:=W6 (mk:=mkR d m) h;have h1:=h.tc;have hw:IntKind.i64.wrap (((x.1.length+1:Nat):Int)-1)=(x.1.length:Int):=by rw[w6z (by omega)];omega
 have ne0:=R9 t' c (c+1) (by omega);repeat' (apply wr<;>try simp only[go_sem,seval,hM])
 refine F4 (D5 (cs:=X8 x.1) (fun e=>⟨O6 (h.an e),by rw[h.an e];rfl⟩) (fun i hi=>?_) (A2d _) (by omega) (by omega) (by omega)) ?_
 ·have:=h.ha i hi;rw[hnO];exact A4x h hi
 have dm:∀ X,delO X a t'=X t':=fun X=>B0 (fun i hi e=>(h.ha i hi).1 e.symm);simp only[go_sem,seval,dm,hM,ne0];repeat' (apply wr<;>try simp only[go_sem,seval,h_same,hw])
 refine⟨_,_,GL.less' (C9l (y:=(x.1++[⟨op,k⟩],x.2)) (i:=c+1) h (by omega) rfl (by rw[B2a]) (by simp[todoV])),rfl,some (c+1),b,h.newA (by omega) (by omega) rfl,rfl⟩
theorem c_patch(e p v m:DV)(t n op k:Int)(l r:List Ins)(S:List (List UInt8))(hl:(l++⟨op,k⟩ :: r).length<=100000000):
  GC 110 (mkP e p v m t n) [I64 l.length] (l++⟨op,k⟩ :: r,S) (l++⟨op,((l++⟨op,k⟩ :: r).length:Int)⟩ :: r,S) (.tup []):=by
 intro H0 c t' a b h;obtain⟨i,rfl⟩:∃ i,a=some i:=by
  cases a with
  |none=>have:=h.an rfl;simp at this
  |some i=>exact⟨i,rfl⟩
 refine AC.bodyT A2 rfl (A0D rfl) fun hfr=>?_;have hM:=W6 (mk:=mkP e p v m t n) h;have hA:=A4x (mk:=mkP e p v m t n) h rfl;have h1:=h.tc;have h2:=h.ha i rfl;have hle:l.length<(l++⟨op,k⟩ :: r).length:=by simp
 have hcl:=A2d (l++⟨op,k⟩ :: r);dsimp only at hA;have hst:∀ (z:Int) (d:Nat),stB (GM H0 t' (some i) b (mkP e p v m t n) (l++⟨op,k⟩ :: r,S)) d i 1 (l.length * 2+1) (I64 z) (some ⟨2,true,X8 (l++⟨op,k⟩ :: r)⟩)=some (.tup [],(GM H0 t' (some i) b (mkP e p v m t n) (l++⟨op,k⟩ :: r,S)).upd i ⟨2,true,X8 (l++⟨op,z⟩ :: r)⟩,d):=fun z d=>by
  exact (A6e (i:=1) rfl (by omega) rfl).trans (by rw[B6a])
 repeat' (apply wr<;>try simp only[go_sem,seval,hM,hA,hle,hst])
 refine⟨_,_,GL.less' (A4w (t:=t') (a:=some i) (b:=b) (mk:=mkP e p v m t n) (x:=(l++⟨op,((l++⟨op,k⟩ :: r).length:Int)⟩ :: r,S)) ?_ (fun j hj=>?_) (fun j hj=>?_) (fun j Q hj hQ=>?_)),rfl,some i,b,h.keep (by omega) (fun e=>by cases e) (fun e=>h.bn e),rfl⟩
 ·rw[h_ne (Ne.symm h2.1),hM];simp[gmB]
 ·cases hj;exact h_same
 ·rw[h_ne (fun e=>h.ne i j rfl hj e.symm),A6h hj]
 ·rw[h_ne (by rintro rfl;rw[h2.2.2]at hQ;cases hQ),S0 h hQ hj]
end Go.Proofs.YtkkjpohaffjecaaGreatDoor
end
