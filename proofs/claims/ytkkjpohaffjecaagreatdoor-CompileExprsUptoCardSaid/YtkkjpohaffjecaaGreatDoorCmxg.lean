/-
  HELPERS of the claim: part 7 of its texts.
-/
import Derived.Test.YtkkjpohaffjecaaGreatDoorCmxf
import Derived.Shelf.LaysC
import Derived.Shelf.Strconv.ParseIntPublic10
import Derived.Test.YtkkjpohaffjecaaGreatDoorProg
noncomputable section
set_option linter.unusedVariables false
namespace Go.Proofs
open Go.Shelf
def Tryz.laysC174_ren:Go.Shelf.Ren:=⟨fun |174=>328 |247=>338 |245=>339 |287=>345 |279=>346 |280=>347 |281=>348 |282=>349 |321=>352 |322=>353 |316=>354 |171=>73 |205=>355 |243=>144 |246=>209 |283=>275 |284=>276 |285=>277 |286=>278 |129=>260 |317=>320 |318=>321 |319=>322 |320=>323 |337=>335 |338=>336|n=>n,fun |9=>9 |3=>3 |2=>2 |75=>263 |85=>333 |4=>4 |167=>358 |5=>5 |53=>37 |175=>359 |46=>123 |168=>361 |37=>22 |0=>0 |210=>368 |21=>21 |127=>303 |145=>372 |143=>370 |171=>299 |173=>301 |212=>325 |51=>38 |20=>20 |213=>326 |232=>345 |233=>346 |80=>67|n=>n,fun |15=>6 |16=>7 |17=>0 |18=>4 |19=>5|n=>n⟩
theorem Tryz.laysC174:Go.Proofs.LaysC.n174 Tryz.prog Tryz.laysC174_ren:={
 mixed:=by kernel_rfl
 f129:=Tryz.func260.trans (congrArg some (by kernel_rfl))
 f171:=Tryz.func73.trans (congrArg some (by kernel_rfl))
 f174:=Tryz.func328.trans (congrArg some (by kernel_rfl))
 f205:=Tryz.func355.trans (congrArg some (by kernel_rfl))
 f243:=Tryz.func144.trans (congrArg some (by kernel_rfl))
 f245:=Tryz.func339.trans (congrArg some (by kernel_rfl))
 f246:=Tryz.func209.trans (congrArg some (by kernel_rfl))
 f247:=Tryz.func338.trans (congrArg some (by kernel_rfl))
 f279:=Tryz.func346.trans (congrArg some (by kernel_rfl))
 f280:=Tryz.func347.trans (congrArg some (by kernel_rfl))
 f281:=Tryz.func348.trans (congrArg some (by kernel_rfl))
 f282:=Tryz.func349.trans (congrArg some (by kernel_rfl))
 f283:=Tryz.func275.trans (congrArg some (by kernel_rfl))
 f284:=Tryz.func276.trans (congrArg some (by kernel_rfl))
 f285:=Tryz.func277.trans (congrArg some (by kernel_rfl))
 f286:=Tryz.func278.trans (congrArg some (by kernel_rfl))
 f287:=Tryz.func345.trans (congrArg some (by kernel_rfl))
 f316:=Tryz.func354.trans (congrArg some (by kernel_rfl))
 f317:=Tryz.func320.trans (congrArg some (by kernel_rfl))
 f318:=Tryz.func321.trans (congrArg some (by kernel_rfl))
 f319:=Tryz.func322.trans (congrArg some (by kernel_rfl))
 f320:=Tryz.func323.trans (congrArg some (by kernel_rfl))
 f321:=Tryz.func352.trans (congrArg some (by kernel_rfl))
 f322:=Tryz.func353.trans (congrArg some (by kernel_rfl))
 f337:=Tryz.func335.trans (congrArg some (by kernel_rfl))
 f338:=Tryz.func336.trans (congrArg some (by kernel_rfl))
 t0:=Tryz.underlying0
 a0:=Tryz.isAgg0
 z0:=Tryz.sizeOf0
 v0:=Tryz.zeroValue0
 t2:=Tryz.underlying2
 a2:=Tryz.isAgg2
 z2:=Tryz.sizeOf2
 v2:=Tryz.zeroValue2
 t3:=Tryz.underlying3
 a3:=Tryz.isAgg3
 z3:=Tryz.sizeOf3
 v3:=Tryz.zeroValue3
 t4:=Tryz.underlying4
 a4:=Tryz.isAgg4
 z4:=Tryz.sizeOf4
 v4:=Tryz.zeroValue4
 t5:=Tryz.underlying5
 a5:=Tryz.isAgg5
 z5:=Tryz.sizeOf5
 v5:=Tryz.zeroValue5
 t9:=Tryz.underlying9
 a9:=Tryz.isAgg9
 z9:=Tryz.sizeOf9
 v9:=Tryz.zeroValue9
 t20:=Tryz.underlying20
 a20:=Tryz.isAgg20
 z20:=Tryz.sizeOf20
 v20:=Tryz.zeroValue20
 t21:=Tryz.underlying21
 a21:=Tryz.isAgg21
 z21:=Tryz.sizeOf21
 v21:=Tryz.zeroValue21
 t37:=Tryz.underlying22
 a37:=Tryz.isAgg22
 z37:=Tryz.sizeOf22
 v37:=Tryz.zeroValue22
 t46:=Tryz.underlying123
 a46:=Tryz.isAgg123
 z46:=Tryz.sizeOf123
 v46:=Tryz.zeroValue123
 t51:=Tryz.underlying38
 a51:=Tryz.isAgg38
 z51:=Tryz.sizeOf38
 v51:=Tryz.zeroValue38
 t53:=Tryz.underlying37
 a53:=Tryz.isAgg37
 z53:=Tryz.sizeOf37
 v53:=Tryz.zeroValue37
 t75:=Tryz.underlying263
 a75:=Tryz.isAgg263
 z75:=Tryz.sizeOf263
 v75:=Tryz.zeroValue263
 t85:=Tryz.underlying333
 a85:=Tryz.isAgg333
 z85:=Tryz.sizeOf333
 v85:=Tryz.zeroValue333
 t127:=Tryz.underlying303
 a127:=Tryz.isAgg303
 z127:=Tryz.sizeOf303
 v127:=Tryz.zeroValue303
 t143:=Tryz.underlying370
 a143:=Tryz.isAgg370
 z143:=Tryz.sizeOf370
 v143:=Tryz.zeroValue370
 t145:=Tryz.underlying372
 a145:=Tryz.isAgg372
 z145:=Tryz.sizeOf372
 v145:=Tryz.zeroValue372
 t167:=Tryz.underlying358
 a167:=Tryz.isAgg358
 z167:=Tryz.sizeOf358
 v167:=Tryz.zeroValue358
 t168:=Tryz.underlying361
 a168:=Tryz.isAgg361
 z168:=Tryz.sizeOf361
 v168:=Tryz.zeroValue361
 t171:=Tryz.underlying299
 a171:=Tryz.isAgg299
 z171:=Tryz.sizeOf299
 v171:=Tryz.zeroValue299
 t173:=Tryz.underlying301
 a173:=Tryz.isAgg301
 z173:=Tryz.sizeOf301
 v173:=Tryz.zeroValue301
 t175:=Tryz.underlying359
 a175:=Tryz.isAgg359
 z175:=Tryz.sizeOf359
 v175:=Tryz.zeroValue359
 t210:=Tryz.underlying368
 a210:=Tryz.isAgg368
 z210:=Tryz.sizeOf368
 v210:=Tryz.zeroValue368
 t212:=Tryz.underlying325
 a212:=Tryz.isAgg325
 z212:=Tryz.sizeOf325
 v212:=Tryz.zeroValue325
 t213:=Tryz.underlying326
 a213:=Tryz.isAgg326
 z213:=Tryz.sizeOf326
 t232:=Tryz.underlying345
 a232:=Tryz.isAgg345
 z232:=Tryz.sizeOf345
 v232:=Tryz.zeroValue345
 t233:=Tryz.underlying346
 a233:=Tryz.isAgg346
 z233:=Tryz.sizeOf346
 v233:=Tryz.zeroValue346
 g15:=by kernel_rfl
 g16:=by kernel_rfl
 g17:=by kernel_rfl
 g18:=by kernel_rfl
 g19:=by kernel_rfl
 t80:=Tryz.underlying67
 a80:=Tryz.isAgg67
 z80:=Tryz.sizeOf67
 v80:=Tryz.zeroValue67
 i0:=by kernel_rfl
 i2:=by kernel_rfl
 i3:=by kernel_rfl
 i4:=by kernel_rfl
 i5:=by kernel_rfl
 i9:=by kernel_rfl
 i20:=by kernel_rfl
 i21:=by kernel_rfl
 i37:=by kernel_rfl
 i46:=by kernel_rfl
 i51:=by kernel_rfl
 i53:=by kernel_rfl
 i75:=by kernel_rfl
 i80:=by kernel_rfl
 i85:=by kernel_rfl
 i127:=by kernel_rfl
 i143:=by kernel_rfl
 i145:=by kernel_rfl
 i167:=by kernel_rfl
 i168:=by kernel_rfl
 i171:=by kernel_rfl
 i173:=by kernel_rfl
 i175:=by kernel_rfl
 i210:=by kernel_rfl
 i212:=by kernel_rfl
 i232:=by kernel_rfl
 i233:=by kernel_rfl
 m15:=by kernel_rfl
 m16:=by kernel_rfl
 m17:=by kernel_rfl
 m18:=by kernel_rfl
 m19:=by kernel_rfl
 c0:=by kernel_rfl
 c2:=by kernel_rfl
 c3:=by kernel_rfl
 c4:=by kernel_rfl
 c5:=by kernel_rfl
 c9:=by kernel_rfl
 c20:=by kernel_rfl
 c21:=by kernel_rfl
 c37:=by kernel_rfl
 c46:=by kernel_rfl
 c51:=by kernel_rfl
 c53:=by kernel_rfl
 c75:=by kernel_rfl
 c80:=by kernel_rfl
 c85:=by kernel_rfl
 c127:=by kernel_rfl
 c143:=by kernel_rfl
 c145:=by kernel_rfl
 c167:=by kernel_rfl
 c168:=by kernel_rfl
 c171:=by kernel_rfl
 c173:=by kernel_rfl
 c175:=by kernel_rfl
 c210:=by kernel_rfl
 c212:=by kernel_rfl
 c213:=by kernel_rfl
 c232:=by kernel_rfl
 c233:=by kernel_rfl }
open Go.RowKit in
theorem Tryz.strconv_ParseInt_10_at64_ok(s:ByteArray)(hmax:s.size<=9223372036854775806)(v:Int)(h:Lib.parseIntB 64 s.data.toList=.ok v)(w:World):
  Calls Tryz.prog 328 #[.string s,.int .i64 10,.int .i64 64] w fun e w'=>e=.returned (.tuple #[.int .i64 v,.nilIface])/\(w'=w\/∃ t,w'=Lib.bytesWorld w 5 t):=Any.strconv_ParseInt_10_at64_ok Tryz.laysC174 s hmax v h w
end Go.Proofs
set_option maxHeartbeats 4000000
set_option maxRecDepth 100000
set_option linter.unusedSimpArgs false
namespace Go.Proofs.YtkkjpohaffjecaaGreatDoor
open Go.Eng (IC IOper DReg IFn J0 G2)
open Go.Sym Go.Pb Go.RowKit
theorem arg1{ρ : Ren}{x:DV}{u:Value}{vs:Array Value}(hA:E8 ρ [x] vs)(h:∀ y,VRel ρ x y->y=u):vs = #[u]:=by
 obtain⟨y,h1,h2⟩:=hA.get (i:=0) rfl;have hs:vs.size=1:=hA.1.symm;obtain rfl:=h y h2;cases vs with|mk l=>match l,hs,h1 with
  |[a],_,h1=>simp at h1;subst h1;rfl
theorem D8p{ρ : Ren}{x x2:DV}{u u2:Value}{vs:Array Value}(hA:E8 ρ [x,x2] vs)(h:∀ y,VRel ρ x y->y=u)(h2:∀ y,VRel ρ x2 y->y=u2):vs = #[u,u2]:=by
 obtain⟨y,g1,g2⟩:=hA.get (i:=0) rfl;obtain⟨z,g3,g4⟩:=hA.get (i:=1) rfl;obtain rfl:=h y g2;obtain rfl:=h2 z g4;have hs:vs.size=2:=hA.1.symm;cases vs with|mk r=>match r,hs,g1,g3 with
  |[a,b],_,h1,h3=>simp at h1 h3;subst h1 h3;rfl
theorem D8o{ρ : Ren}{x x2 x3:DV}{u u2 u3:Value}{vs:Array Value}(hA:E8 ρ [x,x2,x3] vs)(h:∀ y,VRel ρ x y->y=u)(h2:∀ y,VRel ρ x2 y->y=u2)(h3:∀ y,VRel ρ x3 y->y=u3):vs = #[u,u2,u3]:=by
 obtain⟨y,g1,g2⟩:=hA.get (i:=0) rfl;obtain⟨z,g3,g4⟩:=hA.get (i:=1) rfl;obtain⟨q,g5,g6⟩:=hA.get (i:=2) rfl;obtain rfl:=h y g2;obtain rfl:=h2 z g4;obtain rfl:=h3 q g6;have hs:vs.size=3:=hA.1.symm;cases vs with|mk r=>match r,hs,g1,g3,g5 with
  |[a,b,c],_,h1,h3,h5=>simp at h1 h3 h5;subst h1 h3 h5;rfl
theorem c_IndexByte(s:List UInt8)(c:UInt8):PC Tryz.prog 329 [.str s,.int .u8 c.toNat] (I64 (Lib.indexByte s c)):=by
 refine PC.of_calls (by kernel_rfl) rfl rfl fun ρ w vs hf hA=>?_;rw[D8p hA (fun y h=>h.str_inv) (fun y h=>h.int_inv)];refine (Tryz.strings_IndexByte _ _ w).mono ?_;rintro e w' ⟨rfl,rfl⟩;refine⟨_,rfl,fun ρ'=>?_,Below.refl _ _⟩;have:((c.toNat:Int).toNat.toUInt8)=c:=by rw[A3F];exact UInt8.ofNat_toNat
 rw[this];exact .int _ _
theorem c_ParseOk(s:List UInt8)(hs:s.length<=281474976710656)(h:∀ c∈s,dgB c=true)(h0:s≠[])(hv:O9 s<=9223372036854775807):PC Tryz.prog 328 [.str s,I64 10,I64 64] (.tup [I64 (O9 s),.inil]):=by
 refine PC.of_calls (by kernel_rfl) rfl rfl fun ρ w vs hf hA=>?_;rw[D8o hA (fun y h=>h.str_inv) (fun y h=>h.int_inv) (fun y h=>h.int_inv)];refine (Tryz.strconv_ParseInt_10_at64_ok _ (by show s.toArray.size<=_;rw[A3C];omega) (O9 s:Int) (by have:=pib h h0;rw[if_pos hv]at this;exact this) w).mono ?_;rintro e w' ⟨rfl,hw⟩;refine⟨_,rfl,fun ρ'=>.tup _ _ rfl (fun i x y hx hy=>?_),?_⟩
 ·match i with
  |0=>simp at hx hy;subst hx hy;exact .int _ _
  |1=>simp at hx hy;subst hx hy;exact .inil
  |_+2=>simp at hx
 ·rcases hw with rfl|⟨t,rfl⟩
  ·exact Below.refl _ _
  ·exact⟨rfl,rfl,rfl,by rw[Lib.bytesWorld_size];omega,fun j hj=>Lib.bytesWorld_at_old _ _ _ _ hj⟩
def B8j:List UInt8:=w8 [115,119,105,116,99,104,32,99,111,105,108,32,108,97,109,112,32,115,111,117,110,100,32,115,104,111,119,32,118,97,114,32,116,105,109,101,114,32,101,118,101,110,116,32,109,111,100,101,32,111,110,32,115,116,97,114,116,32,115,116,111,112,32,99,108,111,115,101,32,111,112,101,110,32,105,102,32,101,108,115,101,32,114,101,112,101,97,116,32,115,99,111,114,101,32,102,105,114,101,32,104,111,108,100,32,114,101,108,101,97,115,101,32,108,105,103,104,116,32,98,108,105,110,107,32,98,101,103,105,110,32,101,110,100,32,112,111,115,116,32,112,108,97,121,32,114,117,110,32,104,97,108,116,32,116,101,120,116,32,99,111,110,115,117,109,101,32,99,108,111,115,101,100,32,97,99,116,105,118,101,32,108,101,102,116,32,112,108,97,121,101,114,32,98,97,108,108,32,116,114,117,101,32,102,97,108,115,101]
theorem C7l:Lib.fields B8j=E6:=by kernel_rfl
theorem C7m:B8j.all (fun b=>decide (b.toNat<128))=true:=by kernel_rfl
theorem c_Fields:PC Tryz.prog 282 [.str B8j] (.lst (E6.map DV.str)):=by
 refine PC.of_callsF (by kernel_rfl) rfl (N4 _) fun ρ w vs hf hA=>?_;rw[arg1 hA (fun y h=>h.str_inv)];obtain⟨r,hr,rfl⟩ := ρ.tab _ (A0L _ A0M);obtain⟨e,fr,hb⟩:=hf _ _ hr;have ht : Lib.TabIs Tryz.prog w "strings.asciiSpace" .u8 Lib.asciiSpaceTab := by
  unfold Lib.TabIs World.var?;rw [show Tryz.prog.globalNamed "strings.asciiSpace" = some 1 by kernel_rfl]
  show (match w.heap[1]? with|some (.cells cs _ _)=>some cs|_=>none)=_;have hb':w.heap[1]? = _:=hb;rw[hb']
 refine (Tryz.strings_Fields _ w (by decide) ?_ ht).mono ?_
 ·intro j b hj;have:=A0P.1 C7m b (A0V hj);simpa using this
 ·rintro e w' ⟨rfl,rfl⟩;have hl:Lib.fields (⟨B8j.toArray⟩:ByteArray).data.toList=E6:=C7l;rw[hl];refine⟨_,w.heap.size,_,9,_,rfl,A0G _,(by show (w.heap.push _)[w.heap.size]? = _;rw[Array.getElem?_push_size]),fun ρ' hρ => VRel.strs hρ rfl (A0G _) (by decide),Below.alloc (Below.refl _ _) (A0G _) _⟩
open Go.Eng (IC IOper DReg IFn J0)
open Go.Sym Go.Pb
theorem c_Fields':PC Tryz.prog 282 [.str [115,119,105,116,99,104,32,99,111,105,108,32,108,97,109,112,32,115,111,117,110,100,32,115,104,111,119,32,118,97,114,32,116,105,109,101,114,32,101,118,101,110,116,32,109,111,100,101,32,111,110,32,115,116,97,114,116,32,115,116,111,112,32,99,108,111,115,101,32,111,112,101,110,32,105,102,32,101,108,115,101,32,114,101,112,101,97,116,32,115,99,111,114,101,32,102,105,114,101,32,104,111,108,100,32,114,101,108,101,97,115,101,32,108,105,103,104,116,32,98,108,105,110,107,32,98,101,103,105,110,32,101,110,100,32,112,111,115,116,32,112,108,97,121,32,114,117,110,32,104,97,108,116,32,116,101,120,116,32,99,111,110,115,117,109,101,32,99,108,111,115,101,100,32,97,99,116,105,118,101,32,108,101,102,116,32,112,108,97,121,101,114,32,98,97,108,108,32,116,114,117,101,32,102,97,108,115,101]] (.lst (E6.map DV.str)):=c_Fields
theorem B6u:∀ k:Nat,k<38->(E6.take k).contains (E6.getD k [])=false:=by decide +kernel
theorem c_words:PC Tryz.prog 216 [] (.mp .s (E6.map DV.str) (E6.map fun _=>DV.bool true)):=by
 refine PC.ofT A4 rfl (A0B rfl) rfl (by simp only[DV.nl];rw[N4,H9 (fun _=>rfl)];rfl) ?_;have hf:=c_Fields';repeat' ((with_reducible first|apply wr|refine cpc hf ?_|fail)<;>try simp only[go_sem,seval])
 clear hf;refine C1 (fun k:Nat=>[(1,.mid 0),(5,.lst (E6.map DV.str)),(6,I64 E6.length),(7,I64 k)]) (fun k=>Sym.nil.upd 0 ⟨0,true,[.mpc .s ((E6.take k).map DV.str) ((E6.take k).map fun _=>DV.bool true)]⟩) (fun k _=>k<=E6.length) (fun k=>E6.length-k) 0 (by simp[C6,tm,Tm.upd]) (Sub.refl _) (by simp) ?_;rintro k c hk;have hlen:E6.length=38:=rfl;by_cases hlt:k<E6.length
 ·have hd:=dtz hlt;have hg:=A0C hlt;have hw:IntKind.i64.wrap ((k:Int)+1)=((k+1:Nat):Int):=by rw[w6z (by omega)];omega
  have hn:(E6.take k).contains E6[k]=false:=by
   have:=B6u k (by omega)
   rwa [A0Y,hg,A3I]at this
  have hm:=A6q hn 0;have e1:E6.take (k+1)=E6.take k++[E6[k]]:=by rw[A0S,hg];rfl
  repeat' (apply wr<;>try simp only[go_sem,seval,hd,hg,hw,hm])
  refine⟨k+1,rfl,?_,inv hlt,by omega⟩;rw[e1,A0R,A0R];intro j b hj;by_cases e:j=0
  ·subst e;rw[h_same]at hj ⊢;exact hj
  ·rw[h_ne e]at hj;cases hj
 ·have hd:=dfz hlt;repeat' (apply wr<;>try simp only[go_sem,seval,hd])
  rw[A0I (by omega)];exact C0m h_same
abbrev A1j:DV:=.mp .s (E6.map DV.str) (E6.map fun _=>DV.bool true)
theorem C9y(w:List UInt8):lkV (.bool false) false (E6.map fun _=>DV.bool true) (E7 (.str w) (E6.map DV.str) 0)=some (.bool (F9 w)):=by
 cases h:F9 w with
 |false=>rw[A6q h 0];rfl
 |true =>
  obtain⟨j,hj⟩:=B3v h 0;have hlt:=(B2b hj).2;rw[A0F]at hlt;rw[hj,C1e,A1U,A0C (by omega)];rfl
theorem c_IsWord(s:List UInt8):PC Tryz.prog 201 [.str s] (.bool (F9 s)):=by
 refine PC.go A4 ?_;have hw:=c_words;have hlk:=C9y s;repeat' ((with_reducible first|apply wr|refine cpc hw ?_|fail)<;>try simp only[go_sem,seval,hlk])
 exact A6 rfl
theorem c_IsName(s:List UInt8)(hs:s.length<=1000000000):PC Tryz.prog 133 [.str s] (.bool (D0 s)):=by
 refine PC.go A4 ?_;have hw:=c_IsWord s;have hsp:=c_spanPt s (by omega);cases s with
 |nil =>
  repeat' (apply wr<;>try simp only[go_sem,seval])
  exact A6 rfl
 |cons c r =>
  have hx:B4a (DV.str (c :: r)) (.int .i64 0)=some (.int .u8 (c.toNat:Int)):=rfl;have hlt:=c_letter c;have hd1:decide (((r.length+1:Nat):Int)≥1)=true:=by simp;omega
  repeat' ((with_reducible first|refine wr ?_|refine cpc hw ?_|refine cpc hsp ?_|refine cpc hlt ?_|refine wb2 ?_ ?_<;>(intro hb;try simp only[hb])|fail)<;>try simp only[go_sem,seval,hx,hd1])
  all_goals (refine A6 (congrArg DV.bool ?_);simp_all[D0]<;>omega)
theorem c_wordsR:PC Tryz.prog 272 [] (.lst (E6.map DV.str)):=by
 refine PC.ofT A4 rfl (A0B rfl) rfl (N4 _) ?_;repeat' (apply wr<;>try simp only[go_sem,seval])
 exact K5 (xs:=E6.map DV.str) (u:=1) h_same rfl rfl (L3 _) ⟨[],rfl⟩
theorem c_signsR:PC Tryz.prog 192 [] (.lst (M8.map DV.str)):=by
 refine PC.ofT A4 rfl (A0B rfl) rfl (N4 _) ?_;repeat' (apply wr<;>try simp only[go_sem,seval])
 exact K5 (xs:=M8.map DV.str) (u:=1) h_same rfl rfl (L3 _) ⟨[],rfl⟩
theorem c_IsWordR(s:List UInt8):PC Tryz.prog 205 [.str s] (.bool (F9 s)):=by
 refine PC.go A4 ?_;have hw:=c_wordsR;repeat' ((with_reducible first|apply wr|refine cpc hw ?_|fail)<;>try simp only[go_sem,seval])
 refine C1 (fun k:Nat=>[(0,.str s),(3,.lst (E6.map DV.str)),(4,I64 k)]) (fun _=>nil) (fun k _=>k<=E6.length/\(E6.take k).contains s=false) (fun k=>E6.length-k) 0 (by simp[C6,tm,Tm.upd]) (Sub.nil _) (by simp) ?_;rintro k c ⟨hk,he⟩;have hlen:E6.length=38:=rfl;by_cases hlt:k<E6.length
 ·have hd:=dtz hlt;have hg:=A0C hlt;have hw:IntKind.i64.wrap ((k:Int)+1)=((k+1:Nat):Int):=by rw[w6z (by omega)];omega
  repeat' ((with_reducible first|refine wr ?_|refine wb2 ?_ ?_<;>(intro hb;try simp only[hb])|fail)<;>try simp only[go_sem,seval,hd,hg,hw])
  ·refine A6 (congrArg DV.bool ?_);have:s=E6[k]:=(A1F.1 hb).symm;unfold F9;rw[List.contains_iff_mem.2 (by rw[this];exact A0Q hlt)]
  ·refine⟨k+1,rfl,Sub.refl _,inv ⟨hlt,?_⟩,by omega⟩;rw[A0S,hg,List.contains_append,he];have:¬ s=E6[k]:=fun e=>by rw[e]at hb;simp at hb
   simpa using this
 ·have hd:=dfz hlt;repeat' (apply wr<;>try simp only[go_sem,seval,hd])
  refine A6 (congrArg DV.bool ?_);rw[A0I (by omega)]at he;exact he.symm
theorem c_skipR(s:List UInt8)(hs:s.length<=1000000000)(i:Nat)(hi:i<=s.length):PC Tryz.prog 123 [.str s,I64 i] (I64 ((i+skM false (s.drop i):Nat):Int)):=by
 refine PC.go A4 ?_;repeat' (apply wr<;>try simp only[go_sem,seval])
 refine C1 (fun k:Nat=>[(0,.str s),(1,I64 k)]) (fun _=>nil) (fun k _=>k<=s.length/\i+skM false (s.drop i)=k+skM false (s.drop k)) (fun k=>s.length-k) i (by simp[C6,tm,Tm.upd]) (Sub.nil _) ⟨hi,rfl⟩ ?_;rintro k c ⟨hk,he⟩;by_cases hlt:k<s.length
 ·have hd:=dtz hlt;have hg:=A0C hlt;have hw:=w64 (n:=(k:Int)+1);have hsep:A4s s[k]=true->∃ b,DV.int IntKind.i64 ((k:Int)+1)=I64 ((b:Nat):Int)/\Sym.Sub Sym.nil Sym.nil/\B2s (fun k _=>k<=s.length/\i+skM false (s.drop i)=k+skM false (s.drop k)) b c/\s.length-b<s.length-k :=
   fun h=>⟨k+1,rfl,Sub.refl _,inv ⟨by omega,by rw[he,C8e hg h];omega⟩,by omega⟩
  repeat' ((with_reducible first|refine wr ?_|refine wb2 ?_ ?_<;>(intro hb;try simp only[hb])|fail)<;>try simp only[go_sem,seval,hd,hg,hw])
  ·have h35:=B2r (b:=35) hb;have h1:=C3u hg h35;have h2:=C8g hg h35;refine C1 (fun j:Nat=>[(0,.str s),(1,I64 ((k+j:Nat):Int))]) (fun _=>nil) (fun j _=>k+j<=s.length/\j<=D2 (fun c=>decide (c.toNat≠10)) (s.drop k)) (fun j=>s.length-(k+j)) 0 (by simp[C6,tm,Tm.upd]) (Sub.nil _) (by simp;omega) ?_;rintro j c ⟨hkj,hej⟩;have hend:D2 (fun c=>decide (c.toNat≠10)) (s.drop k)=j->∃ b,I64 ((k+j:Nat):Int)=I64 ((b:Nat):Int)/\Sym.Sub Sym.nil Sym.nil/\B2s (fun k _=>k<=s.length/\i+skM false (s.drop i)=k+skM false (s.drop k)) b c/\s.length-b<s.length-k:=by
    intro e;rw[e]at h1 h2;exact⟨k+j,rfl,Sub.refl _,inv ⟨hkj,by rw[he,h2];omega⟩,by omega⟩
   by_cases hlt2:k+j<s.length
   ·have hd2:decide (((k+j:Nat):Int)<s.length)=true:=by simp;omega
    have hg2:=A0C hlt2;have hw2:IntKind.i64.wrap (((k+j:Nat):Int)+1)=((k+(j+1):Nat):Int):=by rw[w6z (by omega)];omega
    have hst:=A6d hg2 hej;repeat' ((with_reducible first|refine wr ?_|refine wb2 ?_ ?_<;>(intro hb;try simp only[hb])|fail)<;>try simp only[go_sem,seval,hd2,hg2,hw2])
    ·exact⟨j+1,rfl,Sub.refl _,inv ⟨hlt2,hst.1 (by simpa using C6a (b:=10) hb)⟩,by omega⟩
    ·exact hend (hst.2 (by simpa using D1f (b:=10) hb))
   ·have hd2:decide (((k+j:Nat):Int)<s.length)=false:=by simp;omega
    repeat' (apply wr<;>try simp only[go_sem,seval,hd2])
    exact hend (A3j (by omega) hej)
  ·exact hsep (by simp[A4s,B2r (b:=9) hb])
  ·exact hsep (by simp[A4s,B2r (b:=10) hb])
  ·exact hsep (by simp[A4s,B2r (b:=13) hb])
  ·exact hsep (by simp[A4s,B2r (b:=32) hb])
  ·refine A6 ?_;have h9:=A4y (a:=s[k].toNat) (b:=9) (by assumption);have h10:=A4y (a:=s[k].toNat) (b:=10) (by assumption);have h13:=A4y (a:=s[k].toNat) (b:=13) (by assumption);have h32:=A4y (a:=s[k].toNat) (b:=32) (by assumption);have h35:=A4y (a:=s[k].toNat) (b:=35) (by assumption);rw[he,C3t hg (by simp[A4s,h9,h10,h13,h32]) h35];simp
 ·have hd:=dfz hlt;repeat' (apply wr<;>try simp only[go_sem,seval,hd])
  refine A6 ?_;rw[he,C8f (by omega)];simp
theorem c_wordR(s:List UInt8)(hs:s.length<=1000000000)(i:Nat)(hi:i<s.length)(hl:ltB s[i]=true):PC Tryz.prog 188 [.str s,I64 i] (nxR (C0 (s.drop i)) i):=by
 have hM:C0 (s.drop i)=if 12<D2 ptB (s.drop i) then nxE 9 else ⟨if F9 ((s.drop i).take (D2 ptB (s.drop i)))=true then 2 else 1,(s.drop i).take (D2 ptB (s.drop i)),0,D2 ptB (s.drop i),0⟩:=by
  rw[J8 (A0C hi),C0,if_pos hl]
 rw[hM];have hle:=U7 ptB (s.drop i);rw[A1Z]at hle;refine PC.ofT A4 rfl (A0B rfl) rfl (B3p _ _) ?_;repeat' (apply wr<;>try simp only[go_sem,seval])
 refine C1 (fun j:Nat=>[(0,.str s),(1,I64 i),(4,.ptr 0 0),(7,I64 ((i+j:Nat):Int))]) (fun _=>Sym.nil.upd 0 ⟨0,true,[I64 0,.str [],I64 0,I64 0]⟩) (fun j cc=>1<=cc/\i+j<=s.length/\j<=D2 ptB (s.drop i)) (fun j=>s.length-(i+j)) 0 (by simp[C6,tm,Tm.upd]) (Sub.refl _) (by simp;omega) ?_;rintro j c ⟨h1c,hk,he⟩;have hw2:IntKind.i64.wrap (((i+j:Nat):Int)-i)=(j:Int):=by rw[w6z (by omega)];omega
 have hsx:=B1e hk;have hiw:=c_IsWordR ((s.drop i).take j);have hR9:D2 ptB (s.drop i)=j->12<j->Q9 9 i=nxR (if 12<D2 ptB (s.drop i) then nxE 9 else ⟨if F9 ((s.drop i).take (D2 ptB (s.drop i)))=true then 2 else 1,(s.drop i).take (D2 ptB (s.drop i)),0,D2 ptB (s.drop i),0⟩) i:=by
  intro e h;rw[e,if_pos h,A5n (by decide)]
 have hRw:D2 ptB (s.drop i)=j->¬ 12<j->F9 ((s.drop i).take j)=true->okN 2 ((s.drop i).take j) 0 i j=nxR (if 12<D2 ptB (s.drop i) then nxE 9 else ⟨if F9 ((s.drop i).take (D2 ptB (s.drop i)))=true then 2 else 1,(s.drop i).take (D2 ptB (s.drop i)),0,D2 ptB (s.drop i),0⟩) i:=by
  intro e h h2;rw[e,if_neg h,A6l,if_pos h2]
 have hRn:D2 ptB (s.drop i)=j->¬ 12<j->F9 ((s.drop i).take j)=false->okN 1 ((s.drop i).take j) 0 i j=nxR (if 12<D2 ptB (s.drop i) then nxE 9 else ⟨if F9 ((s.drop i).take (D2 ptB (s.drop i)))=true then 2 else 1,(s.drop i).take (D2 ptB (s.drop i)),0,D2 ptB (s.drop i),0⟩) i:=by
  intro e h h2;rw[e,if_neg h,A6l,if_neg (by rw[h2];simp)]
 by_cases hlt:i+j<s.length
 ·have hd:decide (((i+j:Nat):Int)<s.length)=true:=by simp;omega
  have hg:=A0C hlt;have hw:IntKind.i64.wrap (((i+j:Nat):Int)+1)=((i+(j+1):Nat):Int):=by rw[w6z (by omega)];omega
  have h1:=c_letterR s[i+j];have h2:=c_digitR s[i+j];have hst:=A6d hg he;have hlp:ptB s[i+j]=true->∃ b,DV.int IntKind.i64 ((i+(j+1):Nat):Int)=I64 ((i+b:Nat):Int)/\Sym.Sub (Sym.nil.upd 0 ⟨0,true,[I64 0,.str [],I64 0,I64 0]⟩) (Sym.nil.upd 0 ⟨0,true,[I64 0,.str [],I64 0,I64 0]⟩) /\
    B2s (fun j cc=>1<=cc/\i+j<=s.length/\j<=D2 ptB (s.drop i)) b c/\s.length-(i+b)<s.length-(i+j) :=
   fun h=>⟨j+1,rfl,Sub.refl _,inv ⟨h1c,hlt,hst.1 h⟩,by omega⟩
  have ne0:=R3 c 0 (by omega);repeat' ((with_reducible first|refine wr ?_|refine cpc h1 ?_|refine cpc h2 ?_|refine cpc hiw ?_|refine wb2 ?_ ?_<;>(intro hb;try simp only[hb])|fail)<;>try simp only[go_sem,seval,hd,hg,hw,hw2,hsx,ne0])
  ·exact hlp (by simp[ptB,hb])
  ·exact hlp (by simp[ptB,hb])
  ·exact hlp (by simp[ptB,B2r (b:=95) hb])
  ·have hj:=hst.2 (by simp only[ptB];rw[‹ltB s[i+j]=false›, ‹dgB s[i+j]=false›];simpa using A4y (a:=s[i+j].toNat) (b:=95) (by assumption));rw[E0 (v:=Q9 9 i) rfl];exact A6 (hR9 hj (B7x hb))
  ·have hj:=hst.2 (by simp only[ptB];rw[‹ltB s[i+j]=false›, ‹dgB s[i+j]=false›];simpa using A4y (a:=s[i+j].toNat) (b:=95) (by assumption));rw[E0 (v:=okN 2 ((s.drop i).take j) 0 i j) rfl];exact A6 (hRw hj (A7s (a:=j) (b:=12) (by assumption)) hb)
  ·have hj:=hst.2 (by simp only[ptB];rw[‹ltB s[i+j]=false›, ‹dgB s[i+j]=false›];simpa using A4y (a:=s[i+j].toNat) (b:=95) (by assumption));rw[E0 (v:=okN 1 ((s.drop i).take j) 0 i j) rfl];exact A6 (hRn hj (A7s (a:=j) (b:=12) (by assumption)) hb)
 ·have hd:decide (((i+j:Nat):Int)<s.length)=false:=by simp;omega
  have hj:=A3j (p:=ptB) (s:=s) (by omega) he;have ne0:=R3 c 0 (by omega);repeat' ((with_reducible first|refine wr ?_|refine cpc hiw ?_|refine wb2 ?_ ?_<;>(intro hb;try simp only[hb])|fail)<;>try simp only[go_sem,seval,hd,hw2,hsx,ne0])
  ·rw[E0 (v:=Q9 9 i) rfl];exact A6 (hR9 hj (B7x hb))
  ·rw[E0 (v:=okN 2 ((s.drop i).take j) 0 i j) rfl];exact A6 (hRw hj (A7s (a:=j) (b:=12) (by assumption)) hb)
  ·rw[E0 (v:=okN 1 ((s.drop i).take j) 0 i j) rfl];exact A6 (hRn hj (A7s (a:=j) (b:=12) (by assumption)) hb)
theorem c_numberR(s:List UInt8)(hs:s.length<=1000000000)(i:Nat)(hi:i<s.length)(hl:ltB s[i]=false)(hg0:dgB s[i]=true):PC Tryz.prog 190 [.str s,I64 i] (nxR (C0 (s.drop i)) i):=by
 have hM:C0 (s.drop i)=if 1<D2 dgB (s.drop i)/\s[i].toNat=48 then nxE 47
   else if 2147483647<O9 ((s.drop i).take (D2 dgB (s.drop i))) then nxE 5
   else ⟨3,[],(O9 ((s.drop i).take (D2 dgB (s.drop i))):Int),D2 dgB (s.drop i),0⟩:=by
  have hdr:=J8 (A0C hi);have:∀ r,s.drop i=s[i] :: r->C0 (s.drop i)=if 1<D2 dgB (s.drop i)/\s[i].toNat=48 then nxE 47
   else if 2147483647<O9 ((s.drop i).take (D2 dgB (s.drop i))) then nxE 5
   else ⟨3,[],(O9 ((s.drop i).take (D2 dgB (s.drop i))):Int),D2 dgB (s.drop i),0⟩:=by
   intro r e;rw[e,C0,if_neg (by rw[hl];simp),if_pos hg0]
  exact this _ hdr
 have hle:=U7 dgB (s.drop i);rw[A1Z]at hle;obtain⟨D,hD⟩:∃ D,D=s.drop i:=⟨_,rfl⟩;refine PC.ofT A4 rfl (A0B rfl) rfl (B3p _ _) ?_;repeat' (apply wr<;>try simp only[go_sem,seval])
 refine C1 (fun j:Nat=>[(0,.str s),(1,I64 i),(4,.ptr 0 0),(7,I64 ((i+j:Nat):Int)),(8,I64 (smV (D.take j))),(9,.bool (B0k (D.take j)))]) (fun _=>Sym.nil.upd 0 ⟨0,true,[I64 0,.str [],I64 0,I64 0]⟩) (fun j _=>i+j<=s.length/\j<=D2 dgB (s.drop i)) (fun j=>s.length-(i+j)) 0 (by simp[C6,tm,Tm.upd,smV,B0k,O9]) (Sub.refl _) (by simp;omega) ?_;rintro j c ⟨hk,he⟩;have hw2:IntKind.i64.wrap (((i+j:Nat):Int)-i)=(j:Int):=by rw[w6z (by omega)];omega
 have hgi:=A0C hi;have hRz:D2 dgB (s.drop i)=j->1<j->s[i].toNat=48->Q9 47 i=nxR (C0 (s.drop i)) i:=by
  intro e h h2;rw[hM,e,if_pos ⟨h,h2⟩,A5n (by decide)]
 have hRb:D2 dgB (s.drop i)=j->¬ (1<j/\s[i].toNat=48)->B0k (D.take j)=true->Q9 5 i=nxR (C0 (s.drop i)) i:=by
  intro e h h2;rw[hM,e,if_neg h, <- hD,if_pos (of_decide_eq_true h2),A5n (by decide)]
 have hRk:D2 dgB (s.drop i)=j->¬ (1<j/\s[i].toNat=48)->B0k (D.take j)=false->okN 3 [] (smV (D.take j)) i j=nxR (C0 (s.drop i)) i:=by
  intro e h h2;have h3:=of_decide_eq_false h2;rw[hM,e,if_neg h, <- hD,if_neg h3,A6l,B9j h3]
 by_cases hlt:i+j<s.length
 ·have hd:decide (((i+j:Nat):Int)<s.length)=true:=by simp;omega
  have hg:=A0C hlt;have hw:IntKind.i64.wrap (((i+j:Nat):Int)+1)=((i+(j+1):Nat):Int):=by rw[w6z (by omega)];omega
  have h2:=c_digitR s[i+j];have hst:=A6d hg he;by_cases hdg:dgB s[i+j]=true
  ·rw[hdg]at h2;have hgD:D[j]? = some s[i+j]:=by rw[hD,A1W];exact hg
   have hn:=B7l hgD;have hdd:48<=s[i+j].toNat/\s[i+j].toNat<=57:=by simpa[dgB] using hdg
   obtain⟨z,hz⟩:∃ z:Nat,z=s[i+j].toNat-48:=⟨_,rfl⟩;rw[<- hz]at hn;have w1:IntKind.i64.wrap (10 * (smV (D.take j):Int))=((10 * smV (D.take j):Nat):Int):=by have:=B9i (D.take j);rw[w6z (by omega)];omega
   have w2:IntKind.u8.wrap ((s[i+j].toNat:Int)-48)=(z:Int):=by rw[wu8 (by omega) (by omega)];omega
   have w3:IntKind.i64.wrap (z:Int)=(z:Int):=w6z (by omega);have w4:IntKind.i64.wrap (((10 * smV (D.take j):Nat):Int)+z)=((10 * smV (D.take j)+z:Nat):Int):=by have:=B9i (D.take j);rw[w6z (by omega)];omega
   by_cases hbg:2147483647<O9 (D.take j)
   ·have hb1:B0k (D.take j)=true:=decide_eq_true hbg;have e1:B0k (D.take (j+1))=true:=decide_eq_true (by omega);have e2:smV (D.take (j+1))=0:=C6i (by omega);rw[hb1];repeat' ((with_reducible first|apply wr|refine cpc h2 ?_|fail)<;>try simp only[go_sem,seval,hd,hg,hw,w1,w2,w3,w4])
    exact⟨j+1,⟨rfl,by rw[e2];rfl,by rw[e1]⟩,Sub.refl _,inv ⟨hlt,hst.1 hdg⟩,by omega⟩
   ·have hb1:B0k (D.take j)=false:=decide_eq_false hbg;have hs1:=B9j hbg;rw[hb1];by_cases hbn:2147483647<O9 (D.take (j+1))
    ·have e1:B0k (D.take (j+1))=true:=decide_eq_true hbn;have e2:smV (D.take (j+1))=0:=C6i hbn;have hd5:decide (((10 * smV (D.take j)+z:Nat):Int)>2147483647)=true:=by simp only[A0J];omega
     repeat' ((with_reducible first|apply wr|refine cpc h2 ?_|fail)<;>try simp only[go_sem,seval,hd,hg,hw,w1,w2,w3,w4,hd5])
     exact⟨j+1,⟨rfl,by rw[e2];rfl,by rw[e1]⟩,Sub.refl _,inv ⟨hlt,hst.1 hdg⟩,by omega⟩
    ·have e1:B0k (D.take (j+1))=false:=decide_eq_false hbn;have e2:smV (D.take (j+1))=10 * smV (D.take j)+z:=by rw[B9j hbn,hn,hs1]
     have hd5:decide (((10 * smV (D.take j)+z:Nat):Int)>2147483647)=false:=by simp only[A1M];omega
     repeat' ((with_reducible first|apply wr|refine cpc h2 ?_|fail)<;>try simp only[go_sem,seval,hd,hg,hw,w1,w2,w3,w4,hd5])
     exact⟨j+1,⟨rfl,by rw[e2],by rw[e1]⟩,Sub.refl _,inv ⟨hlt,hst.1 hdg⟩,by omega⟩
  ·have hdg0:dgB s[i+j]=false:=by simpa using hdg
   rw[hdg0]at h2;have hj:=hst.2 hdg0;repeat' ((with_reducible first|refine wr ?_|refine cpc h2 ?_|refine wb2 ?_ ?_<;>(intro hb;try simp only[hb])|fail)<;>try simp only[go_sem,seval,hd,hg,hw2,hgi])
   ·rw[E0 (v:=Q9 47 i) rfl];exact A6 (hRz hj (B7x hb) (B2r (b:=48) (by assumption)))
   ·rw[E0 (v:=Q9 5 i) rfl];exact A6 (hRb hj (fun h=>A7s (a:=j) (b:=1) (by assumption) h.1) hb)
   ·rw[E0 (v:=okN 3 [] (smV (D.take j)) i j) rfl];exact A6 (hRk hj (fun h=>A7s (a:=j) (b:=1) (by assumption) h.1) hb)
   ·rw[E0 (v:=Q9 5 i) rfl];exact A6 (hRb hj (fun h=>A4y (b:=48) (by assumption) h.2) hb)
   ·rw[E0 (v:=okN 3 [] (smV (D.take j)) i j) rfl];exact A6 (hRk hj (fun h=>A4y (b:=48) (by assumption) h.2) hb)
 ·have hd:decide (((i+j:Nat):Int)<s.length)=false:=by simp;omega
  have hj:=A3j (p:=dgB) (s:=s) (by omega) he;repeat' ((with_reducible first|refine wr ?_|refine wb2 ?_ ?_<;>(intro hb;try simp only[hb])|fail)<;>try simp only[go_sem,seval,hd,hw2,hgi])
  ·rw[E0 (v:=Q9 47 i) rfl];exact A6 (hRz hj (B7x hb) (B2r (b:=48) (by assumption)))
  ·rw[E0 (v:=Q9 5 i) rfl];exact A6 (hRb hj (fun h=>A7s (a:=j) (b:=1) (by assumption) h.1) hb)
  ·rw[E0 (v:=okN 3 [] (smV (D.take j)) i j) rfl];exact A6 (hRk hj (fun h=>A7s (a:=j) (b:=1) (by assumption) h.1) hb)
  ·rw[E0 (v:=Q9 5 i) rfl];exact A6 (hRb hj (fun h=>A4y (b:=48) (by assumption) h.2) hb)
  ·rw[E0 (v:=okN 3 [] (smV (D.take j)) i j) rfl];exact A6 (hRk hj (fun h=>A4y (b:=48) (by assumption) h.2) hb)
theorem c_quotedR(s:List UInt8)(hs:s.length<=100000)(i:Nat)(hi:i<s.length):PC Tryz.prog 191 [.str s,I64 i] (quR i (quA [] (i+1) (quM (s.drop (i+1))))):=by
 refine PC.ofT A4 rfl (A0B rfl) rfl (C9g _ _) ?_;have hw0:IntKind.i64.wrap ((i:Int)+1)=((i+1:Nat):Int):=by rw[w6z (by omega)];omega
 repeat' (apply wr<;>try simp only[go_sem,seval,hw0])
 refine C1 (fun q:Nat × Option Nat × List UInt8=>[(0,.str s),(1,I64 i),(4,.ptr 0 0),(7,todoV q.2.1 q.2.2.length),(8,I64 q.1)]) (fun q=>optH (Sym.nil.upd 0 C2s) q.2.1 ⟨1,true,bytesC q.2.2⟩)
  (fun q c=>1<=c/\i+1<=q.1/\q.2.2.length<=q.1/\q.1<=s.length+1/\(q.2.1=none->q.2.2=[])/\(∀ i,q.2.1=some i->1<=i/\i<c)/\quA [] (i+1) (quM (s.drop (i+1)))=quA q.2.2 q.1 (quM (s.drop q.1))) (fun q=>s.length+1-q.1) (i+1,none,[])
  (by simp[C6,tm,Tm.upd,todoV]) (Sub.refl _) ⟨by simp,by simp,by simp,by simp only;omega,fun _=>rfl,(fun i hi=>by cases hi),rfl⟩ ?_
 rintro⟨k,o,acc⟩ c ⟨h1c,h1,hal,hk,hno,ho,he⟩;simp only at h1 hal hk hno ho he;simp only;rw[he];have hH0:optH (Sym.nil.upd 0 C2s) o ⟨1,true,bytesC acc⟩ 0=some ⟨0,true,[I64 0,.str [],I64 0,I64 0]⟩:=by rw[B7 (fun i hi=>by have:=ho i hi;omega),h_same];rfl
 have hlt0:=A3o (o:=o) (n:=acc.length) (fun e=>by rw[hno e];rfl);by_cases hlt:k<s.length
 ·have hd:=dtz hlt;have hg:=A0C hlt;have hw:IntKind.i64.wrap ((k:Int)+1)=((k+1:Nat):Int):=by rw[w6z (by omega)];omega
  have hw2:IntKind.i64.wrap (((k+1:Nat):Int)+1)=((k+2:Nat):Int):=by rw[w6z (by omega)];omega
  have hcv:=B9z (H:=optH (Sym.nil.upd 0 C2s) o ⟨1,true,bytesC acc⟩) (u:=1) hno (fun i hi=>by subst hi;exact h_same);have hc0:∀ n:Nat,((s[k].toNat:Int) == (n:Int))=true->s[k].toNat=n:=fun n h=>by have:=A1F.1 h;omega
  have hc1:∀ n:Nat,((s[k].toNat:Int) == (n:Int))=false->s[k].toNat≠n:=fun n h h2=>by rw[h2]at h;simp at h
  by_cases hlt2:k+1<s.length
  ·have hd2:decide (((k+1:Nat):Int)≥s.length)=false:=by simp;omega
   have hg2:=A0C hlt2;have hc2:∀ n:Nat,((s[k+1].toNat:Int) == (n:Int))=true->s[k+1].toNat=n:=fun n h=>by have:=A1F.1 h;omega
   have hc3:∀ n:Nat,((s[k+1].toNat:Int) == (n:Int))=false->s[k+1].toNat≠n:=fun n h h2=>by rw[h2]at h;simp at h
   have ne0:=Q3 c (c+1) 0 (by omega);have hap:=B1m (X:=Sym.nil.upd 0 C2s) hno (fun i hi=>(ho i hi).2) (by omega);repeat' ((with_reducible first|refine wr ?_|refine wb2 ?_ ?_<;>(intro hb;try simp only[hb])|fail)<;>try simp only[go_sem,seval,hd,hg,hw,hcv,hlt0,hd2,hg2,hw2,hap,hH0])
   ·rw[E0 (v:=Q9 9 i) rfl];refine A6 ?_;rw[A2i hg (hc0 34 (by assumption)),quR,if_pos (B7x hb)]
   ·rw[E0 (v:=.tup [.agg [I64 4,.str acc,I64 0,I64 i],I64 ((k+1:Nat):Int),I64 0]) rfl];refine A6 ?_;rw[A2i hg (hc0 34 (by assumption)),quR,if_neg (A7s hb)]
   ·rw[E0 (v:=Q9 48 i) rfl];refine A6 ?_;rw[A9i hg (hc1 34 (by assumption)) (.inl (by have:=of_decide_eq_true hb;omega))];rfl
   ·rw[E0 (v:=Q9 48 i) rfl];refine A6 ?_;rw[A9i hg (hc1 34 (by assumption)) (.inr (by have:=of_decide_eq_true hb;omega))];rfl
   ·rw[E0 (v:=Q9 48 i) rfl];refine A6 ?_;rw[B5k hg (hc0 92 (by assumption)) (fun d hd=>by
     rw[hg2]at hd;cases hd;exact⟨C6a (b:=34) (by assumption),C6a (b:=92) hb⟩)];rfl
   ·have hq:=C0b (acc:=acc) hg (hc0 92 (by assumption)) hg2 (.inr (D1f (b:=92) hb));exact⟨(k+2,some (c+1),acc++[s[k+1]]),⟨by simp only[A0A,A0H];rfl,rfl⟩,A5g (fun j q=>A5e h1c) (fun i hi=>A5d (by have:=ho i hi;omega)) rfl,inv ⟨by omega,by simp only;omega,by simp;omega,by simp only;omega,(fun h=>by cases h),(fun i hi=>by cases hi;omega),hq⟩,by simp only;omega⟩
   ·have hq:=C0b (acc:=acc) hg (hc0 92 (by assumption)) hg2 (.inl (D1f (b:=34) hb));exact⟨(k+2,some (c+1),acc++[s[k+1]]),⟨by simp only[A0A,A0H];rfl,rfl⟩,A5g (fun j q=>A5e h1c) (fun i hi=>A5d (by have:=ho i hi;omega)) rfl,inv ⟨by omega,by simp only;omega,by simp;omega,by simp only;omega,(fun h=>by cases h),(fun i hi=>by cases hi;omega),hq⟩,by simp only;omega⟩
   ·have hq:=B5l (acc:=acc) hg (hc1 34 (by assumption)) (by have:=of_decide_eq_false (by assumption:decide (((s[k].toNat:Int))<32)=false);omega) (by have:=of_decide_eq_false (by assumption:decide (((s[k].toNat:Int))>126)=false);omega) (hc1 92 (by assumption));exact⟨(k+1,some (c+1),acc++[s[k]]),⟨by simp only[A0A,A0H];rfl,rfl⟩,A5g (fun j q=>A5e h1c) (fun i hi=>A5d (by have:=ho i hi;omega)) rfl,inv ⟨by omega,by simp only;omega,by simp;omega,by simp only;omega,(fun h=>by cases h),(fun i hi=>by cases hi;omega),hq⟩,by simp only;omega⟩
  ·have hd2:decide (((k+1:Nat):Int)≥s.length)=true:=by simp;omega
   have ne0:=Q3 c (c+1) 0 (by omega);have hap:=B1m (X:=Sym.nil.upd 0 C2s) hno (fun i hi=>(ho i hi).2) (by omega);repeat' ((with_reducible first|refine wr ?_|refine wb2 ?_ ?_<;>(intro hb;try simp only[hb])|fail)<;>try simp only[go_sem,seval,hd,hg,hw,hcv,hlt0,hd2,hap,hH0])
   ·rw[E0 (v:=Q9 9 i) rfl];refine A6 ?_;rw[A2i hg (hc0 34 (by assumption)),quR,if_pos (B7x hb)]
   ·rw[E0 (v:=.tup [.agg [I64 4,.str acc,I64 0,I64 i],I64 ((k+1:Nat):Int),I64 0]) rfl];refine A6 ?_;rw[A2i hg (hc0 34 (by assumption)),quR,if_neg (A7s hb)]
   ·rw[E0 (v:=Q9 48 i) rfl];refine A6 ?_;rw[A9i hg (hc1 34 (by assumption)) (.inl (by have:=of_decide_eq_true hb;omega))];rfl
   ·rw[E0 (v:=Q9 48 i) rfl];refine A6 ?_;rw[A9i hg (hc1 34 (by assumption)) (.inr (by have:=of_decide_eq_true hb;omega))];rfl
   ·rw[E0 (v:=Q9 48 i) rfl];refine A6 ?_;rw[B5k hg (hc0 92 (by assumption)) (fun d hd=>by rw[A2M (by omega)]at hd;cases hd)];rfl
   ·have hq:=B5l (acc:=acc) hg (hc1 34 (by assumption)) (by have:=of_decide_eq_false (by assumption:decide (((s[k].toNat:Int))<32)=false);omega) (by have:=of_decide_eq_false (by assumption:decide (((s[k].toNat:Int))>126)=false);omega) (hc1 92 (by assumption));exact⟨(k+1,some (c+1),acc++[s[k]]),⟨by simp only[A0A,A0H];rfl,rfl⟩,A5g (fun j q=>A5e h1c) (fun i hi=>A5d (by have:=ho i hi;omega)) rfl,inv ⟨by omega,by simp only;omega,by simp;omega,by simp only;omega,(fun h=>by cases h),(fun i hi=>by cases hi;omega),hq⟩,by simp only;omega⟩
 ·have hd:=dfz hlt;have ne0:=R3 c 0 (by omega);repeat' (apply wr<;>try simp only[go_sem,seval,hd,hH0])
  rw[E0 (v:=Q9 48 i) rfl];refine A6 ?_;rw[C9f (by omega)];rfl
theorem c_oneR(s:List UInt8)(hs:s.length<=100000)(i:Nat)(hi:i<s.length):PC Tryz.prog 124 [.str s,I64 i] (nxR (C0 (s.drop i)) i):=by
 refine PC.ofT A4 rfl (A0B rfl) rfl (B3p _ _) ?_;have hg:=A0C hi;have hlt:=c_letterR s[i];have hdg:=c_digitR s[i];obtain⟨k,t,v,p,n,e,hsh⟩:=B7k (C0 (s.drop i)) i;by_cases hl:ltB s[i]=true
 ·have hw:=c_wordR s (by omega) i hi hl;rw[hsh]at hw ⊢;repeat' ((with_reducible first|apply wr|refine cpc hlt ?_|refine cpc hw ?_|fail)<;>try simp only[go_sem,seval,hl,hg])
  rw[E0 (v:=.tup [.agg [I64 k,.str t,I64 v,I64 p],I64 n,I64 e]) rfl];exact A6 rfl
 have hl0:ltB s[i]=false:=by simpa using hl
 by_cases hd:dgB s[i]=true
 ·have hw:=c_numberR s (by omega) i hi hl0 hd;rw[hsh]at hw ⊢;repeat' ((with_reducible first|apply wr|refine cpc hlt ?_|refine cpc hdg ?_|refine cpc hw ?_|fail)<;>try simp only[go_sem,seval,hl0,hd,hg])
  rw[E0 (v:=.tup [.agg [I64 k,.str t,I64 v,I64 p],I64 n,I64 e]) rfl];exact A6 rfl
 have hd0:dgB s[i]=false:=by simpa using hd
 by_cases hq:s[i].toNat=34
 ·have hw:=c_quotedR s hs i hi;rw[C0c hg hl0 hd0 hq,hsh]at hw;rw[hsh];have hb34:((s[i].toNat:Int) == 34)=true:=by rw[hq];rfl
  repeat' ((with_reducible first|apply wr|refine cpc hlt ?_|refine cpc hdg ?_|refine cpc hw ?_|fail)<;>try simp only[go_sem,seval,hl0,hd0,hg,hb34])
  rw[E0 (v:=.tup [.agg [I64 k,.str t,I64 v,I64 p],I64 n,I64 e]) rfl];exact A6 rfl
 clear hsh;have hb34:((s[i].toNat:Int) == 34)=false:=by simpa using (fun h=>hq (by omega))
 have hM:C0 (s.drop i)=if M3 (s.drop i)=0 then nxE 47 else ⟨5,(s.drop i).take (M3 (s.drop i)),0,M3 (s.drop i),0⟩:=by
  have hdr:=J8 hg;have:∀ r,s.drop i=s[i] :: r->C0 (s.drop i)=if M3 (s.drop i)=0 then nxE 47 else ⟨5,(s.drop i).take (M3 (s.drop i)),0,M3 (s.drop i),0⟩:=by
   intro r e;rw[e,C0,if_neg hl,if_neg hd,if_neg hq]
  exact this _ hdr
 rw[hM];have hsg:=c_signsR;repeat' ((with_reducible first|apply wr|refine cpc hlt ?_|refine cpc hdg ?_|refine cpc hsg ?_|fail)<;>try simp only[go_sem,seval,hl0,hd0,hg,hb34])
 have hlen:M8.length=21:=rfl;refine C1 (fun k:Nat=>[(0,.str s),(1,I64 i),(4,.ptr 0 0),(8,.lst (M8.map DV.str)),(9,I64 k)]) (fun _=>Sym.nil.upd 0 ⟨0,true,[I64 0,.str [],I64 0,I64 0]⟩) (fun k _=>k<=M8.length/\∀ j,j<k->A3r (M8.getD j []) (s.drop i)=false) (fun k=>M8.length-k) 0 (by simp[C6,tm,Tm.upd]) (Sub.refl _) (by simp) ?_;rintro k c ⟨hk,he⟩;by_cases hkl:k<M8.length
 ·have hd:decide ((k:Int)<M8.length)=true:=by simpa using hkl
  have hgk:=A0C hkl;have hget:M8.getD k []=M8[k]:=by rw[A0Y,hgk];rfl
  have hw:IntKind.i64.wrap ((k:Int)+1)=((k+1:Nat):Int):=by rw[w6z (by omega)];omega
  obtain⟨L,hL⟩:∃ L,L=M8[k]:=⟨_,rfl⟩;rw[<- hL]at hgk hget;have hLl:1<=L.length/\L.length<=2:=by
   have:∀ x∈M8,1<=x.length/\x.length<=2:=by decide
   rw[hL];exact this _ (A0Q hkl)
  have hw1:IntKind.i64.wrap ((s.length:Int)-i)=((s.length-i:Nat):Int):=by rw[w6z (by omega)];omega
  have hw2:IntKind.i64.wrap ((i:Int)+L.length)=((i+L.length:Nat):Int):=by rw[w6z (by omega)];omega
  have hnext:A3r L (s.drop i)=false->B2s (fun k _=>k<=M8.length/\∀ j,j<k->A3r (M8.getD j []) (s.drop i)=false) (k+1) c:=fun h=>inv ⟨hkl,fun j hj=>by
   by_cases e:j=k
   ·rw[e,hget];exact h
   ·exact he j (by omega)⟩
  by_cases hln:L.length<=s.length-i
  ·have hd2:decide (((s.length-i:Nat):Int)≥L.length)=true:=by simp only[A0J];omega
   have hsx:=B1e (s:=s) (i:=i) (n:=L.length) (by omega);have hpr:A3r L (s.drop i)=((s.drop i).take L.length == L):=by
    unfold A3r;rw[decide_eq_true (by rw[A1Z];exact hln),A1S]
   repeat' ((with_reducible first|refine wr ?_|refine wb2 ?_ ?_<;>(intro hb;try simp only[hb])|fail)<;>try simp only[go_sem,seval,hd,hgk,hw,hw1,hw2,hd2,hsx])
   ·have hp:=hpr.trans hb;have:=B7d (s:=s.drop i) (k:=k) (by omega) he (by rw[hget];exact hp);rw[hget]at this;rw[E0 (v:=okN 5 L 0 i L.length) rfl];refine A6 ?_;rw[this.1,if_neg (by omega),A6l, <- this.2]
   ·exact⟨k+1,rfl,Sub.refl _,hnext (hpr.trans hb),by omega⟩
  ·have hd2:decide (((s.length-i:Nat):Int)≥L.length)=false:=by simp only[A1M];omega
   repeat' (apply wr<;>try simp only[go_sem,seval,hd,hgk,hw,hw1,hd2])
   exact⟨k+1,rfl,Sub.refl _,hnext (by unfold A3r;rw[decide_eq_false (by rw[A1Z];exact hln),Bool.false_and]),by omega⟩
 ·have hd:decide ((k:Int)<M8.length)=false:=by simpa using hkl
  repeat' (apply wr<;>try simp only[go_sem,seval,hd])
  rw[E0 (v:=Q9 47 i) rfl];refine A6 ?_;rw[if_pos (B9m fun j hj=>he j (by omega)),A5n (by decide)]
theorem c_ScanR(s:List UInt8)(hs:s.length<=1000000000):PC Tryz.prog 58 [.str s] (B9r (C3 s)):=by
 refine PC.ofT A4 rfl (A0B rfl) rfl (B9q _) ?_;have hsk:=c_skipR s hs 0 (by omega);rw[A2Y,A1C]at hsk;by_cases h20:20000<s.length
 ·have hd0:decide ((s.length:Int)>20000)=true:=by simp;omega
  have hM:C3 s=([],0,9):=if_pos h20;rw[hM];repeat' (apply wr<;>try simp only[go_sem,seval,hd0])
  exact B1g
 have hd0:decide ((s.length:Int)>20000)=false:=by simp;omega
 have hM:C3 s=M9 (s.length+1) s (skM false s) []:=if_neg h20;rw[hM];have hle0:=X9 false s;repeat' ((with_reducible first|apply wr|refine cpc hsk ?_|fail)<;>try simp only[go_sem,seval,hd0])
 refine C1 (fun q:Nat × Nat × Option Nat × List Tok=>[(0,.str s),(5,todoV q.2.2.1 q.2.2.2.length),(6,I64 q.2.1)]) (fun q=>optH Sym.nil q.2.2.1 ⟨4,true,cellsL (q.2.2.2.map Tok.v)⟩)
  (fun q c=>q.2.1<=s.length/\s.length<q.1+q.2.1/\q.2.2.2.length<=q.2.1/\(q.2.2.1=none->q.2.2.2=[])/\(∀ i,q.2.2.1=some i->i<c)/\M9 (s.length+1) s (skM false s) []=M9 q.1 s q.2.1 q.2.2.2) (fun q=>q.1) (s.length+1,skM false s,none,[])
  (by simp[C6,tm,Tm.upd,todoV]) (Sub.nil _) ⟨by simp only;omega,by simp only;omega,by simp,fun _=>rfl,(fun i hi=>by cases hi),rfl⟩ ?_
 rintro⟨f,at_,o,acc⟩ c ⟨h1,hf,hal,hno,ho,he⟩;simp only at h1 hf hal hno ho he;simp only;rw[he];by_cases hlt:at_<s.length
 ·have hd:=dtz hlt;have hnx:=c_oneR s (by omega) at_ hlt;obtain⟨f,rfl⟩:∃ g,f=g+1:=⟨f-1,by omega⟩;by_cases hz:(C0 (s.drop at_)).err=0
  ·have hn:=A9s hz;rw[A1Z]at hn;have hst:M9 (f+1) s at_ acc=M9 f s (at_+(C0 (s.drop at_)).n+skM false (s.drop (at_+(C0 (s.drop at_)).n))) (acc++[⟨(C0 (s.drop at_)).kind,(C0 (s.drop at_)).text,(C0 (s.drop at_)).value,(at_:Int)⟩]):=by
    rw[M9,if_neg (by omega),if_neg (by simpa using hz)]
   rw[hst];obtain⟨x,hx⟩:∃ x,x=C0 (s.drop at_):=⟨_,rfl⟩;rw[<- hx]at hnx hz hn ⊢;rw[nxR,if_pos hz,okN]at hnx;have hsk2:=c_skipR s hs (at_+x.n) (by omega);have hkl:=X9 false (s.drop (at_+x.n));rw[A1Z]at hkl;obtain⟨z,hzz⟩:∃ z,z=skM false (s.drop (at_+x.n)):=⟨_,rfl⟩;rw[<- hzz]at hsk2 hkl ⊢;have ne0:=Q3 c (c+1) (c+2) (by omega);repeat' ((with_reducible first|apply wr|refine cpc hnx ?_|fail)<;>try simp only[go_sem,seval,hd])
   refine E9 (D8 (cs:=cellsL (acc.map Tok.v)) (fun e=>by rw[hno e];exact⟨rfl,rfl⟩) (fun i hi=>?_) (by rw[B6 (u:=4) (D7 _)];simp) (by omega) (by omega) (by omega)) ?_
   ·have:=ho i hi;rw[hnO,hnO,hnO];exact Z8 hi
   simp only[go_sem,seval];repeat' ((with_reducible first|apply wr|refine cpc hsk2 ?_|fail)<;>try simp only[go_sem,seval])
   exact⟨(f,at_+x.n+z,some (c+1+1),acc++[⟨x.kind,x.text,x.value,(at_:Int)⟩]),⟨by simp only[A0A,A0H];rfl,rfl⟩,
    X8 (by simp only[A0R,B8];rfl),inv ⟨by simp only;omega,by simp only;omega,by simp only[A0A,A0H];omega,(fun h=>by cases h),(fun i hi=>by cases hi;omega),rfl⟩,by simp only;omega⟩
  ·have hst:M9 (f+1) s at_ acc=([],(at_:Int),(C0 (s.drop at_)).err):=by
    rw[M9,if_neg (by omega),if_pos hz]
   rw[hst];obtain⟨x,hx⟩:∃ x,x=C0 (s.drop at_):=⟨_,rfl⟩;rw[<- hx]at hnx hz ⊢;rw[nxR,if_neg hz,Q9]at hnx;have hz':(x.err != 0)=true:=by simpa using hz
   have ne0:=R3 c (c+1) (by omega);repeat' ((with_reducible first|apply wr|refine cpc hnx ?_|fail)<;>try simp only[go_sem,seval,hd,hz'])
   exact B1g
 ·have hd:=dfz hlt;repeat' (apply wr<;>try simp only[go_sem,seval,hd])
  have hM2:M9 f s at_ acc=(acc,0,0):=by
   cases f with
   |zero=>rfl
   |succ f=>rw[M9,if_pos (by omega)]
  rw[hM2];exact C0k (fun e=>by rw[hno e];rfl) (by simp) (D7 acc)
theorem c_IsNameR(s:List UInt8)(hs:s.length<=1000000000):PC Tryz.prog 206 [.str s] (.bool (D0 s)):=by
 refine PC.go A4 ?_;have hw:=c_IsWordR s;cases s with
 |nil =>
  repeat' (apply wr<;>try simp only[go_sem,seval])
  exact A6 rfl
 |cons c r =>
  have hx:B4a (DV.str (c :: r)) (.int .i64 0)=some (.int .u8 (c.toNat:Int)):=rfl;have hlt:=c_letterR c;have hd1:decide (((r.length+1:Nat):Int)<1)=false:=by simp;omega
  have hN:D0 (c :: r)=(decide ((r.length+1)<=12) && ltB c && decide (D2 ptB (c :: r)=r.length+1) && !F9 (c :: r)):=by
   simp[D0]
  rw[hN];have hN2:∀ b:Bool,decide (((r.length+1:Nat):Int)>12)=b->decide ((r.length+1)<=12) = !b:=by
   intro b hb;subst hb;rw[A2O];simp;omega
  obtain⟨dd,hdd⟩:∃ dd,dd=decide ((r.length+1)<=12):=⟨_,rfl⟩;rw[<- hdd]at hN2 ⊢;obtain⟨ee,hee⟩:∃ ee,ee=decide (D2 ptB (c :: r)=r.length+1):=⟨_,rfl⟩;rw[<- hee];obtain⟨ff,hff⟩:∃ ff,ff=F9 (c :: r):=⟨_,rfl⟩;rw[<- hff]at hw ⊢;repeat' ((with_reducible first|refine wr ?_|refine cpc hw ?_|refine cpc hlt ?_|refine wb2 ?_ ?_<;>(intro hb;try simp only[hb])|fail)<;>try simp only[go_sem,seval,hx,hd1])
  ·refine A6 (congrArg DV.bool ?_);rw[hN2 _ hb];rfl
  ·refine A6 (congrArg DV.bool ?_);have:ltB c=false:=by simpa using hb
   rw[this];simp
  ·refine A6 (congrArg DV.bool ?_);simp
  ·have hN3:=hN2 _ (by assumption);have hl:ltB c=true:=by simpa using (by assumption:(!ltB c)=false)
   rw[hN3,hl];refine C1 (fun k:Nat=>[(0,.str (c :: r)),(3,I64 k)]) (fun _=>nil) (fun k _=>k<=(c :: r).length/\k<=D2 ptB (c :: r)) (fun k=>(c :: r).length-k) 0 (by simp[C6,tm,Tm.upd]) (Sub.nil _) (by simp) ?_;rintro k cc ⟨hk,he⟩;have hsl:=U7 ptB (c :: r);have hS:(c :: r).length=r.length+1:=rfl;by_cases hlt2:k<(c :: r).length
   ·have hd:decide ((k:Int)<((r.length+1:Nat):Int))=true:=by simp only[A0J];omega
    have hg:=A0C hlt2;have hw:IntKind.i64.wrap ((k:Int)+1)=((k+1:Nat):Int):=by rw[w6z (by omega)];omega
    have hst:=A5j hg he;obtain⟨x,hxx⟩:∃ x,x=(c :: r)[k]:=⟨_,rfl⟩;rw[<- hxx]at hg hst;have h1:=c_letterR x;have h2:=c_digitR x;obtain⟨L,hL⟩:∃ L,L=c :: r:=⟨_,rfl⟩;have hd3:decide ((k:Int)<(L.length:Int))=true:=by rw[hL];exact hd
    rw[<- hL]at hg hst hk he hsl hee ⊢;by_cases hp:ptB x=true
    ·have hgo:∃ b,DV.int IntKind.i64 ((k+1:Nat):Int)=I64 ((b:Nat):Int)/\Sym.Sub Sym.nil Sym.nil/\B2s (fun k _=>k<=L.length/\k<=D2 ptB L) b cc/\L.length-b<L.length-k :=
      ⟨k+1,rfl,Sub.refl _,inv ⟨by rw[hL];exact hlt2,hst.1 hp⟩,by rw[hL];omega⟩
     simp only[ptB,A0Z,A0J]at hp;repeat' ((with_reducible first|refine wr ?_|refine cpc h1 ?_|refine cpc h2 ?_|refine wb2 ?_ ?_<;>(intro hb;try simp only[hb])|fail)<;>try simp only[go_sem,seval,hd3,hg,hw])
     ·exfalso;have p1:ltB x=false:=by simpa using (by assumption:(!ltB x)=true)
      have p2:dgB x=false:=by simpa using (by assumption:(!dgB x)=true)
      have p3:=C6a (b:=95) hb;rw[p1,p2]at hp;rcases hp with (hp|hp)|hp
      ·cases hp
      ·cases hp
      ·exact p3 hp
     ·exact hgo
     ·exact hgo
     ·exact hgo
    ·have hp':ptB x=false:=by simpa using hp
     have hj:=hst.2 hp';simp only[ptB,Bool.or_eq_false_iff,A1M]at hp';obtain⟨⟨q1,q2⟩,q3⟩:=hp';have q4:((x.toNat:Int) != 95)=true:=by simp;omega
     repeat' ((with_reducible first|apply wr|refine cpc h1 ?_|refine cpc h2 ?_|fail)<;>try simp only[go_sem,seval,hd3,hg,q1,q2,q4])
     refine A6 (congrArg DV.bool ?_);rw[hee,hj,decide_eq_false];have:L.length=r.length+1:=by rw[hL];rfl
     have:k<L.length:=by rw[hL];exact hlt2
     omega
   ·have hd:decide ((k:Int)<((r.length+1:Nat):Int))=false:=by simp only[A1M];omega
    repeat' (apply wr<;>try simp only[go_sem,seval,hd])
    refine A6 (congrArg DV.bool ?_);rw[hee,decide_eq_true (by omega)]
theorem c_Dec:∀ (m:Nat) (n:Int),n.natAbs<m -> -9223372036854775808<=n->n<=9223372036854775807->PC Tryz.prog 62 [I64 n] (.str (O3 n)):=by
 intro m
 induction m with
 |zero=>intro n h;omega
 |succ m ih =>
  intro n h h1 h2;have b:=D1a (d:=Q5 n) (B6e n);have hl:=B6e n;by_cases h0:n<0
  ·have hd:decide (n<0)=true:=by simpa using h0
   have e1:=C4l h0;have e2:=C4k h0;have hh:=B6i (n:=n) (by omega);have w1:=w64 (n := -((U4 n:Nat):Int));have w2:=w64 (n:=0 - -((Q5 n:Nat):Int));have w3:0 - -((Q5 n:Nat):Int)=(Q5 n:Int):=by omega
   rw[w3]at w2;have hlen:=L6 (n := -((U4 n:Nat):Int)) (by omega) (by omega);have a0:=N0 (s:=O3 (-((U4 n:Nat):Int))) (t:=[Z5 (Q5 n)]) (by simp;omega);have a2:Z2 (nil.upd 5 ⟨1,true,[DV.int .u8 ((Z5 (Q5 n)).toNat:Int)]⟩) (.slc 5 0 1)=some (.str [Z5 (Q5 n)]):=A7e h_same rfl rfl;have a1:=N0 (s:=[45]) (t:=[Z5 (Q5 n)]) (by simp);refine PC.go A4 ?_;repeat' ((first|(with_reducible first|refine wr ?_|refine cpc (ih (-((U4 n:Nat):Int)) (by omega) (by omega) (by omega)) ?_)|(with_reducible refine wb2 ?_ ?_<;>(intro hb;try simp only[hb]))|((with_reducible refine C1g (A7e (l:=[Z5 (Q5 n)]) h_same rfl rfl) ?_))|fail)<;>try simp only[go_sem,seval,hd,A6k,C6j,e1,e2,w1,w3,w2,b,a0,a1,a2])
   ·rw[B8e h0 (by simpa using hb)];exact A6 rfl
   ·rw[C2j h0 (by simpa using hb)];exact A6 rfl
  ·have hd:decide (n<0)=false:=by simpa using h0
   have e1:=C4d (n:=n) (by omega);have e2:=C4c (n:=n) (by omega);have hh:U4 n<=n.natAbs:=by unfold U4;omega
   have w1:=w64 (n:=((U4 n:Nat):Int));have hlen:=L6 (n:=((U4 n:Nat):Int)) (by omega) (by omega);have a0:=N0 (s:=O3 ((U4 n:Nat):Int)) (t:=[Z5 (Q5 n)]) (by simp;omega);by_cases h9:n<10
   ·have hd9:decide (n<10)=true:=by simpa using h9
    refine PC.go A4 ?_;repeat' ((first|(with_reducible first|refine wr ?_)|(with_reducible refine wb2 ?_ ?_<;>(intro hb;try simp only[hb]))|((with_reducible refine C1g (A7e (l:=[Z5 (Q5 n)]) h_same rfl rfl) ?_))|fail)<;>try simp only[go_sem,seval,hd,hd9,A6k,e2,b])
    rw[B6l (by omega) h9];exact A6 rfl
   ·have hd9:decide (n<10)=false:=by simpa using h9
    have hh:=B6i (n:=n) (by omega);refine PC.go A4 ?_;repeat' ((first|(with_reducible first|refine wr ?_|refine cpc (ih ((U4 n:Nat):Int) (by omega) (by omega) (by omega)) ?_)|(with_reducible refine wb2 ?_ ?_<;>(intro hb;try simp only[hb]))|((with_reducible refine C1g (A7e (l:=[Z5 (Q5 n)]) h_same rfl rfl) ?_))|fail)<;>try simp only[go_sem,seval,hd,hd9,A6k,C6j,e1,e2,w1,b,a0])
    rw[C5w h9];exact A6 rfl
theorem c_Dec'(n:Int)(h1 : -9223372036854775808<=n)(h2:n<=9223372036854775807):PC Tryz.prog 62 [I64 n] (.str (O3 n)):=c_Dec (n.natAbs+1) n (by omega) h1 h2
theorem C0l{H:Hp}{a b:DV}:∃ H2,GL H [.tup [.agg [.snil,.snil],a,b]] H2 [.tup [.agg [.lst [],.lst []],a,b]] :=
 ⟨H,GL.view fun ρ vs hA=>arel_one (fun v h=>by
  obtain⟨b',rfl,k1,k2⟩:=h.tup_inv;refine .tup _ _ k1 fun i x y hx hy=>?_
  match i with
  |0 =>
   cases hx;obtain⟨c',rfl,m1,m2⟩:=(k2 0 _ y rfl hy).agg_inv;refine .agg _ _ m1 fun j x z hx hz=>?_
   match j with
   |0=>cases hx;exact (m2 0 _ z rfl hz).snil_lst
   |1=>cases hx;exact (m2 1 _ z rfl hz).snil_lst
   |_+2=>cases hx
  |1=>cases hx;exact k2 1 _ y rfl hy
  |2=>cases hx;exact k2 2 _ y rfl hy
  |_+3=>cases hx) vs hA⟩
theorem c_Parse(s:List UInt8)(hs:s.length<=1000000000):PC Tryz.prog 23 [.str s] (C4g (Z4 s)):=by
 refine PC.ofT A4 rfl (A0B rfl) rfl (C4f _) ?_;have hsc:=c_ScanR s hs;have hpar:Z4 s=Z4 s:=rfl;by_cases h0:(C3 s).2.2=0
 ·have hd:((C3 s).2.2 != 0)=false:=by simpa using h0
  repeat' ((with_reducible first|apply wr|refine cpc hsc ?_|fail)<;>try simp only[go_sem,seval,hd])
  obtain⟨f,hf⟩:=(A6i (C3 s).1 s.length).get;refine AC.call (c_rules (C3 s).1 s.length (by have:=A5k h0;omega) (B9p h0) f rd0 _ hf (A0O _) _ _ 1 rfl (by decide)) ?_;rintro v H' c2 ⟨rfl,rfl⟩ hc2;have hM:Z4 s=if okR (V6 (C3 s).1 s.length).2=false then (Ru0,(V6 (C3 s).1 s.length).2.pos,(V6 (C3 s).1 s.length).2.e) else ((V6 (C3 s).1 s.length).1,0,0):=by
   unfold Z4;dsimp only;rw[if_neg (by simpa using h0)]
  rw[hM];generalize V6 (C3 s).1 s.length=w;clear hM hpar hf;have ne0:=Q3 0 1 c2 (by omega);simp only[go_sem,seval,h_same,A1];repeat' (apply wr<;>try simp only[go_sem,seval])
  refine AC.call (c_rdok (C3 s).1 s.length w.2 _ _ 1 (by rw[hnO];exact h_same) (by omega)) ?_;rintro v H' c3 ⟨rfl,rfl⟩ hc3;cases hok:okR w.2 with
  |true =>
   rw[if_neg (by decide)];simp only[go_sem,seval];repeat' (apply wr<;>try simp only[go_sem,seval,ne0,h_same])
   rw[E0 (v:=C4g (w.1,0,0)) rfl];exact⟨_,GL.refl _ _⟩
  |false =>
   rw[if_pos rfl];simp only[go_sem,seval];repeat' (apply wr<;>try simp only[go_sem,seval,ne0,h_same])
   repeat refine⟨by and_intros<;>(repeat rw[hnO])<;>rfl,?_⟩
   repeat' (apply wr<;>try simp only[go_sem,seval])
   rw[E0 (v:=.tup [.agg [.snil,.snil],I64 w.2.pos,I64 w.2.e]) rfl];exact C0l
 ·have hd:((C3 s).2.2 != 0)=true:=by simpa using h0
  have hM:Z4 s=(Ru0,(C3 s).2.1,(C3 s).2.2):=by
   unfold Z4;dsimp only;rw[if_pos h0]
  rw[hM];repeat' ((with_reducible first|apply wr|refine cpc hsc ?_|fail)<;>try simp only[go_sem,seval,hd])
  rw[E0 (v:=.tup [.agg [.snil,.snil],I64 (C3 s).2.1,I64 (C3 s).2.2]) rfl];exact C0l
theorem B3k{H:Hp}{a b k z n p:DV}:∃ H2,GL H [.tup [.agg [k,z,n,.snil,p],a,b]] H2 [.tup [.agg [k,z,n,.lst [],p],a,b]] :=
 ⟨H,GL.view fun ρ vs hA=>arel_one (fun v h=>by
  obtain⟨b',rfl,k1,k2⟩:=h.tup_inv;refine .tup _ _ k1 fun i x y hx hy=>?_
  match i with
  |0=>cases hx;exact D1u (k2 0 _ y rfl hy)
  |1=>cases hx;exact k2 1 _ y rfl hy
  |2=>cases hx;exact k2 2 _ y rfl hy
  |_+3=>cases hx) vs hA⟩
theorem c_ParseExpr(s:List UInt8)(hs:s.length<=1000000000):PC Tryz.prog 37 [.str s] (B5r (A9l s)):=by
 refine PC.ofT A4 rfl (A0B rfl) rfl (C0n _) ?_;have hsc:=c_ScanR s hs;by_cases h0:(C3 s).2.2=0
 ·have hd:((C3 s).2.2 != 0)=false:=by simpa using h0
  repeat' ((with_reducible first|apply wr|refine cpc hsc ?_|fail)<;>try simp only[go_sem,seval,hd])
  obtain⟨f,hf⟩:=(A5x (C3 s).1 s.length).get;refine AC.call (c_expression (C3 s).1 s.length (by have:=A5k h0;omega) f rd0 _ hf (A0O _) _ _ 1 rfl (by decide)) ?_;rintro v H' c2 ⟨rfl,rfl⟩ hc2;have hM:A9l s=if okR (if okR (P8 (C3 s).1 s.length).2=true/\(P8 (C3 s).1 s.length).2.i<(C3 s).1.length then K3 (C3 s).1 s.length (P8 (C3 s).1 s.length).2 else (P8 (C3 s).1 s.length).2)=false then (Ex0,(if okR (P8 (C3 s).1 s.length).2=true/\(P8 (C3 s).1 s.length).2.i<(C3 s).1.length then K3 (C3 s).1 s.length (P8 (C3 s).1 s.length).2 else (P8 (C3 s).1 s.length).2).pos,(if okR (P8 (C3 s).1 s.length).2=true/\(P8 (C3 s).1 s.length).2.i<(C3 s).1.length then K3 (C3 s).1 s.length (P8 (C3 s).1 s.length).2 else (P8 (C3 s).1 s.length).2).e) else ((P8 (C3 s).1 s.length).1,0,0):=by
   unfold A9l;dsimp only;rw[if_neg (by simpa using h0)]
  rw[hM];generalize P8 (C3 s).1 s.length=w;clear hM hf;try dsimp only
  rw[Ex.v_w];have ne0:=Q3 0 1 c2 (by omega);simp only[go_sem,seval,h_same,A1];repeat' (apply wr<;>try simp only[go_sem,seval])
  refine AC.call (c_rdok (C3 s).1 s.length w.2 _ _ 1 (by rw[hnO];exact h_same) (by omega)) ?_;rintro v H' c3 ⟨rfl,rfl⟩ hc3;obtain⟨z,hz⟩:∃ z,z=(if okR w.2=true/\w.2.i<(C3 s).1.length then K3 (C3 s).1 s.length w.2 else w.2):=⟨_,rfl⟩;rw[<- hz];by_cases hok:okR w.2=true
  case neg =>
   rw[if_neg (fun h=>hok h.1)]at hz;rw[hz];have hok:okR w.2=false:=by simpa using hok
   rw[if_pos hok];simp only[go_sem,seval,hok];repeat' (apply wr<;>try simp only[go_sem,seval])
   refine AC.call (c_rdok (C3 s).1 s.length w.2 _ _ 1 (by rw[hnO];exact h_same) (by omega)) ?_;rintro v H' c4 ⟨rfl,rfl⟩ hc4;have ne0:=W7 0 1 c2 c4 (by omega);simp only[go_sem,seval,hok];repeat' (apply wr<;>try simp only[go_sem,seval,ne0,h_same])
   repeat refine⟨by and_intros<;>(repeat rw[hnO])<;>rfl,?_⟩
   repeat' (apply wr<;>try simp only[go_sem,seval])
   rw[E0 (v:=.tup [.agg [I64 0,I64 0,.str [],.snil,I64 0],I64 (w.2).pos,I64 (w.2).e]) rfl];exact B3k
  case pos =>
   by_cases hlt:w.2.i<(C3 s).1.length
   ·have hdl:decide ((w.2.i:Int)<((C3 s).1.length:Int))=true:=by simpa using hlt
    rw[if_pos ⟨hok,hlt⟩]at hz;have hsy:okR z=false:=by rw[hz];exact A1i
    rw[if_pos hsy];simp only[go_sem,seval,hok,hdl,ne0,h_same];repeat' (apply wr<;>try simp only[go_sem,seval])
    refine AC.call (c_syntax (C3 s).1 s.length w.2 _ _ 1 (by rw[hnO];exact h_same) (by omega)) ?_;rintro v H' c5 ⟨rfl,rfl⟩ hc5;rw[<- hz];simp only[go_sem,seval];repeat' (apply wr<;>try simp only[go_sem,seval])
    refine AC.call (c_rdok (C3 s).1 s.length z _ _ 1 h_same (by omega)) ?_;rintro v H' c4 ⟨rfl,rfl⟩ hc4;have ne0:=W7 0 1 c2 c4 (by omega);simp only[go_sem,seval,hsy];repeat' (apply wr<;>try simp only[go_sem,seval,ne0,h_same])
    repeat refine⟨by and_intros<;>(repeat rw[hnO])<;>rfl,?_⟩
    repeat' (apply wr<;>try simp only[go_sem,seval])
    rw[E0 (v:=.tup [.agg [I64 0,I64 0,.str [],.snil,I64 0],I64 z.pos,I64 z.e]) rfl];exact B3k
   ·have hdl:decide ((w.2.i:Int)<((C3 s).1.length:Int))=false:=by simpa using hlt
    rw[if_neg (fun h=>hlt h.2)]at hz;subst hz;rw[if_neg (by rw[hok];decide)];simp only[go_sem,seval,hok,hdl,ne0,h_same];repeat' (apply wr<;>try simp only[go_sem,seval])
    refine AC.call (c_rdok (C3 s).1 s.length w.2 _ _ 1 (by rw[hnO];exact h_same) (by omega)) ?_;rintro v H' c4 ⟨rfl,rfl⟩ hc4;simp only[go_sem,seval,hok];repeat' (apply wr<;>try simp only[go_sem,seval,ne0,h_same])
    rw[E0 (v:=.tup [w.1.w,I64 0,I64 0]) rfl];rw[<- Ex.v_w];exact⟨_,GL.refl _ _⟩
 ·have hd:((C3 s).2.2 != 0)=true:=by simpa using h0
  have hM:A9l s=(Ex0,(C3 s).2.1,(C3 s).2.2):=by
   unfold A9l;dsimp only;rw[if_pos h0]
  rw[hM];repeat' ((with_reducible first|apply wr|refine cpc hsc ?_|fail)<;>try simp only[go_sem,seval,hd])
  rw[E0 (v:=.tup [.agg [I64 0,I64 0,.str [],.snil,I64 0],I64 (C3 s).2.1,I64 (C3 s).2.2]) rfl];exact B3k
open Go.Sym
abbrev x138:XT Tryz.prog 138:=mkF
instance t138:FT Tryz.prog 138 x138.d:=x138.ft
abbrev x139:XT Tryz.prog 139:=mkF
instance t139:FT Tryz.prog 139 x139.d:=x139.ft
abbrev x140:XT Tryz.prog 140:=mkF
instance t140:FT Tryz.prog 140 x140.d:=x140.ft
abbrev x274:XT Tryz.prog 274:=mkF
instance t274:FT Tryz.prog 274 x274.d:=x274.ft
abbrev x137:XT Tryz.prog 137:=mkF
instance t137:FT Tryz.prog 137 x137.d:=x137.ft
abbrev x299:XT Tryz.prog 299:=mkF
instance t299:FT Tryz.prog 299 x299.d:=x299.ft
abbrev x242:XT Tryz.prog 242:=mkF
instance t242:FT Tryz.prog 242 x242.d:=x242.ft
abbrev x273:XT Tryz.prog 273:=mkF
instance t273:FT Tryz.prog 273 x273.d:=x273.ft
abbrev x142:XT Tryz.prog 142:=mkF
instance t142:FT Tryz.prog 142 x142.d:=x142.ft
abbrev x207:XT Tryz.prog 207:=mkF
instance t207:FT Tryz.prog 207 x207.d:=x207.ft
abbrev x136:XT Tryz.prog 136:=mkF
instance t136:FT Tryz.prog 136 x136.d:=x136.ft
abbrev x70:XT Tryz.prog 70:=mkF
instance t70:FT Tryz.prog 70 x70.d:=x70.ft
abbrev x27:XT Tryz.prog 27:=mkF
instance t27:FT Tryz.prog 27 x27.d:=x27.ft
abbrev x166:XT Tryz.prog 166:=mkF
instance t166:FT Tryz.prog 166 x166.d:=x166.ft
abbrev x160:XT Tryz.prog 160:=mkF
instance t160:FT Tryz.prog 160 x160.d:=x160.ft
abbrev x82:XT Tryz.prog 82:=mkF
instance t82:FT Tryz.prog 82 x82.d:=x82.ft
abbrev x36:XT Tryz.prog 36:=mkF
instance t36:FT Tryz.prog 36 x36.d:=x36.ft
abbrev x243:XT Tryz.prog 243:=mkF
instance t243:FT Tryz.prog 243 x243.d:=x243.ft
abbrev x208:XT Tryz.prog 208:=mkF
instance t208:FT Tryz.prog 208 x208.d:=x208.ft
abbrev x143:XT Tryz.prog 143:=mkF
instance t143:FT Tryz.prog 143 x143.d:=x143.ft
abbrev x71:XT Tryz.prog 71:=mkF (i:=⟨135,.seq (.reg [oX 2 0,oX 3 1,oV 4 (.bool false)]) (.seq (.seq (.reg [oF 12 2 0,oL 13 12,oH 14 13,oF 15 3 0,oL 16 15,oH 17 16,oB 18 14 17 .neq,oM 19 18,hF 20 2 1 19,hL 21 20 19,oR 22 (.len (.t 21)) 19,hF 23 3 1 19,hL 24 23 19,oR 25 (.len (.t 24)) 19,oR 26 (.bin .neq (.t 22) (.t 25)) 19,oO 27 19 26]) (.cond (.t 27) (.seq (.reg [oV 4 (.bool false)]) .ret) .skip)) (.seq (.seq (.reg [oI 5 0]) (.blk 0 (.loop (.seq (.seq (.reg [oM 28 5,oF 29 2 0,oL 30 29,oH 31 30,oB 32 28 31 .lss]) (.cond (.t 32) .skip (.exit 0))) (.seq (.blk 1 (.seq (.drw 11 (dQ [oF 35 2 0,oL 36 35,oM 37 5,oA 38 36 37 4,oD 39 38 4,oF 40 3 0,oL 41 40,oM 42 5,oA 43 41 42 4,oD 44 43 4,oP 45 (.eqa true [0,2,0,0] (.t 39) (.t 44))] 0)) (.cond (.t 45) (.seq (.reg [oV 4 (.bool false)]) .ret) .skip))) (.reg [oM 33 5,oK 34 33 .add 1,oM 5 34])))))) (.seq (.seq (.reg [oI 6 0]) (.blk 2 (.loop (.seq (.seq (.reg [oM 46 6,oF 47 2 1,oL 48 47,oH 49 48,oB 50 46 49 .lss]) (.cond (.t 50) .skip (.exit 2))) (.seq (.blk 3 (.seq (.drw 14 ⟨[oF 53 2 1,oL 54 53,oM 55 6,oA 56 54 55 4,oD 57 56 4,oF 58 3 1,oL 59 58,oM 60 6,oA 61 59 60 4,oD 62 61 4,oW 7 (.agg #[.string ⟨#[]⟩,.int .i64 0,.slice none 0 0,.int .i64 0]),oW 8 (.agg #[.string ⟨#[]⟩,.int .i64 0,.slice none 0 0,.int .i64 0]),oS 7 57 4,oS 8 62 4],[],[(0,none),(1,none),(2,none),(3,none),(4,none),(5,none),(6,none),(7,none),(8,none),(9,none),(10,none),(11,none),(12,some [5,6,7,8,9]),(13,some [])]⟩) (.seq (.seq (.reg [oF 63 7 0,oL 64 63,oF 65 8 0,oL 66 65,oB 67 64 66 .neq,oM 68 67,hF 69 7 1 68,hL 70 69 68,hF 71 8 1 68,hL 72 71 68,oR 73 (.bin .neq (.t 70) (.t 72)) 68,oO 74 68 73,oM 75 74,hF 76 7 3 75,hL 77 76 75,hF 78 8 3 75,hL 79 78 75,oR 80 (.bin .neq (.t 77) (.t 79)) 75,oO 81 75 80,oM 82 81,hF 83 7 2 82,hL 84 83 82,oR 85 (.len (.t 84)) 82,hF 86 8 2 82,hL 87 86 82,oR 88 (.len (.t 87)) 82,oR 89 (.bin .neq (.t 85) (.t 88)) 82,oO 90 82 89]) (.cond (.t 90) (.seq (.reg [oV 4 (.bool false)]) .ret) .skip)) (.seq (.reg [oI 9 0]) (.blk 4 (.loop (.seq (.seq (.reg [oM 91 9,oF 92 7 2,oL 93 92,oH 94 93,oB 95 91 94 .lss]) (.cond (.t 95) .skip (.exit 4))) (.seq (.blk 5 (.seq (.drw 14 ⟨[oF 98 7 2,oL 99 98,oM 100 9,oA 101 99 100 4,oD 102 101 4,oF 103 8 2,oL 104 103,oM 105 9,oA 106 104 105 4,oD 107 106 4,oW 10 (.agg #[.int .i64 0,.string ⟨#[]⟩,.slice none 0 0,.int .i64 0]),oW 11 (.agg #[.int .i64 0,.string ⟨#[]⟩,.slice none 0 0,.int .i64 0]),oS 10 102 4,oS 11 107 4],[],[(0,none),(1,none),(2,none),(3,none),(4,none),(5,none),(6,none),(7,none),(8,none),(9,none),(10,none),(11,none),(12,some [5,6,7,8,9]),(13,some [])]⟩) (.seq (.reg [oF 108 10 0,oL 109 108,oF 110 11 0,oL 111 110,oB 112 109 111 .neq,oM 113 112,hF 114 10 1 113,hL 115 114 113,hF 116 11 1 113,hL 117 116 113,oR 118 (.bin .neq (.t 115) (.t 117)) 113,oO 119 113 118,oM 120 119,hF 121 10 3 120,hL 122 121 120,hF 123 11 3 120,hL 124 123 120,oR 125 (.bin .neq (.t 122) (.t 124)) 120,oO 126 120 125,oM 127 126,hF 128 10 2 127,hL 129 128 127,hF 130 11 2 127,hL 131 130 127,⟨some 132,.call 143 [.t 129,.t 131],some (127,false)⟩,oR 133 (.un .not (.t 132)) 127,oO 134 127 133]) (.cond (.t 134) (.seq (.reg [oV 4 (.bool false)]) .ret) .skip)))) (.reg [oM 96 9,oK 97 96 .add 1,oM 9 97]))))))))) (.reg [oM 51 6,oK 52 51 .add 1,oM 6 52])))))) (.seq (.reg [oV 4 (.bool true)]) .ret)))),[.tmp 4]⟩) (by unfold J0;kernel_rfl) (fun h=>by conv=>lhs;cbv)
instance t71:FT Tryz.prog 71 x71.d:=x71.ft
theorem A0l{k v p:Int}{x:List UInt8}:∃ H2,GL (nil.upd 0 ⟨4,true,[I64 k,.str x,I64 v,I64 p]⟩) [.slc 0 0 1] H2 [D3 [⟨k,x,v,p⟩]] :=
 K5 rfl rfl rfl (D7 _) ⟨[],rfl⟩
theorem A2j{o:Option Nat}{xs:List DV}{u n:Nat}(hno:o=none->xs=[])(hl:xs.length=n)(hu:∀ x∈xs,x.cells.length=u):
  ∃ H2,GL (optH Sym.nil o ⟨u,true,cellsL xs⟩) [todoV o n] H2 [.lst xs]:=by
 cases o with
 |none=>rw[hno rfl];exact B5p
 |some i=>exact K5 (id:=i) h_same rfl hl hu ⟨[],by simp⟩
theorem c_named(s:List UInt8)(hs:s.length<=1000000000):PC Tryz.prog 139 [.str s] (D3 (C4 s)):=by
 refine PC.go A4 ?_;have h1:=c_IsNameR s hs;unfold C4;cases h:D0 s with
 |true =>
  rw[if_neg (by decide)];repeat' ((with_reducible first|apply wr|refine cpc h1 ?_|fail)<;>try simp only[go_sem,seval,h])
  exact A0l
 |false =>
  rw[if_pos rfl];repeat' ((with_reducible first|apply wr|refine cpc h1 ?_|fail)<;>try simp only[go_sem,seval,h])
  exact A0l
theorem c_number31(n:Int):PC Tryz.prog 140 [I64 n] (D3 (Q2 n)):=by
 refine PC.go A4 ?_;unfold Q2;by_cases h0:n<0
 ·have hd:decide (n<0)=true:=by simpa using h0
  rw[if_pos (.inl h0)];repeat' (apply wr<;>try simp only[go_sem,seval,hd])
  exact A0l
 ·have hd:decide (n<0)=false:=by simpa using h0
  by_cases h1:2147483647<n
  ·have hd1:decide (n>2147483647)=true:=by simpa using h1
   rw[if_pos (.inr h1)];repeat' (apply wr<;>try simp only[go_sem,seval,hd,hd1])
   exact A0l
  ·have hd1:decide (n>2147483647)=false:=by simpa using h1
   rw[if_neg (by omega)];repeat' (apply wr<;>try simp only[go_sem,seval,hd,hd1])
   exact A0l
theorem c_words1(l:List (List UInt8))(hl:l.length<=1000000)(hx:∀ x∈l,x.length<=1000000000):PC Tryz.prog 138 [A1b l] (D3 (l.map A2)):=by
 refine PC.ofT A4 rfl (A0B rfl) (by simp[DV.nlL,DV.nl,N4]) (I7 _) ?_;repeat' (apply wr<;>try simp only[go_sem,seval])
 refine C1 (fun q:Nat × Option Nat=>[(0,A1b l),(3,todoV q.2 q.1),(4,I64 q.1)]) (fun q=>optH Sym.nil q.2 ⟨4,true,cellsL (((l.take q.1).map A2).map Tok.v)⟩)
  (fun q c=>q.1<=l.length/\(q.2=none->q.1=0)/\(∀ i,q.2=some i->i<c)) (fun q=>l.length-q.1) (0,none)
  (by simp[C6,tm,Tm.upd,todoV]) (Sub.nil _) ⟨A0O _,fun _=>rfl,(fun i hi=>by cases hi)⟩ ?_
 rintro⟨k,o⟩ c ⟨hk,hno,ho⟩;dsimp only at hk hno ho ⊢;by_cases hlt:k<l.length
 ·have hd:=dtz hlt;have hg:=A0C hlt;have hx1:=hx _ (A0Q hlt);have hw:=w64 (n:=(k:Int)+1);have e0:(l.take (k+1)).map A2=(l.take k).map A2++[A2 l[k]]:=by rw[A0S,hg,A0R];rfl
  generalize l[k]=x at hg hx1 e0;have h1:=c_IsWordR x;have h2:=c_IsNameR x (by omega);have ne0:=R3 c (c+1) (by omega);have hln:(cellsL (((l.take k).map A2).map Tok.v)).length=k * 4:=(B6 (u:=4) (D7 _)).trans (by rw[A0F,A0F,A0W,Nat.min_eq_left hk]);cases hw1:F9 x with
  |true =>
   repeat' ((with_reducible first|apply wr|refine cpc h1 ?_|fail)<;>try simp only[go_sem,seval,hd,hg,hw1,h_same,A1])
   refine E9 (D8 (cs:=cellsL (((l.take k).map A2).map Tok.v)) (fun e=>by have:=hno e;subst this;exact⟨rfl,rfl⟩) (fun i hi=>by have:=ho i hi;rw[hnO,hnO];exact Z8 hi) hln (by omega) (by omega) (by omega)) ?_;simp only[go_sem,seval];repeat' (apply wr<;>try simp only[go_sem,seval,hw])
   refine⟨(k+1,some (c+1+1)),by simp[todoV],?_,inv ⟨by omega,(fun h=>by cases h),(fun i hi=>by cases hi;omega)⟩,by simp only;omega⟩;dsimp only[optH];rw[e0,A0R,B8];refine X8 ?_;unfold A2;simp only[hw1,if_true];rfl
  |false =>
   cases hn1:D0 x with
   |true =>
    repeat' ((with_reducible first|apply wr|refine cpc h1 ?_|refine cpc h2 ?_|fail)<;>try simp only[go_sem,seval,hd,hg,hw1,hn1,h_same,A1])
    refine E9 (D8 (cs:=cellsL (((l.take k).map A2).map Tok.v)) (fun e=>by have:=hno e;subst this;exact⟨rfl,rfl⟩) (fun i hi=>by have:=ho i hi;rw[hnO,hnO];exact Z8 hi) hln (by omega) (by omega) (by omega)) ?_;simp only[go_sem,seval];repeat' (apply wr<;>try simp only[go_sem,seval,hw])
    refine⟨(k+1,some (c+1+1)),by simp[todoV],?_,inv ⟨by omega,(fun h=>by cases h),(fun i hi=>by cases hi;omega)⟩,by simp only;omega⟩;dsimp only[optH];rw[e0,A0R,B8];refine X8 ?_;unfold A2;simp only[hw1,hn1,if_true,if_false,A1J];rfl
   |false =>
    repeat' ((with_reducible first|apply wr|refine cpc h1 ?_|refine cpc h2 ?_|fail)<;>try simp only[go_sem,seval,hd,hg,hw1,hn1,h_same,A1])
    refine E9 (D8 (cs:=cellsL (((l.take k).map A2).map Tok.v)) (fun e=>by have:=hno e;subst this;exact⟨rfl,rfl⟩) (fun i hi=>by have:=ho i hi;rw[hnO,hnO];exact Z8 hi) hln (by omega) (by omega) (by omega)) ?_;simp only[go_sem,seval];repeat' (apply wr<;>try simp only[go_sem,seval,hw])
    refine⟨(k+1,some (c+1+1)),by simp[todoV],?_,inv ⟨by omega,(fun h=>by cases h),(fun i hi=>by cases hi;omega)⟩,by simp only;omega⟩;dsimp only[optH];rw[e0,A0R,B8];refine X8 ?_;unfold A2;simp only[hw1,hn1,if_false,A1J];rfl
 ·have hd:=dfz hlt;repeat' (apply wr<;>try simp only[go_sem,seval,hd])
  rw[A0I (by omega)];exact A2j (fun e=>by rw[A1N (l:=l) (by have:=hno e;omega)];rfl) (by simp;omega) (D7 _)
theorem c_join1(l:List (List Tok))(hl:l.length<=1000)(hx:∀ x∈l,1<=x.length/\x.length<=1000000000):PC Tryz.prog 137 [.lst (l.map D3)] (D3 l.flatten):=by
 refine PC.ofT A4 rfl (A0B rfl) (by simp only[DV.nlL,DV.nl,H9 (f:=D3) (fun a=>I7 a),A1T]) (I7 _) ?_;repeat' (apply wr<;>try simp only[go_sem,seval])
 refine C1 (fun q:Nat × Option Nat=>[(0,.lst (l.map D3)),(3,todoV q.2 (l.take q.1).flatten.length),(4,I64 q.1)]) (fun q=>optH Sym.nil q.2 ⟨4,true,cellsL ((l.take q.1).flatten.map Tok.v)⟩)
  (fun q c=>q.1<=l.length/\(q.2=none->q.1=0)/\(∀ i,q.2=some i->i<c)/\(l.take q.1).flatten.length<=1000000000 * q.1) (fun q=>l.length-q.1) (0,none)
  (by simp[C6,tm,Tm.upd,todoV]) (Sub.nil _) ⟨A0O _,fun _=>rfl,(fun i hi=>by cases hi),by simp⟩ ?_
 rintro⟨k,o⟩ c ⟨hk,hno,ho,hlen⟩;dsimp only at hk hno ho hlen ⊢;by_cases hlt:k<l.length
 ·have hd:=dtz hlt;have hg:=A0C hlt;obtain⟨hx1,hx2⟩:=hx _ (A0Q hlt);have hw:=w64 (n:=(k:Int)+1);have e0:(l.take (k+1)).flatten=(l.take k).flatten++l[k]:=by rw[A0S,hg,List.flatten_append];simp
  generalize l[k]=x at hg hx1 hx2 e0;generalize hy:(l.take k).flatten=y at hlen e0 ⊢;have hun:unit 4 (x.map Tok.v)=true:=by unfold unit;rw[A0P];intro d hd;simp[D7 x d hd]
  have hny:o=none->y=[]:=fun e=>by rw[<- hy,hno e];rfl
  have hln:(cellsL (y.map Tok.v)).length=y.length * 4:=(B6 (u:=4) (D7 _)).trans (by simp);repeat' (apply wr<;>try simp only[go_sem,seval,hd,hg,N2 hun])
  refine E9 (D8 (cs:=cellsL (y.map Tok.v)) (fun e=>by rw[hny e];exact⟨rfl,rfl⟩) (fun i hi=>Z8 hi) hln (by omega) (by omega) (by omega)) ?_;simp only[go_sem,seval];repeat' (apply wr<;>try simp only[go_sem,seval,hw])
  refine⟨(k+1,some c),by simp[todoV,e0],?_,inv ⟨by omega,(fun h=>by cases h),(fun i hi=>by cases hi;omega),by simp only;rw[e0,A0A];omega⟩,by simp only;omega⟩;dsimp only[optH];rw[e0,A0R,B8];exact X8 rfl
 ·have hd:=dfz hlt;repeat' (apply wr<;>try simp only[go_sem,seval,hd])
  rw[A0I (by omega)];exact A2j (fun e=>by rw[A1N (l:=l) (by have:=hno e;omega)];rfl) (by rw[A0F]) (D7 _)
theorem P3{H:Hp}{i j:Nat}:delO H (some i) j=if j=i then none else H j:=_root_.id rfl
theorem C2i{H:Hp}{i:Nat}{b:Blk}:delO (H.upd i b) (some i)=delO H (some i):=by
 funext j;rw[P3,P3];split
 ·rfl
 ·rename_i h;rw[h_ne h]
theorem C5u{H:Hp}{i k:Nat}{b:Blk}(h:¬ k=i):delO (H.upd k b) (some i)=(delO H (some i)).upd k b:=by
 funext j;rw[P3]
 by_cases e:j=k
 ·subst e;rw[h_same,if_neg h,h_same]
 ·rw[h_ne e,h_ne e,P3]
theorem C5v{i:Nat}:delO nil (some i)=nil:=by
 funext j;rw[P3];split<;>rfl
theorem C9w{ks:List Nat}{H:Hp}{i:Nat}(h:ks.all (fun k=>k != i)=true):G5 ks H (delO (K7 H ks) (some i))=delO H (some i):=by
 have hi:i ∉ ks:=fun hm=>by simpa using A0P.1 h i hm
 funext j
 simp only[G5,P3,K7];by_cases e:j=i
 ·subst e;rw[if_neg hi,if_pos rfl,if_pos rfl]
 ·by_cases e2:j∈ks
  ·rw[if_pos e2,if_neg e]
  ·rw[if_neg e2,if_neg e,if_neg e,if_neg e2]
attribute [go_sem] C2i C5u C5v
theorem C4s{k i:Nat}{H:Hp}(h:¬ k=i):G5 [k] H (delO (K7 H [k]) (some i))=delO H (some i):=C9w (by simpa using h)
attribute [go_sem] C4s
theorem W6{f:Nat}{xs:List DV}{r:DV}{u id n cc:Nat}{H:Hp}{cs:List DV}(h:PC Tryz.prog f [.lst xs] r)(hb:H id=some ⟨u,true,cs⟩)(hcs:cs=cellsL xs)(hl:xs.length=n)(hu:∀ x∈xs,x.cells.length=u):
  AC Tryz.prog f [.slc id 0 n] H cc (fun v H' c'=>v=r/\H'=delO H (some id)/\c'=cc) :=
 AC.ghost (GL.frzS (id:=id) hb rfl (fun j=>by
  by_cases e:j=id
  ·subst e;exact .inl (by rw[P3,if_pos rfl])
  ·exact .inr ⟨e,by rw[P3,if_neg e]⟩) (.cons _ _ _ _ (P1 hl hu ⟨[],by rw[hcs];simp⟩) .nil)) (h.at _ cc)
def wT(x:List UInt8):List Tok:=[A2 x]
theorem X5(x:List UInt8):1<=(wT x).length/\(wT x).length<=1000000000:=⟨A0G _,by show 1<=_;omega⟩
theorem wd1{x:List UInt8}{id cc:Nat}{H:Hp}(hb:H id=some ⟨1,true,[.str x]⟩)(hx:x.length<=1000000000):
  AC Tryz.prog 138 [.slc id 0 1] H cc (fun v H' c'=>v=D3 (wT x)/\H'=delO H (some id)/\c'=cc) :=
 W6 (xs:=[.str x]) (c_words1 [x] (by simp) (by simpa using hx)) hb rfl rfl (L3 [x])
theorem wd2{x y:List UInt8}{id cc:Nat}{H:Hp}(hb:H id=some ⟨1,true,[.str x,.str y]⟩)(hx:x.length<=1000000000)(hy:y.length<=1000000000):
  AC Tryz.prog 138 [.slc id 0 2] H cc (fun v H' c'=>v=D3 [A2 x,A2 y]/\H'=delO H (some id)/\c'=cc) :=
 W6 (xs:=[.str x,.str y]) (c_words1 [x,y] (by simp) (by simp[hx,hy])) hb rfl rfl (L3 [x,y])
theorem A2b(l:List (List Tok)):∀ x∈l.map D3,x.cells.length=1:=fun x hx=>by obtain⟨y, -,rfl⟩:=A1D.1 hx;rfl
theorem jn2{a b:List Tok}{id cc:Nat}{H:Hp}(hH:H id=some ⟨1,true,[D3 a,D3 b]⟩)(ha:1<=a.length/\a.length<=1000000000)(hb:1<=b.length/\b.length<=1000000000):
  AC Tryz.prog 137 [.slc id 0 2] H cc (fun v H' c'=>v=D3 (a++b)/\H'=delO H (some id)/\c'=cc):=by
 have:=W6 (id:=id) (cc:=cc) (H:=H) (u:=1) (n:=2) (c_join1 [a,b] (by simp) (by simp[ha,hb])) hH rfl rfl (A2b [a,b])
 rwa [A1E,A1E,A3L,A1B]at this
theorem jn3{a b c:List Tok}{id cc:Nat}{H:Hp}(hH:H id=some ⟨1,true,[D3 a,D3 b,D3 c]⟩)(ha:1<=a.length/\a.length<=1000000000)(hb:1<=b.length/\b.length<=1000000000)(hc:1<=c.length/\c.length<=1000000000):
  AC Tryz.prog 137 [.slc id 0 3] H cc (fun v H' c'=>v=D3 (a++b++c)/\H'=delO H (some id)/\c'=cc):=by
 have:=W6 (id:=id) (cc:=cc) (H:=H) (u:=1) (n:=3) (c_join1 [a,b,c] (by simp) (by simp[ha,hb,hc])) hH rfl rfl (A2b [a,b,c])
 rwa [A1E,A1E,A1E,A3L,A1B, <- A0T]at this
theorem B3q(x:List UInt8):1<=(C4 x).length/\(C4 x).length<=1000000000:=by rw[A0];omega
theorem c_operand(e:Ex)(n:Int)(hT:(exT e).length<=100000000)(h:PC Tryz.prog 242 [e.v] (D3 (exT e))):PC Tryz.prog 299 [e.v,I64 n] (D3 (D9 (e.kind,exT e) n)):=by
 refine PC.ofT A4 rfl (A0B rfl) (by simp[DV.nlL,DV.nl,Ex.nl]) (I7 _) ?_;rw[Ex.v_w]at h ⊢;have hlv:=c_level e.kind;obtain⟨hl1, -⟩:=Y4 e;obtain⟨R,hR⟩:∃ R,R=D3 (D9 (e.kind,exT e) n):=⟨_,rfl⟩;rw[<- hR];unfold D9 at hR;dsimp only at hR;generalize exT e=T at h hT hl1 hR;by_cases hlt:B0 e.kind<n
 ·have hd:decide (B0 e.kind<n)=true:=by simpa using hlt
  rw[if_pos hlt]at hR;repeat' ((first|(with_reducible first|refine wr ?_|refine cpc hlv ?_|refine cpc h ?_)|(with_reducible refine wb2 ?_ ?_<;>(intro hb;try simp only[hb]))|(refine AC.call (wd1 rfl (by decide)) ?_<;>rintro _ _ _ ⟨rfl,rfl,rfl⟩ -)|(refine AC.call (jn3 rfl (X5 _) ⟨hl1,by omega⟩ (X5 _)) ?_<;>rintro _ _ _ ⟨rfl,rfl,rfl⟩ -)|fail)<;>try simp only[go_sem,seval,hd])
  exact⟨_,by rw[hR];exact GL.refl _ _⟩
 ·have hd:decide (B0 e.kind<n)=false:=by simpa using hlt
  rw[if_neg hlt]at hR;repeat' ((with_reducible first|apply wr|refine cpc hlv ?_|refine cpc h ?_|fail)<;>try simp only[go_sem,seval,hd])
  exact⟨_,by rw[hR];exact GL.refl _ _⟩
theorem B9y{sz:Nat}{xs:List DV}{k:IntKind}:L2 sz (.lst xs) (.int k 1)=B7w sz xs[1]? := B3h (l:=1)
theorem c_exprT:∀ (m:Nat) (e:Ex),e.sz<m->e.sz<=10000000->PC Tryz.prog 242 [e.v] (D3 (exT e)):=by
 intro m
 induction m with
 |zero=>intro e h;omega
 |succ m ih =>
 intro e hm hB;have ihx:∀ x∈e.args,PC Tryz.prog 242 [x.v] (D3 (exT x)):=fun x hx=>ih x (by have:=Ex.sz_arg hx;omega) (by have:=Ex.sz_arg hx;omega);have hop:∀ x∈e.args, ∀ n,PC Tryz.prog 299 [x.v,I64 n] (D3 (D9 (x.kind,exT x) n)):=fun x hx n=>c_operand x n (by have:=(Y4 x).2;have:=Ex.sz_arg hx;omega) (ihx x hx);have hle:∀ x∈e.args, ∀ n,1<=(D9 (x.kind,exT x) n).length/\(D9 (x.kind,exT x) n).length<=1000000000:=fun x hx n=>by
  have h1:=Y4 x;have h2:=Ex.sz_arg hx;have h3:=A0m (x.kind,exT x) n;dsimp only at h3;omega
 clear ih ihx;obtain⟨R,hR⟩:∃ R,R=D3 (exT e):=⟨_,rfl⟩;have hnm:=e.sz_name;refine PC.ofT A4 rfl (A0B rfl) (by simp[DV.nlL,Ex.nl]) (I7 _) ?_;rw[Ex.v_w, <- hR];cases e with|mk k v n a p =>
 rw[exT,A3a]at hR;dsimp only[Ex.w,Ex.kind,Ex.value,Ex.name,Ex.args,Ex.pos]at hop hle hnm ⊢;unfold I2 at hR;dsimp only at hR;have hlv:=c_level k;have hnu:=c_number31 v;have hna:=c_named n (by omega);by_cases h1:k=1
 ·subst h1;rw[if_pos rfl]at hR;repeat' ((with_reducible first|apply wr|refine cpc hlv ?_|refine cpc hnu ?_|fail)<;>try simp only[go_sem,seval])
  exact⟨_,by rw[hR];exact GL.refl _ _⟩
 have d1:(k == 1)=false:=by simpa using h1
 rw[if_neg h1]at hR;by_cases h2:k=2
 ·subst h2;rw[if_pos rfl]at hR;repeat' ((with_reducible first|apply wr|refine cpc hlv ?_|refine cpc hna ?_|fail)<;>try simp only[go_sem,seval])
  exact⟨_,by rw[hR];exact GL.refl _ _⟩
 have d2:(k == 2)=false:=by simpa using h2
 rw[if_neg h2]at hR;by_cases h3:k=3
 ·subst h3;rw[if_pos rfl]at hR;repeat' ((first|(with_reducible first|refine wr ?_|refine cpc hlv ?_)|(with_reducible refine wb2 ?_ ?_<;>(intro hb;try simp only[hb]))|(refine AC.call (wd1 rfl (by decide)) ?_<;>rintro _ _ _ ⟨rfl,rfl,rfl⟩ -)|fail)<;>try simp only[go_sem,seval])
  exact⟨_,by rw[hR];exact GL.refl _ _⟩
 have d3:(k == 3)=false:=by simpa using h3
 rw[if_neg h3]at hR;by_cases h4:k=4
 ·subst h4;rw[if_pos rfl]at hR;repeat' ((first|(with_reducible first|refine wr ?_|refine cpc hlv ?_)|(with_reducible refine wb2 ?_ ?_<;>(intro hb;try simp only[hb]))|(refine AC.call (wd1 rfl (by decide)) ?_<;>rintro _ _ _ ⟨rfl,rfl,rfl⟩ -)|fail)<;>try simp only[go_sem,seval])
  exact⟨_,by rw[hR];exact GL.refl _ _⟩
 have d4:(k == 4)=false:=by simpa using h4
 rw[if_neg h4]at hR;by_cases h8:k=8
 ·subst h8;rw[if_pos rfl]at hR;repeat' ((first|(with_reducible first|refine wr ?_|refine cpc hlv ?_)|(with_reducible refine wb2 ?_ ?_<;>(intro hb;try simp only[hb]))|(refine AC.call (wd1 rfl (by decide)) ?_<;>rintro _ _ _ ⟨rfl,rfl,rfl⟩ -)|fail)<;>try simp only[go_sem,seval])
  exact⟨_,by rw[hR];exact GL.refl _ _⟩
 have d8:(k == 8)=false:=by simpa using h8
 rw[if_neg h8]at hR;by_cases h9:k=9
 ·subst h9;rw[if_pos rfl]at hR;repeat' ((first|(with_reducible first|refine wr ?_|refine cpc hlv ?_)|(with_reducible refine wb2 ?_ ?_<;>(intro hb;try simp only[hb]))|(refine AC.call (wd1 rfl (by decide)) ?_<;>rintro _ _ _ ⟨rfl,rfl,rfl⟩ -)|fail)<;>try simp only[go_sem,seval])
  exact⟨_,by rw[hR];exact GL.refl _ _⟩
 have d9:(k == 9)=false:=by simpa using h9
 rw[if_neg h9]at hR;by_cases h5:k=5
 ·subst h5;rw[if_pos rfl]at hR;repeat' ((first|(with_reducible first|refine wr ?_|refine cpc hlv ?_|refine cpc hna ?_)|(with_reducible refine wb2 ?_ ?_<;>(intro hb;try simp only[hb]))|(refine AC.call (wd1 rfl (by decide)) ?_<;>rintro _ _ _ ⟨rfl,rfl,rfl⟩ -)|(refine AC.call (jn2 rfl (X5 _) (B3q _)) ?_<;>rintro _ _ _ ⟨rfl,rfl,rfl⟩ -)|fail)<;>try simp only[go_sem,seval])
  exact⟨_,by rw[hR];exact GL.refl _ _⟩
 have d5:(k == 5)=false:=by simpa using h5
 rw[if_neg h5]at hR;by_cases h6:k=6
 ·subst h6;rw[if_pos rfl]at hR;repeat' ((first|(with_reducible first|refine wr ?_|refine cpc hlv ?_|refine cpc hna ?_)|(with_reducible refine wb2 ?_ ?_<;>(intro hb;try simp only[hb]))|(refine AC.call (wd1 rfl (by decide)) ?_<;>rintro _ _ _ ⟨rfl,rfl,rfl⟩ -)|(refine AC.call (jn2 rfl (X5 _) (B3q _)) ?_<;>rintro _ _ _ ⟨rfl,rfl,rfl⟩ -)|fail)<;>try simp only[go_sem,seval])
  exact⟨_,by rw[hR];exact GL.refl _ _⟩
 have d6:(k == 6)=false:=by simpa using h6
 rw[if_neg h6]at hR;by_cases h7:k=7
 ·subst h7;rw[if_pos rfl]at hR;repeat' ((first|(with_reducible first|refine wr ?_|refine cpc hlv ?_|refine cpc hna ?_)|(with_reducible refine wb2 ?_ ?_<;>(intro hb;try simp only[hb]))|(refine AC.call (wd1 rfl (by decide)) ?_<;>rintro _ _ _ ⟨rfl,rfl,rfl⟩ -)|(refine AC.call (jn2 rfl (X5 _) (B3q _)) ?_<;>rintro _ _ _ ⟨rfl,rfl,rfl⟩ -)|fail)<;>try simp only[go_sem,seval])
  exact⟨_,by rw[hR];exact GL.refl _ _⟩
 have d7:(k == 7)=false:=by simpa using h7
 rw[if_neg h7]at hR;have hbad:∀ q:List Tok,R=D3 q->q=[S8]->∃ H2,GL ((nil.upd 0 ⟨0,true,[I64 k,I64 v,.str n,F7 a,I64 p]⟩).upd 1 ⟨4,true,[I64 0,.str [],I64 0,I64 0]⟩) [.slc 1 0 1] H2 [R]:=fun q h1 h2=>by
  rw[h1,h2];exact K5 (id:=1) h_same rfl rfl (D7 [S8]) ⟨[],rfl⟩
 have w0:IntKind.i64.wrap 0=0:=by decide
 have w1:IntKind.i64.wrap 1=1:=by decide
 match a with
 |[] =>
  have e1:((0:Int) == 1)=false:=rfl;have e2:((0:Int) == 2)=false:=rfl;try dsimp only[List.map_nil]at hR
  by_cases l6:B0 k=6
  ·have m6:(B0 k == 6)=true:=by simpa using l6
   have m5:decide (B0 k<6)=false:=by simp;omega
   repeat' ((with_reducible first|apply wr|refine cpc hlv ?_|fail)<;>try simp only[go_sem,seval,d1,d2,d3,d4,d8,d9,d5,d6,d7,m6,m5,List.length_nil,List.map_nil])
   exact hbad _ hR rfl
  ·have m6:(B0 k == 6)=false:=by simpa using l6
   by_cases l5:B0 k<6
   ·have m5:decide (B0 k<6)=true:=by simpa using l5
    repeat' ((with_reducible first|apply wr|refine cpc hlv ?_|fail)<;>try simp only[go_sem,seval,d1,d2,d3,d4,d8,d9,d5,d6,d7,m6,m5,List.length_nil,List.map_nil])
    exact hbad _ hR rfl
   ·have m5:decide (B0 k<6)=false:=by simpa using l5
    repeat' ((with_reducible first|apply wr|refine cpc hlv ?_|fail)<;>try simp only[go_sem,seval,d1,d2,d3,d4,d8,d9,d5,d6,d7,m6,m5,List.length_nil,List.map_nil])
    exact hbad _ hR rfl
 |[x] =>
  have hx:=fun n=>by have:=hop x A0M n;rwa [Ex.v_w]at this
  have hxl:=hle x A0M;simp only[A0U,List.map_nil]at hR;by_cases l6:B0 k=6
  ·have m6:(B0 k == 6)=true:=by simpa using l6
   rw[if_pos l6]at hR;have hk:k=10\/k=11:=by
    unfold B0 at l6;repeat' split at l6
    all_goals omega
   rcases hk with rfl|rfl
   ·rw[if_pos rfl]at hR;repeat' ((first|(with_reducible first|refine wr ?_|refine cpc hlv ?_|refine cpc (hx 6) ?_)|(with_reducible refine wb2 ?_ ?_<;>(intro hb;try simp only[hb]))|(refine AC.call (wd1 rfl (by decide)) ?_<;>rintro _ _ _ ⟨rfl,rfl,rfl⟩ -)|(refine AC.call (jn2 rfl (X5 _) (hxl 6)) ?_<;>rintro _ _ _ ⟨rfl,rfl,rfl⟩ -)|fail)<;>try simp only[go_sem,seval,d1,d2,d3,d4,d8,d9,d5,d6,d7,m6,w0,w1,Ex.v_w])
    exact⟨_,by rw[hR];exact GL.refl _ _⟩
   ·rw[if_neg (by decide)]at hR;repeat' ((first|(with_reducible first|refine wr ?_|refine cpc hlv ?_|refine cpc (hx 6) ?_)|(with_reducible refine wb2 ?_ ?_<;>(intro hb;try simp only[hb]))|(refine AC.call (wd1 rfl (by decide)) ?_<;>rintro _ _ _ ⟨rfl,rfl,rfl⟩ -)|(refine AC.call (jn2 rfl (X5 _) (hxl 6)) ?_<;>rintro _ _ _ ⟨rfl,rfl,rfl⟩ -)|fail)<;>try simp only[go_sem,seval,d1,d2,d3,d4,d8,d9,d5,d6,d7,m6,w0,w1,Ex.v_w])
    exact⟨_,by rw[hR];exact GL.refl _ _⟩
  ·have m6:(B0 k == 6)=false:=by simpa using l6
   rw[if_neg l6]at hR;by_cases l5:B0 k<6
   ·have m5:decide (B0 k<6)=true:=by simpa using l5
    repeat' ((with_reducible first|apply wr|refine cpc hlv ?_|fail)<;>try simp only[go_sem,seval,d1,d2,d3,d4,d8,d9,d5,d6,d7,m6,m5])
    exact hbad _ hR rfl
   ·have m5:decide (B0 k<6)=false:=by simpa using l5
    repeat' ((with_reducible first|apply wr|refine cpc hlv ?_|fail)<;>try simp only[go_sem,seval,d1,d2,d3,d4,d8,d9,d5,d6,d7,m6,m5])
    exact hbad _ hR rfl
 |[x,y] =>
  have hx:=fun n=>by have:=hop x A0M n;rwa [Ex.v_w]at this
  have hxl:=hle x A0M;have hy:=fun n=>by have:=hop y (A0L _ A0M) n;rwa [Ex.v_w]at this
  have hyl:=hle y (A0L _ A0M);simp only[A0U,List.map_nil]at hR;by_cases l5:B0 k<6
  ·have m5:decide (B0 k<6)=true:=by simpa using l5
   have m6:(B0 k == 6)=false:=by simp;omega
   rw[if_pos l5]at hR;obtain⟨k1,k2⟩:=A9x (k:=k) (by omega);have k3:12<=k:=by
    apply Classical.byContradiction;intro hc;have:k=10\/k=11:=by omega
    rw[A2q this]at l5;omega
   obtain⟨j,hj⟩:∃ j:Nat,k=12+(j:Int):=⟨(k-12).toNat,by omega⟩;have hjw:IntKind.i64.wrap (k-12)=(j:Int):=by rw[w6z (by omega)];omega
   have hjn:(k-12).toNat=j:=by omega
   rw[hjn]at hR;have hj13:j<13:=by omega
   have hgj:C9[j]? = some (C9.getD j []):=by
    rw[A0Y,A0C (show j<C9.length from hj13)];rfl
   have hsl:(C9.getD j []).length<=1000000000:=by
    have:∀ i:Nat,i<13->(C9.getD i []).length<=1000000000:=by decide
    exact this j hj13
   generalize C9.getD j []=S at hR hgj hsl;have hw1:IntKind.i64.wrap (B0 k+1)=B0 k+1:=w64 (by have:=S6 k;omega) (by have:=S6 k;omega);by_cases l3:B0 k=3
   ·have m3:(B0 k == 3)=true:=by simpa using l3
    rw[if_pos l3]at hR;repeat' ((first|(with_reducible first|refine wr ?_|refine cpc hlv ?_|refine cpc (hx 4) ?_|refine cpc c_signs31 ?_|refine cpc (hy (B0 k+1)) ?_)|(with_reducible refine wb2 ?_ ?_<;>(intro hb;try simp only[hb]))|(refine AC.call (wd1 rfl hsl) ?_<;>rintro _ _ _ ⟨rfl,rfl,rfl⟩ -)|(refine AC.call (jn3 rfl (hxl 4) (X5 _) (hyl (B0 k+1))) ?_<;>rintro _ _ _ ⟨rfl,rfl,rfl⟩ -)|fail)<;>try simp only[go_sem,seval,d1,d2,d3,d4,d8,d9,d5,d6,d7,m6,m5,m3,hjw,hgj,hw1,Ex.v_w,B9y,A2T,A2S])
    exact⟨_,by rw[hR];exact GL.refl _ _⟩
   ·have m3:(B0 k == 3)=false:=by simpa using l3
    rw[if_neg l3]at hR;repeat' ((first|(with_reducible first|refine wr ?_|refine cpc hlv ?_|refine cpc (hx (B0 k)) ?_|refine cpc c_signs31 ?_|refine cpc (hy (B0 k+1)) ?_)|(with_reducible refine wb2 ?_ ?_<;>(intro hb;try simp only[hb]))|(refine AC.call (wd1 rfl hsl) ?_<;>rintro _ _ _ ⟨rfl,rfl,rfl⟩ -)|(refine AC.call (jn3 rfl (hxl (B0 k)) (X5 _) (hyl (B0 k+1))) ?_<;>rintro _ _ _ ⟨rfl,rfl,rfl⟩ -)|fail)<;>try simp only[go_sem,seval,d1,d2,d3,d4,d8,d9,d5,d6,d7,m6,m5,m3,hjw,hgj,hw1,Ex.v_w,B9y,A2T,A2S])
    exact⟨_,by rw[hR];exact GL.refl _ _⟩
  ·have m5:decide (B0 k<6)=false:=by simpa using l5
   rw[if_neg l5]at hR;by_cases l6:B0 k=6
   ·have m6:(B0 k == 6)=true:=by simpa using l6
    repeat' ((with_reducible first|apply wr|refine cpc hlv ?_|fail)<;>try simp only[go_sem,seval,d1,d2,d3,d4,d8,d9,d5,d6,d7,m6,m5])
    exact hbad _ hR rfl
   ·have m6:(B0 k == 6)=false:=by simpa using l6
    repeat' ((with_reducible first|apply wr|refine cpc hlv ?_|fail)<;>try simp only[go_sem,seval,d1,d2,d3,d4,d8,d9,d5,d6,d7,m6,m5])
    exact hbad _ hR rfl
 |x :: y :: z :: l =>
  simp only[A0U]at hR;obtain⟨A,hA⟩:∃ A,A=(x :: y :: z :: l).map Ex.v:=⟨_,rfl⟩;have n1:((A.length:Int) == 1)=false:=by rw[hA];simp;omega
  have n2:((A.length:Int) == 2)=false:=by rw[hA];simp;omega
  have hex:F7 (x :: y :: z :: l)=.lst A:=by rw[hA]
  rw[hex]at hbad ⊢;by_cases l6:B0 k=6
  ·have m6:(B0 k == 6)=true:=by simpa using l6
   have m5:decide (B0 k<6)=false:=by simp;omega
   repeat' ((with_reducible first|apply wr|refine cpc hlv ?_|fail)<;>try simp only[go_sem,seval,d1,d2,d3,d4,d8,d9,d5,d6,d7,m6,m5,n1])
   exact hbad _ hR rfl
  ·have m6:(B0 k == 6)=false:=by simpa using l6
   by_cases l5:B0 k<6
   ·have m5:decide (B0 k<6)=true:=by simpa using l5
    repeat' ((with_reducible first|apply wr|refine cpc hlv ?_|fail)<;>try simp only[go_sem,seval,d1,d2,d3,d4,d8,d9,d5,d6,d7,m6,m5,n2])
    exact hbad _ hR rfl
   ·have m5:decide (B0 k<6)=false:=by simpa using l5
    repeat' ((with_reducible first|apply wr|refine cpc hlv ?_|fail)<;>try simp only[go_sem,seval,d1,d2,d3,d4,d8,d9,d5,d6,d7,m6,m5])
    exact hbad _ hR rfl
end Go.Proofs.YtkkjpohaffjecaaGreatDoor
set_option maxHeartbeats 8000000
namespace Go.Proofs.YtkkjpohaffjecaaGreatDoor
open Go.Eng (IC IOper DReg IFn J0)
open Go.Sym Go.Pb
theorem lw(x:List UInt8):(wT x).length=1:=rfl
theorem jn4{a b c d:List Tok}{id cc:Nat}{H:Hp}(hH:H id=some ⟨1,true,[D3 a,D3 b,D3 c,D3 d]⟩)(ha:1<=a.length/\a.length<=1000000000)(hb:1<=b.length/\b.length<=1000000000)(hc:1<=c.length/\c.length<=1000000000)(hd:1<=d.length/\d.length<=1000000000):
  AC Tryz.prog 137 [.slc id 0 4] H cc (fun v H' c'=>v=D3 (a++b++c++d)/\H'=delO H (some id)/\c'=cc):=by
 have:=W6 (id:=id) (cc:=cc) (H:=H) (u:=1) (n:=4) (c_join1 [a,b,c,d] (by simp) (by simp[ha,hb,hc,hd])) hH rfl rfl (A2b [a,b,c,d])
 rwa [A1E,A1E,A1E,A1E,A3L,A1B, <- A0T, <- A0T]at this
theorem jn5{a b c d e:List Tok}{id cc:Nat}{H:Hp}(hH:H id=some ⟨1,true,[D3 a,D3 b,D3 c,D3 d,D3 e]⟩)(ha:1<=a.length/\a.length<=1000000000)(hb:1<=b.length/\b.length<=1000000000)(hc:1<=c.length/\c.length<=1000000000)(hd:1<=d.length/\d.length<=1000000000)(he:1<=e.length/\e.length<=1000000000):
  AC Tryz.prog 137 [.slc id 0 5] H cc (fun v H' c'=>v=D3 (a++b++c++d++e)/\H'=delO H (some id)/\c'=cc):=by
 have:=W6 (id:=id) (cc:=cc) (H:=H) (u:=1) (n:=5) (c_join1 [a,b,c,d,e] (by simp) (by simp[ha,hb,hc,hd,he])) hH rfl rfl (A2b [a,b,c,d,e])
 rwa [A1E,A1E,A1E,A1E,A1E,A3L,A1B, <- A0T, <- A0T, <- A0T]at this
theorem B6s(l:List Ex)(i:Nat)(hl:Ex.szs l<=10000000):1<=(agT l i).length/\(agT l i).length<=100000000:=by
 unfold agT;cases h:l[i]? with
 |none=>exact⟨A0G _,by decide⟩
 |some e =>
  have h1:=Y4 e;have h2:=Ex.szs_mem (A0V h);dsimp only;omega
theorem c_arg(l:List Ex)(i:Nat)(hi:i<=5)(hl:Ex.szs l<=10000000):PC Tryz.prog 273 [F7 l,I64 i] (D3 (agT l i)):=by
 refine PC.ofT A4 rfl (A0B rfl) (by simp[DV.nlL,DV.nl,Y2]) (I7 _) ?_;unfold agT;cases h:l[i]? with
 |none =>
  have hlt:l.length<=i:=List.getElem?_eq_none_iff.1 h;have hd:decide ((i:Int)≥(l.length:Int))=true:=by simp;omega
  repeat' (apply wr<;>try simp only[go_sem,seval,hd,A0F])
  exact A0l
 |some e =>
  have hlt:=(A0K.1 h).1;have hd:decide ((i:Int)≥(l.length:Int))=false:=by simp;omega
  have he:=c_exprT (e.sz+1) e (by omega) (by have:=Ex.szs_mem (A0V h);omega);rw[Ex.v_w]at he;repeat' ((with_reducible first|apply wr|refine cpc he ?_|fail)<;>try simp only[go_sem,seval,hd,h,Ex.v_w,A0F])
  exact⟨_,GL.refl _ _⟩
theorem A9k{c:Nat}{k v p:Int}{x:List UInt8}:∃ H2,GL (nil.upd c ⟨4,true,[I64 k,.str x,I64 v,I64 p]⟩) [.slc c 0 1] H2 [D3 [⟨k,x,v,p⟩]] :=
 K5 h_same rfl rfl (D7 _) ⟨[],rfl⟩
theorem c_text31(s:List UInt8)(hs:s.length<=1000000000):PC Tryz.prog 274 [.str s] (D3 (Y7 s)):=by
 refine PC.ofT A4 rfl (A0B rfl) rfl (I7 _) ?_;unfold Y7;repeat' (apply wr<;>try simp only[go_sem,seval])
 refine C1 (fun k:Nat=>[(0,.str s),(3,I64 k)]) (fun _=>Sym.nil) (fun k c=>k<=s.length/\(s.take k).all txB=true) (fun k=>s.length-k) 0 (by simp[C6,tm,Tm.upd]) (Sub.nil _) ⟨A0O _,rfl⟩ ?_;rintro k c ⟨hk,ha⟩;by_cases hlt:k<s.length
 ·have hd:=dtz hlt;have hg:=A0C hlt;have hw:=w64 (n:=(k:Int)+1);have e0:(s.take (k+1)).all txB=((s.take k).all txB && txB s[k]):=by rw[A0S,hg,A3B];simp
  have e1:txB s[k]=false->s.all txB=false:=fun h=>by
   cases hz:s.all txB with
   |false=>rfl
   |true=>rw[A0P]at hz;rw[hz _ (A0Q hlt)]at h;cases h
  generalize s[k]=x at hg e0 e1;by_cases h1:x.toNat<32
  ·have hd1:decide ((x.toNat:Int)<32)=true:=by simp;omega
   rw[if_pos (.inl (e1 (by simp[txB];omega)))];repeat' (apply wr<;>try simp only[go_sem,seval,hd,hg,hd1])
   exact A9k
  ·have hd1:decide ((x.toNat:Int)<32)=false:=by simp;omega
   by_cases h2:126<x.toNat
   ·have hd2:decide ((x.toNat:Int)>126)=true:=by simp;omega
    rw[if_pos (.inl (e1 (by simp[txB];omega)))];repeat' (apply wr<;>try simp only[go_sem,seval,hd,hg,hd1,hd2])
    exact A9k
   ·have hd2:decide ((x.toNat:Int)>126)=false:=by simp;omega
    have e2:txB x=true:=by simp[txB];omega
    repeat' (apply wr<;>try simp only[go_sem,seval,hd,hg,hw,hd1,hd2])
    exact⟨k+1,by simp[],Sub.nil _,inv ⟨by omega,by rw[e0,ha,e2];rfl⟩,by omega⟩
 ·have hd:=dfz hlt;rw[A0I (by omega)]at ha;by_cases h3:32<s.length
  ·have hd3:decide ((s.length:Int)>32)=true:=by simp;omega
   rw[if_pos (.inr h3)];repeat' (apply wr<;>try simp only[go_sem,seval,hd,hd3])
   exact A9k
  ·have hd3:decide ((s.length:Int)>32)=false:=by simp;omega
   rw[if_neg (by rw[ha];simp;omega)];repeat' (apply wr<;>try simp only[go_sem,seval,hd,hd3])
   exact A9k
theorem C3o(x:Pb.St):Pb.St.szs [x]=x.sz:=by rw[Pb.St.szs,Pb.St.szs];omega
theorem c_stmtT(m:Nat)(ihs:∀ x:Pb.St,x.sz<m->PC Tryz.prog 207 [x.v] (D3 (stT x)))(ihb:∀ l:List Pb.St,Pb.St.szs l<m->PC Tryz.prog 142 [H3 l] (D3 (blT l)))
  (hlb:∀ l:List Pb.St,Pb.St.szs l<m->1<=(blT l).length/\(blT l).length<=100000000) (hls:∀ x:Pb.St,x.sz<m->1<=(stT x).length/\(stT x).length<=100000000)
  (s:Pb.St) (hm:s.sz<=m) (hB:s.sz<=10000000):PC Tryz.prog 207 [s.v] (D3 (stT s)):=by
 obtain⟨R,hR⟩:∃ R,R=D3 (stT s):=⟨_,rfl⟩;have hnm:=s.sz_name;have htx:=s.sz_text;have hax:Ex.szs s.args<=10000000:=by cases s with|mk k n t a x y p=>rw[Pb.St.sz]at hB;show Ex.szs a<=_;omega
 have hxx:=s.sz_thn;have hyy:=s.sz_els;refine PC.ofT A4 rfl (A0B rfl) (by simp[DV.nlL,Pb.St.nl]) (I7 _) ?_;rw[Pb.St.v_w, <- hR];cases s with|mk k n t a x y p =>
 unfold stT at hR;dsimp only[Pb.St.w,Pb.St.kind,Pb.St.name,Pb.St.text,Pb.St.args,Pb.St.thn,Pb.St.els,Pb.St.pos]at hnm htx hax hxx hyy ⊢;have hna:=c_named n (by omega);have hte:=c_text31 t (by omega);have ha0:=c_arg a 0 (by decide) hax;have ha1:=c_arg a 1 (by decide) hax;have la0:=B6s a 0 hax;have la1:=B6s a 1 hax;rw[show ((0:Nat):Int)=0 from rfl]at ha0;rw[show ((1:Nat):Int)=1 from rfl]at ha1;have hbx:=ihb x (by omega);have hby:=ihb y (by omega);have lbx:=hlb x (by omega);have lby:=hlb y (by omega);by_cases h1:k=1
 ·subst h1;rw[if_pos rfl]at hR;repeat' ((first|(with_reducible first|refine wr ?_|refine cpc hna ?_|refine cpc ha0 ?_)|(with_reducible refine wb2 ?_ ?_<;>(intro hb;try simp only[hb]))|(refine AC.call (wd1 rfl (by first|assumption|decide)) ?_<;>rintro _ _ _ ⟨rfl,rfl,rfl⟩ -)|(refine AC.call (jn2 rfl ?_ ?_) ?_<;>first|(constructor<;>(try simp only[A0A,lw,A0,A5,A3])<;>omega)|rintro _ _ _ ⟨rfl,rfl,rfl⟩ -)|(refine AC.call (jn3 rfl ?_ ?_ ?_) ?_<;>first|(constructor<;>(try simp only[A0A,lw,A0,A5,A3])<;>omega)|rintro _ _ _ ⟨rfl,rfl,rfl⟩ -)|(refine AC.call (jn4 rfl ?_ ?_ ?_ ?_) ?_<;>first|(constructor<;>(try simp only[A0A,lw,A0,A5,A3])<;>omega)|rintro _ _ _ ⟨rfl,rfl,rfl⟩ -)|(refine AC.call (jn5 rfl ?_ ?_ ?_ ?_ ?_) ?_<;>first|(constructor<;>(try simp only[A0A,lw,A0,A5,A3])<;>omega)|rintro _ _ _ ⟨rfl,rfl,rfl⟩ -)|fail)<;>try simp only[go_sem,seval])
  exact⟨_,by rw[hR];exact GL.refl _ _⟩
 rw[if_neg h1]at hR;have d1:(k == 1)=false:=by simpa using h1
 by_cases hbk:k<2\/19<k
 ·rw[if_pos hbk]at hR;by_cases h2:k<2
  ·have d2:decide (k<2)=true:=by simpa using h2
   repeat' (apply wr<;>try simp only[go_sem,seval,d1,d2])
   rw[hR];exact K5 (id:=1) h_same rfl rfl (D7 [S8]) ⟨[],rfl⟩
  ·have d2:decide (k<2)=false:=by simpa using h2
   have d3:decide (k>19)=true:=by simp;omega
   repeat' (apply wr<;>try simp only[go_sem,seval,d1,d2,d3])
   rw[hR];exact K5 (id:=1) h_same rfl rfl (D7 [S8]) ⟨[],rfl⟩
 rw[if_neg hbk]at hR;have e2:decide (k<2)=false:=by simp;omega
 have e3:decide (k>19)=false:=by simp;omega
 dsimp only at hR;obtain⟨j,hj⟩:∃ j:Nat,k=2+(j:Int):=⟨(k-2).toNat,by omega⟩;have hjw:IntKind.i64.wrap (k-2)=(j:Int):=by rw[w6z (by omega)];omega
 have hjn:(k-2).toNat=j:=by omega
 rw[hjn]at hR;have hj18:j<18:=by omega
 have hgj:B4[j]? = some (B4.getD j []):=by
  rw[A0Y,A0C (show j<B4.length from hj18)];rfl
 have hsl:(B4.getD j []).length<=1000000000:=by
  have:∀ i:Nat,i<18->(B4.getD i []).length<=1000000000:=by decide
  exact this j hj18
 generalize B4.getD j []=S at hR hgj hsl;have dk:∀ q:Int,¬ k=q->(k == q)=false:=fun q h=>by simpa using h
 repeat' ((first|(with_reducible first|refine G0 (p:=IW _ _ (pz Tryz.prog 207 (.i (.o (.i (.o .h))))) _ _) ?_|refine wr ?_|refine cpc c_stmts31 ?_)|(with_reducible refine wb2 ?_ ?_<;>(intro hb;try simp only[hb]))|(refine AC.call (wd1 rfl (by first|assumption|decide)) ?_<;>rintro _ _ _ ⟨rfl,rfl,rfl⟩ -)|fail)<;>try simp only[go_sem,seval,d1,e2,e3,hjw,hgj])
 unfold A7u;by_cases h2:k=2\/k=3
 ·rw[if_pos h2]at hR;have dd:(k == 2)=true\/(k == 2)=false/\(k == 3)=true:=by
   rcases h2 with rfl|rfl
   ·exact .inl rfl
   ·exact .inr ⟨rfl,rfl⟩
  clear h2 hj hjn h1 hbk
  match y with
  |[] =>
   dsimp only at hR;rcases dd with d2|⟨d2,d3⟩
   ·repeat' ((first|(with_reducible first|refine wr ?_|refine cpc ha0 ?_|refine cpc hbx ?_)|(with_reducible refine wb2 ?_ ?_<;>(intro hb;try simp only[hb]))|(refine AC.call (wd1 rfl (by first|assumption|decide)) ?_<;>rintro _ _ _ ⟨rfl,rfl,rfl⟩ -)|(refine AC.call (jn2 rfl ?_ ?_) ?_<;>first|(constructor<;>(try simp only[A0A,lw,A0,A5,A3])<;>omega)|rintro _ _ _ ⟨rfl,rfl,rfl⟩ -)|(refine AC.call (jn3 rfl ?_ ?_ ?_) ?_<;>first|(constructor<;>(try simp only[A0A,lw,A0,A5,A3])<;>omega)|rintro _ _ _ ⟨rfl,rfl,rfl⟩ -)|(refine AC.call (jn4 rfl ?_ ?_ ?_ ?_) ?_<;>first|(constructor<;>(try simp only[A0A,lw,A0,A5,A3])<;>omega)|rintro _ _ _ ⟨rfl,rfl,rfl⟩ -)|(refine AC.call (jn5 rfl ?_ ?_ ?_ ?_ ?_) ?_<;>first|(constructor<;>(try simp only[A0A,lw,A0,A5,A3])<;>omega)|rintro _ _ _ ⟨rfl,rfl,rfl⟩ -)|fail)<;>try simp only[go_sem,seval,d2,List.map_nil,List.length_nil])
    exact⟨_,by rw[hR];exact GL.refl _ _⟩
   ·repeat' ((first|(with_reducible first|refine wr ?_|refine cpc ha0 ?_|refine cpc hbx ?_)|(with_reducible refine wb2 ?_ ?_<;>(intro hb;try simp only[hb]))|(refine AC.call (wd1 rfl (by first|assumption|decide)) ?_<;>rintro _ _ _ ⟨rfl,rfl,rfl⟩ -)|(refine AC.call (jn2 rfl ?_ ?_) ?_<;>first|(constructor<;>(try simp only[A0A,lw,A0,A5,A3])<;>omega)|rintro _ _ _ ⟨rfl,rfl,rfl⟩ -)|(refine AC.call (jn3 rfl ?_ ?_ ?_) ?_<;>first|(constructor<;>(try simp only[A0A,lw,A0,A5,A3])<;>omega)|rintro _ _ _ ⟨rfl,rfl,rfl⟩ -)|(refine AC.call (jn4 rfl ?_ ?_ ?_ ?_) ?_<;>first|(constructor<;>(try simp only[A0A,lw,A0,A5,A3])<;>omega)|rintro _ _ _ ⟨rfl,rfl,rfl⟩ -)|(refine AC.call (jn5 rfl ?_ ?_ ?_ ?_ ?_) ?_<;>first|(constructor<;>(try simp only[A0A,lw,A0,A5,A3])<;>omega)|rintro _ _ _ ⟨rfl,rfl,rfl⟩ -)|fail)<;>try simp only[go_sem,seval,d2,d3,List.map_nil,List.length_nil])
    exact⟨_,by rw[hR];exact GL.refl _ _⟩
  |[q] =>
   rw[C3o]at hyy;have hq:=ihs q (by omega);have lq:=hls q (by omega);rw[Pb.St.v_w]at hq;dsimp only at hR;have hone:blT [q]=wT [123]++stT q++wT [125]:=by unfold blT;rw[L9,L9,A1B];rfl
   have hby':=hby;rw[hone]at hby lby;by_cases hk2:q.kind=2
   ·rw[if_pos hk2]at hR;have m2:(q.kind == 2)=true:=by simpa using hk2
    rcases dd with d2|⟨d2,d3⟩
    ·repeat' ((first|(with_reducible first|refine wr ?_|refine cpc ha0 ?_|refine cpc hbx ?_|refine cpc hq ?_)|(with_reducible refine wb2 ?_ ?_<;>(intro hb;try simp only[hb]))|(refine AC.call (wd1 rfl (by first|assumption|decide)) ?_<;>rintro _ _ _ ⟨rfl,rfl,rfl⟩ -)|(refine AC.call (jn2 rfl ?_ ?_) ?_<;>first|(constructor<;>(try simp only[A0A,lw,A0,A5,A3])<;>omega)|rintro _ _ _ ⟨rfl,rfl,rfl⟩ -)|(refine AC.call (jn3 rfl ?_ ?_ ?_) ?_<;>first|(constructor<;>(try simp only[A0A,lw,A0,A5,A3])<;>omega)|rintro _ _ _ ⟨rfl,rfl,rfl⟩ -)|(refine AC.call (jn4 rfl ?_ ?_ ?_ ?_) ?_<;>first|(constructor<;>(try simp only[A0A,lw,A0,A5,A3])<;>omega)|rintro _ _ _ ⟨rfl,rfl,rfl⟩ -)|(refine AC.call (jn5 rfl ?_ ?_ ?_ ?_ ?_) ?_<;>first|(constructor<;>(try simp only[A0A,lw,A0,A5,A3])<;>omega)|rintro _ _ _ ⟨rfl,rfl,rfl⟩ -)|fail)<;>try simp only[go_sem,seval,d2,m2,Pb.St.v_w])
     exact⟨_,by rw[hR];exact GL.refl _ _⟩
    ·repeat' ((first|(with_reducible first|refine wr ?_|refine cpc ha0 ?_|refine cpc hbx ?_|refine cpc hq ?_)|(with_reducible refine wb2 ?_ ?_<;>(intro hb;try simp only[hb]))|(refine AC.call (wd1 rfl (by first|assumption|decide)) ?_<;>rintro _ _ _ ⟨rfl,rfl,rfl⟩ -)|(refine AC.call (jn2 rfl ?_ ?_) ?_<;>first|(constructor<;>(try simp only[A0A,lw,A0,A5,A3])<;>omega)|rintro _ _ _ ⟨rfl,rfl,rfl⟩ -)|(refine AC.call (jn3 rfl ?_ ?_ ?_) ?_<;>first|(constructor<;>(try simp only[A0A,lw,A0,A5,A3])<;>omega)|rintro _ _ _ ⟨rfl,rfl,rfl⟩ -)|(refine AC.call (jn4 rfl ?_ ?_ ?_ ?_) ?_<;>first|(constructor<;>(try simp only[A0A,lw,A0,A5,A3])<;>omega)|rintro _ _ _ ⟨rfl,rfl,rfl⟩ -)|(refine AC.call (jn5 rfl ?_ ?_ ?_ ?_ ?_) ?_<;>first|(constructor<;>(try simp only[A0A,lw,A0,A5,A3])<;>omega)|rintro _ _ _ ⟨rfl,rfl,rfl⟩ -)|fail)<;>try simp only[go_sem,seval,d2,d3,m2,Pb.St.v_w])
     exact⟨_,by rw[hR];exact GL.refl _ _⟩
   ·rw[if_neg hk2]at hR;have m2:(q.kind == 2)=false:=by simpa using hk2
    rcases dd with d2|⟨d2,d3⟩
    ·repeat' ((first|(with_reducible first|refine wr ?_|refine cpc ha0 ?_|refine cpc hbx ?_|refine cpc hby ?_)|(with_reducible refine wb2 ?_ ?_<;>(intro hb;try simp only[hb]))|(refine AC.call (wd1 rfl (by first|assumption|decide)) ?_<;>rintro _ _ _ ⟨rfl,rfl,rfl⟩ -)|(refine AC.call (jn2 rfl ?_ ?_) ?_<;>first|(constructor<;>(try simp only[A0A,lw,A0,A5,A3])<;>omega)|rintro _ _ _ ⟨rfl,rfl,rfl⟩ -)|(refine AC.call (jn3 rfl ?_ ?_ ?_) ?_<;>first|(constructor<;>(try simp only[A0A,lw,A0,A5,A3])<;>omega)|rintro _ _ _ ⟨rfl,rfl,rfl⟩ -)|(refine AC.call (jn4 rfl ?_ ?_ ?_ ?_) ?_<;>first|(constructor<;>(try simp only[A0A,lw,A0,A5,A3])<;>omega)|rintro _ _ _ ⟨rfl,rfl,rfl⟩ -)|(refine AC.call (jn5 rfl ?_ ?_ ?_ ?_ ?_) ?_<;>first|(constructor<;>(try simp only[A0A,lw,A0,A5,A3])<;>omega)|rintro _ _ _ ⟨rfl,rfl,rfl⟩ -)|fail)<;>try simp only[go_sem,seval,d2,m2,Pb.St.v_w])
     exact⟨_,by rw[hR];exact GL.refl _ _⟩
    ·repeat' ((first|(with_reducible first|refine wr ?_|refine cpc ha0 ?_|refine cpc hbx ?_|refine cpc hby ?_)|(with_reducible refine wb2 ?_ ?_<;>(intro hb;try simp only[hb]))|(refine AC.call (wd1 rfl (by first|assumption|decide)) ?_<;>rintro _ _ _ ⟨rfl,rfl,rfl⟩ -)|(refine AC.call (jn2 rfl ?_ ?_) ?_<;>first|(constructor<;>(try simp only[A0A,lw,A0,A5,A3])<;>omega)|rintro _ _ _ ⟨rfl,rfl,rfl⟩ -)|(refine AC.call (jn3 rfl ?_ ?_ ?_) ?_<;>first|(constructor<;>(try simp only[A0A,lw,A0,A5,A3])<;>omega)|rintro _ _ _ ⟨rfl,rfl,rfl⟩ -)|(refine AC.call (jn4 rfl ?_ ?_ ?_ ?_) ?_<;>first|(constructor<;>(try simp only[A0A,lw,A0,A5,A3])<;>omega)|rintro _ _ _ ⟨rfl,rfl,rfl⟩ -)|(refine AC.call (jn5 rfl ?_ ?_ ?_ ?_ ?_) ?_<;>first|(constructor<;>(try simp only[A0A,lw,A0,A5,A3])<;>omega)|rintro _ _ _ ⟨rfl,rfl,rfl⟩ -)|fail)<;>try simp only[go_sem,seval,d2,d3,m2,Pb.St.v_w])
     exact⟨_,by rw[hR];exact GL.refl _ _⟩
  |q :: q2 :: l =>
   dsimp only at hR;obtain⟨A,hA⟩:∃ A,A=(q :: q2 :: l).map Pb.St.v:=⟨_,rfl⟩;have n1:((A.length:Int) == 1)=false:=by rw[hA];simp;omega
   have n2:decide ((A.length:Int)>0)=true:=by rw[hA];simp;omega
   have hex:H3 (q :: q2 :: l)=.lst A:=by rw[hA]
   rw[hex]at hby ⊢;rcases dd with d2|⟨d2,d3⟩
   ·repeat' ((first|(with_reducible first|refine wr ?_|refine cpc ha0 ?_|refine cpc hbx ?_|refine cpc hby ?_)|(with_reducible refine wb2 ?_ ?_<;>(intro hb;try simp only[hb]))|(refine AC.call (wd1 rfl (by first|assumption|decide)) ?_<;>rintro _ _ _ ⟨rfl,rfl,rfl⟩ -)|(refine AC.call (jn2 rfl ?_ ?_) ?_<;>first|(constructor<;>(try simp only[A0A,lw,A0,A5,A3])<;>omega)|rintro _ _ _ ⟨rfl,rfl,rfl⟩ -)|(refine AC.call (jn3 rfl ?_ ?_ ?_) ?_<;>first|(constructor<;>(try simp only[A0A,lw,A0,A5,A3])<;>omega)|rintro _ _ _ ⟨rfl,rfl,rfl⟩ -)|(refine AC.call (jn4 rfl ?_ ?_ ?_ ?_) ?_<;>first|(constructor<;>(try simp only[A0A,lw,A0,A5,A3])<;>omega)|rintro _ _ _ ⟨rfl,rfl,rfl⟩ -)|(refine AC.call (jn5 rfl ?_ ?_ ?_ ?_ ?_) ?_<;>first|(constructor<;>(try simp only[A0A,lw,A0,A5,A3])<;>omega)|rintro _ _ _ ⟨rfl,rfl,rfl⟩ -)|fail)<;>try simp only[go_sem,seval,d2,n1,n2])
    exact⟨_,by rw[hR];exact GL.refl _ _⟩
   ·repeat' ((first|(with_reducible first|refine wr ?_|refine cpc ha0 ?_|refine cpc hbx ?_|refine cpc hby ?_)|(with_reducible refine wb2 ?_ ?_<;>(intro hb;try simp only[hb]))|(refine AC.call (wd1 rfl (by first|assumption|decide)) ?_<;>rintro _ _ _ ⟨rfl,rfl,rfl⟩ -)|(refine AC.call (jn2 rfl ?_ ?_) ?_<;>first|(constructor<;>(try simp only[A0A,lw,A0,A5,A3])<;>omega)|rintro _ _ _ ⟨rfl,rfl,rfl⟩ -)|(refine AC.call (jn3 rfl ?_ ?_ ?_) ?_<;>first|(constructor<;>(try simp only[A0A,lw,A0,A5,A3])<;>omega)|rintro _ _ _ ⟨rfl,rfl,rfl⟩ -)|(refine AC.call (jn4 rfl ?_ ?_ ?_ ?_) ?_<;>first|(constructor<;>(try simp only[A0A,lw,A0,A5,A3])<;>omega)|rintro _ _ _ ⟨rfl,rfl,rfl⟩ -)|(refine AC.call (jn5 rfl ?_ ?_ ?_ ?_ ?_) ?_<;>first|(constructor<;>(try simp only[A0A,lw,A0,A5,A3])<;>omega)|rintro _ _ _ ⟨rfl,rfl,rfl⟩ -)|fail)<;>try simp only[go_sem,seval,d2,d3,n1,n2])
    exact⟨_,by rw[hR];exact GL.refl _ _⟩
 rw[if_neg h2]at hR;have d2:=dk 2 (fun h=>h2 (.inl h));have d3:=dk 3 (fun h=>h2 (.inr h));by_cases h4:k=4
 ·subst h4;rw[if_pos rfl]at hR;repeat' ((first|(with_reducible first|refine wr ?_|refine cpc ha0 ?_)|(with_reducible refine wb2 ?_ ?_<;>(intro hb;try simp only[hb]))|(refine AC.call (wd1 rfl (by first|assumption|decide)) ?_<;>rintro _ _ _ ⟨rfl,rfl,rfl⟩ -)|(refine AC.call (jn2 rfl ?_ ?_) ?_<;>first|(constructor<;>(try simp only[A0A,lw,A0,A5,A3])<;>omega)|rintro _ _ _ ⟨rfl,rfl,rfl⟩ -)|(refine AC.call (jn3 rfl ?_ ?_ ?_) ?_<;>first|(constructor<;>(try simp only[A0A,lw,A0,A5,A3])<;>omega)|rintro _ _ _ ⟨rfl,rfl,rfl⟩ -)|(refine AC.call (jn4 rfl ?_ ?_ ?_ ?_) ?_<;>first|(constructor<;>(try simp only[A0A,lw,A0,A5,A3])<;>omega)|rintro _ _ _ ⟨rfl,rfl,rfl⟩ -)|(refine AC.call (jn5 rfl ?_ ?_ ?_ ?_ ?_) ?_<;>first|(constructor<;>(try simp only[A0A,lw,A0,A5,A3])<;>omega)|rintro _ _ _ ⟨rfl,rfl,rfl⟩ -)|fail)<;>try simp only[go_sem,seval,d2,d3])
  exact⟨_,by rw[hR];exact GL.refl _ _⟩
 rw[if_neg h4]at hR;have d4:=dk 4 h4;by_cases h18:k=18
 ·subst h18;rw[if_pos rfl]at hR;repeat' ((first|(with_reducible first|refine wr ?_|refine cpc ha0 ?_|refine cpc hte ?_)|(with_reducible refine wb2 ?_ ?_<;>(intro hb;try simp only[hb]))|(refine AC.call (wd1 rfl (by first|assumption|decide)) ?_<;>rintro _ _ _ ⟨rfl,rfl,rfl⟩ -)|(refine AC.call (jn2 rfl ?_ ?_) ?_<;>first|(constructor<;>(try simp only[A0A,lw,A0,A5,A3])<;>omega)|rintro _ _ _ ⟨rfl,rfl,rfl⟩ -)|(refine AC.call (jn3 rfl ?_ ?_ ?_) ?_<;>first|(constructor<;>(try simp only[A0A,lw,A0,A5,A3])<;>omega)|rintro _ _ _ ⟨rfl,rfl,rfl⟩ -)|(refine AC.call (jn4 rfl ?_ ?_ ?_ ?_) ?_<;>first|(constructor<;>(try simp only[A0A,lw,A0,A5,A3])<;>omega)|rintro _ _ _ ⟨rfl,rfl,rfl⟩ -)|(refine AC.call (jn5 rfl ?_ ?_ ?_ ?_ ?_) ?_<;>first|(constructor<;>(try simp only[A0A,lw,A0,A5,A3])<;>omega)|rintro _ _ _ ⟨rfl,rfl,rfl⟩ -)|fail)<;>try simp only[go_sem,seval,d2,d3,d4])
  exact⟨_,by rw[hR];exact GL.refl _ _⟩
 rw[if_neg h18]at hR;have d18:=dk 18 h18;by_cases h8:k=8\/k=10
 ·rw[if_pos h8]at hR;rcases h8 with rfl|rfl
  ·repeat' ((first|(with_reducible first|refine wr ?_|refine cpc ha0 ?_|refine cpc hna ?_)|(with_reducible refine wb2 ?_ ?_<;>(intro hb;try simp only[hb]))|(refine AC.call (wd1 rfl (by first|assumption|decide)) ?_<;>rintro _ _ _ ⟨rfl,rfl,rfl⟩ -)|(refine AC.call (jn2 rfl ?_ ?_) ?_<;>first|(constructor<;>(try simp only[A0A,lw,A0,A5,A3])<;>omega)|rintro _ _ _ ⟨rfl,rfl,rfl⟩ -)|(refine AC.call (jn3 rfl ?_ ?_ ?_) ?_<;>first|(constructor<;>(try simp only[A0A,lw,A0,A5,A3])<;>omega)|rintro _ _ _ ⟨rfl,rfl,rfl⟩ -)|(refine AC.call (jn4 rfl ?_ ?_ ?_ ?_) ?_<;>first|(constructor<;>(try simp only[A0A,lw,A0,A5,A3])<;>omega)|rintro _ _ _ ⟨rfl,rfl,rfl⟩ -)|(refine AC.call (jn5 rfl ?_ ?_ ?_ ?_ ?_) ?_<;>first|(constructor<;>(try simp only[A0A,lw,A0,A5,A3])<;>omega)|rintro _ _ _ ⟨rfl,rfl,rfl⟩ -)|fail)<;>try simp only[go_sem,seval,d2,d3,d4,d18])
   exact⟨_,by rw[hR];exact GL.refl _ _⟩
  ·repeat' ((first|(with_reducible first|refine wr ?_|refine cpc ha0 ?_|refine cpc hna ?_)|(with_reducible refine wb2 ?_ ?_<;>(intro hb;try simp only[hb]))|(refine AC.call (wd1 rfl (by first|assumption|decide)) ?_<;>rintro _ _ _ ⟨rfl,rfl,rfl⟩ -)|(refine AC.call (jn2 rfl ?_ ?_) ?_<;>first|(constructor<;>(try simp only[A0A,lw,A0,A5,A3])<;>omega)|rintro _ _ _ ⟨rfl,rfl,rfl⟩ -)|(refine AC.call (jn3 rfl ?_ ?_ ?_) ?_<;>first|(constructor<;>(try simp only[A0A,lw,A0,A5,A3])<;>omega)|rintro _ _ _ ⟨rfl,rfl,rfl⟩ -)|(refine AC.call (jn4 rfl ?_ ?_ ?_ ?_) ?_<;>first|(constructor<;>(try simp only[A0A,lw,A0,A5,A3])<;>omega)|rintro _ _ _ ⟨rfl,rfl,rfl⟩ -)|(refine AC.call (jn5 rfl ?_ ?_ ?_ ?_ ?_) ?_<;>first|(constructor<;>(try simp only[A0A,lw,A0,A5,A3])<;>omega)|rintro _ _ _ ⟨rfl,rfl,rfl⟩ -)|fail)<;>try simp only[go_sem,seval,d2,d3,d4,d18])
   exact⟨_,by rw[hR];exact GL.refl _ _⟩
 rw[if_neg h8]at hR;have d8:=dk 8 (fun h=>h8 (.inl h));have d10:=dk 10 (fun h=>h8 (.inr h));by_cases h9:k=9
 ·subst h9;rw[if_pos rfl]at hR;repeat' ((first|(with_reducible first|refine wr ?_|refine cpc ha0 ?_|refine cpc ha1 ?_|refine cpc hna ?_)|(with_reducible refine wb2 ?_ ?_<;>(intro hb;try simp only[hb]))|(refine AC.call (wd1 rfl (by first|assumption|decide)) ?_<;>rintro _ _ _ ⟨rfl,rfl,rfl⟩ -)|(refine AC.call (jn2 rfl ?_ ?_) ?_<;>first|(constructor<;>(try simp only[A0A,lw,A0,A5,A3])<;>omega)|rintro _ _ _ ⟨rfl,rfl,rfl⟩ -)|(refine AC.call (jn3 rfl ?_ ?_ ?_) ?_<;>first|(constructor<;>(try simp only[A0A,lw,A0,A5,A3])<;>omega)|rintro _ _ _ ⟨rfl,rfl,rfl⟩ -)|(refine AC.call (jn4 rfl ?_ ?_ ?_ ?_) ?_<;>first|(constructor<;>(try simp only[A0A,lw,A0,A5,A3])<;>omega)|rintro _ _ _ ⟨rfl,rfl,rfl⟩ -)|(refine AC.call (jn5 rfl ?_ ?_ ?_ ?_ ?_) ?_<;>first|(constructor<;>(try simp only[A0A,lw,A0,A5,A3])<;>omega)|rintro _ _ _ ⟨rfl,rfl,rfl⟩ -)|fail)<;>try simp only[go_sem,seval,d2,d3,d4,d18,d8,d10])
  exact⟨_,by rw[hR];exact GL.refl _ _⟩
 rw[if_neg h9]at hR;have d9:=dk 9 h9;by_cases h19:k=19
 ·subst h19;rw[if_pos rfl]at hR;repeat' ((first|(with_reducible first|refine wr ?_)|(with_reducible refine wb2 ?_ ?_<;>(intro hb;try simp only[hb]))|(refine AC.call (wd1 rfl (by first|assumption|decide)) ?_<;>rintro _ _ _ ⟨rfl,rfl,rfl⟩ -)|(refine AC.call (jn2 rfl ?_ ?_) ?_<;>first|(constructor<;>(try simp only[A0A,lw,A0,A5,A3])<;>omega)|rintro _ _ _ ⟨rfl,rfl,rfl⟩ -)|(refine AC.call (jn3 rfl ?_ ?_ ?_) ?_<;>first|(constructor<;>(try simp only[A0A,lw,A0,A5,A3])<;>omega)|rintro _ _ _ ⟨rfl,rfl,rfl⟩ -)|(refine AC.call (jn4 rfl ?_ ?_ ?_ ?_) ?_<;>first|(constructor<;>(try simp only[A0A,lw,A0,A5,A3])<;>omega)|rintro _ _ _ ⟨rfl,rfl,rfl⟩ -)|(refine AC.call (jn5 rfl ?_ ?_ ?_ ?_ ?_) ?_<;>first|(constructor<;>(try simp only[A0A,lw,A0,A5,A3])<;>omega)|rintro _ _ _ ⟨rfl,rfl,rfl⟩ -)|fail)<;>try simp only[go_sem,seval,d2,d3,d4,d18,d8,d10,d9])
  exact⟨_,by rw[hR];exact GL.refl _ _⟩
 rw[if_neg h19]at hR;have d19:=dk 19 h19;repeat' ((first|(with_reducible first|refine wr ?_|refine cpc hna ?_)|(with_reducible refine wb2 ?_ ?_<;>(intro hb;try simp only[hb]))|(refine AC.call (wd1 rfl (by first|assumption|decide)) ?_<;>rintro _ _ _ ⟨rfl,rfl,rfl⟩ -)|(refine AC.call (jn2 rfl ?_ ?_) ?_<;>first|(constructor<;>(try simp only[A0A,lw,A0,A5,A3])<;>omega)|rintro _ _ _ ⟨rfl,rfl,rfl⟩ -)|(refine AC.call (jn3 rfl ?_ ?_ ?_) ?_<;>first|(constructor<;>(try simp only[A0A,lw,A0,A5,A3])<;>omega)|rintro _ _ _ ⟨rfl,rfl,rfl⟩ -)|(refine AC.call (jn4 rfl ?_ ?_ ?_ ?_) ?_<;>first|(constructor<;>(try simp only[A0A,lw,A0,A5,A3])<;>omega)|rintro _ _ _ ⟨rfl,rfl,rfl⟩ -)|(refine AC.call (jn5 rfl ?_ ?_ ?_ ?_ ?_) ?_<;>first|(constructor<;>(try simp only[A0A,lw,A0,A5,A3])<;>omega)|rintro _ _ _ ⟨rfl,rfl,rfl⟩ -)|fail)<;>try simp only[go_sem,seval,d2,d3,d4,d18,d8,d10,d9,d19])
 exact⟨_,by rw[hR];exact GL.refl _ _⟩
theorem c_wordsO(x:List UInt8)(hx:x.length<=1000000000)(H:Hp)(cc:Nat):AC Tryz.prog 138 [A1b [x]] H cc (fun v H' c' => ∃ id,cc<=id/\id<c'/\v=.slc id 0 1/\H'=H.upd id ⟨4,true,(A2 x).v.cells⟩):=by
 refine AC.bodyT A4 rfl (A0B rfl) fun hfr=>?_;have h1:=c_IsWordR x;have h2:=c_IsNameR x (by omega);repeat' (apply wr<;>try simp only[go_sem,seval])
 refine C1 (fun q:Option Nat=>[(0,A1b [x]),(3,todoV q 1),(4,I64 (if q=none then 0 else 1))]) (fun q=>optH H q ⟨4,true,(A2 x).v.cells⟩)
  (fun q c=>cc<=c/\(∀ i,q=some i->cc<=i/\i<c)) (fun q=>if q=none then 1 else 0) none
  (by simp[C6,tm,Tm.upd,todoV]) (Sub.refl _) ⟨A0G _,(fun i hi=>by cases hi)⟩ ?_
 rintro o c ⟨hc,ho⟩;cases o with
 |none =>
  have hd:decide ((0:Int)<1)=true:=by decide
  have hw:IntKind.i64.wrap (0+1)=1:=by decide
  have hw':IntKind.i64.wrap 1=1:=by decide
  have hr0:∀ i:Nat,H (c+i)=none:=fun i=>hfr _ (by omega);have ne0:=R3 c (c+1) (by omega);cases hw1:F9 x with
  |true =>
   repeat' ((with_reducible first|apply wr|refine cpc h1 ?_|fail)<;>try simp only[go_sem,seval,hw1,h_same,A1])
   refine E9 (A5l (by decide) (by decide) (by decide)) ?_;simp only[go_sem,seval];repeat' (apply wr<;>try simp only[go_sem,seval,hw'])
   refine⟨some (c+1+1),by simp[todoV],?_,inv ⟨by omega,(fun i hi=>by cases hi;omega)⟩,by simp⟩;intro j b hj;simp only[optH]at hj;by_cases e1:j=c+1+1
   ·subst e1;rw[h_same]at hj ⊢;rw[<- hj];unfold A2;simp only[hw1,if_true]
   ·rw[h_ne e1]at hj ⊢;have:j<cc:=Classical.byContradiction fun h=>by rw[hfr j (by omega)]at hj;cases hj
    rw[hnO,hnO];exact hj
  |false =>
   cases hn1:D0 x with
   |true =>
    repeat' ((with_reducible first|apply wr|refine cpc h1 ?_|refine cpc h2 ?_|fail)<;>try simp only[go_sem,seval,hw1,hn1,h_same,A1])
    refine E9 (A5l (by decide) (by decide) (by decide)) ?_;simp only[go_sem,seval];repeat' (apply wr<;>try simp only[go_sem,seval,hw'])
    refine⟨some (c+1+1),by simp[todoV],?_,inv ⟨by omega,(fun i hi=>by cases hi;omega)⟩,by simp⟩;intro j b hj;simp only[optH]at hj;by_cases e1:j=c+1+1
    ·subst e1;rw[h_same]at hj ⊢;rw[<- hj];unfold A2;simp only[hw1,hn1,if_true,if_false,A1J]
    ·rw[h_ne e1]at hj ⊢;have:j<cc:=Classical.byContradiction fun h=>by rw[hfr j (by omega)]at hj;cases hj
     rw[hnO,hnO];exact hj
   |false =>
    repeat' ((with_reducible first|apply wr|refine cpc h1 ?_|refine cpc h2 ?_|fail)<;>try simp only[go_sem,seval,hw1,hn1,h_same,A1])
    refine E9 (A5l (by decide) (by decide) (by decide)) ?_;simp only[go_sem,seval];repeat' (apply wr<;>try simp only[go_sem,seval,hw'])
    refine⟨some (c+1+1),by simp[todoV],?_,inv ⟨by omega,(fun i hi=>by cases hi;omega)⟩,by simp⟩;intro j b hj;simp only[optH]at hj;by_cases e1:j=c+1+1
    ·subst e1;rw[h_same]at hj ⊢;rw[<- hj];unfold A2;simp only[hw1,hn1,if_false,A1J]
    ·rw[h_ne e1]at hj ⊢;have:j<cc:=Classical.byContradiction fun h=>by rw[hfr j (by omega)]at hj;cases hj
     rw[hnO,hnO];exact hj
 |some i =>
  have hd:decide ((1:Int)<1)=false:=by decide
  repeat' (apply wr<;>try simp only[go_sem,seval])
  exact⟨_,_,GL.refl _ _,i,(ho i rfl).1,(ho i rfl).2,rfl,rfl⟩
theorem D5o{x:List UInt8}{id cc:Nat}{H:Hp}(hb:H id=some ⟨1,true,[.str x]⟩)(hx:x.length<=1000000000):
  AC Tryz.prog 138 [.slc id 0 1] H cc (fun v H' c' => ∃ i,cc<=i/\i<c'/\v=.slc i 0 1/\H'=(delO H (some id)).upd i ⟨4,true,(A2 x).v.cells⟩) :=
 AC.ghost (GL.frzS (id:=id) hb rfl (fun j=>by
  by_cases e:j=id
  ·subst e;exact .inl (by rw[P3,if_pos rfl])
  ·exact .inr ⟨e,by rw[P3,if_neg e]⟩) (.cons _ _ _ _ (P1 (xs:=[.str x]) rfl (L3 [x]) ⟨[],rfl⟩) .nil)) (c_wordsO x hx _ cc)
theorem A6c:∀ l:List Pb.St,L9 l=(l.map stT).flatten
 |[]=>rfl
 |e :: l=>by rw[L9,A6c l];rfl
theorem c_blockT(l:List Pb.St)(hl:l.length<=10000000)(hs:∀ x∈l,PC Tryz.prog 207 [x.v] (D3 (stT x)))(hx:∀ x∈l,1<=(stT x).length/\(stT x).length<=100000000)(hT:(blT l).length<=100000000):PC Tryz.prog 142 [H3 l] (D3 (blT l)):=by
 refine PC.ofT A4 rfl (A0B rfl) (by simp[DV.nlL,DV.nl,Y1]) (I7 _) ?_;obtain⟨R,hR⟩:∃ R,R=D3 (blT l):=⟨_,rfl⟩;rw[<- hR];unfold blT at hR;rw[A6c]at hR;have hT':(l.map stT).flatten.length<=100000000:=by
  unfold blT at hT;rw[A6c]at hT;simp only[A0A,A0H]at hT;omega
 repeat' (apply wr<;>try simp only[go_sem,seval])
 refine AC.call (D5o rfl (by decide)) ?_;rintro v H' c1 ⟨i,hi1,hi2,rfl,rfl⟩ -;simp only[go_sem,seval];repeat' (apply wr<;>try simp only[go_sem,seval])
 obtain⟨F,hF⟩:∃ F:Nat->List Tok, ∀ k,F k=wT [123]++((l.take k).map stT).flatten:=⟨_,fun _=>rfl⟩;have hF0:F 0=wT [123]:=by rw[hF];simp
 refine C1 (fun q:Nat × Nat=>[(0,H3 l),(3,.slc q.2 0 (F q.1).length),(4,I64 q.1)]) (fun q=>Sym.nil.upd q.2 ⟨4,true,cellsL ((F q.1).map Tok.v)⟩)
  (fun q c=>q.1<=l.length/\q.2<c) (fun q=>l.length-q.1) (0,i)
  (by simp[C6,tm,Tm.upd,hF0,lw]) (by dsimp only;rw[hF0];exact Sub.refl _) ⟨A0O _,hi2⟩ ?_
 clear hi1 hi2;rintro⟨k,i⟩ c ⟨hk,hi⟩;dsimp only at hk hi ⊢;by_cases hlt:k<l.length
 ·have hd:=dtz hlt;have hg:=A0C hlt;have hsx:=hs _ (A0Q hlt);obtain⟨hx1,hx2⟩:=hx _ (A0Q hlt);have hw:=w64 (n:=(k:Int)+1);have e0:F (k+1)=F k++stT l[k]:=by rw[hF,hF,A0S,hg,A0R,List.flatten_append];simp
  have hle:((l.take k).map stT).flatten.length<=100000000:=by
   have h1:(l.map stT).flatten=((l.take k).map stT).flatten++((l.drop k).map stT).flatten:=by rw[<- List.flatten_append, <- A0R,A2L]
   rw[h1,A0A]at hT';omega
  have hle2:(F k).length<=200000000:=by rw[hF,A0A,lw];omega
  rw[Pb.St.v_w]at hsx;generalize l[k]=x at hg hx1 hx2 e0 hsx;generalize F k=y at hle2 e0 ⊢;have hln:(cellsL (y.map Tok.v)).length=y.length * 4:=(B6 (u:=4) (D7 _)).trans (by simp);have hun:unit 4 ((stT x).map Tok.v)=true:=by unfold unit;rw[A0P];intro d hd;simp[D7 (stT x) d hd]
  repeat' ((with_reducible first|apply wr|refine cpc hsx ?_|fail)<;>try simp only[go_sem,seval,hd,hg,Pb.St.v_w,N2 hun])
  refine E9 (Y5 hln (by omega) (by omega)) ?_;simp only[go_sem,seval];repeat' (apply wr<;>try simp only[go_sem,seval,hw])
  refine⟨(k+1,c),by simp[e0],?_,inv ⟨by omega,by simp only;omega⟩,by simp only;omega⟩;dsimp only;rw[e0,A0R,B8];intro j b hj;by_cases e1:j=c
  ·subst e1;rw[h_same]at hj ⊢;exact hj
  ·rw[h_ne e1]at hj;cases hj
 ·have hd:=dfz hlt;rw[hF,A0I (by omega)];have hun:unit 4 ((wT [125]).map Tok.v)=true:=by unfold unit;rw[A0P];intro d hd;simp[D7 (wT [125]) d hd]
  have hle2:(wT [123]++(l.map stT).flatten).length<=200000000:=by rw[A0A,lw];omega
  have hR':R=D3 ((wT [123]++(l.map stT).flatten)++wT [125]):=hR;generalize wT [123]++(l.map stT).flatten=y at hle2 hR' ⊢;have hln:(cellsL (y.map Tok.v)).length=y.length * 4:=(B6 (u:=4) (D7 _)).trans (by simp);have hnic:¬ i=c:=by omega
  have hlw:=lw [125];repeat' (apply wr<;>try simp only[go_sem,seval,hd])
  refine AC.call (wd1 h_same (by decide)) ?_;rintro v H' c2 ⟨rfl,rfl,rfl⟩ -;simp only[go_sem,seval,hnic,N2 hun];repeat' (apply wr<;>try simp only[go_sem,seval,hnic,N2 hun])
  refine E9 (Y5 hln (by omega) (by omega)) ?_;simp only[go_sem,seval];repeat' (apply wr<;>try simp only[go_sem,seval])
  rw[hR'];exact K5 (id:=c+1) h_same rfl (by simp) (D7 _) ⟨[],by rw[A0R,B8,A1B]⟩
theorem c_stT:∀ m:Nat,m<=5000000->(∀ x:Pb.St,x.sz<m->PC Tryz.prog 207 [x.v] (D3 (stT x)))/\(∀ l:List Pb.St,Pb.St.szs l<m->PC Tryz.prog 142 [H3 l] (D3 (blT l))):=by
 intro m
 induction m with
 |zero=>exact fun _=>⟨fun x h=>by omega,fun l h=>by omega⟩
 |succ m ih =>
  intro hm;obtain⟨i1,i2⟩:=ih (by omega);have A:∀ x:Pb.St,x.sz<m+1->PC Tryz.prog 207 [x.v] (D3 (stT x)):=fun x hx =>
   c_stmtT m i1 i2 (fun l hl=>by have:=A5w l;omega) (fun y hy=>by have:=A5i y;omega) x (by omega) (by omega)
  refine⟨A,fun l hl=>?_⟩;have h1:=Pb.St.szs_len l;have h2:=A5w l;exact c_blockT l (by omega) (fun x hx=>A x (by have:=Pb.St.szs_mem hx;omega)) (fun x hx=>by have:=A5i x;have:=Pb.St.szs_mem hx;omega) (by omega)
theorem c_blkT(l:List Pb.St)(h:Pb.St.szs l<5000000):PC Tryz.prog 142 [H3 l] (D3 (blT l)):=(c_stT 5000000 (A0G _)).2 l h
theorem C3q{X H1:Hp}{o:Option Nat}{c n0:Nat}{b b3 b3':Blk}(hX:∀ j q,X j=some q->j<c)(ho:∀ i,o=some i->X i=none)(hH:∀ j,j<c->H1 j=optH X o b j)(hn:c<=n0)(hb:b3=b3'):
  Sym.Sub (optH X (some n0) b3) ((delO H1 o).upd n0 b3'):=by
 subst hb;intro j q hj;simp only[optH]at hj;by_cases e:j=n0
 ·subst e;rw[h_same]at hj ⊢;exact hj
 ·rw[h_ne e]at hj ⊢;have h1:=hX j q hj;have h2:∀ i,o=some i->¬ j=i:=fun i hi e2=>by rw[e2,ho i hi]at hj;cases hj
  rw[D1 h2,hH j h1,B7 h2];exact hj
theorem A7d{H:Hp}{i:Nat}(h:H i=none):delO H (some i)=H:=by
 funext j;rw[P3];split
 ·rename_i e;rw[e,h]
 ·rfl
theorem C0j{X:Hp}{o:Option Nat}{xs:List DV}{u n:Nat}(hno:o=none->xs=[])(hl:xs.length=n)(hu:∀ x∈xs,x.cells.length=u):
  ∃ H2,GL (optH X o ⟨u,true,cellsL xs⟩) [todoV o n] H2 [.lst xs]:=by
 cases o with
 |none=>rw[hno rfl];exact B5p
 |some i=>exact K5 (id:=i) h_same rfl hl hu ⟨[],by simp⟩
def wT2(x y:List UInt8):List Tok:=[A2 x,A2 y]
theorem D5n{x y:List UInt8}{id cc:Nat}{H:Hp}(hb:H id=some ⟨1,true,[.str x,.str y]⟩)(hx:x.length<=1000000000)(hy:y.length<=1000000000):
  AC Tryz.prog 138 [.slc id 0 2] H cc (fun v H' c'=>v=D3 (wT2 x y)/\H'=delO H (some id)/\c'=cc):=wd2 hb hx hy
theorem B0d{X:Hp}{i j:Nat}(h:¬ j=i):(X.del i) j=X j:=by rw[show X.del i=delO X (some i) from rfl,P3,if_neg h]
theorem A2c(l:List Tok):unit 4 (l.map Tok.v)=true:=by unfold unit;rw[A0P];intro d hd;simp[D7 l d hd]
theorem M7(l:List Tok):(cellsL (l.map Tok.v)).length=l.length * 4:=(B6 (u:=4) (D7 _)).trans (by simp)
theorem c_declT(d:Dc)(hn:d.name.length<=1000000000):PC Tryz.prog 136 [d.v] (D3 (dcT d)):=by
 refine PC.ofT A4 rfl (A0B rfl) rfl (I7 _) ?_;obtain⟨R,hR⟩:∃ R,R=D3 (dcT d):=⟨_,rfl⟩;rw[<- hR];obtain⟨k,n,v,p⟩:=d;unfold dcT at hR;dsimp only at hR hn ⊢;have hna:=c_named n hn;have hnu:=c_number31 v;have hnn:=c_number31 (-v);by_cases hbk:k<1\/8<k
 ·rw[if_pos hbk]at hR;by_cases h2:k<1
  ·have d2:decide (k<1)=true:=by simpa using h2
   repeat' (apply wr<;>try simp only[go_sem,seval,d2])
   rw[hR];exact K5 (id:=1) h_same rfl rfl (D7 [S8]) ⟨[],rfl⟩
  ·have d2:decide (k<1)=false:=by simp;omega
   have d3:decide (k>8)=true:=by simp;omega
   repeat' (apply wr<;>try simp only[go_sem,seval,d2,d3])
   rw[hR];exact K5 (id:=1) h_same rfl rfl (D7 [S8]) ⟨[],rfl⟩
 rw[if_neg hbk]at hR;have e2:decide (k<1)=false:=by simp;omega
 have e3:decide (k>8)=false:=by simp;omega
 try dsimp only at hR
 obtain⟨j,hj⟩:∃ j:Nat,k=1+(j:Int):=⟨(k-1).toNat,by omega⟩;have hjw:IntKind.i64.wrap (k-1)=(j:Int):=by rw[w6z (by omega)];omega
 have hjn:(k-1).toNat=j:=by omega
 rw[hjn]at hR;have hj8:j<8:=by omega
 have hgj:D6[j]? = some (D6.getD j []):=by
  rw[A0Y,A0C (show j<D6.length from hj8)];rfl
 have hsl:(D6.getD j []).length<=1000000000:=by
  have:∀ i:Nat,i<8->(D6.getD i []).length<=1000000000:=by decide
  exact this j hj8
 generalize D6.getD j []=S at hR hgj hsl;by_cases h6:6<k
 ·have d6:decide (k>6)=true:=by simpa using h6
  rw[if_pos h6]at hR;repeat' ((first|(with_reducible first|refine wr ?_|refine cpc c_decls31 ?_|refine cpc hna ?_)|(with_reducible refine wb2 ?_ ?_<;>(intro hb;try simp only[hb]))|(refine AC.call (wd1 rfl (by first|assumption|decide)) ?_<;>rintro _ _ _ ⟨rfl,rfl,rfl⟩ -)|(refine AC.call (jn2 rfl ?_ ?_) ?_<;>first|(constructor<;>(try simp only[A0A,lw,A0,A5,A3])<;>omega)|rintro _ _ _ ⟨rfl,rfl,rfl⟩ -)|(refine AC.call (jn3 rfl ?_ ?_ ?_) ?_<;>first|(constructor<;>(try simp only[A0A,lw,A0,A5,A3])<;>omega)|rintro _ _ _ ⟨rfl,rfl,rfl⟩ -)|fail)<;>try simp only[go_sem,seval,e2,e3,hjw,hgj,d6])
  exact⟨_,by rw[hR];exact GL.refl _ _⟩
 rw[if_neg h6]at hR;have d6:decide (k>6)=false:=by simp;omega
 by_cases hm:v<0 /\ -2147483647<=v/\k=6
 ·obtain⟨m1,m2,hk6⟩:=hm;have x3:(k == 6)=true:=by simpa using hk6
  have x1:decide (v<0)=true:=by simpa using m1
  have x2:decide (v ≥ -2147483647)=true:=by simpa using m2
  have hng:IntKind.i64.wrap (0-v) = -v:=by rw[w6z (by omega)];omega
  rw[if_pos ⟨m1,m2,hk6⟩]at hR;repeat' ((first|(with_reducible first|refine wr ?_|refine cpc c_decls31 ?_|refine cpc hna ?_|refine cpc hnn ?_)|(with_reducible refine wb2 ?_ ?_<;>(intro hb;try simp only[hb]))|(refine AC.call (wd1 rfl (by first|assumption|decide)) ?_<;>rintro _ _ _ ⟨rfl,rfl,rfl⟩ -)|(refine AC.call (jn2 rfl ?_ ?_) ?_<;>first|(constructor<;>(try simp only[A0A,lw,A0,A5,A3])<;>omega)|rintro _ _ _ ⟨rfl,rfl,rfl⟩ -)|(refine AC.call (jn3 rfl ?_ ?_ ?_) ?_<;>first|(constructor<;>(try simp only[A0A,lw,A0,A5,A3])<;>omega)|rintro _ _ _ ⟨rfl,rfl,rfl⟩ -)|fail)<;>try simp only[go_sem,seval,e2,e3,hjw,hgj,d6,x1,x2,x3,hng])
  exact⟨_,by rw[hR];exact GL.refl _ _⟩
 rw[if_neg hm]at hR;by_cases m1:v<0
 ·have x1:decide (v<0)=true:=by simpa using m1
  by_cases m2 : -2147483647<=v
  ·have x2:decide (v ≥ -2147483647)=true:=by simpa using m2
   have x3:(k == 6)=false:=by simp;omega
   repeat' ((first|(with_reducible first|refine wr ?_|refine cpc c_decls31 ?_|refine cpc hna ?_|refine cpc hnu ?_)|(with_reducible refine wb2 ?_ ?_<;>(intro hb;try simp only[hb]))|(refine AC.call (wd1 rfl (by first|assumption|decide)) ?_<;>rintro _ _ _ ⟨rfl,rfl,rfl⟩ -)|(refine AC.call (jn2 rfl ?_ ?_) ?_<;>first|(constructor<;>(try simp only[A0A,lw,A0,A5,A3])<;>omega)|rintro _ _ _ ⟨rfl,rfl,rfl⟩ -)|(refine AC.call (jn3 rfl ?_ ?_ ?_) ?_<;>first|(constructor<;>(try simp only[A0A,lw,A0,A5,A3])<;>omega)|rintro _ _ _ ⟨rfl,rfl,rfl⟩ -)|fail)<;>try simp only[go_sem,seval,e2,e3,hjw,hgj,d6,x1,x2,x3])
   exact⟨_,by rw[hR];exact GL.refl _ _⟩
  ·have x2:decide (v ≥ -2147483647)=false:=by simp;omega
   repeat' ((first|(with_reducible first|refine wr ?_|refine cpc c_decls31 ?_|refine cpc hna ?_|refine cpc hnu ?_)|(with_reducible refine wb2 ?_ ?_<;>(intro hb;try simp only[hb]))|(refine AC.call (wd1 rfl (by first|assumption|decide)) ?_<;>rintro _ _ _ ⟨rfl,rfl,rfl⟩ -)|(refine AC.call (jn2 rfl ?_ ?_) ?_<;>first|(constructor<;>(try simp only[A0A,lw,A0,A5,A3])<;>omega)|rintro _ _ _ ⟨rfl,rfl,rfl⟩ -)|(refine AC.call (jn3 rfl ?_ ?_ ?_) ?_<;>first|(constructor<;>(try simp only[A0A,lw,A0,A5,A3])<;>omega)|rintro _ _ _ ⟨rfl,rfl,rfl⟩ -)|fail)<;>try simp only[go_sem,seval,e2,e3,hjw,hgj,d6,x1,x2])
   exact⟨_,by rw[hR];exact GL.refl _ _⟩
 ·have x1:decide (v<0)=false:=by simp;omega
  repeat' ((first|(with_reducible first|refine wr ?_|refine cpc c_decls31 ?_|refine cpc hna ?_|refine cpc hnu ?_)|(with_reducible refine wb2 ?_ ?_<;>(intro hb;try simp only[hb]))|(refine AC.call (wd1 rfl (by first|assumption|decide)) ?_<;>rintro _ _ _ ⟨rfl,rfl,rfl⟩ -)|(refine AC.call (jn2 rfl ?_ ?_) ?_<;>first|(constructor<;>(try simp only[A0A,lw,A0,A5,A3])<;>omega)|rintro _ _ _ ⟨rfl,rfl,rfl⟩ -)|(refine AC.call (jn3 rfl ?_ ?_ ?_) ?_<;>first|(constructor<;>(try simp only[A0A,lw,A0,A5,A3])<;>omega)|rintro _ _ _ ⟨rfl,rfl,rfl⟩ -)|fail)<;>try simp only[go_sem,seval,e2,e3,hjw,hgj,d6,x1])
  exact⟨_,by rw[hR];exact GL.refl _ _⟩
theorem c_rulesT(r:Ru)(hB:r.sz<4000000)(hT:(r.decls.flatMap dcT++r.modes.flatMap mdT).length<=100000000):PC Tryz.prog 70 [r.v] (D3 (ruT r)):=by
 refine PC.ofT A4 rfl (A0B rfl) (by simp[DV.nlL,DV.nl,J6,J5]) (I7 _) ?_;obtain⟨R,hR⟩:∃ R,R=D3 (ruT r):=⟨_,rfl⟩;rw[<- hR];obtain⟨D,M⟩:=r;dsimp only at hT;unfold ruT at hR;dsimp only[Ru.v]at hR ⊢;have hDs:(D.map Dc.sz).sum+(M.map Md.sz).sum<4000000:=hB;have hDl:D.length<=(D.map Dc.sz).sum:=G3 fun x _=>by show 1<=1+_;omega
 have hMl:M.length<=(M.map Md.sz).sum:=G3 fun x _=>by show 1<=1+_+_;omega
 repeat' (apply wr<;>try simp only[go_sem,seval])
 obtain⟨F,hF⟩:∃ F:Nat->List Tok, ∀ k,F k=(D.take k).flatMap dcT:=⟨_,fun _=>rfl⟩;have hF0:F 0=[]:=by rw[hF];rfl
 have hFl:∀ k,(F k).length<=100000000:=fun k=>by
  have h1:D.flatMap dcT=F k++(D.drop k).flatMap dcT:=by rw[hF, <- A2R,A2L]
  rw[h1]at hT;simp only[A0A]at hT;omega
 refine C1 (fun q:Nat × Option Nat=>[(1,.ptr 0 0),(3,todoV q.2 (F q.1).length),(4,I64 q.1)]) (fun q=>optH (Sym.nil.upd 0 ⟨0,true,[C5 D,E4 M]⟩) q.2 ⟨4,true,cellsL ((F q.1).map Tok.v)⟩)
  (fun q c=>1<=c/\q.1<=D.length/\(q.2=none->F q.1=[])/\(∀ i,q.2=some i->1<=i/\i<c)) (fun q=>D.length-q.1) (0,none)
  (by simp[C6,tm,Tm.upd,todoV]) (Sub.refl _) ⟨by omega,A0O _,fun _=>hF0,(fun i hi=>by cases hi)⟩ ?_
 rintro⟨k,o⟩ c ⟨hc,hk,hno,ho⟩;dsimp only at hc hk hno ho ⊢;have hbx:optH (Sym.nil.upd 0 ⟨0,true,[C5 D,E4 M]⟩) o ⟨4,true,cellsL ((F k).map Tok.v)⟩ 0=some ⟨0,true,[C5 D,E4 M]⟩:=by rw[B7 (fun i hi=>by have:=ho i hi;omega),h_same]
 by_cases hlt:k<D.length
 ·have hd:=dtz hlt;have hg:=A0C hlt;have hsz:=I5 (f:=Dc.sz) (A0Q hlt);have hdt:=c_declT D[k] (by have h5:D[k].name.length<Dc.sz D[k]:=(by unfold Dc.sz;omega);omega);have hdl:=B6m D[k];have hw:=w64 (n:=(k:Int)+1);have e0:F (k+1)=F k++dcT D[k]:=by rw[hF,hF,A0S,hg,A2R];simp
  have hFk:=hFl k;generalize D[k]=x at hg hdt hdl e0;have hun:unit 4 ((dcT x).map Tok.v)=true:=by unfold unit;rw[A0P];intro d hd;simp[D7 (dcT x) d hd]
  have hln:(cellsL ((F k).map Tok.v)).length=(F k).length * 4:=(B6 (u:=4) (D7 _)).trans (by simp);repeat' ((with_reducible first|apply wr|refine cpc hdt ?_|fail)<;>try simp only[go_sem,seval,hd,hg,hbx,N2 hun])
  refine E9 (D8 (cs:=cellsL ((F k).map Tok.v)) (fun e=>by rw[hno e];exact⟨rfl,rfl⟩) (fun i hi=>Z8 hi) hln (by omega) (by omega) (by omega)) ?_;simp only[go_sem,seval];repeat' (apply wr<;>try simp only[go_sem,seval,hw])
  refine⟨(k+1,some c),by simp[todoV,e0],?_,inv ⟨by omega,by omega,(fun h=>by cases h),(fun i hi=>by cases hi;omega)⟩,by simp only;omega⟩;dsimp only;refine C3q (n0:=c) (c:=c) (fun j q hq=>?_) (fun i hi=>?_) (fun j hj=>rfl) (A0G _) (by rw[e0,A0R,B8])
  ·by_cases e:j=0
   ·omega
   ·rw[h_ne e]at hq;cases hq
  ·have:=ho i hi;rw[hnO];rfl
 ·have hd:=dfz hlt;repeat' (apply wr<;>try simp only[go_sem,seval,hd,hbx])
  have hFD:F k=D.flatMap dcT:=by rw[hF,A0I (by omega)]
  have hc0:=hc;obtain⟨G,hG⟩:∃ G:Nat->List Tok, ∀ k,G k=D.flatMap dcT++(M.take k).flatMap mdT:=⟨_,fun _=>rfl⟩;have hG0:G 0=F k:=by rw[hG,hFD];simp
  have hGl:∀ k,(G k).length<=100000000:=fun k=>by
   have h1:M.flatMap mdT=(M.take k).flatMap mdT++(M.drop k).flatMap mdT:=by rw[<- A2R,A2L]
   rw[h1]at hT;rw[hG];simp only[A0A]at hT ⊢;omega
  refine C1 (fun q:Nat × Option Nat=>[(1,.ptr 0 0),(3,todoV q.2 (G q.1).length),(5,I64 q.1)]) (fun q=>optH (Sym.nil.upd 0 ⟨0,true,[C5 D,E4 M]⟩) q.2 ⟨4,true,cellsL ((G q.1).map Tok.v)⟩)
   (fun q c=>1<=c/\q.1<=M.length/\(q.2=none->G q.1=[])/\(∀ i,q.2=some i->1<=i/\i<c)/\((M.take q.1).any fun m=>m.hds.any Q7)=false) (fun q=>M.length-q.1) (0,o)
   (by simp[C6,tm,Tm.upd,hG0]) (by dsimp only;rw[hG0];exact Sub.refl _) ⟨hc,A0O _,(by dsimp only;rw[hG0];exact hno),ho,rfl⟩ ?_
  clear hbx hno ho hG0 hFD hFl hF0 hF hc hc0 hlt hd hk;rintro⟨k,o⟩ c ⟨hc,hk,hno,ho,hbad⟩;dsimp only at hc hk hno ho hbad ⊢;have hbx:optH (Sym.nil.upd 0 ⟨0,true,[C5 D,E4 M]⟩) o ⟨4,true,cellsL ((G k).map Tok.v)⟩ 0=some ⟨0,true,[C5 D,E4 M]⟩:=by rw[B7 (fun i hi=>by have:=ho i hi;omega),h_same]
  by_cases hlt:k<M.length
  ·have hd:=dtz hlt;have hg:=A0C hlt;have hsz:=I5 (f:=Md.sz) (A0Q hlt);have hw:=w64 (n:=(k:Int)+1);have e0:G (k+1)=G k++mdT M[k]:=by rw[hG,hG,A0S,hg,A2R];simp
   have b0:((M.take (k+1)).any fun m=>m.hds.any Q7)=(M[k].hds.any Q7):=by rw[A0S,hg,List.any_append,hbad];simp
   have b1:(M[k].hds.any Q7)=true->R=D3 [S8]:=fun h=>by rw[hR,if_pos (List.any_eq_true.2 ⟨_,A0Q hlt,h⟩)]
   have hGk:=hGl k;have hGk1:=hGl (k+1);generalize M[k]=m at hg hsz e0 b0 b1;have hln:(cellsL ((G k).map Tok.v)).length=(G k).length * 4:=(B6 (u:=4) (D7 _)).trans (by simp);have hnl:m.name.length<=1000000000:=by
    have h5:m.name.length<Md.sz m:=by unfold Md.sz;omega
    omega
   have hna:=c_named m.name hnl;have hnu:=c_number31 m.prio;have hbo:∀ i:Nat,o=some i->optH (Sym.nil.upd 0 ⟨0,true,[C5 D,E4 M]⟩) o ⟨4,true,cellsL ((G k).map Tok.v)⟩ i=some ⟨4,true,cellsL ((G k).map Tok.v)⟩:=fun i hi=>by subst hi;exact h_same
   have hbn:∀ j:Nat,c<=j->optH (Sym.nil.upd 0 ⟨0,true,[C5 D,E4 M]⟩) o ⟨4,true,cellsL ((G k).map Tok.v)⟩ j=none:=fun j hj=>by rw[B7 (fun i hi=>by have:=ho i hi;omega),hnO];rfl
   generalize hHH:optH (Sym.nil.upd 0 ⟨0,true,[C5 D,E4 M]⟩) o ⟨4,true,cellsL ((G k).map Tok.v)⟩=HH at hbx hbo hbn ⊢;have ne0:=A1p 0 c (c+1+1) (c+1+9) (c+1+11) (by omega);have hd1:delO HH (some (c+1+1))=HH:=A7d (hbn _ (by omega));have hd2:delO HH (some (c+1+9))=HH:=A7d (hbn _ (by omega));have hd3:delO HH (some (c+1+11))=HH:=A7d (hbn _ (by omega));repeat' (apply wr<;>try simp only[go_sem,seval,hd,hg,hbx,ne0,h_same,A1])
   refine AC.call (wd1 (x:=[109,111,100,101]) (by simp[K7,Hp.upd]) (by decide)) ?_;rintro v H' c2 ⟨rfl,rfl,rfl⟩ -;simp only[go_sem,seval,ne0,h_same,hd1];repeat' (apply wr<;>try simp only[go_sem,seval,ne0,h_same,A1,hd1,hd2,hd3])
   refine⟨by and_intros<;>(repeat rw[hnO])<;>exact hbn _ (by omega),?_⟩;repeat' ((with_reducible first|apply wr|refine cpc hna ?_|fail)<;>try simp only[go_sem,seval,ne0,h_same])
   refine⟨by and_intros<;>(repeat rw[hnO])<;>exact hbn _ (by omega),?_⟩;repeat' ((with_reducible first|apply wr|refine cpc hnu ?_|fail)<;>try simp only[go_sem,seval,h_same])
   refine⟨by and_intros<;>(repeat rw[hnO])<;>exact hbn _ (by omega),?_⟩;repeat' (apply wr<;>try simp only[go_sem,seval,ne0,h_same,A1,hd1,hd2,hd3])
   refine AC.call (wd1 (x:=[123]) (by simp[Hp.upd]) (by decide)) ?_;rintro v H' c2 ⟨rfl,rfl,rfl⟩ -;simp only[go_sem,seval,ne0,hd2];refine⟨by and_intros<;>(repeat rw[hnO])<;>exact hbn _ (by omega),?_⟩;repeat' (apply wr<;>try simp only[go_sem,seval,ne0,h_same,A1,hd1,hd2,hd3])
   refine AC.call (jn4 h_same (by constructor<;>(try simp only[A0A,lw,A0,A5,A3])<;>omega) (by constructor<;>(try simp only[A0A,lw,A0,A5,A3])<;>omega) (by constructor<;>(try simp only[A0A,lw,A0,A5,A3])<;>omega) (by constructor<;>(try simp only[A0A,lw,A0,A5,A3])<;>omega)) ?_;rintro v H' c2 ⟨rfl,rfl,rfl⟩ -;have hun4:unit 4 ((wT [109,111,100,101]++C4 m.name++Q2 m.prio++wT [123]).map Tok.v)=true:=by unfold unit;rw[A0P];intro d hd;simp[D7 _ d hd]
   have hl4:(wT [109,111,100,101]++C4 m.name++Q2 m.prio++wT [123]).length=4:=by simp only[A0A,lw,A0,A5]
   have hsrc:A1c (HH.upd c ⟨0,true,[.str m.name,I64 m.prio,A0z m.hds,I64 m.pos]⟩) 4 (D3 (wT [109,111,100,101]++C4 m.name++Q2 m.prio++wT [123]))=some (4,cellsL ((wT [109,111,100,101]++C4 m.name++Q2 m.prio++wT [123]).map Tok.v)):=by
    rw[N2 hun4,A0F,hl4]
   obtain⟨Q,hQ⟩:∃ Q,Q=wT [109,111,100,101]++C4 m.name++Q2 m.prio++wT [123]:=⟨_,rfl⟩;rw[<- hQ]at hsrc ⊢;simp only[go_sem,seval,ne0,hd3,hsrc];repeat' (apply wr<;>try simp only[go_sem,seval,ne0,h_same,A1,hd1,hd2,hd3,hsrc])
   refine⟨by rw[hnO];exact hbn _ (by omega),?_⟩;rw[D8 (cs:=cellsL ((G k).map Tok.v)) (fun e=>by rw[hno e];exact⟨rfl,rfl⟩) (fun i hi=>by have:=ho i hi;rw[hnO];exact hbo i hi) hln (by omega) (by omega) (by omega)];simp only[go_sem,seval];repeat' (apply wr<;>try simp only[go_sem,seval])
   have hQl:Q.length=4:=by rw[hQ];exact hl4
   obtain⟨K,hK⟩:∃ K:Nat->List Tok, ∀ j,K j=G k++Q++(m.hds.take j).flatMap hdT:=⟨_,fun _=>rfl⟩;have hK0:K 0=G k++Q:=by rw[hK];simp
   have hKl:∀ j,(K j).length<=100000000:=fun j=>by
    have h1:m.hds.flatMap hdT=(m.hds.take j).flatMap hdT++(m.hds.drop j).flatMap hdT:=by rw[<- A2R,A2L]
    have h2:mdT m=Q++m.hds.flatMap hdT++wT [125]:=by rw[hQ];rfl
    rw[e0,h2,h1]at hGk1;rw[hK];simp only[A0A]at hGk1 ⊢;omega
   have hKe:K m.hds.length++wT [125]=G (k+1):=by
    have h2:mdT m=Q++m.hds.flatMap hdT++wT [125]:=by rw[hQ];rfl
    rw[hK,e0,h2,A2D];simp only[A0T]
   have hhl:m.hds.length<=4000000:=by
    have h5:m.hds.length<=(m.hds.map Hd.sz).sum:=G3 fun x _=>by show 1<=1+_+_;omega
    have h6:(m.hds.map Hd.sz).sum<Md.sz m:=by unfold Md.sz;omega
    omega
   refine C1 (fun q:Nat × Nat=>[(1,.ptr 0 0),(3,.slc q.2 0 (K q.1).length),(5,I64 k),(6,.ptr c 0),(7,I64 q.1)]) (fun q=>((Sym.nil.upd 0 ⟨0,true,[C5 D,E4 M]⟩).upd c ⟨0,true,[.str m.name,I64 m.prio,A0z m.hds,I64 m.pos]⟩).upd q.2 ⟨4,true,cellsL ((K q.1).map Tok.v)⟩)
    (fun q n=>c<q.2/\q.2<n/\q.1<=m.hds.length/\((m.hds.take q.1).any Q7)=false) (fun q=>m.hds.length-q.1) (0,c+1+15)
    (by simp[C6,tm,Tm.upd,hK0,hQl]) ?_ ⟨by simp only;omega,by simp only;omega,A0O _,rfl⟩ ?_
   ·dsimp only;rw[hK0,A0R,B8];intro j b hj;by_cases e1:j=c+1+15
    ·subst e1;rw[h_same]at hj ⊢;exact hj
    rw[h_ne e1]at hj ⊢;rw[D1 (fun i hi=>by
     have h1:=ho i hi;intro e;subst e;rw[hnO,hnO]at hj;cases hj)]
    by_cases e2:j=c
    ·subst e2;rw[h_same]at hj ⊢;exact hj
    rw[h_ne e2]at hj ⊢;by_cases e3:j=0
    ·subst e3;rw[h_same]at hj;rw[hbx];exact hj
    ·rw[h_ne e3]at hj;cases hj
   clear hbo hbn hd1 hd2 hd3 hsrc hl4 hun4 hHH hbx hno ho;rintro⟨j,i⟩ n ⟨hi1,hi2,hj,hbj⟩;dsimp only at hi1 hi2 hj hbj ⊢;by_cases hjl:j<m.hds.length
   ·have hdj:decide ((j:Int)<(m.hds.length:Int))=true:=by simpa using hjl
    have hgj:=A0C hjl;have hwj:=w64 (n:=(j:Int)+1);have k0:K (j+1)=K j++hdT m.hds[j]:=by rw[hK,hK,A0S,hgj,A2R];simp
    have c0:((m.hds.take (j+1)).any Q7)=Q7 m.hds[j]:=by rw[A0S,hgj,List.any_append,hbj];simp
    have c1:Q7 m.hds[j]=true->R=D3 [S8]:=fun h=>b1 (List.any_eq_true.2 ⟨_,A0Q hjl,h⟩);have hszj:=I5 (f:=Hd.sz) (A0Q hjl);have h6:(m.hds.map Hd.sz).sum<Md.sz m:=by unfold Md.sz;omega
    have hKj:=hKl j;have hKj1:=hKl (j+1);generalize m.hds[j]=h at hgj k0 c0 c1 hszj;have ne0:=W7 0 c i n (by omega);have hb9:Q7 h=true->∃ H2,GL (((((Sym.nil.upd 0 ⟨0,true,[C5 D,E4 M]⟩).upd c ⟨0,true,[.str m.name,I64 m.prio,A0z m.hds,I64 m.pos]⟩).upd i ⟨4,true,cellsL ((K j).map Tok.v)⟩).upd n ⟨0,true,[I64 h.trig,.str h.name,H3 h.body,I64 h.pos]⟩).upd (n+1) ⟨4,true,[I64 0,.str [],I64 0,I64 0]⟩) [.slc (n+1) 0 1] H2 [R]:=fun hb=>by
     rw[c1 hb];exact K5 h_same rfl rfl (D7 [S8]) ⟨[],rfl⟩
    by_cases t1:h.trig<1
    ·have x1:decide (h.trig<1)=true:=by simpa using t1
     repeat' (apply wr<;>try simp only[go_sem,seval,hdj,hgj,x1,ne0,h_same,A1])
     exact hb9 (by unfold Q7;rw[x1];rfl)
    have x1:decide (h.trig<1)=false:=by simpa using t1
    by_cases t2:6<h.trig
    ·have x2:decide (h.trig>6)=true:=by simpa using t2
     have x2':decide (6<h.trig)=true:=by simpa using t2
     repeat' (apply wr<;>try simp only[go_sem,seval,hdj,hgj,x1,x2,ne0,h_same,A1])
     exact hb9 (by unfold Q7;rw[x2',Bool.or_true])
    have x2:decide (h.trig>6)=false:=by simpa using t2
    have x2':decide (6<h.trig)=false:=by simpa using t2
    have c2:Q7 h=false:=by unfold Q7;rw[x1,x2'];rfl
    clear hb9 c1;obtain⟨y,hy⟩:∃ y:Nat,h.trig=1+(y:Int):=⟨(h.trig-1).toNat,by omega⟩;have hyw:IntKind.i64.wrap (h.trig-1)=(y:Int):=by rw[w6z (by omega)];omega
    have hyn:(h.trig-1).toNat=y:=by omega
    have hy6:y<6:=by omega
    have hgy:E3[y]? = some (E3.getD y []):=by
     rw[A0Y,A0C (show y<E3.length from hy6)];rfl
    have hsl:(E3.getD y []).length<=1000000000:=by
     have:∀ i:Nat,i<6->(E3.getD i []).length<=1000000000:=by decide
     exact this y hy6
    have hTT:hdT h=wT2 [111,110] (E3.getD y [])++(if 2<h.trig then C4 h.name else [])++blT h.body:=by unfold hdT;rw[hyn];rfl
    generalize E3.getD y []=S at hgy hsl hTT;have hnh:=c_named h.name (by have h5:h.name.length<Hd.sz h:=(by unfold Hd.sz;omega);omega);have hbb:=c_blkT h.body (by have h5:Pb.St.szs h.body<Hd.sz h:=(by unfold Hd.sz;omega);omega);obtain⟨bl1, -⟩:=A5w h.body;rw[k0,hTT]at hKj1;simp only[A0A]at hKj1;have hbn:∀ j':Nat,n<=j'->(((Sym.nil.upd 0 ⟨0,true,[C5 D,E4 M]⟩).upd c ⟨0,true,[.str m.name,I64 m.prio,A0z m.hds,I64 m.pos]⟩).upd i ⟨4,true,cellsL ((K j).map Tok.v)⟩) j'=none:=fun j' h'=>by rw[hnO,hnO,hnO];rfl
    have ne0:=A1p 0 c i n (n+1+7) (by omega);repeat' ((with_reducible first|apply wr|refine cpc c_trigs31 ?_|fail)<;>try simp only[go_sem,seval,hdj,hgj,x1,x2,hyw,hgy,ne0,h_same,A1])
    refine⟨by and_intros<;>(repeat rw[hnO])<;>rfl,?_⟩;refine AC.call (D5n h_same (by decide) hsl) ?_;rintro v H' c3 ⟨rfl,rfl,rfl⟩ -;have hw2:(wT2 [111,110] S).length=2:=rfl;have hun:=A2c (wT2 [111,110] S);have hunB:=A2c (blT h.body);have hunN:=A2c (C4 h.name);have hnl1:=A0 h.name;have hlnK:=M7 (K j);simp only[go_sem,seval,ne0,h_same,N2 hun];repeat' (apply wr<;>try simp only[go_sem,seval,ne0,h_same,A1,N2 hun])
    refine⟨by and_intros<;>(repeat rw[hnO])<;>rfl,?_⟩;rw[Y5 hlnK (by omega) (by omega)];have ne0:=A1p 0 c i n (n+1+11) (by omega);simp only[go_sem,seval];by_cases t3:2<h.trig
    ·have x3:decide (h.trig>2)=true:=by simpa using t3
     rw[if_pos t3]at hTT hKj1;try simp only[A0A]at hKj1
     repeat' ((with_reducible first|apply wr|refine cpc hnh ?_|fail)<;>try simp only[go_sem,seval,ne0,h_same,x3,N2 hunN])
     refine E9 (Y5 (by rw[A0A,M7,M7];omega) (by omega) (by omega)) ?_;have ne0:=A4t 0 c i n (n+1+11) (n+1+11+1) (by omega);simp only[go_sem,seval];repeat' ((with_reducible first|apply wr|refine cpc hbb ?_|fail)<;>try simp only[go_sem,seval,ne0,h_same,N2 hunB])
     refine E9 (Y5 (by rw[A0A,A0A,M7,M7,M7];omega) (by omega) (by omega)) ?_;simp only[go_sem,seval];repeat' (apply wr<;>try simp only[go_sem,seval,hwj])
     refine⟨(j+1,n+1+11+1+1),by simp[k0,hTT,A2Q],?_,inv ⟨by simp only;omega,by simp only;omega,by simp only;omega,by rw[c0];exact c2⟩,by simp only;omega⟩;dsimp only;intro j' b' hj';by_cases e1:j'=n+1+11+1+1
     ·subst e1;rw[h_same]at hj' ⊢;rw[<- hj',k0,hTT];simp only[A0R,B8,A0T];try rfl
     rw[h_ne e1]at hj' ⊢;by_cases e2:j'=c
     ·subst e2;rw[h_same]at hj'
      repeat (first|rw[h_same]|rw[hnO]|rw[B0d (by omega)])
      exact hj'
     rw[h_ne e2]at hj';by_cases e3:j'=0
     ·subst e3;rw[h_same]at hj'
      repeat (first|rw[h_same]|rw[hnO]|rw[B0d (by omega)])
      exact hj'
     ·rw[h_ne e3]at hj';cases hj'
    ·have x3:decide (h.trig>2)=false:=by simpa using t3
     rw[if_neg t3]at hTT hKj1;try simp only[List.length_nil]at hKj1
     repeat' ((with_reducible first|apply wr|refine cpc hbb ?_|fail)<;>try simp only[go_sem,seval,ne0,h_same,x3,N2 hunB])
     refine E9 (Y5 (by rw[A0A,M7,M7];omega) (by omega) (by omega)) ?_;have ne0:=A4t 0 c i n (n+1+11) (n+1+11+1) (by omega);simp only[go_sem,seval];repeat' (apply wr<;>try simp only[go_sem,seval,hwj])
     refine⟨(j+1,n+1+11+1),by simp[k0,hTT,A2Q],?_,inv ⟨by simp only;omega,by simp only;omega,by simp only;omega,by rw[c0];exact c2⟩,by simp only;omega⟩;dsimp only;intro j' b' hj';by_cases e1:j'=n+1+11+1
     ·subst e1;rw[h_same]at hj' ⊢;rw[<- hj',k0,hTT];simp only[A0R,B8,A0T,List.nil_append];try rfl
     rw[h_ne e1]at hj' ⊢;by_cases e2:j'=c
     ·subst e2;rw[h_same]at hj'
      repeat (first|rw[h_same]|rw[hnO]|rw[B0d (by omega)])
      exact hj'
     rw[h_ne e2]at hj';by_cases e3:j'=0
     ·subst e3;rw[h_same]at hj'
      repeat (first|rw[h_same]|rw[hnO]|rw[B0d (by omega)])
      exact hj'
     ·rw[h_ne e3]at hj';cases hj'
   ·have hdj:decide ((j:Int)<(m.hds.length:Int))=false:=by simpa using hjl
    have ne0:=W7 0 c i n (by omega);have hjE:j=m.hds.length:=by omega
    subst hjE;rw[A2D]at hbj;have hlw:=lw [125];have hun:=A2c (wT [125]);have hln2:=M7 (K m.hds.length);have hKm:=hKl m.hds.length;repeat' (apply wr<;>try simp only[go_sem,seval,hdj,ne0,h_same])
    refine AC.call (wd1 h_same (by decide)) ?_;rintro v H' c3 ⟨rfl,rfl,rfl⟩ -;simp only[go_sem,seval,ne0,h_same,N2 hun];repeat' (apply wr<;>try simp only[go_sem,seval,ne0,h_same,A1,N2 hun])
    refine E9 (Y5 hln2 (by omega) (by omega)) ?_;simp only[go_sem,seval];repeat' (apply wr<;>try simp only[go_sem,seval,hw])
    refine⟨(k+1,some (n+1)),by simp[todoV, <- hKe,hlw],?_,inv ⟨by omega,by simp only;omega,(fun h=>by cases h),(fun i hi=>by cases hi;omega),by rw[b0];exact hbj⟩,by simp only;omega⟩;dsimp only[optH];rw[<- hKe,A0R,B8];intro j b hj;by_cases e1:j=n+1
    ·subst e1;rw[h_same]at hj ⊢;exact hj
    rw[h_ne e1]at hj ⊢;by_cases e2:j=0
    ·subst e2;rw[h_same]at hj;rw[show ∀ X:Hp,X.del i=delO X (some i) from fun _=>rfl,P3,if_neg (by omega),hnO,hnO,h_same];exact hj
    ·rw[h_ne e2]at hj;cases hj
  ·have hd:=dfz hlt;rw[A0I (by omega)]at hbad;rw[if_neg (by rw[hbad];decide)]at hR;repeat' (apply wr<;>try simp only[go_sem,seval,hd,hbx])
   rw[hR,hG,A0I (by omega)];rw[hG,A0I (by omega)]at hno;exact C0j (fun e=>by rw[hno e];rfl) (by simp) (D7 _)
theorem B2i(p:Bool):∀ (l l':List Ex) (k:Nat),l.length=l'.length->(I1 p (l.take k) (l'.take k)=true)->∀ x x',l[k]? = some x->l'[k]? = some x'->I1 p (l.take (k+1)) (l'.take (k+1))=A3b p x x'/\(A3b p x x'=false->I1 p l l'=false)
 |[],_,k,_,_,x,x',h,_=>by simp at h
 |_ :: _,[],k,h,_,_,_,_,_=>by simp at h
 |a :: l,a' :: l',0,_,_,x,x',h,h'=>by
  cases h;cases h';refine⟨?_,fun e=>?_⟩
  ·simp[I1]
  ·rw[I1,e];rfl
 |a :: l,a' :: l',k+1,hl,he,x,x',h,h'=>by
  rw[A1G,A1G,I1,A0E]at he;have ih:=B2i p l l' k (by simpa using hl) he.2 x x' (by simpa using h) (by simpa using h');refine⟨?_,fun e=>?_⟩
  ·rw[A1G,A1G,I1,he.1,A1S];exact ih.1
  ·rw[I1,ih.2 e,A3G]
theorem A8o(p:Bool):∀ (l l':List Ex),¬ l.length=l'.length->I1 p l l'=false
 |[],[],h=>absurd rfl h
 |[],_ :: _,_=>rfl
 |_ :: _,[],_=>rfl
 |a :: l,a' :: l',h=>by rw[I1,A8o p l l' (by simpa using h),A3G]
theorem c_sameEs(p:Bool)(l l':List Ex)(hl:l.length<=100000000000)(h:∀ x∈l, ∀ y,PC Tryz.prog 243 [x.v,y.v,.bool p] (.bool (A3b p x y))):PC Tryz.prog 208 [F7 l,F7 l',.bool p] (.bool (I1 p l l')):=by
 refine PC.go A4 ?_;by_cases hlen:l.length=l'.length
 ·have hd0:((l.length:Int) != (l'.length:Int))=false:=by simp[hlen]
  repeat' (apply wr<;>try simp only[go_sem,seval,hd0,A0F])
  refine C1 (fun k:Nat=>[(0,F7 l),(1,F7 l'),(2,.bool p),(7,I64 k)]) (fun _=>Sym.nil) (fun k c=>k<=l.length/\I1 p (l.take k) (l'.take k)=true) (fun k=>l.length-k) 0 (by simp[C6,tm,Tm.upd]) (Sub.nil _) ⟨A0O _,rfl⟩ ?_;rintro k c ⟨hk,he⟩;by_cases hlt:k<l.length
  ·have hd:=dtz hlt;have hg:=A0C hlt;have hg':=A0C (l:=l') (i:=k) (by omega);have hw:=w64 (n:=(k:Int)+1);have hc:=h _ (A0Q hlt) (l'[k]'(by omega));obtain⟨s1,s2⟩:=B2i p l l' k hlen he _ _ hg hg';generalize l[k]=x at hg hc s1 s2;generalize l'[k]'(by omega)=x' at hg' hc s1 s2;rw[Ex.v_w,Ex.v_w]at hc;cases hx:A3b p x x' with
   |true =>
    repeat' ((with_reducible first|apply wr|refine cpc hc ?_|fail)<;>try simp only[go_sem,seval,hd,hg,hg',hw,hx,Ex.v_w,A0F])
    exact⟨k+1,by simp[],Sub.nil _,inv ⟨by omega,by rw[s1];exact hx⟩,by omega⟩
   |false =>
    repeat' ((with_reducible first|apply wr|refine cpc hc ?_|fail)<;>try simp only[go_sem,seval,hd,hg,hg',hx,Ex.v_w,A0F])
    exact⟨_,by rw[s2 hx];exact GL.refl _ _⟩
  ·have hd:=dfz hlt;rw[A0I (by omega),A0I (by omega)]at he;repeat' (apply wr<;>try simp only[go_sem,seval,hd,A0F])
   exact⟨_,by rw[he];exact GL.refl _ _⟩
 ·have hd0:((l.length:Int) != (l'.length:Int))=true:=by simp;omega
  repeat' (apply wr<;>try simp only[go_sem,seval,hd0,A0F])
  exact⟨_,by rw[A8o p l l' hlen];exact GL.refl _ _⟩
theorem c_sameE(p:Bool):∀ (m:Nat) (a b:Ex),a.sz<m->a.sz<=100000000000->PC Tryz.prog 243 [a.v,b.v,.bool p] (.bool (A3b p a b)):=by
 intro m
 induction m with
 |zero=>intro a b h;omega
 |succ m ih =>
 intro a b hm hB;have hs:=c_sameEs p a.args b.args (by have:=a.sz_args;omega) (fun x hx y=>ih x y (by have:=Ex.sz_arg hx;omega) (by have:=Ex.sz_arg hx;omega));have e0:A3b p a b=(a.kind == b.kind && (a.value == b.value && (a.name == b.name && ((p || a.pos == b.pos) && I1 p a.args b.args)))):=by
  cases a with|mk k v n l q=>cases b with|mk k' v' n' l' q'=>rw[A3b];rfl
 refine PC.go A4 ?_;rw[Ex.v_w,Ex.v_w,e0];cases h1:a.kind == b.kind with
 |false =>
  repeat' (apply wr<;>try simp only[go_sem,seval,h1])
  exact⟨_,GL.refl _ _⟩
 |true =>
  cases h2:a.value == b.value with
  |false =>
   repeat' (apply wr<;>try simp only[go_sem,seval,h1,h2])
   exact⟨_,GL.refl _ _⟩
  |true =>
   cases h3:a.name == b.name with
   |false =>
    repeat' (apply wr<;>try simp only[go_sem,seval,h1,h2,h3])
    exact⟨_,GL.refl _ _⟩
   |true =>
    cases hp:p with
    |true =>
     subst hp;repeat' ((with_reducible first|apply wr|refine cpc hs ?_|fail)<;>try simp only[go_sem,seval,h1,h2,h3])
     exact⟨_,GL.refl _ _⟩
    |false =>
     subst hp;cases h4:a.pos == b.pos with
     |false =>
      repeat' (apply wr<;>try simp only[go_sem,seval,h1,h2,h3,h4])
      exact⟨_,GL.refl _ _⟩
     |true =>
      repeat' ((with_reducible first|apply wr|refine cpc hs ?_|fail)<;>try simp only[go_sem,seval,h1,h2,h3,h4])
      exact⟨_,GL.refl _ _⟩
theorem B1b:∀ (l l':List Pb.St) (k:Nat),l.length=l'.length->(J1 (l.take k) (l'.take k)=true)->∀ x x',l[k]? = some x->l'[k]? = some x'->J1 (l.take (k+1)) (l'.take (k+1))=B2z x x'/\(B2z x x'=false->J1 l l'=false)
 |[],_,k,_,_,x,x',h,_=>by simp at h
 |_ :: _,[],k,h,_,_,_,_,_=>by simp at h
 |a :: l,a' :: l',0,_,_,x,x',h,h'=>by
  cases h;cases h';refine⟨?_,fun e=>?_⟩
  ·simp[J1]
  ·rw[J1,e];rfl
 |a :: l,a' :: l',k+1,hl,he,x,x',h,h'=>by
  rw[A1G,A1G,J1,A0E]at he;have ih:=B1b l l' k (by simpa using hl) he.2 x x' (by simpa using h) (by simpa using h');refine⟨?_,fun e=>?_⟩
  ·rw[A1G,A1G,J1,he.1,A1S];exact ih.1
  ·rw[J1,ih.2 e,A3G]
theorem A7z:∀ (l l':List Pb.St),¬ l.length=l'.length->J1 l l'=false
 |[],[],h=>absurd rfl h
 |[],_ :: _,_=>rfl
 |_ :: _,[],_=>rfl
 |a :: l,a' :: l',h=>by rw[J1,A7z l l' (by simpa using h),A3G]
theorem C8d(a b:Pb.St):B2z a b=(a.kind == b.kind && (a.name == b.name && (a.text == b.text && (a.pos == b.pos && (I1 false a.args b.args && (J1 a.thn b.thn && J1 a.els b.els)))))):=by
 cases a with|mk k n t a x y q=>cases b with|mk k' n' t' a' x' y' q'=>rw[B2z];rfl
theorem c_sameS:∀ (m:Nat) (l l':List Pb.St),Pb.St.szs l<m->Pb.St.szs l<=100000000000->PC Tryz.prog 143 [H3 l,H3 l'] (.bool (J1 l l')):=by
 intro m
 induction m with
 |zero=>intro a b h;omega
 |succ m ih =>
 intro l l' hm hB;have hl:=Pb.St.szs_len l;refine PC.go A4 ?_;by_cases hlen:l.length=l'.length
 ·have hd0:((l.length:Int) != (l'.length:Int))=false:=by simp[hlen]
  repeat' (apply wr<;>try simp only[go_sem,seval,hd0,A0F])
  refine C1 (fun k:Nat=>[(0,H3 l),(1,H3 l'),(5,I64 k)]) (fun _=>Sym.nil) (fun k c=>k<=l.length/\J1 (l.take k) (l'.take k)=true) (fun k=>l.length-k) 0 (by simp[C6,tm,Tm.upd]) (Sub.nil _) ⟨A0O _,rfl⟩ ?_;rintro k c ⟨hk,he⟩;by_cases hlt:k<l.length
  ·have hd:=dtz hlt;have hg:=A0C hlt;have hg':=A0C (l:=l') (i:=k) (by omega);have hw:=w64 (n:=(k:Int)+1);obtain⟨s1,s2⟩:=B1b l l' k hlen he _ _ hg hg';have hsx:=Pb.St.szs_mem (A0Q hlt);generalize l[k]=x at hg hsx s1 s2;generalize l'[k]'(by omega)=x' at hg' s1 s2;have ht:=x.sz_thn;have hy:=x.sz_els;have hargs:∀ y∈x.args,y.sz<x.sz:=fun y hy=>Pb.St.sz_arg hy;have hal:=x.sz_args;have ca:=c_sameEs false x.args x'.args (by omega) (fun y hy z=>c_sameE false (y.sz+1) y z (by omega) (by have:=hargs y hy;omega));have ct:=ih x.thn x'.thn (by omega) (by omega);have cy:=ih x.els x'.els (by omega) (by omega);rw[C8d]at s1 s2;have ne0:=R3 (c+8) (c+9) (by omega);have hn8:∀ i:Nat,Sym.nil (c+i)=none:=fun _=>rfl;repeat' (apply wr<;>try simp only[go_sem,seval,hd,hg,hg',Pb.St.v_w,A0F,ne0,h_same])
   refine⟨by and_intros<;>(repeat rw[hnO])<;>rfl,?_⟩;repeat' ((with_reducible first|refine G0 (p:=IW _ _ (pz Tryz.prog 143 (.o (.i (.o (.i .h))))) _ _) ?_|refine wr ?_|fail)<;>try simp only[go_sem,seval,ne0,h_same,A1])
   unfold A7u;clear hd hg hg';cases h1:x.kind == x'.kind with
   |false =>
    have n1:(x.kind != x'.kind)=true:=by rw[bne,h1];rfl
    repeat' (apply wr<;>try simp only[go_sem,seval,ne0,h_same,n1])
    exact⟨_,by rw[s2 (by rw[h1];rfl)];exact GL.refl _ _⟩
   |true =>
    have n1:(x.kind != x'.kind)=false:=by rw[bne,h1];rfl
    cases h2:x.name == x'.name with
    |false =>
     repeat' (apply wr<;>try simp only[go_sem,seval,ne0,h_same,n1,h2])
     exact⟨_,by rw[s2 (by rw[h1,h2];rfl)];exact GL.refl _ _⟩
    |true =>
     cases h3:x.text == x'.text with
     |false =>
      repeat' (apply wr<;>try simp only[go_sem,seval,ne0,h_same,n1,h2,h3])
      exact⟨_,by rw[s2 (by rw[h1,h2,h3];rfl)];exact GL.refl _ _⟩
     |true =>
      cases h4:x.pos == x'.pos with
      |false =>
       have n4:(x.pos != x'.pos)=true:=by rw[bne,h4];rfl
       repeat' (apply wr<;>try simp only[go_sem,seval,ne0,h_same,n1,h2,h3,n4])
       exact⟨_,by rw[s2 (by rw[h1,h2,h3,h4];rfl)];exact GL.refl _ _⟩
      |true =>
       have n4:(x.pos != x'.pos)=false:=by rw[bne,h4];rfl
       cases h5:I1 false x.args x'.args with
       |false =>
        repeat' ((with_reducible first|apply wr|refine cpc ca ?_|fail)<;>try simp only[go_sem,seval,ne0,h_same,n1,h2,h3,n4,h5])
        exact⟨_,by rw[s2 (by rw[h1,h2,h3,h4,h5];rfl)];exact GL.refl _ _⟩
       |true =>
        cases h6:J1 x.thn x'.thn with
        |false =>
         repeat' ((with_reducible first|apply wr|refine cpc ca ?_|refine cpc ct ?_|fail)<;>try simp only[go_sem,seval,ne0,h_same,n1,h2,h3,n4,h5,h6])
         exact⟨_,by rw[s2 (by rw[h1,h2,h3,h4,h5,h6];rfl)];exact GL.refl _ _⟩
        |true =>
         cases h7:J1 x.els x'.els with
         |false =>
          repeat' ((with_reducible first|apply wr|refine cpc ca ?_|refine cpc ct ?_|refine cpc cy ?_|fail)<;>try simp only[go_sem,seval,ne0,h_same,n1,h2,h3,n4,h5,h6,h7])
          exact⟨_,by rw[s2 (by rw[h1,h2,h3,h4,h5,h6,h7];rfl)];exact GL.refl _ _⟩
         |true =>
          repeat' ((with_reducible first|apply wr|refine cpc ca ?_|refine cpc ct ?_|refine cpc cy ?_|fail)<;>try simp only[go_sem,seval,hw,ne0,h_same,n1,h2,h3,n4,h5,h6,h7])
          exact⟨k+1,by simp[],Sub.nil _,inv ⟨by omega,by rw[s1,h1,h2,h3,h4,h5,h6,h7];rfl⟩,by omega⟩
  ·have hd:=dfz hlt;rw[A0I (by omega),A0I (by omega)]at he;repeat' (apply wr<;>try simp only[go_sem,seval,hd,A0F])
   exact⟨_,by rw[he];exact GL.refl _ _⟩
 ·have hd0:((l.length:Int) != (l'.length:Int))=true:=by simp;omega
  repeat' (apply wr<;>try simp only[go_sem,seval,hd0,A0F])
  exact⟨_,by rw[A7z l l' hlen];exact GL.refl _ _⟩
def B3c(a b:Ru):Bool:=@decide (a=b) (Classical.propDecidable _)
theorem C8i{a b:Ru}(h:a=b):B3c a b=true:=by unfold B3c;exact @decide_eq_true _ (_) h
theorem C8j{a b:Ru}(h:¬ a=b):B3c a b=false:=by unfold B3c;exact @decide_eq_false _ (_) h
theorem A9f{α : Type}{l l':List α}{k:Nat}{x x' : α}(h:l.take k=l'.take k)(hx:l[k]? = some x)(hx':l'[k]? = some x')(e:x=x'):l.take (k+1)=l'.take (k+1):=by
 rw[A0S,A0S,h,hx,hx',e]
theorem K8{α : Type}{l l':List α}{k:Nat}{x x' : α}(hx:l[k]? = some x)(hx':l'[k]? = some x')(e:¬ x=x'):¬ l=l':=by
 rintro rfl;rw[hx]at hx';exact e (Option.some.inj hx')
theorem B5b{H H':Hp}{c:Nat}(h1:∀ j b,H j=some b->j<c)(h2:∀ j,j<c->H' j=H j):Sym.Sub H H':=fun j b hj=>by rw[h2 j (h1 j b hj)];exact hj
theorem c_Same31(a b:Ru)(hB:a.sz<=100000000000):PC Tryz.prog 71 [a.v,b.v] (.bool (B3c a b)):=by
 refine PC.go A4 ?_;obtain⟨R,hR⟩:∃ R,R=B3c a b:=⟨_,rfl⟩;rw[<- hR];obtain⟨D,M⟩:=a;obtain⟨D',M'⟩:=b;have hF:(¬ D=D'\/¬ M=M')->R=false:=fun h=>by
  rw[hR];exact C8j fun e=>by cases e;exact h.elim (· rfl) (· rfl)
 have hT:D=D'->M=M'->R=true:=fun h1 h2=>by rw[hR];exact C8i (by rw[h1,h2])
 clear hR;have hDs:(D.map Dc.sz).sum+(M.map Md.sz).sum<=100000000000:=hB;have hDl:D.length<=(D.map Dc.sz).sum:=G3 fun x _=>by show 1<=1+_;omega
 have hMl:M.length<=(M.map Md.sz).sum:=G3 fun x _=>by show 1<=1+_+_;omega
 dsimp only[Ru.v];by_cases l1:D.length=D'.length
 case neg =>
  have f1:((D.length:Int) != (D'.length:Int))=true:=by simp;omega
  repeat' (apply wr<;>try simp only[go_sem,seval,f1,A0F])
  exact⟨_,by rw[hF (.inl fun e=>l1 (by rw[e]))];exact GL.refl _ _⟩
 have f1:((D.length:Int) != (D'.length:Int))=false:=by simp[l1]
 by_cases l2:M.length=M'.length
 case neg =>
  have f2:((M.length:Int) != (M'.length:Int))=true:=by simp;omega
  repeat' (apply wr<;>try simp only[go_sem,seval,f1,f2,A0F])
  exact⟨_,by rw[hF (.inr fun e=>l2 (by rw[e]))];exact GL.refl _ _⟩
 have f2:((M.length:Int) != (M'.length:Int))=false:=by simp[l2]
 repeat' (apply wr<;>try simp only[go_sem,seval,f1,f2,A0F])
 refine C1 (fun k:Nat=>[(2,.ptr 0 0),(3,.ptr 1 0),(5,I64 k)]) (fun _=>(Sym.nil.upd 0 ⟨0,true,[C5 D,E4 M]⟩).upd 1 ⟨0,true,[C5 D',E4 M']⟩) (fun k c=>2<=c/\k<=D.length/\D.take k=D'.take k) (fun k=>D.length-k) 0 (by simp[C6,tm,Tm.upd]) (Sub.refl _) ⟨by omega,A0O _,rfl⟩ ?_;rintro k c ⟨hc,hk,he⟩;by_cases hlt:k<D.length
 ·have hd:=dtz hlt;have hg:=A0C hlt;have hg':=A0C (l:=D') (i:=k) (by omega);have hw:=w64 (n:=(k:Int)+1);generalize D[k]=x at hg;generalize D'[k]'(by omega)=x' at hg';have hq:(x.kind == x'.kind && (x.name == x'.name && (x.value == x'.value && x.pos == x'.pos)))=true↔x=x':=by
   cases x;cases x';simp only[A0E,A1F,Dc.mk.injEq]
  by_cases hx:x=x'
  ·have hqt:(true != (x.kind == x'.kind && (x.name == x'.name && (x.value == x'.value && x.pos == x'.pos))))=false:=by rw[hq.2 hx];rfl
   repeat' (apply wr<;>try simp only[go_sem,seval,hd,hg,hg',hw,C7b,hqt,A0F])
   exact⟨k+1,by simp[],Sub.refl _,inv ⟨by omega,by omega,A9f he hg hg' hx⟩,by omega⟩
  ·have hqf:(true != (x.kind == x'.kind && (x.name == x'.name && (x.value == x'.value && x.pos == x'.pos))))=true:=by
    rw[show (x.kind == x'.kind && (x.name == x'.name && (x.value == x'.value && x.pos == x'.pos)))=false from by
     cases hz:(x.kind == x'.kind && (x.name == x'.name && (x.value == x'.value && x.pos == x'.pos))) with
     |false=>rfl
     |true=>exact absurd (hq.1 hz) hx]
    rfl
   repeat' (apply wr<;>try simp only[go_sem,seval,hd,hg,hg',C7b,hqf,A0F])
   exact⟨_,by rw[hF (.inl (K8 hg hg' hx))];exact GL.refl _ _⟩
 ·have hd:=dfz hlt;rw[A0I (by omega),A0I (by omega)]at he;repeat' (apply wr<;>try simp only[go_sem,seval,hd,A0F])
  have hDD:=he;clear hd hlt he hk;refine C1 (fun k:Nat=>[(2,.ptr 0 0),(3,.ptr 1 0),(6,I64 k)]) (fun _=>(Sym.nil.upd 0 ⟨0,true,[C5 D,E4 M]⟩).upd 1 ⟨0,true,[C5 D',E4 M']⟩) (fun k c=>2<=c/\k<=M.length/\M.take k=M'.take k) (fun k=>M.length-k) 0 (by simp[C6,tm,Tm.upd]) (Sub.refl _) ⟨hc,A0O _,rfl⟩ ?_;clear hc k c;rintro k c ⟨hc,hk,he⟩;by_cases hlt:k<M.length
  ·have hd:=dtz hlt;have hg:=A0C hlt;have hg':=A0C (l:=M') (i:=k) (by omega);have hw:=w64 (n:=(k:Int)+1);have hsx:=I5 (f:=Md.sz) (A0Q hlt);generalize M[k]=x at hg hsx;generalize M'[k]'(by omega)=x' at hg';have hxs:(x.hds.map Hd.sz).sum<Md.sz x:=by unfold Md.sz;omega
   have hxl:x.hds.length<=(x.hds.map Hd.sz).sum:=G3 fun x _=>by show 1<=1+_+_;omega
   have ne0:=W7 0 1 (c+10) (c+11) (by omega);repeat' (apply wr<;>try simp only[go_sem,seval,hd,hg,hg',ne0,h_same,A0F])
   refine⟨by and_intros<;>(repeat rw[hnO])<;>rfl,?_⟩;repeat' ((with_reducible first|refine G0 (p:=IW _ _ (pz Tryz.prog 71 (.i (.i (.i (.i (.o .h)))))) _ _) ?_|refine wr ?_|fail)<;>try simp only[go_sem,seval,ne0,h_same,A1])
   unfold A7u;clear hd;by_cases h1:x.name=x'.name
   case neg =>
    have nh1:(x.name == x'.name)=false:=by simpa using h1
    repeat' (apply wr<;>try simp only[go_sem,seval,ne0,h_same,nh1])
    exact⟨_,by rw[hF (.inr (K8 hg hg' fun e=>h1 (by rw[e])))];exact GL.refl _ _⟩
   case pos =>
    have nh1:(x.name == x'.name)=true:=by simpa using h1
    by_cases h2:x.prio=x'.prio
    case neg =>
     have nh2:(x.prio != x'.prio)=true:=by simpa using h2
     repeat' (apply wr<;>try simp only[go_sem,seval,ne0,h_same,nh1,nh2])
     exact⟨_,by rw[hF (.inr (K8 hg hg' fun e=>h2 (by rw[e])))];exact GL.refl _ _⟩
    case pos =>
     have nh2:(x.prio != x'.prio)=false:=by simpa using h2
     by_cases h3:x.pos=x'.pos
     case neg =>
      have nh3:(x.pos != x'.pos)=true:=by simpa using h3
      repeat' (apply wr<;>try simp only[go_sem,seval,ne0,h_same,nh1,nh2,nh3])
      exact⟨_,by rw[hF (.inr (K8 hg hg' fun e=>h3 (by rw[e])))];exact GL.refl _ _⟩
     case pos =>
      have nh3:(x.pos != x'.pos)=false:=by simpa using h3
      by_cases h4:x.hds.length=x'.hds.length
      case neg =>
       have nh4:((x.hds.length:Int) != (x'.hds.length:Int))=true:=by simp;omega
       repeat' (apply wr<;>try simp only[go_sem,seval,ne0,h_same,A0F,nh1,nh2,nh3,nh4])
       exact⟨_,by rw[hF (.inr (K8 hg hg' fun e=>h4 (by rw[e])))];exact GL.refl _ _⟩
      case pos =>
       have nh4:((x.hds.length:Int) != (x'.hds.length:Int))=false:=by simp[h4]
       repeat' (apply wr<;>try simp only[go_sem,seval,ne0,h_same,A0F,nh1,nh2,nh3,nh4])
       refine C1 (fun j:Nat=>[(2,.ptr 0 0),(3,.ptr 1 0),(6,I64 k),(7,.ptr (c+10) 0),(8,.ptr (c+11) 0),(9,I64 j)]) (fun _=>(((Sym.nil.upd 0 ⟨0,true,[C5 D,E4 M]⟩).upd 1 ⟨0,true,[C5 D',E4 M']⟩).upd (c+10) ⟨0,true,[.str x.name,I64 x.prio,A0z x.hds,I64 x.pos]⟩).upd (c+11) ⟨0,true,[.str x'.name,I64 x'.prio,A0z x'.hds,I64 x'.pos]⟩) (fun j n=>c+12<=n/\j<=x.hds.length/\x.hds.take j=x'.hds.take j) (fun j=>x.hds.length-j) 0 (by simp[C6,tm,Tm.upd]) ?_ ⟨by omega,A0O _,rfl⟩ ?_
       ·intro j b hj;by_cases e1:j=c+11
        ·subst e1;rw[h_same]at hj ⊢;exact hj
        rw[h_ne e1]at hj ⊢;by_cases e2:j=c+10
        ·subst e2;rw[h_same]at hj ⊢;exact hj
        rw[h_ne e2]at hj ⊢
        repeat rw[hnO]
        exact hj
       rintro j n ⟨hn,hj,hej⟩;by_cases hjl:j<x.hds.length
       ·have hdj:decide ((j:Int)<(x.hds.length:Int))=true:=by simpa using hjl
        have gj:=A0C hjl;have gj':=A0C (l:=x'.hds) (i:=j) (by omega);have hwj:=w64 (n:=(j:Int)+1);have hsj:=I5 (f:=Hd.sz) (A0Q hjl);generalize x.hds[j]=y at gj hsj;generalize x'.hds[j]'(by omega)=y' at gj';have hbs:Pb.St.szs y.body<Hd.sz y:=by unfold Hd.sz;omega
        have cs:=c_sameS (Pb.St.szs y.body+1) y.body y'.body (by omega) (by omega);have ne0:=A4t 0 1 (c+10) (c+11) (n+10) (n+11) (by omega);repeat' (apply wr<;>try simp only[go_sem,seval,hdj,gj,gj',ne0,h_same,A0F])
        refine⟨by and_intros<;>(repeat rw[hnO])<;>rfl,?_⟩;repeat' ((with_reducible first|refine G0 (p:=IW _ _ (pz Tryz.prog 71 (.i (.o (.i (.o (.o (.o .h))))))) _ _) ?_|refine wr ?_|fail)<;>try simp only[go_sem,seval,ne0,h_same,A1])
        unfold A7u;clear hdj;by_cases q1:y.trig=y'.trig
        case neg =>
         have nq1:(y.trig != y'.trig)=true:=by simpa using q1
         repeat' (apply wr<;>try simp only[go_sem,seval,ne0,h_same,nq1])
         exact⟨_,by rw[hF (.inr (K8 hg hg' fun e=>K8 gj gj' (fun e2=>by exact q1 (by rw[e2])) (by rw[e])))];exact GL.refl _ _⟩
        case pos =>
         have nq1:(y.trig != y'.trig)=false:=by simpa using q1
         by_cases q2:y.name=y'.name
         case neg =>
          have nq2:(y.name == y'.name)=false:=by simpa using q2
          repeat' (apply wr<;>try simp only[go_sem,seval,ne0,h_same,nq1,nq2])
          exact⟨_,by rw[hF (.inr (K8 hg hg' fun e=>K8 gj gj' (fun e2=>by exact q2 (by rw[e2])) (by rw[e])))];exact GL.refl _ _⟩
         case pos =>
          have nq2:(y.name == y'.name)=true:=by simpa using q2
          by_cases q3:y.pos=y'.pos
          case neg =>
           have nq3:(y.pos != y'.pos)=true:=by simpa using q3
           repeat' (apply wr<;>try simp only[go_sem,seval,ne0,h_same,nq1,nq2,nq3])
           exact⟨_,by rw[hF (.inr (K8 hg hg' fun e=>K8 gj gj' (fun e2=>by exact q3 (by rw[e2])) (by rw[e])))];exact GL.refl _ _⟩
          case pos =>
           have nq3:(y.pos != y'.pos)=false:=by simpa using q3
           cases q4:J1 y.body y'.body with
           |false =>
            repeat' ((with_reducible first|apply wr|refine cpc cs ?_|fail)<;>try simp only[go_sem,seval,ne0,h_same,nq1,nq2,nq3,q4])
            exact⟨_,by rw[hF (.inr (K8 hg hg' fun e=>K8 gj gj' (fun e2=>by rw[e2,(W5 _ _).2 rfl]at q4;cases q4) (by rw[e])))];exact GL.refl _ _⟩
           |true =>
            repeat' ((with_reducible first|apply wr|refine cpc cs ?_|fail)<;>try simp only[go_sem,seval,hwj,ne0,h_same,nq1,nq2,nq3,q4])
            exact⟨j+1,by simp[],(B5b (c:=n) (fun j0 b0 h0=>by by_cases a1:j0=c+11;omega;rw[h_ne a1]at h0;by_cases a2:j0=c+10;omega;rw[h_ne a2]at h0;by_cases a3:j0=1;omega;rw[h_ne a3]at h0;by_cases a4:j0=0;omega;rw[h_ne a4]at h0;cases h0) (fun j0 h0=>by repeat rw[hnO])),inv ⟨by omega,by omega,A9f hej gj gj' (by cases y;cases y';simp only[Hd.mk.injEq]at *;exact⟨q1,q2,(W5 _ _).1 q4,q3⟩)⟩,by omega⟩
       ·have hdj:decide ((j:Int)<(x.hds.length:Int))=false:=by simpa using hjl
        rw[A0I (by omega),A0I (by omega)]at hej;have ne0:=W7 0 1 (c+10) (c+11) (by omega);repeat' (apply wr<;>try simp only[go_sem,seval,hdj,hw,ne0,h_same,A0F])
        exact⟨k+1,by simp[],(B5b (c:=c) (fun j0 b0 h0=>by by_cases a3:j0=1;omega;rw[h_ne a3]at h0;by_cases a4:j0=0;omega;rw[h_ne a4]at h0;cases h0) (fun j0 h0=>by repeat rw[hnO])),inv ⟨by omega,by omega,A9f he hg hg' (by cases x;cases x';simp only[Md.mk.injEq]at *;exact⟨h1,h2,hej,h3⟩)⟩,by omega⟩
  ·have hd:=dfz hlt;rw[A0I (by omega),A0I (by omega)]at he;repeat' (apply wr<;>try simp only[go_sem,seval,hd,A0F])
   exact⟨_,by rw[hT hDD he];exact GL.refl _ _⟩
theorem c_plainE:∀ (m:Nat) (l:List Ex),Ex.szs l<m->Ex.szs l<=100000000000->PC Tryz.prog 160 [F7 l] (F7 (l.map Ex.plain)):=by
 intro m
 induction m with
 |zero=>intro l h;omega
 |succ m ih =>
 intro l hm hB;have hl:=Ex.szs_len l;refine PC.ofT A4 rfl (A0B rfl) (by simp[DV.nlL,DV.nl,Y2]) (Y2 _) ?_;repeat' (apply wr<;>try simp only[go_sem,seval])
 obtain⟨F,hF⟩:∃ F:Nat->List Ex, ∀ k,F k=(l.take k).map Ex.plain:=⟨_,fun _=>rfl⟩;have hF0:F 0=[]:=by rw[hF];rfl
 have hFl:∀ k,(F k).length<=l.length:=fun k=>by rw[hF,A0F,A0W];omega
 refine C1 (fun q:Nat × Option Nat=>[(0,F7 l),(3,todoV q.2 (F q.1).length),(4,I64 q.1)]) (fun q=>optH Sym.nil q.2 ⟨5,true,cellsL ((F q.1).map Ex.v)⟩)
  (fun q c=>q.1<=l.length/\(q.2=none->F q.1=[])/\(∀ i,q.2=some i->i<c)) (fun q=>l.length-q.1) (0,none)
  (by simp[C6,tm,Tm.upd,todoV]) (Sub.nil _) ⟨A0O _,fun _=>hF0,(fun i hi=>by cases hi)⟩ ?_
 rintro⟨k,o⟩ c ⟨hk,hno,ho⟩;dsimp only at hk hno ho ⊢;by_cases hlt:k<l.length
 ·have hd:=dtz hlt;have hg:=A0C hlt;have hsx:=Ex.szs_mem (A0Q hlt);have hw:=w64 (n:=(k:Int)+1);have e0:F (k+1)=F k++[l[k].plain]:=by rw[hF,hF,A0S,hg,A0R];rfl
  have hFk:=hFl k;generalize l[k]=x at hg hsx e0;have hax:Ex.szs x.args<x.sz:=by cases x with|mk k v n a p=>rw[Ex.sz];show Ex.szs a<_;omega
  have hc:=ih x.args (by omega) (by omega);have hln:(cellsL ((F k).map Ex.v)).length=(F k).length * 5:=(B6 (u:=5) (A2y _)).trans (by simp);have ne0:=Q3 c (c+1) (c+2) (by omega);repeat' ((with_reducible first|apply wr|refine cpc hc ?_|fail)<;>try simp only[go_sem,seval,hd,hg,Ex.v_w,h_same,A1])
  refine E9 (D8 (cs:=cellsL ((F k).map Ex.v)) (fun e=>by rw[hno e];exact⟨rfl,rfl⟩) (fun i hi=>by have:=ho i hi;rw[hnO,hnO];exact Z8 hi) hln (by omega) (by omega) (by omega)) ?_;simp only[go_sem,seval];repeat' (apply wr<;>try simp only[go_sem,seval,hw])
  refine⟨(k+1,some (c+1+1)),by simp[todoV,e0],?_,inv ⟨by omega,(fun h=>by cases h),(fun i hi=>by cases hi;omega)⟩,by simp only;omega⟩;dsimp only[optH];rw[e0,A0R,B8];refine X8 ?_;cases x with|mk kk v n a p=>simp only[Ex.plain,Ex.plains_map,Ex.kind,Ex.value,Ex.name,Ex.args,Ex.pos,A2z]
 ·have hd:=dfz hlt;repeat' (apply wr<;>try simp only[go_sem,seval,hd])
  rw[hF,A0I (by omega)];exact A2j (fun e=>by have:=hno e;rw[hF,A0I (by omega)]at this;rw[this];rfl) (by simp) (A2y _)
theorem c_plainS:∀ (m:Nat) (l:List Pb.St),Pb.St.szs l<m->Pb.St.szs l<=100000000000->PC Tryz.prog 82 [H3 l] (H3 (l.map Pb.St.plain)):=by
 intro m
 induction m with
 |zero=>intro l h;omega
 |succ m ih =>
 intro l hm hB;have hl:=Pb.St.szs_len l;refine PC.ofT A4 rfl (A0B rfl) (by simp[DV.nlL,DV.nl,Y1]) (Y1 _) ?_;repeat' (apply wr<;>try simp only[go_sem,seval])
 obtain⟨F,hF⟩:∃ F:Nat->List Pb.St, ∀ k,F k=(l.take k).map Pb.St.plain:=⟨_,fun _=>rfl⟩;have hF0:F 0=[]:=by rw[hF];rfl
 have hFl:∀ k,(F k).length<=l.length:=fun k=>by rw[hF,A0F,A0W];omega
 refine C1 (fun q:Nat × Option Nat=>[(0,H3 l),(3,todoV q.2 (F q.1).length),(4,I64 q.1)]) (fun q=>optH Sym.nil q.2 ⟨7,true,cellsL ((F q.1).map Pb.St.v)⟩)
  (fun q c=>q.1<=l.length/\(q.2=none->F q.1=[])/\(∀ i,q.2=some i->i<c)) (fun q=>l.length-q.1) (0,none)
  (by simp[C6,tm,Tm.upd,todoV]) (Sub.nil _) ⟨A0O _,fun _=>hF0,(fun i hi=>by cases hi)⟩ ?_
 rintro⟨k,o⟩ c ⟨hk,hno,ho⟩;dsimp only at hk hno ho ⊢;by_cases hlt:k<l.length
 ·have hd:=dtz hlt;have hg:=A0C hlt;have hsx:=Pb.St.szs_mem (A0Q hlt);have hw:=w64 (n:=(k:Int)+1);have e0:F (k+1)=F k++[l[k].plain]:=by rw[hF,hF,A0S,hg,A0R];rfl
  have hFk:=hFl k;generalize l[k]=x at hg hsx e0;have hax:Ex.szs x.args<x.sz:=by cases x with|mk k n t a x y p=>rw[Pb.St.sz];show Ex.szs a<_;omega
  have htx:=x.sz_thn;have hyx:=x.sz_els;have hc:=c_plainE (Ex.szs x.args+1) x.args (by omega) (by omega);have hct:=ih x.thn (by omega) (by omega);have hcy:=ih x.els (by omega) (by omega);have hln:(cellsL ((F k).map Pb.St.v)).length=(F k).length * 7:=(B6 (u:=7) (A5h _)).trans (by simp);have hbn:∀ j:Nat,c<=j->optH Sym.nil o ⟨7,true,cellsL ((F k).map Pb.St.v)⟩ j=none:=fun j hj=>by rw[B7 (fun i hi=>by have:=ho i hi;omega)];rfl
  have ne0:=Q3 c (c+1) (c+2) (by omega);repeat' ((with_reducible first|apply wr|refine cpc hc ?_|fail)<;>try simp only[go_sem,seval,hd,hg,Pb.St.v_w,h_same,A1])
  refine⟨by and_intros<;>(repeat rw[hnO])<;>exact hbn _ (by omega),?_⟩;repeat' ((with_reducible first|apply wr|refine cpc hct ?_|fail)<;>try simp only[go_sem,seval,h_same])
  refine⟨by and_intros<;>(repeat rw[hnO])<;>exact hbn _ (by omega),?_⟩;repeat' ((with_reducible first|apply wr|refine cpc hcy ?_|fail)<;>try simp only[go_sem,seval,h_same,A1])
  refine⟨by and_intros<;>(repeat rw[hnO])<;>exact hbn _ (by omega),?_⟩;repeat' (apply wr<;>try simp only[go_sem,seval,h_same])
  refine E9 (D8 (cs:=cellsL ((F k).map Pb.St.v)) (fun e=>by rw[hno e];exact⟨rfl,rfl⟩) (fun i hi=>by have:=ho i hi;rw[hnO,hnO];exact Z8 hi) hln (by omega) (by omega) (by omega)) ?_;simp only[go_sem,seval];repeat' (apply wr<;>try simp only[go_sem,seval,hw])
  refine⟨(k+1,some (c+1+17+1)),by simp[todoV,e0],?_,inv ⟨by omega,(fun h=>by cases h),(fun i hi=>by cases hi;omega)⟩,by simp only;omega⟩;dsimp only[optH];rw[e0,A0R,B8];refine X8 ?_;cases x with|mk kk n t a x y p=>simp only[Pb.St.plain,Ex.plains_map,Pb.St.plains_map,Pb.St.kind,Pb.St.name,Pb.St.text,Pb.St.args,Pb.St.thn,Pb.St.els,Pb.St.pos,B9g]
 ·have hd:=dfz hlt;repeat' (apply wr<;>try simp only[go_sem,seval,hd])
  rw[hF,A0I (by omega)];exact A2j (fun e=>by have:=hno e;rw[hF,A0I (by omega)]at this;rw[this];rfl) (by simp) (A5h _)
theorem c_Plain31(r:Ru)(hB:r.sz<=100000000000):PC Tryz.prog 36 [r.v] r.plain.v:=by
 refine PC.ofT A4 rfl (A0B rfl) (by simp[DV.nlL,DV.nl,J6,J5]) (Ru.nl _) ?_;obtain⟨D,M⟩:=r;have hDs:(D.map Dc.sz).sum+(M.map Md.sz).sum<=100000000000:=hB;have hDl:D.length<=(D.map Dc.sz).sum:=G3 fun x _=>by show 1<=1+_;omega
 have hMl:M.length<=(M.map Md.sz).sum:=G3 fun x _=>by show 1<=1+_+_;omega
 dsimp only[Ru.v,Ru.plain];repeat' (apply wr<;>try simp only[go_sem,seval])
 obtain⟨F,hF⟩:∃ F:Nat->List Dc, ∀ k,F k=(D.take k).map Dc.plain:=⟨_,fun _=>rfl⟩;have hF0:F 0=[]:=by rw[hF];rfl
 have hFl:∀ k,(F k).length<=D.length:=fun k=>by rw[hF,A0F,A0W];omega
 refine C1 (fun q:Nat × Option Nat=>[(1,.ptr 0 0),(2,.ptr 1 0),(3,.ptr 2 0),(4,I64 q.1)]) (fun q=>optH (((Sym.nil.upd 0 ⟨0,true,[C5 D,E4 M]⟩).upd 1 ⟨0,true,[.snil,.snil]⟩).upd 2 ⟨0,true,[todoV q.2 (F q.1).length,.snil]⟩) q.2 ⟨4,true,cellsL ((F q.1).map Dc.v)⟩)
  (fun q c=>3<=c/\q.1<=D.length/\(q.2=none->F q.1=[])/\(∀ i,q.2=some i->3<=i/\i<c)) (fun q=>D.length-q.1) (0,none)
  (by simp[C6,tm,Tm.upd]) (Sub.refl _) ⟨by omega,A0O _,fun _=>hF0,(fun i hi=>by cases hi)⟩ ?_
 rintro⟨k,o⟩ c ⟨hc,hk,hno,ho⟩;dsimp only at hc hk hno ho ⊢;have hbr:optH (((Sym.nil.upd 0 ⟨0,true,[C5 D,E4 M]⟩).upd 1 ⟨0,true,[.snil,.snil]⟩).upd 2 ⟨0,true,[todoV o (F k).length,.snil]⟩) o ⟨4,true,cellsL ((F k).map Dc.v)⟩ 0=some ⟨0,true,[C5 D,E4 M]⟩:=by rw[B7 (fun i hi=>by have:=ho i hi;omega),hnO,hnO,h_same]
 by_cases hlt:k<D.length
 ·have hd:=dtz hlt;have hg:=A0C hlt;have hw:=w64 (n:=(k:Int)+1);have e0:F (k+1)=F k++[D[k].plain]:=by rw[hF,hF,A0S,hg,A0R];rfl
  have hFk:=hFl k;generalize D[k]=x at hg e0;have hln:(cellsL ((F k).map Dc.v)).length=(F k).length * 4:=(B6 (u:=4) (A3c _)).trans (by simp);have hbx:optH (((Sym.nil.upd 0 ⟨0,true,[C5 D,E4 M]⟩).upd 1 ⟨0,true,[.snil,.snil]⟩).upd 2 ⟨0,true,[todoV o (F k).length,.snil]⟩) o ⟨4,true,cellsL ((F k).map Dc.v)⟩ 2=some ⟨0,true,[todoV o (F k).length,.snil]⟩:=by rw[B7 (fun i hi=>by have:=ho i hi;omega),h_same]
  have hb1:optH (((Sym.nil.upd 0 ⟨0,true,[C5 D,E4 M]⟩).upd 1 ⟨0,true,[.snil,.snil]⟩).upd 2 ⟨0,true,[todoV o (F k).length,.snil]⟩) o ⟨4,true,cellsL ((F k).map Dc.v)⟩ 1=some ⟨0,true,[.snil,.snil]⟩:=by rw[B7 (fun i hi=>by have:=ho i hi;omega),hnO,h_same]
  have hbo:∀ i:Nat,o=some i->optH (((Sym.nil.upd 0 ⟨0,true,[C5 D,E4 M]⟩).upd 1 ⟨0,true,[.snil,.snil]⟩).upd 2 ⟨0,true,[todoV o (F k).length,.snil]⟩) o ⟨4,true,cellsL ((F k).map Dc.v)⟩ i=some ⟨4,true,cellsL ((F k).map Dc.v)⟩:=fun i hi=>by subst hi;exact h_same
  have hdx:∀ X:Hp,delO X o 2=X 2:=fun X=>D1 (fun i hi=>by have:=ho i hi;omega);generalize hHH:optH (((Sym.nil.upd 0 ⟨0,true,[C5 D,E4 M]⟩).upd 1 ⟨0,true,[.snil,.snil]⟩).upd 2 ⟨0,true,[todoV o (F k).length,.snil]⟩) o ⟨4,true,cellsL ((F k).map Dc.v)⟩=HH at hbr hbx hbo hb1 ⊢;have ne0:=A4t 0 1 2 c (c+1) (c+1+1) (by omega);repeat' (apply wr<;>try simp only[go_sem,seval,hd,hg,hbr,hbx,ne0,h_same,A1])
  refine E9 (D8 (cs:=cellsL ((F k).map Dc.v)) (fun e=>by rw[hno e];exact⟨rfl,rfl⟩) (fun i hi=>by have:=ho i hi;rw[hnO,hnO];exact hbo i hi) hln (by omega) (by omega) (by omega)) ?_;simp only[go_sem,seval,ne0,hdx,hbx];repeat' (apply wr<;>try simp only[go_sem,seval,hw,ne0])
  refine⟨(k+1,some (c+1+1)),by simp[],?_,inv ⟨by omega,by omega,(fun h=>by cases h),(fun i hi=>by cases hi;omega)⟩,by simp only;omega⟩;dsimp only[optH,todoV];rw[e0,A0R,B8,A0A,A0H];intro j b hj;by_cases e1:j=c+1+1
  ·subst e1;rw[h_same]at hj;rw[hnO,h_same, <- hj];rfl
  rw[h_ne e1]at hj;by_cases e2:j=2
  ·subst e2;rw[h_same]at hj ⊢;exact hj
  rw[h_ne e2]at hj ⊢;rw[h_ne e1];by_cases e3:j=1
  ·subst e3;rw[h_same]at hj;rw[D1 (fun i hi=>by have:=ho i hi;omega),hnO,hnO,hb1];exact hj
  rw[h_ne e3]at hj;by_cases e4:j=0
  ·subst e4;rw[h_same]at hj;rw[D1 (fun i hi=>by have:=ho i hi;omega),hnO,hnO,hbr];exact hj
  ·rw[h_ne e4]at hj;cases hj
 ·have hd:=dfz hlt;repeat' (apply wr<;>try simp only[go_sem,seval,hd,hbr])
  refine IW.keep [1,2,3,6] [.ptr 0 0,.ptr 1 0,.ptr 2 0,I64 0] (g_fin (Hb:=((Sym.nil.upd 0 ⟨0,true,[C5 D,E4 M]⟩).upd 1 ⟨0,true,[.snil,.snil]⟩)) (ci:=2) (u:=4) (pre:=[]) (suf:=[.snil]) (xs:=(F k).map Dc.v) (by simp[DV.one]) (fun h=>by rw[hno h];rfl) (fun i hi=>by have:=ho i hi;exact⟨by omega,by rw[hnO,hnO];rfl⟩) (by simp) (A3c _)) ?_;have hFD:F k=D.map Dc.plain:=by rw[hF,A0I (by omega)]
  rw[hFD];clear hno ho hbr hFD hlt hd hFl hF0 hF hk;obtain⟨G,hG⟩:∃ G:Nat->List Md, ∀ k,G k=(M.take k).map Md.plain:=⟨_,fun _=>rfl⟩;have hG0:G 0=[]:=by rw[hG];rfl
  have hGl:∀ k,(G k).length<=M.length:=fun k=>by rw[hG,A0F,A0W];omega
  refine C1 (fun q:Nat × Option Nat=>[(1,.ptr 0 0),(2,.ptr 1 0),(3,.ptr 2 0),(6,I64 q.1)]) (fun q=>optH (((Sym.nil.upd 0 ⟨0,true,[C5 D,E4 M]⟩).upd 1 ⟨0,true,[.snil,.snil]⟩).upd 2 ⟨0,true,[C5 (D.map Dc.plain),todoV q.2 (G q.1).length]⟩) q.2 ⟨4,true,cellsL ((G q.1).map Md.v)⟩)
   (fun q c=>3<=c/\q.1<=M.length/\(q.2=none->G q.1=[])/\(∀ i,q.2=some i->3<=i/\i<c)) (fun q=>M.length-q.1) (0,none)
   (by simp[C6,tm,Tm.upd]) (by rw[hG0];exact Sub.refl _) ⟨hc,A0O _,fun _=>hG0,(fun i hi=>by cases hi)⟩ ?_
  clear hc k c o;rintro⟨k,o⟩ c ⟨hc,hk,hno,ho⟩;dsimp only at hc hk hno ho ⊢;have hGk:=hGl k;have hbr:optH (((Sym.nil.upd 0 ⟨0,true,[C5 D,E4 M]⟩).upd 1 ⟨0,true,[.snil,.snil]⟩).upd 2 ⟨0,true,[C5 (D.map Dc.plain),todoV o (G k).length]⟩) o ⟨4,true,cellsL ((G k).map Md.v)⟩ 0=some ⟨0,true,[C5 D,E4 M]⟩:=by rw[B7 (fun i hi=>by have:=ho i hi;omega),hnO,hnO,h_same]
  have hbx:optH (((Sym.nil.upd 0 ⟨0,true,[C5 D,E4 M]⟩).upd 1 ⟨0,true,[.snil,.snil]⟩).upd 2 ⟨0,true,[C5 (D.map Dc.plain),todoV o (G k).length]⟩) o ⟨4,true,cellsL ((G k).map Md.v)⟩ 2=some ⟨0,true,[C5 (D.map Dc.plain),todoV o (G k).length]⟩:=by rw[B7 (fun i hi=>by have:=ho i hi;omega),h_same]
  have hb1:optH (((Sym.nil.upd 0 ⟨0,true,[C5 D,E4 M]⟩).upd 1 ⟨0,true,[.snil,.snil]⟩).upd 2 ⟨0,true,[C5 (D.map Dc.plain),todoV o (G k).length]⟩) o ⟨4,true,cellsL ((G k).map Md.v)⟩ 1=some ⟨0,true,[.snil,.snil]⟩:=by rw[B7 (fun i hi=>by have:=ho i hi;omega),hnO,h_same]
  have hbo:∀ i:Nat,o=some i->optH (((Sym.nil.upd 0 ⟨0,true,[C5 D,E4 M]⟩).upd 1 ⟨0,true,[.snil,.snil]⟩).upd 2 ⟨0,true,[C5 (D.map Dc.plain),todoV o (G k).length]⟩) o ⟨4,true,cellsL ((G k).map Md.v)⟩ i=some ⟨4,true,cellsL ((G k).map Md.v)⟩:=fun i hi=>by subst hi;exact h_same
  have hbn:∀ j:Nat,c<=j->optH (((Sym.nil.upd 0 ⟨0,true,[C5 D,E4 M]⟩).upd 1 ⟨0,true,[.snil,.snil]⟩).upd 2 ⟨0,true,[C5 (D.map Dc.plain),todoV o (G k).length]⟩) o ⟨4,true,cellsL ((G k).map Md.v)⟩ j=none:=fun j hj=>by rw[B7 (fun i hi=>by have:=ho i hi;omega),hnO,hnO,hnO];rfl
  have hT:(todoV o (G k).length).one=true:=by cases o<;>rfl
  have hdx:∀ X:Hp,delO X o 2=X 2:=fun X=>D1 (fun i hi=>by have:=ho i hi;omega);by_cases hlt:k<M.length
  ·have hd:=dtz hlt;have hg:=A0C hlt;have hw:=w64 (n:=(k:Int)+1);have e0:G (k+1)=G k++[M[k].plain]:=by rw[hG,hG,A0S,hg,A0R];rfl
   have hsx:=I5 (f:=Md.sz) (A0Q hlt);generalize M[k]=x at hg hsx e0;have hxs:(x.hds.map Hd.sz).sum<Md.sz x:=by unfold Md.sz;omega
   have hxl:x.hds.length<=(x.hds.map Hd.sz).sum:=G3 fun x _=>by show 1<=1+_+_;omega
   have hln:(cellsL ((G k).map Md.v)).length=(G k).length * 4:=(B6 (u:=4) (A9v _)).trans (by simp);generalize hHH:optH (((Sym.nil.upd 0 ⟨0,true,[C5 D,E4 M]⟩).upd 1 ⟨0,true,[.snil,.snil]⟩).upd 2 ⟨0,true,[C5 (D.map Dc.plain),todoV o (G k).length]⟩) o ⟨4,true,cellsL ((G k).map Md.v)⟩=HH at hbr hbx hbo hb1 hbn ⊢;have ne0:=W7 0 1 2 (c+13) (by omega);repeat' (apply wr<;>try simp only[go_sem,seval,hd,hg,hbr,ne0,h_same,A1])
   obtain⟨K,hK⟩:∃ K:Nat->List Hd, ∀ j,K j=(x.hds.take j).map Hd.plain:=⟨_,fun _=>rfl⟩;have hK0:K 0=[]:=by rw[hK];rfl
   have hKl:∀ j,(K j).length<=x.hds.length:=fun j=>by rw[hK,A0F,A0W];omega
   refine C1 (fun q:Nat × Option Nat=>[(1,.ptr 0 0),(2,.ptr 1 0),(3,.ptr 2 0),(6,I64 k),(7,.ptr (c+13) 0),(8,I64 q.1)]) (fun q=>optH (HH.upd (c+13) ⟨0,true,[.str x.name,I64 x.prio,todoV q.2 (K q.1).length,I64 0]⟩) q.2 ⟨4,true,cellsL ((K q.1).map Hd.v)⟩)
    (fun q n=>c+15<=n/\q.1<=x.hds.length/\(q.2=none->K q.1=[])/\(∀ i,q.2=some i->c+15<=i/\i<n)) (fun q=>x.hds.length-q.1) (0,none)
    (by simp[C6,tm,Tm.upd]) (by rw[hK0];exact Sub.refl _) ⟨A0G _,A0O _,fun _=>hK0,(fun i hi=>by cases hi)⟩ ?_
   rintro⟨j,o2⟩ n ⟨hn,hj,hno2,ho2⟩;dsimp only at hn hj hno2 ho2 ⊢;have hKj:=hKl j;have h2r:optH (HH.upd (c+13) ⟨0,true,[.str x.name,I64 x.prio,todoV o2 (K j).length,I64 0]⟩) o2 ⟨4,true,cellsL ((K j).map Hd.v)⟩ 0=some ⟨0,true,[C5 D,E4 M]⟩:=by rw[B7 (fun i hi=>by have:=ho2 i hi;omega),hnO,hbr]
   have h2b:optH (HH.upd (c+13) ⟨0,true,[.str x.name,I64 x.prio,todoV o2 (K j).length,I64 0]⟩) o2 ⟨4,true,cellsL ((K j).map Hd.v)⟩ (c+13)=some ⟨0,true,[.str x.name,I64 x.prio,todoV o2 (K j).length,I64 0]⟩:=by rw[B7 (fun i hi=>by have:=ho2 i hi;omega),h_same]
   have h2o:∀ i:Nat,o2=some i->optH (HH.upd (c+13) ⟨0,true,[.str x.name,I64 x.prio,todoV o2 (K j).length,I64 0]⟩) o2 ⟨4,true,cellsL ((K j).map Hd.v)⟩ i=some ⟨4,true,cellsL ((K j).map Hd.v)⟩:=fun i hi=>by subst hi;exact h_same
   have h2n:∀ i:Nat,n<=i->optH (HH.upd (c+13) ⟨0,true,[.str x.name,I64 x.prio,todoV o2 (K j).length,I64 0]⟩) o2 ⟨4,true,cellsL ((K j).map Hd.v)⟩ i=none:=fun i hi=>by rw[B7 (fun i hi=>by have:=ho2 i hi;omega),hnO];exact hbn _ (by omega)
   have h2j:∀ i:Nat,i<c+13->optH (HH.upd (c+13) ⟨0,true,[.str x.name,I64 x.prio,todoV o2 (K j).length,I64 0]⟩) o2 ⟨4,true,cellsL ((K j).map Hd.v)⟩ i=HH i:=fun i hi=>by rw[B7 (fun i hi=>by have:=ho2 i hi;omega),hnO]
   have hT2:(todoV o2 (K j).length).one=true:=by cases o2<;>rfl
   have hdx2:∀ X:Hp,delO X o2 (c+13)=X (c+13):=fun X=>D1 (fun i hi=>by have:=ho2 i hi;omega);by_cases hjl:j<x.hds.length
   ·have hdj:decide ((j:Int)<(x.hds.length:Int))=true:=by simpa using hjl
    have hgj:=A0C hjl;have hwj:=w64 (n:=(j:Int)+1);have k0:K (j+1)=K j++[x.hds[j].plain]:=by rw[hK,hK,A0S,hgj,A0R];rfl
    have hsj:=I5 (f:=Hd.sz) (A0Q hjl);generalize x.hds[j]=y at hgj hsj k0;have hbs:Pb.St.szs y.body<Hd.sz y:=by unfold Hd.sz;omega
    have cb:=c_plainS (Pb.St.szs y.body+1) y.body (by omega) (by omega);have hlj:(cellsL ((K j).map Hd.v)).length=(K j).length * 4:=(B6 (u:=4) (A2u _)).trans (by simp);generalize hH2:optH (HH.upd (c+13) ⟨0,true,[.str x.name,I64 x.prio,todoV o2 (K j).length,I64 0]⟩) o2 ⟨4,true,cellsL ((K j).map Hd.v)⟩=H2 at h2r h2b h2o h2n h2j ⊢;have ne0:=A1p 0 1 2 (c+13) n (by omega);repeat' ((with_reducible first|apply wr|refine cpc cb ?_|fail)<;>try simp only[go_sem,seval,hdj,hg,hgj,h2r,h2b,ne0,h_same,A1])
    refine⟨by and_intros<;>(repeat rw[hnO])<;>exact h2n _ (by omega),?_⟩;rw[D8 (cs:=cellsL ((K j).map Hd.v)) (fun e=>by rw[hno2 e];exact⟨rfl,rfl⟩) (fun i hi=>by have:=ho2 i hi;rw[hnO,hnO];exact h2o i hi) hlj (by omega) (by omega) (by omega)];have ne0:=D6d 0 1 2 (c+13) n (n+1+10) (n+1+14) (by omega);simp only[go_sem,seval,ne0,hdx2,h2b];repeat' (apply wr<;>try simp only[go_sem,seval,ne0,hwj])
    refine⟨(j+1,some (n+1+14)),by simp,?_,inv ⟨by omega,by omega,(fun h=>by cases h),(fun i hi=>by cases hi;omega)⟩,by simp only;omega⟩;dsimp only[optH,todoV];rw[k0,A0R,B8,A0A,A0H];intro i b hi;by_cases e1:i=n+1+14
    ·subst e1;rw[h_same]at hi;rw[hnO,h_same, <- hi];simp only[Hd.plain,Pb.St.plains_map];rfl
    rw[h_ne e1]at hi;by_cases e2:i=c+13
    ·subst e2;rw[h_same]at hi ⊢;exact hi
    rw[h_ne e2]at hi ⊢;rw[h_ne e1];have hic:i<c:=Classical.byContradiction fun h=>by rw[hbn i (by omega)]at hi;cases hi
    rw[D1 (fun i' hi'=>by have:=ho2 i' hi';omega),hnO,hnO,h2j i (by omega)];exact hi
   ·have hdj:decide ((j:Int)<(x.hds.length:Int))=false:=by simpa using hjl
    have ne0:=A1p 0 1 2 (c+13) n (by omega);repeat' ((with_reducible first|refine G0 (p:=IW _ _ (pz Tryz.prog 36 (.o (.o (.o (.i (.i .h)))))) _ _) ?_|refine wr ?_|fail)<;>try simp only[go_sem,seval,hdj,hg,h2r,ne0])
    unfold A7u;have hKM:K j=x.hds.map Hd.plain:=by rw[hK,A0I (by omega)]
    refine IW.keep [1,2,3,6,7] [.ptr 0 0,.ptr 1 0,.ptr 2 0,I64 k,.ptr (c+13) 0] (g_fin (Hb:=HH) (ci:=c+13) (u:=4) (pre:=[.str x.name,I64 x.prio]) (suf:=[I64 0]) (xs:=(K j).map Hd.v) (by simp[DV.one]) (fun h=>by rw[hno2 h];rfl) (fun i hi=>by have:=ho2 i hi;exact⟨by omega,hbn _ (by omega)⟩) (by simp) (A2u _)) ?_;rw[hKM];dsimp only[List.cons_append,List.nil_append];show IW Tryz.prog _ _ ⟨tm [(1,.ptr 0 0),(2,.ptr 1 0),(3,.ptr 2 0),(6,I64 k),(7,.ptr (c+13) 0)],_,_⟩ _;have ne0:=A4t 0 1 2 (c+13) n (n+1) (by omega);repeat' (apply wr<;>try simp only[go_sem,seval,hbx,ne0,h_same])
    refine E9 (D8 (cs:=cellsL ((G k).map Md.v)) (fun e=>by rw[hno e];exact⟨rfl,rfl⟩) (fun i hi=>by have:=ho i hi;rw[hnO,hnO];exact hbo i hi) hln (by omega) (by omega) (by omega)) ?_;simp only[go_sem,seval,ne0,hdx,hbx];repeat' (apply wr<;>try simp only[go_sem,seval,hw,ne0])
    refine⟨(k+1,some (n+1)),by simp[],?_,inv ⟨by omega,by omega,(fun h=>by cases h),(fun i hi=>by cases hi;omega)⟩,by simp only;omega⟩;dsimp only[optH,todoV];rw[e0,A0R,B8,A0A,A0H];intro i b hi;by_cases e1:i=n+1
    ·subst e1;rw[h_same]at hi;rw[hnO,h_same, <- hi];rfl
    rw[h_ne e1]at hi;by_cases e2:i=2
    ·subst e2;rw[h_same]at hi ⊢;exact hi
    rw[h_ne e2]at hi ⊢;rw[h_ne e1];by_cases e3:i=1
    ·subst e3;rw[h_same]at hi;rw[D1 (fun i hi=>by have:=ho i hi;omega),hnO,hnO,hb1];exact hi
    rw[h_ne e3]at hi;by_cases e4:i=0
    ·subst e4;rw[h_same]at hi;rw[D1 (fun i hi=>by have:=ho i hi;omega),hnO,hnO,hbr];exact hi
    ·rw[h_ne e4]at hi;cases hi
  ·have hd:=dfz hlt;generalize hHH:optH (((Sym.nil.upd 0 ⟨0,true,[C5 D,E4 M]⟩).upd 1 ⟨0,true,[.snil,.snil]⟩).upd 2 ⟨0,true,[C5 (D.map Dc.plain),todoV o (G k).length]⟩) o ⟨4,true,cellsL ((G k).map Md.v)⟩=HH at hbr hbx hbo hb1 hbn ⊢;have ne0:=Q3 0 1 2 (by omega);repeat' (apply wr<;>try simp only[go_sem,seval,hd,hbr,hbx,hb1,ne0])
   refine E9 (B0l (by rfl) (by decide) (by cases o<;>rfl)) ?_;simp only[go_sem,seval];repeat' (apply wr<;>try simp only[go_sem,seval])
   rw[E0 (rv2 rfl rfl)];have hGM:M.map Md.plain=G k:=by rw[hG,A0I (by omega)]
   rw[hGM];exact⟨Sym.nil,C6x (cc:=0) (G k) (fun _ _=>rfl) (fun _ _=>A0O _) hno (fun i hi=>by have:=ho i hi;show (HH.upd 1 _) i=_;rw[hnO];exact hbo i hi) (fun j hj=>by omega)⟩
theorem c_ValidR31(r:Ru)(hB:r.sz<4000000):PC Tryz.prog 27 [r.v] (.bool (B6x r)):=by
 refine PC.go A4 ?_;have hg:=C1q r;have hGT:∀ t∈ruT r,F8 t:=fun t ht=>(hg t ht).1;have hval:∀ t∈ruT r,0<=t.value/\t.value<=9223372036854775807:=fun t ht=>by have:=(hg t ht).2;omega
 obtain⟨l1,l2⟩:=C3x r;have hsz:=B5i (E:=0) hGT;have ht:=c_rulesT r hB (by omega);have hp:=c_Plain31 r (by omega);obtain⟨f,hf⟩:=(A6i (ruT r) 0).get;have hr:=c_rules (ruT r) 0 (by omega) hval f rd0 _ hf (A0O _);have hv:B6x r=(okR (V6 (ruT r) 0).2 && B3c (V6 (ruT r) 0).1.plain r.plain):=rfl;rw[hv];have hpo:=c_Plain31 (V6 (ruT r) 0).1 (by omega);have hps:(V6 (ruT r) 0).1.plain.sz<=100000000000:=by rw[Ru.plain_sz];omega
 have hsm:=c_Same31 (V6 (ruT r) 0).1.plain r.plain hps;generalize V6 (ruT r) 0=w at hr hpo hsm hsz ⊢;generalize hL:ruT r=L at ht hr;repeat' ((with_reducible first|apply wr|refine cpc ht ?_|fail)<;>try simp only[go_sem,seval])
 refine AC.call (hr _ _ 1 rfl (by decide)) ?_;rintro v H' c2 ⟨rfl,rfl⟩ hc2;dsimp only at hc2 ⊢;have ne0:=Q3 0 1 c2 (by omega);simp only[go_sem,seval,h_same,A1];repeat' (apply wr<;>try simp only[go_sem,seval])
 refine AC.call (c_rdok L 0 w.2 _ _ 1 (by rw[hnO];exact h_same) (by omega)) ?_;rintro v H' c3 ⟨rfl,rfl⟩ hc3;cases hok:okR w.2 with
 |false =>
  simp only[go_sem,seval];repeat' (apply wr<;>try simp only[go_sem,seval,hok,ne0,h_same,A1])
  refine⟨by repeat rw[hnO]<;>rfl,?_⟩;repeat' (apply wr<;>try simp only[go_sem,seval])
  exact⟨_,GL.refl _ _⟩
 |true =>
  simp only[go_sem,seval,ne0,h_same];repeat' ((with_reducible first|apply wr|refine cpc hpo ?_|fail)<;>try simp only[go_sem,seval,ne0,h_same])
  refine⟨by and_intros<;>(repeat rw[hnO])<;>rfl,?_⟩;repeat' ((with_reducible first|apply wr|refine cpc hp ?_|refine cpc hsm ?_|fail)<;>try simp only[go_sem,seval])
  exact⟨_,GL.refl _ _⟩
theorem c_ValidE31(e:Ex)(hB:e.sz<4000000):PC Tryz.prog 166 [e.v] (.bool (A7y e)):=by
 refine PC.go A4 ?_;have hg:=B6k e;have hGT:∀ t∈exT e,F8 t:=fun t ht=>(hg t ht).1;obtain⟨l1,l2⟩:=Y4 e;have hsz:=B4u (E:=0) hGT;have ht:=c_exprT (e.sz+1) e (by omega) (by omega);obtain⟨f,hf⟩:=(A5x (exT e) 0).get;have hr:=c_expression (exT e) 0 (by omega) f rd0 _ hf (A0O _);have hv:A7y e=(okR (P8 (exT e) 0).2 && (decide ((P8 (exT e) 0).2.i=(exT e).length) && A3b true (P8 (exT e) 0).1 e)):=rfl;rw[hv];have hsm:=c_sameE true ((P8 (exT e) 0).1.sz+1) (P8 (exT e) 0).1 e (by omega) (by omega);generalize P8 (exT e) 0=w at hr hsm hsz ⊢;generalize hL:exT e=L at ht hr;rw[Ex.v_w]at ht ⊢;rw[Ex.v_w,Ex.v_w]at hsm;repeat' ((with_reducible first|apply wr|refine cpc ht ?_|fail)<;>try simp only[go_sem,seval])
 refine AC.call (hr _ _ 1 rfl (by decide)) ?_;rintro v H' c2 ⟨rfl,rfl⟩ hc2;dsimp only at hc2 ⊢;rw[Ex.v_w];have ne0:=Q3 0 1 c2 (by omega);simp only[go_sem,seval,h_same,A1];repeat' (apply wr<;>try simp only[go_sem,seval])
 refine AC.call (c_rdok L 0 w.2 _ _ 1 (by rw[hnO];exact h_same) (by omega)) ?_;rintro v H' c3 ⟨rfl,rfl⟩ hc3;cases hok:okR w.2 with
 |false =>
  simp only[go_sem,seval];repeat' (apply wr<;>try simp only[go_sem,seval])
  exact⟨_,GL.refl _ _⟩
 |true =>
  by_cases hlt:w.2.i=L.length
  ·have hd:((w.2.i:Int) == (L.length:Int))=true:=by simp[hlt]
   simp only[go_sem,seval,hd,ne0,h_same];repeat' ((with_reducible first|apply wr|refine cpc hsm ?_|fail)<;>try simp only[go_sem,seval])
   rw[decide_eq_true hlt,A1S];exact⟨_,GL.refl _ _⟩
  ·have hd:((w.2.i:Int) == (L.length:Int))=false:=by simp;omega
   simp only[go_sem,seval,hd,ne0,h_same];repeat' (apply wr<;>try simp only[go_sem,seval])
   rw[decide_eq_false hlt,Bool.false_and];exact⟨_,GL.refl _ _⟩
end Go.Proofs.YtkkjpohaffjecaaGreatDoor
set_option maxHeartbeats 4000000
namespace Go.Proofs.YtkkjpohaffjecaaGreatDoor
open Go.Eng (IC IOper DReg IFn J0)
open Go.Sym
abbrev x224:XT Tryz.prog 224:=mkF
instance t224:FT Tryz.prog 224 x224.d:=x224.ft
abbrev x153:XT Tryz.prog 153:=mkF
instance t153:FT Tryz.prog 153 x153.d:=x153.ft
abbrev x231:XT Tryz.prog 231:=mkF
instance t231:FT Tryz.prog 231 x231.d:=x231.ft
abbrev x227:XT Tryz.prog 227:=mkF
instance t227:FT Tryz.prog 227 x227.d:=x227.ft
abbrev x226:XT Tryz.prog 226:=mkF
instance t226:FT Tryz.prog 226 x226.d:=x226.ft
abbrev x210:XT Tryz.prog 210:=mkF
instance t210:FT Tryz.prog 210 x210.d:=x210.ft
abbrev x271:XT Tryz.prog 271:=mkF
instance t271:FT Tryz.prog 271 x271.d:=x271.ft
abbrev x135:XT Tryz.prog 135:=mkF
instance t135:FT Tryz.prog 135 x135.d:=x135.ft
abbrev x203:XT Tryz.prog 203:=mkF
instance t203:FT Tryz.prog 203 x203.d:=x203.ft
abbrev x204:XT Tryz.prog 204:=mkF
instance t204:FT Tryz.prog 204 x204.d:=x204.ft
abbrev x270:XT Tryz.prog 270:=mkF
instance t270:FT Tryz.prog 270 x270.d:=x270.ft
abbrev x66:XT Tryz.prog 66:=mkF
instance t66:FT Tryz.prog 66 x66.d:=x66.ft
abbrev x69:XT Tryz.prog 69:=mkF
instance t69:FT Tryz.prog 69 x69.d:=x69.ft
abbrev x26:XT Tryz.prog 26:=mkF
instance t26:FT Tryz.prog 26 x26.d:=x26.ft
abbrev x65:XT Tryz.prog 65:=mkF
instance t65:FT Tryz.prog 65 x65.d:=x65.ft
abbrev x68:XT Tryz.prog 68:=mkF
instance t68:FT Tryz.prog 68 x68.d:=x68.ft
abbrev x64:XT Tryz.prog 64:=mkF
instance t64:FT Tryz.prog 64 x64.d:=x64.ft
abbrev x132:XT Tryz.prog 132:=mkF
instance t132:FT Tryz.prog 132 x132.d:=x132.ft
abbrev x67:XT Tryz.prog 67:=mkF
instance t67:FT Tryz.prog 67 x67.d:=x67.ft
abbrev x134:XT Tryz.prog 134:=mkF
instance t134:FT Tryz.prog 134 x134.d:=x134.ft
abbrev x202:XT Tryz.prog 202:=mkF
instance t202:FT Tryz.prog 202 x202.d:=x202.ft
abbrev x268:XT Tryz.prog 268:=mkF
instance t268:FT Tryz.prog 268 x268.d:=x268.ft
abbrev x269:XT Tryz.prog 269:=mkF
instance t269:FT Tryz.prog 269 x269.d:=x269.ft
abbrev x319:XT Tryz.prog 319:=mkF
instance t319:FT Tryz.prog 319 x319.d:=x319.ft
end Go.Proofs.YtkkjpohaffjecaaGreatDoor
set_option maxHeartbeats 8000000
namespace Go.Proofs.YtkkjpohaffjecaaGreatDoor
open Go.Eng (IC IOper DReg IFn J0)
open Go.Sym Go.Pb
theorem c_IF_dc{g:Dc->Bool}{f:Nat}{a cs:List DV}(xs:List (Dc))(hx:xs.length<=9223372036854775807)(na:DV.nlL a=true)(ncs:DV.nlL cs=true)(hf:∀ x∈xs,PC Tryz.prog f (a++[Dc.v x]++cs) (.bool (g x))):
  PC Tryz.prog 132 [C5 xs,.func f a cs] (I64 (X1 g xs 0)):=by
 refine PC.ofT A4 rfl (A0B rfl) (by simp[DV.nlL,DV.nl,J6,na,ncs]) rfl ?_;repeat' (apply wr<;>try simp only[go_sem,seval,A0F])
 refine C1 (fun k:Nat=>[(0,C5 xs),(1,.func f a cs),(7,I64 xs.length),(8,I64 k)]) (fun _=>nil) (fun k _=>k<=xs.length/\X1 g xs 0=X1 g (xs.drop k) k) (fun k=>xs.length-k) 0 (by simp[C6,tm,Tm.upd]) (Sub.nil _) (by simp) ?_;rintro k c ⟨hk,he⟩;by_cases hlt:k<xs.length
 ·have hd:=dtz hlt;have hg:=A0C hlt;have hw:=w64 (n:=(k:Int)+1);have hst:=A0q (g:=g) hg;have hc:=hf xs[k] (A0Q hlt);repeat' ((with_reducible first|refine wr ?_|refine cpc hc ?_|refine wb2 ?_ ?_<;>(intro hb;try simp only[hb])|fail)<;>try simp only[go_sem,seval,hd,hg,hw])
  ·refine A6 ?_;rw[he,hst,hb];rfl
  ·exact⟨k+1,rfl,Sub.refl _,inv ⟨by omega,by rw[he,hst,hb];rfl⟩,by omega⟩
 ·have hd:=dfz hlt;repeat' (apply wr<;>try simp only[go_sem,seval,hd])
  refine A6 ?_;rw[he,A2s (by omega)]
theorem c_CF_dc{g:Dc->Bool}{f:Nat}{a cs:List DV}(xs:List (Dc))(hx:xs.length<=9223372036854775807)(na:DV.nlL a=true)(ncs:DV.nlL cs=true)(hf:∀ x∈xs,PC Tryz.prog f (a++[Dc.v x]++cs) (.bool (g x))):
  PC Tryz.prog 64 [C5 xs,.func f a cs] (.bool (xs.any g)):=by
 refine PC.ofT A4 rfl (A0B rfl) (by simp[DV.nlL,DV.nl,J6,na,ncs]) rfl ?_;have hc:=c_IF_dc xs hx na ncs hf;repeat' ((with_reducible first|apply wr|refine cpc hc ?_|fail)<;>try simp only[go_sem,seval])
 refine A6 ?_;rw[A2t]
theorem c_IF_md{g:Md->Bool}{f:Nat}{a cs:List DV}(xs:List (Md))(hx:xs.length<=9223372036854775807)(na:DV.nlL a=true)(ncs:DV.nlL cs=true)(hf:∀ x∈xs,PC Tryz.prog f (a++[Md.v x]++cs) (.bool (g x))):
  PC Tryz.prog 134 [E4 xs,.func f a cs] (I64 (X1 g xs 0)):=by
 refine PC.ofT A4 rfl (A0B rfl) (by simp[DV.nlL,DV.nl,J5,na,ncs]) rfl ?_;repeat' (apply wr<;>try simp only[go_sem,seval,A0F])
 refine C1 (fun k:Nat=>[(0,E4 xs),(1,.func f a cs),(7,I64 xs.length),(8,I64 k)]) (fun _=>nil) (fun k _=>k<=xs.length/\X1 g xs 0=X1 g (xs.drop k) k) (fun k=>xs.length-k) 0 (by simp[C6,tm,Tm.upd]) (Sub.nil _) (by simp) ?_;rintro k c ⟨hk,he⟩;by_cases hlt:k<xs.length
 ·have hd:=dtz hlt;have hg:=A0C hlt;have hw:=w64 (n:=(k:Int)+1);have hst:=A0q (g:=g) hg;have hc:=hf xs[k] (A0Q hlt);repeat' ((with_reducible first|refine wr ?_|refine cpc hc ?_|refine wb2 ?_ ?_<;>(intro hb;try simp only[hb])|fail)<;>try simp only[go_sem,seval,hd,hg,hw])
  ·refine A6 ?_;rw[he,hst,hb];rfl
  ·exact⟨k+1,rfl,Sub.refl _,inv ⟨by omega,by rw[he,hst,hb];rfl⟩,by omega⟩
 ·have hd:=dfz hlt;repeat' (apply wr<;>try simp only[go_sem,seval,hd])
  refine A6 ?_;rw[he,A2s (by omega)]
theorem c_CF_md{g:Md->Bool}{f:Nat}{a cs:List DV}(xs:List (Md))(hx:xs.length<=9223372036854775807)(na:DV.nlL a=true)(ncs:DV.nlL cs=true)(hf:∀ x∈xs,PC Tryz.prog f (a++[Md.v x]++cs) (.bool (g x))):
  PC Tryz.prog 67 [E4 xs,.func f a cs] (.bool (xs.any g)):=by
 refine PC.ofT A4 rfl (A0B rfl) (by simp[DV.nlL,DV.nl,J5,na,ncs]) rfl ?_;have hc:=c_IF_md xs hx na ncs hf;repeat' ((with_reducible first|apply wr|refine cpc hc ?_|fail)<;>try simp only[go_sem,seval])
 refine A6 ?_;rw[A2t]
theorem c_IF_st{g:Pb.St->Bool}{f:Nat}{a cs:List DV}(xs:List (Pb.St))(hx:xs.length<=9223372036854775807)(na:DV.nlL a=true)(ncs:DV.nlL cs=true)(hf:∀ x∈xs,PC Tryz.prog f (a++[Pb.St.v x]++cs) (.bool (g x))):
  PC Tryz.prog 268 [H3 xs,.func f a cs] (I64 (X1 g xs 0)):=by
 refine PC.ofT A4 rfl (A0B rfl) (by simp[DV.nlL,DV.nl,Y1,na,ncs]) rfl ?_;repeat' (apply wr<;>try simp only[go_sem,seval,A0F])
 refine C1 (fun k:Nat=>[(0,H3 xs),(1,.func f a cs),(7,I64 xs.length),(8,I64 k)]) (fun _=>nil) (fun k _=>k<=xs.length/\X1 g xs 0=X1 g (xs.drop k) k) (fun k=>xs.length-k) 0 (by simp[C6,tm,Tm.upd]) (Sub.nil _) (by simp) ?_;rintro k c ⟨hk,he⟩;by_cases hlt:k<xs.length
 ·have hd:=dtz hlt;have hg:=A0C hlt;have hw:=w64 (n:=(k:Int)+1);have hst:=A0q (g:=g) hg;have hc:=hf xs[k] (A0Q hlt);rw[Pb.St.v_w]at hc;repeat' ((with_reducible first|refine wr ?_|refine cpc hc ?_|refine wb2 ?_ ?_<;>(intro hb;try simp only[hb])|fail)<;>try simp only[go_sem,seval,hd,hg,hw,Pb.St.v_w])
  ·refine A6 ?_;rw[he,hst,hb];rfl
  ·exact⟨k+1,rfl,Sub.refl _,inv ⟨by omega,by rw[he,hst,hb];rfl⟩,by omega⟩
 ·have hd:=dfz hlt;repeat' (apply wr<;>try simp only[go_sem,seval,hd])
  refine A6 ?_;rw[he,A2s (by omega)]
theorem c_CF_st{g:Pb.St->Bool}{f:Nat}{a cs:List DV}(xs:List (Pb.St))(hx:xs.length<=9223372036854775807)(na:DV.nlL a=true)(ncs:DV.nlL cs=true)(hf:∀ x∈xs,PC Tryz.prog f (a++[Pb.St.v x]++cs) (.bool (g x))):
  PC Tryz.prog 202 [H3 xs,.func f a cs] (.bool (xs.any g)):=by
 refine PC.ofT A4 rfl (A0B rfl) (by simp[DV.nlL,DV.nl,Y1,na,ncs]) rfl ?_;have hc:=c_IF_st xs hx na ncs hf;repeat' ((with_reducible first|apply wr|refine cpc hc ?_|fail)<;>try simp only[go_sem,seval])
 refine A6 ?_;rw[A2t]
theorem c_IF_ex{g:Ex->Bool}{f:Nat}{a cs:List DV}(xs:List (Ex))(hx:xs.length<=9223372036854775807)(na:DV.nlL a=true)(ncs:DV.nlL cs=true)(hf:∀ x∈xs,PC Tryz.prog f (a++[Ex.v x]++cs) (.bool (g x))):
  PC Tryz.prog 319 [F7 xs,.func f a cs] (I64 (X1 g xs 0)):=by
 refine PC.ofT A4 rfl (A0B rfl) (by simp[DV.nlL,DV.nl,Y2,na,ncs]) rfl ?_;repeat' (apply wr<;>try simp only[go_sem,seval,A0F])
 refine C1 (fun k:Nat=>[(0,F7 xs),(1,.func f a cs),(7,I64 xs.length),(8,I64 k)]) (fun _=>nil) (fun k _=>k<=xs.length/\X1 g xs 0=X1 g (xs.drop k) k) (fun k=>xs.length-k) 0 (by simp[C6,tm,Tm.upd]) (Sub.nil _) (by simp) ?_;rintro k c ⟨hk,he⟩;by_cases hlt:k<xs.length
 ·have hd:=dtz hlt;have hg:=A0C hlt;have hw:=w64 (n:=(k:Int)+1);have hst:=A0q (g:=g) hg;have hc:=hf xs[k] (A0Q hlt);rw[Ex.v_w]at hc;repeat' ((with_reducible first|refine wr ?_|refine cpc hc ?_|refine wb2 ?_ ?_<;>(intro hb;try simp only[hb])|fail)<;>try simp only[go_sem,seval,hd,hg,hw,Ex.v_w])
  ·refine A6 ?_;rw[he,hst,hb];rfl
  ·exact⟨k+1,rfl,Sub.refl _,inv ⟨by omega,by rw[he,hst,hb];rfl⟩,by omega⟩
 ·have hd:=dfz hlt;repeat' (apply wr<;>try simp only[go_sem,seval,hd])
  refine A6 ?_;rw[he,A2s (by omega)]
theorem c_CF_ex{g:Ex->Bool}{f:Nat}{a cs:List DV}(xs:List (Ex))(hx:xs.length<=9223372036854775807)(na:DV.nlL a=true)(ncs:DV.nlL cs=true)(hf:∀ x∈xs,PC Tryz.prog f (a++[Ex.v x]++cs) (.bool (g x))):
  PC Tryz.prog 269 [F7 xs,.func f a cs] (.bool (xs.any g)):=by
 refine PC.ofT A4 rfl (A0B rfl) (by simp[DV.nlL,DV.nl,Y2,na,ncs]) rfl ?_;have hc:=c_IF_ex xs hx na ncs hf;repeat' ((with_reducible first|apply wr|refine cpc hc ?_|fail)<;>try simp only[go_sem,seval])
 refine A6 ?_;rw[A2t]
end Go.Proofs.YtkkjpohaffjecaaGreatDoor
end
