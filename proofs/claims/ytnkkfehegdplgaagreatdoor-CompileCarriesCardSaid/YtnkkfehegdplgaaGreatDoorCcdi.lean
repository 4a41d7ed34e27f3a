/-
  HELPERS of the claim: part 9 of its texts.
-/
import Derived.Test.YtnkkfehegdplgaaGreatDoorCcdh
import Derived.Shelf.LaysC
import Derived.Shelf.Strconv.ParseIntPublic10
import Derived.Test.YtnkkfehegdplgaaGreatDoorProg
noncomputable section
set_option linter.unusedVariables false
namespace Go.Proofs
open Go.Shelf
def Tryz.laysC174_ren:Go.Shelf.Ren:=⟨fun |174=>211 |247=>222 |245=>223 |287=>233 |279=>234 |280=>235 |281=>236 |282=>237 |321=>243 |322=>244 |316=>245 |171=>247 |205=>246 |243=>249 |246=>252 |283=>255 |284=>256 |285=>257 |286=>258 |129=>134 |317=>260 |318=>261 |319=>262 |320=>263 |337=>264 |338=>265|n=>n,fun |9=>9 |3=>3 |2=>2 |75=>253 |85=>254 |4=>4 |167=>280 |5=>5 |53=>131 |175=>281 |46=>161 |168=>283 |37=>22 |0=>0 |210=>292 |21=>21 |127=>294 |145=>297 |143=>295 |171=>299 |173=>301 |212=>304 |51=>195 |20=>20 |213=>305 |232=>306 |233=>307 |80=>60|n=>n,fun |15=>2 |16=>3 |17=>5 |18=>6 |19=>7|n=>n⟩
theorem Tryz.laysC174:Go.Proofs.LaysC.n174 Tryz.prog Tryz.laysC174_ren:={
 mixed:=b8
 f129:=Tryz.func134.trans (congrArg some (by kernel_rfl))
 f171:=Tryz.func247.trans (congrArg some (by kernel_rfl))
 f174:=Tryz.func211.trans (congrArg some (by kernel_rfl))
 f205:=Tryz.func246.trans (congrArg some (by kernel_rfl))
 f243:=Tryz.func249.trans (congrArg some (by kernel_rfl))
 f245:=Tryz.func223.trans (congrArg some (by kernel_rfl))
 f246:=Tryz.func252.trans (congrArg some (by kernel_rfl))
 f247:=Tryz.func222.trans (congrArg some (by kernel_rfl))
 f279:=Tryz.func234.trans (congrArg some (by kernel_rfl))
 f280:=Tryz.func235.trans (congrArg some (by kernel_rfl))
 f281:=Tryz.func236.trans (congrArg some (by kernel_rfl))
 f282:=Tryz.func237.trans (congrArg some (by kernel_rfl))
 f283:=Tryz.func255.trans (congrArg some (by kernel_rfl))
 f284:=Tryz.func256.trans (congrArg some (by kernel_rfl))
 f285:=Tryz.func257.trans (congrArg some (by kernel_rfl))
 f286:=Tryz.func258.trans (congrArg some (by kernel_rfl))
 f287:=Tryz.func233.trans (congrArg some (by kernel_rfl))
 f316:=Tryz.func245.trans (congrArg some (by kernel_rfl))
 f317:=Tryz.func260.trans (congrArg some (by kernel_rfl))
 f318:=Tryz.func261.trans (congrArg some (by kernel_rfl))
 f319:=Tryz.func262.trans (congrArg some (by kernel_rfl))
 f320:=Tryz.func263.trans (congrArg some (by kernel_rfl))
 f321:=Tryz.func243.trans (congrArg some (by kernel_rfl))
 f322:=Tryz.func244.trans (congrArg some (by kernel_rfl))
 f337:=Tryz.func264.trans (congrArg some (by kernel_rfl))
 f338:=Tryz.func265.trans (congrArg some (by kernel_rfl))
 t0:=Tryz.underlying0
 a0:=Tryz.isAgg0
 z0:=Tryz.sizeOf0
 v0:=Tryz.zeroValue0
 t2:=Tryz.underlying2
 a2:=Tryz.isAgg2
 z2:=Tryz.sizeOf2
 v2:=Tryz.zeroValue2
 t3:=Tryz.underlying3
 a3:=Tryz.isAgg3
 z3:=Tryz.sizeOf3
 v3:=Tryz.zeroValue3
 t4:=Tryz.underlying4
 a4:=Tryz.isAgg4
 z4:=Tryz.sizeOf4
 v4:=Tryz.zeroValue4
 t5:=Tryz.underlying5
 a5:=Tryz.isAgg5
 z5:=Tryz.sizeOf5
 v5:=Tryz.zeroValue5
 t9:=Tryz.underlying9
 a9:=Tryz.isAgg9
 z9:=Tryz.sizeOf9
 v9:=Tryz.zeroValue9
 t20:=Tryz.underlying20
 a20:=Tryz.isAgg20
 z20:=Tryz.sizeOf20
 v20:=Tryz.zeroValue20
 t21:=Tryz.underlying21
 a21:=Tryz.isAgg21
 z21:=Tryz.sizeOf21
 v21:=Tryz.zeroValue21
 t37:=Tryz.underlying22
 a37:=Tryz.isAgg22
 z37:=Tryz.sizeOf22
 v37:=Tryz.zeroValue22
 t46:=Tryz.underlying161
 a46:=Tryz.isAgg161
 z46:=Tryz.sizeOf161
 v46:=Tryz.zeroValue161
 t51:=Tryz.underlying195
 a51:=Tryz.isAgg195
 z51:=Tryz.sizeOf195
 v51:=Tryz.zeroValue195
 t53:=Tryz.underlying131
 a53:=Tryz.isAgg131
 z53:=Tryz.sizeOf131
 v53:=Tryz.zeroValue131
 t75:=Tryz.underlying253
 a75:=Tryz.isAgg253
 z75:=Tryz.sizeOf253
 v75:=Tryz.zeroValue253
 t85:=Tryz.underlying254
 a85:=Tryz.isAgg254
 z85:=Tryz.sizeOf254
 v85:=Tryz.zeroValue254
 t127:=Tryz.underlying294
 a127:=Tryz.isAgg294
 z127:=Tryz.sizeOf294
 v127:=Tryz.zeroValue294
 t143:=Tryz.underlying295
 a143:=Tryz.isAgg295
 z143:=Tryz.sizeOf295
 v143:=Tryz.zeroValue295
 t145:=Tryz.underlying297
 a145:=Tryz.isAgg297
 z145:=Tryz.sizeOf297
 v145:=Tryz.zeroValue297
 t167:=Tryz.underlying280
 a167:=Tryz.isAgg280
 z167:=Tryz.sizeOf280
 v167:=Tryz.zeroValue280
 t168:=Tryz.underlying283
 a168:=Tryz.isAgg283
 z168:=Tryz.sizeOf283
 v168:=Tryz.zeroValue283
 t171:=Tryz.underlying299
 a171:=Tryz.isAgg299
 z171:=Tryz.sizeOf299
 v171:=Tryz.zeroValue299
 t173:=Tryz.underlying301
 a173:=Tryz.isAgg301
 z173:=Tryz.sizeOf301
 v173:=Tryz.zeroValue301
 t175:=Tryz.underlying281
 a175:=Tryz.isAgg281
 z175:=Tryz.sizeOf281
 v175:=Tryz.zeroValue281
 t210:=Tryz.underlying292
 a210:=Tryz.isAgg292
 z210:=Tryz.sizeOf292
 v210:=Tryz.zeroValue292
 t212:=Tryz.underlying304
 a212:=Tryz.isAgg304
 z212:=Tryz.sizeOf304
 v212:=Tryz.zeroValue304
 t213:=Tryz.underlying305
 a213:=Tryz.isAgg305
 z213:=Tryz.sizeOf305
 t232:=Tryz.underlying306
 a232:=Tryz.isAgg306
 z232:=Tryz.sizeOf306
 v232:=Tryz.zeroValue306
 t233:=Tryz.underlying307
 a233:=Tryz.isAgg307
 z233:=Tryz.sizeOf307
 v233:=Tryz.zeroValue307
 g15:=b8
 g16:=b8
 g17:=b8
 g18:=b8
 g19:=b8
 t80:=Tryz.underlying60
 a80:=Tryz.isAgg60
 z80:=Tryz.sizeOf60
 v80:=Tryz.zeroValue60
 i0:=b8
 i2:=b8
 i3:=b8
 i4:=b8
 i5:=b8
 i9:=b8
 i20:=b8
 i21:=b8
 i37:=b8
 i46:=b8
 i51:=b8
 i53:=b8
 i75:=b8
 i80:=b8
 i85:=b8
 i127:=b8
 i143:=b8
 i145:=b8
 i167:=b8
 i168:=b8
 i171:=b8
 i173:=b8
 i175:=b8
 i210:=b8
 i212:=b8
 i232:=b8
 i233:=b8
 m15:=b8
 m16:=b8
 m17:=b8
 m18:=b8
 m19:=b8
 c0:=b8
 c2:=b8
 c3:=b8
 c4:=b8
 c5:=b8
 c9:=b8
 c20:=b8
 c21:=b8
 c37:=b8
 c46:=b8
 c51:=b8
 c53:=b8
 c75:=b8
 c80:=b8
 c85:=b8
 c127:=b8
 c143:=b8
 c145:=b8
 c167:=b8
 c168:=b8
 c171:=b8
 c173:=b8
 c175:=b8
 c210:=b8
 c212:=b8
 c213:=b8
 c232:=b8
 c233:=by kernel_rfl }
open Go.RowKit in
theorem Tryz.strconv_ParseInt_10_at64_ok(s:ByteArray)(hmax:s.size<=9223372036854775806)(v:Int)(h:Lib.parseIntB 64 s.data.toList=.ok v)(w:World):
  Calls Tryz.prog 211 #[.string s,.int .i64 10,.int .i64 64] w λe w'=>e=.returned (.tuple #[.int .i64 v,.nilIface])/\(w'=w\/∃t,w'=Lib.bytesWorld w 5 t):=Any.strconv_ParseInt_10_at64_ok Tryz.laysC174 s hmax v h w
end Go.Proofs
set_option maxHeartbeats 4000000
set_option maxRecDepth 100000
set_option linter.unusedSimpArgs false
namespace Go.Proofs.YtnkkfehegdplgaaGreatDoor
open Go.Eng (IC IOper DReg IFn P0 K4)
open Go.Sym Go.Pb Go.RowKit
theorem G0r{ρ:Ren}{x:DV}{u:Value}{vs:Array Value}(hA:I3 ρ [x] vs)(h:∀y,VRel ρ x y->y=u):vs = #[u]:=by
 obtain⟨y,h1,h2⟩:=hA.get (i:=0) rfl;have hs:vs.size=1:=hA.1.symm;obtain rfl:=h y h2;cases vs with|mk l=>match l,hs,h1 with
  |[a],_,h1=>simp at h1;subst h1;rfl
theorem G0q{ρ:Ren}{x x2:DV}{u u2:Value}{vs:Array Value}(hA:I3 ρ [x,x2] vs)(h:∀y,VRel ρ x y->y=u)(h2:∀y,VRel ρ x2 y->y=u2):vs = #[u,u2]:=by
 obtain⟨y,g1,g2⟩:=hA.get (i:=0) rfl;obtain⟨z,g3,g4⟩:=hA.get (i:=1) rfl;obtain rfl:=h y g2;obtain rfl:=h2 z g4;have hs:vs.size=2:=hA.1.symm;cases vs with|mk r=>match r,hs,g1,g3 with
  |[a,b],_,h1,h3=>simp at h1 h3;subst h1 h3;rfl
theorem G0p{ρ:Ren}{x x2 x3:DV}{u u2 u3:Value}{vs:Array Value}(hA:I3 ρ [x,x2,x3] vs)(h:∀y,VRel ρ x y->y=u)(h2:∀y,VRel ρ x2 y->y=u2)(h3:∀y,VRel ρ x3 y->y=u3):vs = #[u,u2,u3]:=by
 obtain⟨y,g1,g2⟩:=hA.get (i:=0) rfl;obtain⟨z,g3,g4⟩:=hA.get (i:=1) rfl;obtain⟨q,g5,g6⟩:=hA.get (i:=2) rfl;obtain rfl:=h y g2;obtain rfl:=h2 z g4;obtain rfl:=h3 q g6;have hs:vs.size=3:=hA.1.symm;cases vs with|mk r=>match r,hs,g1,g3,g5 with
  |[a,b,c],_,h1,h3,h5=>simp at h1 h3 h5;subst h1 h3 h5;rfl
theorem c_IndexByte(s:List UInt8)(c:UInt8):PC Tryz.prog 212 [.str s,.int .u8 c.toNat] (I64 (Lib.indexByte s c)):=by
 refine PC.of_calls (by kernel_rfl) rfl rfl fun ρ w vs hf hA=>?_;rw[G0q hA (λy h=>h.str_inv) (λy h=>h.int_inv)];refine(Tryz.strings_IndexByte _ _ w).mono ?_;rintro e w' ⟨rfl,rfl⟩;refine⟨_,rfl,fun ρ'=>?_,Below.refl _ _⟩;have:((c.toNat:Int).toNat.toUInt8)=c:=by rw[A1U];exact UInt8.ofNat_toNat
 rw[this];exact .int _ _
theorem c_ParseOk(s:List UInt8)(hs:s.length<=281474976710656)(h:∀c∈s,dgB c=true)(h0:s≠[])(hv:Y3 s<=9223372036854775807):PC Tryz.prog 211 [.str s,I64 10,I64 64] (.tup [I64 (Y3 s),.inil]):=by
 refine PC.of_calls (by kernel_rfl) rfl rfl fun ρ w vs hf hA=>?_;rw[G0p hA (λy h=>h.str_inv) (λy h=>h.int_inv) (λy h=>h.int_inv)];refine(Tryz.strconv_ParseInt_10_at64_ok _ (by show s.toArray.size<=_;rw[A4F];omega) (Y3 s:Int) (by have:=pib h h0;rw[if_pos hv]at this;exact this) w).mono ?_;rintro e w' ⟨rfl,hw⟩;refine⟨_,rfl,fun ρ'=>.tup _ _ rfl (λi x y hx hy=>?_),?_⟩
 ·match i with
  |0=>simp at hx hy;subst hx hy;exact .int _ _
  |1=>simp at hx hy;subst hx hy;exact .inil
  |_+2=>simp at hx
 ·rcases hw with rfl|⟨t,rfl⟩
  ·exact Below.refl _ _
  ·exact⟨rfl,rfl,rfl,by rw[Lib.bytesWorld_size];omega,λj hj=>Lib.bytesWorld_at_old _ _ _ _ hj⟩
def D3a:List UInt8:=w8 [115,119,105,116,99,104,32,99,111,105,108,32,108,97,109,112,32,115,111,117,110,100,32,115,104,111,119,32,118,97,114,32,116,105,109,101,114,32,101,118,101,110,116,32,109,111,100,101,32,111,110,32,115,116,97,114,116,32,115,116,111,112,32,99,108,111,115,101,32,111,112,101,110,32,105,102,32,101,108,115,101,32,114,101,112,101,97,116,32,115,99,111,114,101,32,102,105,114,101,32,104,111,108,100,32,114,101,108,101,97,115,101,32,108,105,103,104,116,32,98,108,105,110,107,32,98,101,103,105,110,32,101,110,100,32,112,111,115,116,32,112,108,97,121,32,114,117,110,32,104,97,108,116,32,116,101,120,116,32,99,111,110,115,117,109,101,32,99,108,111,115,101,100,32,97,99,116,105,118,101,32,108,101,102,116,32,112,108,97,121,101,114,32,98,97,108,108,32,116,114,117,101,32,102,97,108,115,101]
theorem E6b:Lib.fields D3a=H8:=b8
theorem E6c:D3a.all (λb=>decide (b.toNat<128))=true:=b8
theorem c_Fields:PC Tryz.prog 188 [.str D3a] (.lst (H8.map DV.str)):=by
 refine PC.of_callsF (by kernel_rfl) rfl (J1 _) fun ρ w vs hf hA=>?_;rw[G0r hA (fun y h=>h.str_inv)];obtain⟨r,hr,rfl⟩ := ρ.tab _ (A0D _ A0H);obtain⟨e,fr,hb⟩:=hf _ _ hr;have ht : Lib.TabIs Tryz.prog w "strings.asciiSpace" .u8 Lib.asciiSpaceTab := by
  unfold Lib.TabIs World.var?;rw [show Tryz.prog.globalNamed "strings.asciiSpace" = some 0 by kernel_rfl]
  show(match w.heap[0]? with|some (.cells cs _ _)=>some cs|_=>none)=_;have hb':w.heap[0]? = _:=hb;rw[hb']
 refine(Tryz.strings_Fields _ w (by decide) ?_ ht).mono ?_
 ·intro j b hj;have:=A0R.1 E6c b (A0W hj);simpa using this
 ·rintro e w' ⟨rfl,rfl⟩;have hl:Lib.fields (⟨D3a.toArray⟩:ByteArray).data.toList=H8:=E6b;rw[hl];refine⟨_,w.heap.size,_,9,_,rfl,A0E _,(by show(w.heap.push _)[w.heap.size]? = _;rw[Array.getElem?_push_size]),fun ρ' hρ => VRel.strs hρ rfl (A0E _) (by decide),Below.alloc (Below.refl _ _) (A0E _) _⟩
open Go.Eng (IC IOper DReg IFn P0)
open Go.Sym Go.Pb
theorem c_Fields':PC Tryz.prog 188 [.str [115,119,105,116,99,104,32,99,111,105,108,32,108,97,109,112,32,115,111,117,110,100,32,115,104,111,119,32,118,97,114,32,116,105,109,101,114,32,101,118,101,110,116,32,109,111,100,101,32,111,110,32,115,116,97,114,116,32,115,116,111,112,32,99,108,111,115,101,32,111,112,101,110,32,105,102,32,101,108,115,101,32,114,101,112,101,97,116,32,115,99,111,114,101,32,102,105,114,101,32,104,111,108,100,32,114,101,108,101,97,115,101,32,108,105,103,104,116,32,98,108,105,110,107,32,98,101,103,105,110,32,101,110,100,32,112,111,115,116,32,112,108,97,121,32,114,117,110,32,104,97,108,116,32,116,101,120,116,32,99,111,110,115,117,109,101,32,99,108,111,115,101,100,32,97,99,116,105,118,101,32,108,101,102,116,32,112,108,97,121,101,114,32,98,97,108,108,32,116,114,117,101,32,102,97,108,115,101]] (.lst (H8.map DV.str)):=c_Fields
theorem D0b:∀k:Nat,k<38->(H8.take k).contains (H8.getD k [])=false:=by decide +kernel
theorem c_words:PC Tryz.prog 155 [] (.mp .s (H8.map DV.str) (H8.map λ_=>DV.bool true)):=by
 refine PC.ofT A3 rfl (A0F rfl) rfl (by simp only[DV.nl];rw[J1,P1 (λ_=>rfl)];rfl) ?_;have hf:=c_Fields';refine wA5 hf ?_;clear hf;refine A9 (λk:Nat=>[(1,.mid 0),(5,.lst (H8.map DV.str)),(6,I64 H8.length),(7,I64 k)]) (λk=>Sym.nil.upd 0 ⟨0,true,[.mpc .s ((H8.take k).map DV.str) ((H8.take k).map λ_=>DV.bool true)]⟩) (λk _=>k<=H8.length) (λk=>H8.length-k) 0 (by simp[B5,tm,Tm.upd]) (Sub.refl _) (by simp) ?_;rintro k c hk;have hlen:H8.length=38:=rfl;by_cases hlt:k<H8.length
 ·have hd:=dtz hlt;have hg:=A0B hlt;have hw:IntKind.i64.wrap ((k:Int)+1)=((k+1:Nat):Int):=by rw[w6z];omega
  have hn:(H8.take k).contains H8[k]=false:=by
   have:=D0b k (by omega)
   rwa [A1L,hg,A4I]at this
  have hm:=B4f hn 0;have e1:H8.take (k+1)=H8.take k++[H8[k]]:=by rw[A0V,hg];rfl
  refine wAy hd hg hw hm ?_;refine⟨k+1,rfl,?_,inv hlt,by omega⟩;rw[e1,A0S,A0S];intro j b hj;by_cases e:j=0
  ·subst e;rw[A0]at hj ⊢;exact hj
  ·rw[h_ne e]at hj;cases hj
 ·have hd:=dfz hlt;refine wAs hd ?_;rw[A0J (by omega)];exact D5u A0
abbrev A7m:DV:=.mp .s (H8.map DV.str) (H8.map λ_=>DV.bool true)
theorem E9o(w:List UInt8):lkV (.bool false) false (H8.map λ_=>DV.bool true) (G5 (.str w) (H8.map DV.str) 0)=some (.bool (L7 w)):=by
 cases h:L7 w with
 |false=>rw[B4f h 0];rfl
 |true =>
  obtain⟨j,hj⟩:=C4z h 0;have hlt:=(B4g hj).2;rw[A0N]at hlt;rw[hj,D6u,A1Z,A0B (by omega)];rfl
theorem c_IsWord(s:List UInt8):PC Tryz.prog 172 [.str s] (.bool (L7 s)):=by
 refine PC.go A3 ?_;have hw:=c_words;have hlk:=E9o s;refine wA8 hw hlk ?_;exact A4 rfl
theorem c_IsName(s:List UInt8)(hs:s.length<=1000000000):PC Tryz.prog 120 [.str s] (.bool (D8 s)):=by
 refine PC.go A3 ?_;have hw:=c_IsWord s;have hsp:=c_spanPt s (by omega);cases s with
 |nil =>
  refine wAp ?_;exact A4 rfl
 |cons c r =>
  have hx:C5j (DV.str (c::r)) (.int .i64 0)=some (.int .u8 (c.toNat:Int)):=rfl;have hlt:=c_letter c;have hd1:decide (((r.length+1:Nat):Int)≥1)=true:=b9
  repeat'((with_reducible first|apply wr|refine cpc hw ?_|refine cpc hsp ?_|refine cpc hlt ?_|refine k_cu ?_ ?_|apply wb2<;>(intro hb;try simp only[hb]))<;>try simp only[go_sem,seval,hx,hd1])
  all_goals(refine A4 (congrArg DV.bool ?_);simp_all[D8]<;>omega)
theorem c_wordsR:PC Tryz.prog 184 [] (.lst (H8.map DV.str)):=by
 refine PC.ofT A3 rfl (A0F rfl) rfl (J1 _) ?_;refine wAp ?_;exact U1 (xs:=H8.map DV.str) (u:=1) A0 rfl rfl (T7 _) ⟨[],rfl⟩
theorem c_signsR:PC Tryz.prog 111 [] (.lst (X8.map DV.str)):=by
 refine PC.ofT A3 rfl (A0F rfl) rfl (J1 _) ?_;refine wAp ?_;exact U1 (xs:=X8.map DV.str) (u:=1) A0 rfl rfl (T7 _) ⟨[],rfl⟩
theorem c_IsWordR(s:List UInt8):PC Tryz.prog 150 [.str s] (.bool (L7 s)):=by
 refine PC.go A3 ?_;have hw:=c_wordsR;refine wA5 hw ?_;refine A9 (λk:Nat=>[(0,.str s),(3,.lst (H8.map DV.str)),(4,I64 k)]) (λ_=>nil) (λk _=>k<=H8.length/\(H8.take k).contains s=false) (λk=>H8.length-k) 0 (by simp[B5,tm,Tm.upd]) (Sub.nil _) (by simp) ?_;rintro k c ⟨hk,he⟩;have hlen:H8.length=38:=rfl;by_cases hlt:k<H8.length
 ·have hd:=dtz hlt;have hg:=A0B hlt;have hw:IntKind.i64.wrap ((k:Int)+1)=((k+1:Nat):Int):=by rw[w6z];omega
  repeat'((with_reducible first|apply wr|refine k_cu ?_ ?_|apply wb2<;>(intro hb;try simp only[hb]))<;>try simp only[go_sem,seval,hd,hg,hw])
  ·refine A4 (congrArg DV.bool ?_);have:s=H8[k]:=(A1S.1 hb).symm;unfold L7;rw[List.contains_iff_mem.2 (by rw[this];exact A0O hlt)]
  ·refine⟨k+1,rfl,Sub.refl _,inv ⟨hlt,?_⟩,by omega⟩;rw[A0V,hg,List.contains_append,he];have:¬s=H8[k]:=λe=>by rw[e]at hb;simp at hb
   simpa using this
 ·have hd:=dfz hlt;refine wAs hd ?_;refine A4 (congrArg DV.bool ?_);rw[A0J (by omega)]at he;exact he.symm
theorem c_skipR(s:List UInt8)(hs:s.length<=1000000000)(i:Nat)(hi:i<=s.length):PC Tryz.prog 61 [.str s,I64 i] (I64 ((i+skM false (s.drop i):Nat):Int)):=by
 refine PC.go A3 ?_;refine wAp ?_;refine A9 (λk:Nat=>[(0,.str s),(1,I64 k)]) (λ_=>nil) (λk _=>k<=s.length/\i+skM false (s.drop i)=k+skM false (s.drop k)) (λk=>s.length-k) i (by simp[B5,tm,Tm.upd]) (Sub.nil _) ⟨hi,rfl⟩ ?_;rintro k c ⟨hk,he⟩;by_cases hlt:k<s.length
 ·have hd:=dtz hlt;have hg:=A0B hlt;have hw:=w64 (n:=(k:Int)+1);have hsep:A4j s[k]=true->∃b,DV.int IntKind.i64 ((k:Int)+1)=I64 ((b:Nat):Int)/\Sym.Sub Sym.nil Sym.nil/\C3m (λk _=>k<=s.length/\i+skM false (s.drop i)=k+skM false (s.drop k)) b c/\s.length-b<s.length-k :=
   λh=>⟨k+1,rfl,Sub.refl _,inv ⟨a8,by rw[he,E7e hg h];omega⟩,by omega⟩
  repeat'((with_reducible first|apply wr|refine k_cu ?_ ?_|apply wb2<;>(intro hb;try simp only[hb]))<;>try simp only[go_sem,seval,hd,hg,hw])
  ·have h35:=C3d (b:=35) hb;have h1:=E0j hg h35;have h2:=E7g hg h35;refine A9 (λj:Nat=>[(0,.str s),(1,I64 ((k+j:Nat):Int))]) (λ_=>nil) (λj _=>k+j<=s.length/\j<=F3 (λc=>decide (c.toNat≠10)) (s.drop k)) (λj=>s.length-(k+j)) 0 (by simp[B5,tm,Tm.upd]) (Sub.nil _) (by simp;omega) ?_;rintro j c ⟨hkj,hej⟩;have hend:F3 (λc=>decide (c.toNat≠10)) (s.drop k)=j->∃b,I64 ((k+j:Nat):Int)=I64 ((b:Nat):Int)/\Sym.Sub Sym.nil Sym.nil/\C3m (λk _=>k<=s.length/\i+skM false (s.drop i)=k+skM false (s.drop k)) b c/\s.length-b<s.length-k:=by
    intro e;rw[e]at h1 h2;exact⟨k+j,rfl,Sub.refl _,inv ⟨hkj,by rw[he,h2];omega⟩,by omega⟩
   by_cases hlt2:k+j<s.length
   ·have hd2:decide (((k+j:Nat):Int)<s.length)=true:=by simp;omega
    have hg2:=A0B hlt2;have hw2:IntKind.i64.wrap (((k+j:Nat):Int)+1)=((k+(j+1):Nat):Int):=l8
    have hst:=B3j hg2 hej;repeat'((with_reducible first|apply wr|refine k_cu ?_ ?_|apply wb2<;>(intro hb;try simp only[hb]))<;>try simp only[go_sem,seval,hd2,hg2,hw2])
    ·exact⟨j+1,rfl,Sub.refl _,inv ⟨hlt2,hst.1 (by simpa using E3v (b:=10) hb)⟩,by omega⟩
    ·exact hend (hst.2 (by simpa using F1p (b:=10) hb))
   ·have hd2:decide (((k+j:Nat):Int)<s.length)=false:=by simp;omega
    refine wAs hd2 ?_;exact hend (B0a (by omega) hej)
  ·exact hsep (by simp[A4j,C3d (b:=9) hb])
  ·exact hsep (by simp[A4j,C3d (b:=10) hb])
  ·exact hsep (by simp[A4j,C3d (b:=13) hb])
  ·exact hsep (by simp[A4j,C3d (b:=32) hb])
  ·refine A4 ?_;have h9:=B1z (a:=s[k].toNat) (b:=9) (by assumption);have h10:=B1z (a:=s[k].toNat) (b:=10) (by assumption);have h13:=B1z (a:=s[k].toNat) (b:=13) (by assumption);have h32:=B1z (a:=s[k].toNat) (b:=32) (by assumption);have h35:=B1z (a:=s[k].toNat) (b:=35) (by assumption);rw[he,E0i hg (by simp[A4j,h9,h10,h13,h32]) h35];simp
 ·have hd:=dfz hlt;refine wAs hd ?_;refine A4 ?_;rw[he,E7f (by omega)];simp
theorem c_wordR(s:List UInt8)(hs:s.length<=1000000000)(i:Nat)(hi:i<s.length)(hl:ltB s[i]=true):PC Tryz.prog 107 [.str s,I64 i] (nxR (A7 (s.drop i)) i):=by
 have hM:A7 (s.drop i)=if 12<F3 ptB (s.drop i) then nxE 9 else⟨if L7 ((s.drop i).take (F3 ptB (s.drop i)))=true then 2 else 1,(s.drop i).take (F3 ptB (s.drop i)),0,F3 ptB (s.drop i),0⟩:=by
  rw[S9 (A0B hi),A7,if_pos hl]
 rw[hM];have hle:=A2o ptB (s.drop i);rw[A2J]at hle;refine PC.ofT A3 rfl (A0F rfl) rfl (C4t _ _) ?_;refine wAp ?_;refine A9 (λj:Nat=>[(0,.str s),(1,I64 i),(4,.ptr 0 0),(7,I64 ((i+j:Nat):Int))]) (λ_=>Sym.nil.upd 0 ⟨0,true,[I64 0,.str [],I64 0,I64 0]⟩) (λj cc=>1<=cc/\i+j<=s.length/\j<=F3 ptB (s.drop i)) (λj=>s.length-(i+j)) 0 (by simp[B5,tm,Tm.upd]) (Sub.refl _) (by simp;omega) ?_;rintro j c ⟨h1c,hk,he⟩;have hw2:IntKind.i64.wrap (((i+j:Nat):Int)-i)=(j:Int):=l8
 have hsx:=C0f hk;have hiw:=c_IsWordR ((s.drop i).take j);have hR9:F3 ptB (s.drop i)=j->12<j->A1a 9 i=nxR (if 12<F3 ptB (s.drop i) then nxE 9 else⟨if L7 ((s.drop i).take (F3 ptB (s.drop i)))=true then 2 else 1,(s.drop i).take (F3 ptB (s.drop i)),0,F3 ptB (s.drop i),0⟩) i:=by
  intro e h;rw[e,if_pos h,A8p (by decide)]
 have hRw:F3 ptB (s.drop i)=j->¬ 12<j->L7 ((s.drop i).take j)=true->okN 2 ((s.drop i).take j) 0 i j=nxR (if 12<F3 ptB (s.drop i) then nxE 9 else⟨if L7 ((s.drop i).take (F3 ptB (s.drop i)))=true then 2 else 1,(s.drop i).take (F3 ptB (s.drop i)),0,F3 ptB (s.drop i),0⟩) i:=by
  intro e h h2;rw[e,if_neg h,B3x,if_pos h2]
 have hRn:F3 ptB (s.drop i)=j->¬ 12<j->L7 ((s.drop i).take j)=false->okN 1 ((s.drop i).take j) 0 i j=nxR (if 12<F3 ptB (s.drop i) then nxE 9 else⟨if L7 ((s.drop i).take (F3 ptB (s.drop i)))=true then 2 else 1,(s.drop i).take (F3 ptB (s.drop i)),0,F3 ptB (s.drop i),0⟩) i:=by
  intro e h h2;rw[e,if_neg h,B3x,if_neg (by rw[h2];simp)]
 by_cases hlt:i+j<s.length
 ·have hd:decide (((i+j:Nat):Int)<s.length)=true:=by simp;omega
  have hg:=A0B hlt;have hw:IntKind.i64.wrap (((i+j:Nat):Int)+1)=((i+(j+1):Nat):Int):=l8
  have h1:=c_letterR s[i+j];have h2:=c_digitR s[i+j];have hst:=B3j hg he;have hlp:ptB s[i+j]=true->∃b,DV.int IntKind.i64 ((i+(j+1):Nat):Int)=I64 ((i+b:Nat):Int)/\Sym.Sub (Sym.nil.upd 0 ⟨0,true,[I64 0,.str [],I64 0,I64 0]⟩) (Sym.nil.upd 0 ⟨0,true,[I64 0,.str [],I64 0,I64 0]⟩) /\
    C3m (λj cc=>1<=cc/\i+j<=s.length/\j<=F3 ptB (s.drop i)) b c/\s.length-(i+b)<s.length-(i+j) :=
   λh=>⟨j+1,rfl,Sub.refl _,inv ⟨h1c,hlt,hst.1 h⟩,by omega⟩
  have ne0:=A1z c 0 (by omega);repeat'((with_reducible first|apply wr|refine cpc h1 ?_|refine cpc h2 ?_|refine cpc hiw ?_|refine k_cu ?_ ?_|apply wb2<;>(intro hb;try simp only[hb]))<;>try simp only[go_sem,seval,hd,hg,hw,hw2,hsx,ne0])
  ·exact hlp (by simp[ptB,hb])
  ·exact hlp (by simp[ptB,hb])
  ·exact hlp (by simp[ptB,C3d (b:=95) hb])
  ·have hj:=hst.2 (by simp only[ptB];rw[‹ltB s[i+j]=false›, ‹dgB s[i+j]=false›];simpa using B1z (a:=s[i+j].toNat) (b:=95) (by assumption));rw[G4 (v:=A1a 9 i) rfl];exact A4 (hR9 hj (D1r hb))
  ·have hj:=hst.2 (by simp only[ptB];rw[‹ltB s[i+j]=false›, ‹dgB s[i+j]=false›];simpa using B1z (a:=s[i+j].toNat) (b:=95) (by assumption));rw[G4 (v:=okN 2 ((s.drop i).take j) 0 i j) rfl];exact A4 (hRw hj (B5v (a:=j) (b:=12) (by assumption)) hb)
  ·have hj:=hst.2 (by simp only[ptB];rw[‹ltB s[i+j]=false›, ‹dgB s[i+j]=false›];simpa using B1z (a:=s[i+j].toNat) (b:=95) (by assumption));rw[G4 (v:=okN 1 ((s.drop i).take j) 0 i j) rfl];exact A4 (hRn hj (B5v (a:=j) (b:=12) (by assumption)) hb)
 ·have hd:decide (((i+j:Nat):Int)<s.length)=false:=by simp;omega
  have hj:=B0a (p:=ptB) (s:=s) (by omega) he;have ne0:=A1z c 0 (by omega);repeat'((with_reducible first|apply wr|refine cpc hiw ?_|refine k_cu ?_ ?_|apply wb2<;>(intro hb;try simp only[hb]))<;>try simp only[go_sem,seval,hd,hw2,hsx,ne0])
  ·rw[G4 (v:=A1a 9 i) rfl];exact A4 (hR9 hj (D1r hb))
  ·rw[G4 (v:=okN 2 ((s.drop i).take j) 0 i j) rfl];exact A4 (hRw hj (B5v (a:=j) (b:=12) (by assumption)) hb)
  ·rw[G4 (v:=okN 1 ((s.drop i).take j) 0 i j) rfl];exact A4 (hRn hj (B5v (a:=j) (b:=12) (by assumption)) hb)
theorem c_numberR(s:List UInt8)(hs:s.length<=1000000000)(i:Nat)(hi:i<s.length)(hl:ltB s[i]=false)(hg0:dgB s[i]=true):PC Tryz.prog 109 [.str s,I64 i] (nxR (A7 (s.drop i)) i):=by
 have hM:A7 (s.drop i)=if 1<F3 dgB (s.drop i)/\s[i].toNat=48 then nxE 47
   else if 2147483647<Y3 ((s.drop i).take (F3 dgB (s.drop i))) then nxE 5
   else⟨3,[],(Y3 ((s.drop i).take (F3 dgB (s.drop i))):Int),F3 dgB (s.drop i),0⟩:=by
  have hdr:=S9 (A0B hi);have:∀r,s.drop i=s[i]::r->A7 (s.drop i)=if 1<F3 dgB (s.drop i)/\s[i].toNat=48 then nxE 47
   else if 2147483647<Y3 ((s.drop i).take (F3 dgB (s.drop i))) then nxE 5
   else⟨3,[],(Y3 ((s.drop i).take (F3 dgB (s.drop i))):Int),F3 dgB (s.drop i),0⟩:=by
   intro r e;rw[e,A7,if_neg (by rw[hl];simp),if_pos hg0]
  exact this _ hdr
 have hle:=A2o dgB (s.drop i);rw[A2J]at hle;obtain⟨D,hD⟩:∃D,D=s.drop i:=⟨_,rfl⟩;refine PC.ofT A3 rfl (A0F rfl) rfl (C4t _ _) ?_;refine wAp ?_;refine A9 (λj:Nat=>[(0,.str s),(1,I64 i),(4,.ptr 0 0),(7,I64 ((i+j:Nat):Int)),(8,I64 (smV (D.take j))),(9,.bool (B9j (D.take j)))]) (λ_=>Sym.nil.upd 0 ⟨0,true,[I64 0,.str [],I64 0,I64 0]⟩) (λj _=>i+j<=s.length/\j<=F3 dgB (s.drop i)) (λj=>s.length-(i+j)) 0 (by simp[B5,tm,Tm.upd,smV,B9j,Y3]) (Sub.refl _) (by simp;omega) ?_;rintro j c ⟨hk,he⟩;have hw2:IntKind.i64.wrap (((i+j:Nat):Int)-i)=(j:Int):=l8
 have hgi:=A0B hi;have hRz:F3 dgB (s.drop i)=j->1<j->s[i].toNat=48->A1a 47 i=nxR (A7 (s.drop i)) i:=by
  intro e h h2;rw[hM,e,if_pos ⟨h,h2⟩,A8p (by decide)]
 have hRb:F3 dgB (s.drop i)=j->¬(1<j/\s[i].toNat=48)->B9j (D.take j)=true->A1a 5 i=nxR (A7 (s.drop i)) i:=by
  intro e h h2;rw[hM,e,if_neg h, <- hD,if_pos (of_decide_eq_true h2),A8p (by decide)]
 have hRk:F3 dgB (s.drop i)=j->¬(1<j/\s[i].toNat=48)->B9j (D.take j)=false->okN 3 [] (smV (D.take j)) i j=nxR (A7 (s.drop i)) i:=by
  intro e h h2;have h3:=of_decide_eq_false h2;rw[hM,e,if_neg h, <- hD,if_neg h3,B3x,D4j h3]
 by_cases hlt:i+j<s.length
 ·have hd:decide (((i+j:Nat):Int)<s.length)=true:=by simp;omega
  have hg:=A0B hlt;have hw:IntKind.i64.wrap (((i+j:Nat):Int)+1)=((i+(j+1):Nat):Int):=l8
  have h2:=c_digitR s[i+j];have hst:=B3j hg he;by_cases hdg:dgB s[i+j]=true
  ·rw[hdg]at h2;have hgD:D[j]? = some s[i+j]:=by rw[hD,A2F];exact hg
   have hn:=D0y hgD;have hdd:48<=s[i+j].toNat/\s[i+j].toNat<=57:=by simpa[dgB] using hdg
   obtain⟨z,hz⟩:∃z:Nat,z=s[i+j].toNat-48:=⟨_,rfl⟩;rw[<- hz]at hn;have w1:IntKind.i64.wrap (10*(smV (D.take j):Int))=((10*smV (D.take j):Nat):Int):=by have:=D4i (D.take j);rw[w6z];omega
   have w2:IntKind.u8.wrap ((s[i+j].toNat:Int)-48)=(z:Int):=by rw[wu8 (by omega) (by omega)];omega
   have w3:IntKind.i64.wrap (z:Int)=(z:Int):=w6z;have w4:IntKind.i64.wrap (((10*smV (D.take j):Nat):Int)+z)=((10*smV (D.take j)+z:Nat):Int):=by have:=D4i (D.take j);rw[w6z];omega
   by_cases hbg:2147483647<Y3 (D.take j)
   ·have hb1:B9j (D.take j)=true:=decide_eq_true hbg;have e1:B9j (D.take (j+1))=true:=decide_eq_true (by omega);have e2:smV (D.take (j+1))=0:=E4o (by omega);rw[hb1];refine wA8 h2 (wJ hd (wJ hg (wJ hw (wJ w1 (wJ w2 (wJ w3 w4)))))) ?_;exact⟨j+1,⟨rfl,by rw[e2];rfl,by rw[e1]⟩,Sub.refl _,inv ⟨hlt,hst.1 hdg⟩,by omega⟩
   ·have hb1:B9j (D.take j)=false:=decide_eq_false hbg;have hs1:=D4j hbg;rw[hb1];by_cases hbn:2147483647<Y3 (D.take (j+1))
    ·have e1:B9j (D.take (j+1))=true:=decide_eq_true hbn;have e2:smV (D.take (j+1))=0:=E4o hbn;have hd5:decide (((10*smV (D.take j)+z:Nat):Int)>2147483647)=true:=by simp only[A0L];omega
     refine wA8 h2 (wJ hd (wJ hg (wJ hw (wJ w1 (wJ w2 (wJ w3 (wJ w4 hd5))))))) ?_;exact⟨j+1,⟨rfl,by rw[e2];rfl,by rw[e1]⟩,Sub.refl _,inv ⟨hlt,hst.1 hdg⟩,by omega⟩
    ·have e1:B9j (D.take (j+1))=false:=decide_eq_false hbn;have e2:smV (D.take (j+1))=10*smV (D.take j)+z:=by rw[D4j hbn,hn,hs1]
     have hd5:decide (((10*smV (D.take j)+z:Nat):Int)>2147483647)=false:=by simp only[A1O];omega
     refine wA8 h2 (wJ hd (wJ hg (wJ hw (wJ w1 (wJ w2 (wJ w3 (wJ w4 hd5))))))) ?_;exact⟨j+1,⟨rfl,by rw[e2],by rw[e1]⟩,Sub.refl _,inv ⟨hlt,hst.1 hdg⟩,by omega⟩
  ·have hdg0:dgB s[i+j]=false:=by simpa using hdg
   rw[hdg0]at h2;have hj:=hst.2 hdg0;repeat'((with_reducible first|apply wr|refine cpc h2 ?_|refine k_cu ?_ ?_|apply wb2<;>(intro hb;try simp only[hb]))<;>try simp only[go_sem,seval,hd,hg,hw2,hgi])
   ·rw[G4 (v:=A1a 47 i) rfl];exact A4 (hRz hj (D1r hb) (C3d (b:=48) (by assumption)))
   ·rw[G4 (v:=A1a 5 i) rfl];exact A4 (hRb hj (λh=>B5v (a:=j) (b:=1) (by assumption) h.1) hb)
   ·rw[G4 (v:=okN 3 [] (smV (D.take j)) i j) rfl];exact A4 (hRk hj (λh=>B5v (a:=j) (b:=1) (by assumption) h.1) hb)
   ·rw[G4 (v:=A1a 5 i) rfl];exact A4 (hRb hj (λh=>B1z (b:=48) (by assumption) h.2) hb)
   ·rw[G4 (v:=okN 3 [] (smV (D.take j)) i j) rfl];exact A4 (hRk hj (λh=>B1z (b:=48) (by assumption) h.2) hb)
 ·have hd:decide (((i+j:Nat):Int)<s.length)=false:=by simp;omega
  have hj:=B0a (p:=dgB) (s:=s) (by omega) he;repeat'((with_reducible first|apply wr|refine k_cu ?_ ?_|apply wb2<;>(intro hb;try simp only[hb]))<;>try simp only[go_sem,seval,hd,hw2,hgi])
  ·rw[G4 (v:=A1a 47 i) rfl];exact A4 (hRz hj (D1r hb) (C3d (b:=48) (by assumption)))
  ·rw[G4 (v:=A1a 5 i) rfl];exact A4 (hRb hj (λh=>B5v (a:=j) (b:=1) (by assumption) h.1) hb)
  ·rw[G4 (v:=okN 3 [] (smV (D.take j)) i j) rfl];exact A4 (hRk hj (λh=>B5v (a:=j) (b:=1) (by assumption) h.1) hb)
  ·rw[G4 (v:=A1a 5 i) rfl];exact A4 (hRb hj (λh=>B1z (b:=48) (by assumption) h.2) hb)
  ·rw[G4 (v:=okN 3 [] (smV (D.take j)) i j) rfl];exact A4 (hRk hj (λh=>B1z (b:=48) (by assumption) h.2) hb)
theorem c_quotedR(s:List UInt8)(hs:s.length<=100000)(i:Nat)(hi:i<s.length):PC Tryz.prog 110 [.str s,I64 i] (quR i (quA [] (i+1) (quM (s.drop (i+1))))):=by
 refine PC.ofT A3 rfl (A0F rfl) rfl (E8m _ _) ?_;have hw0:IntKind.i64.wrap ((i:Int)+1)=((i+1:Nat):Int):=l8
 refine wAs hw0 ?_;refine A9 (λq:Nat × Option Nat × List UInt8=>[(0,.str s),(1,I64 i),(4,.ptr 0 0),(7,todoV q.2.1 q.2.2.length),(8,I64 q.1)]) (λq=>optH (Sym.nil.upd 0 D9e) q.2.1 ⟨1,true,bytesC q.2.2⟩)
  (λq c=>1<=c/\i+1<=q.1/\q.2.2.length<=q.1/\q.1<=s.length+1/\(q.2.1=none->q.2.2=[])/\(∀i,q.2.1=some i->1<=i/\i<c)/\quA [] (i+1) (quM (s.drop (i+1)))=quA q.2.2 q.1 (quM (s.drop q.1))) (λq=>s.length+1-q.1) (i+1,none,[])
  (by simp[B5,tm,Tm.upd,todoV]) (Sub.refl _) ⟨by simp,by simp,by simp,g9,λ_=>rfl,(λi hi=>by cases hi),rfl⟩ ?_
 rintro⟨k,o,acc⟩ c ⟨h1c,h1,hal,hk,hno,ho,he⟩;simp only at h1 hal hk hno ho he;simp only;rw[he];have hH0:optH (Sym.nil.upd 0 D9e) o ⟨1,true,bytesC acc⟩ 0=some ⟨0,true,[I64 0,.str [],I64 0,I64 0]⟩:=by rw[B9 (λi hi=>by have:=ho i hi;omega),A0];rfl
 have hlt0:=A1q (o:=o) (n:=acc.length) (λe=>by rw[hno e];rfl);by_cases hlt:k<s.length
 ·have hd:=dtz hlt;have hg:=A0B hlt;have hw:IntKind.i64.wrap ((k:Int)+1)=((k+1:Nat):Int):=by rw[w6z];omega
  have hw2:IntKind.i64.wrap (((k+1:Nat):Int)+1)=((k+2:Nat):Int):=l8
  have hcv:=D5f (H:=optH (Sym.nil.upd 0 D9e) o ⟨1,true,bytesC acc⟩) (u:=1) hno (λi hi=>by subst hi;exact A0);have hc0:∀n:Nat,((s[k].toNat:Int)==(n:Int))=true->s[k].toNat=n:=λn h=>by have:=A1S.1 h;omega
  have hc1:∀n:Nat,((s[k].toNat:Int)==(n:Int))=false->s[k].toNat≠n:=λn h h2=>by rw[h2]at h;simp at h
  by_cases hlt2:k+1<s.length
  ·have hd2:decide (((k+1:Nat):Int)≥s.length)=false:=by simp;omega
   have hg2:=A0B hlt2;have hc2:∀n:Nat,((s[k+1].toNat:Int)==(n:Int))=true->s[k+1].toNat=n:=λn h=>by have:=A1S.1 h;omega
   have hc3:∀n:Nat,((s[k+1].toNat:Int)==(n:Int))=false->s[k+1].toNat≠n:=λn h h2=>by rw[h2]at h;simp at h
   have ne0:=W9 c (c+1) 0 (by omega);have hap:=C0t (X:=Sym.nil.upd 0 D9e) hno (λi hi=>(ho i hi).2) (by omega);repeat'((with_reducible first|apply wr|refine k_cu ?_ ?_|apply wb2<;>(intro hb;try simp only[hb]))<;>try simp only[go_sem,seval,hd,hg,hw,hcv,hlt0,hd2,hg2,hw2,ne0,hap,hH0])
   ·rw[G4 (v:=A1a 9 i) rfl];refine A4 ?_;rw[A8l hg (hc0 34 (by assumption)),quR,if_pos (D1r hb)]
   ·rw[G4 (v:=.tup [.agg [I64 4,.str acc,I64 0,I64 i],I64 ((k+1:Nat):Int),I64 0]) rfl];refine A4 ?_;rw[A8l hg (hc0 34 (by assumption)),quR,if_neg (B5v hb)]
   ·rw[G4 (v:=A1a 48 i) rfl];refine A4 ?_;rw[B8c hg (hc1 34 (by assumption)) (.inl (by have:=of_decide_eq_true hb;omega))];rfl
   ·rw[G4 (v:=A1a 48 i) rfl];refine A4 ?_;rw[B8c hg (hc1 34 (by assumption)) (.inr (by have:=of_decide_eq_true hb;omega))];rfl
   ·rw[G4 (v:=A1a 48 i) rfl];refine A4 ?_;rw[C7n hg (hc0 92 (by assumption)) (λd hd=>by
     rw[hg2]at hd;cases hd;exact⟨E3v (b:=34) (by assumption),E3v (b:=92) hb⟩)];rfl
   ·have hq:=D5h (acc:=acc) hg (hc0 92 (by assumption)) hg2 (.inr (F1p (b:=92) hb));exact⟨(k+2,some (c+1),acc++[s[k+1]]),⟨v7,rfl⟩,B2k (λj q=>B2i h1c) (λi hi=>B2h (by have:=ho i hi;omega)) rfl,inv ⟨a8,g9,b9,g9,(λh=>by cases h),(λi hi=>by cases hi;omega),hq⟩,by simp only;omega⟩
   ·have hq:=D5h (acc:=acc) hg (hc0 92 (by assumption)) hg2 (.inl (F1p (b:=34) hb));exact⟨(k+2,some (c+1),acc++[s[k+1]]),⟨v7,rfl⟩,B2k (λj q=>B2i h1c) (λi hi=>B2h (by have:=ho i hi;omega)) rfl,inv ⟨a8,g9,b9,g9,(λh=>by cases h),(λi hi=>by cases hi;omega),hq⟩,by simp only;omega⟩
   ·have hq:=C7o (acc:=acc) hg (hc1 34 (by assumption)) (by have:=of_decide_eq_false (by assumption:decide (((s[k].toNat:Int))<32)=false);omega) (by have:=of_decide_eq_false (by assumption:decide (((s[k].toNat:Int))>126)=false);omega) (hc1 92 (by assumption));exact⟨(k+1,some (c+1),acc++[s[k]]),⟨v7,rfl⟩,B2k (λj q=>B2i h1c) (λi hi=>B2h (by have:=ho i hi;omega)) rfl,inv ⟨a8,g9,b9,g9,(λh=>by cases h),(λi hi=>by cases hi;omega),hq⟩,by simp only;omega⟩
  ·have hd2:decide (((k+1:Nat):Int)≥s.length)=true:=by simp;omega
   have ne0:=W9 c (c+1) 0 (by omega);have hap:=C0t (X:=Sym.nil.upd 0 D9e) hno (λi hi=>(ho i hi).2) (by omega);repeat'((with_reducible first|apply wr|refine k_cu ?_ ?_|apply wb2<;>(intro hb;try simp only[hb]))<;>try simp only[go_sem,seval,hd,hg,hw,hcv,hlt0,hd2,ne0,hap,hH0])
   ·rw[G4 (v:=A1a 9 i) rfl];refine A4 ?_;rw[A8l hg (hc0 34 (by assumption)),quR,if_pos (D1r hb)]
   ·rw[G4 (v:=.tup [.agg [I64 4,.str acc,I64 0,I64 i],I64 ((k+1:Nat):Int),I64 0]) rfl];refine A4 ?_;rw[A8l hg (hc0 34 (by assumption)),quR,if_neg (B5v hb)]
   ·rw[G4 (v:=A1a 48 i) rfl];refine A4 ?_;rw[B8c hg (hc1 34 (by assumption)) (.inl (by have:=of_decide_eq_true hb;omega))];rfl
   ·rw[G4 (v:=A1a 48 i) rfl];refine A4 ?_;rw[B8c hg (hc1 34 (by assumption)) (.inr (by have:=of_decide_eq_true hb;omega))];rfl
   ·rw[G4 (v:=A1a 48 i) rfl];refine A4 ?_;rw[C7n hg (hc0 92 (by assumption)) (λd hd=>by rw[A3F (by omega)]at hd;cases hd)];rfl
   ·have hq:=C7o (acc:=acc) hg (hc1 34 (by assumption)) (by have:=of_decide_eq_false (by assumption:decide (((s[k].toNat:Int))<32)=false);omega) (by have:=of_decide_eq_false (by assumption:decide (((s[k].toNat:Int))>126)=false);omega) (hc1 92 (by assumption));exact⟨(k+1,some (c+1),acc++[s[k]]),⟨v7,rfl⟩,B2k (λj q=>B2i h1c) (λi hi=>B2h (by have:=ho i hi;omega)) rfl,inv ⟨a8,g9,b9,g9,(λh=>by cases h),(λi hi=>by cases hi;omega),hq⟩,by simp only;omega⟩
 ·have hd:=dfz hlt;have ne0:=A1z c 0 (by omega);refine wAw hd ne0 hH0 ?_;rw[G4 (v:=A1a 48 i) rfl];refine A4 ?_;rw[E8l (by omega)];rfl
theorem c_oneR(s:List UInt8)(hs:s.length<=100000)(i:Nat)(hi:i<s.length):PC Tryz.prog 62 [.str s,I64 i] (nxR (A7 (s.drop i)) i):=by
 refine PC.ofT A3 rfl (A0F rfl) rfl (C4t _ _) ?_;have hg:=A0B hi;have hlt:=c_letterR s[i];have hdg:=c_digitR s[i];obtain⟨k,t,v,p,n,e,hsh⟩:=D0x (A7 (s.drop i)) i;by_cases hl:ltB s[i]=true
 ·have hw:=c_wordR s (by omega) i hi hl;rw[hsh]at hw ⊢;refine wBd hlt hw (wJ hl hg) ?_;rw[G4 (v:=.tup [.agg [I64 k,.str t,I64 v,I64 p],I64 n,I64 e]) rfl];exact A4 rfl
 have hl0:ltB s[i]=false:=by simpa using hl
 by_cases hd:dgB s[i]=true
 ·have hw:=c_numberR s (by omega) i hi hl0 hd;rw[hsh]at hw ⊢;refine wBf hlt hdg hw (wJ hl0 (wJ hd hg)) ?_;rw[G4 (v:=.tup [.agg [I64 k,.str t,I64 v,I64 p],I64 n,I64 e]) rfl];exact A4 rfl
 have hd0:dgB s[i]=false:=by simpa using hd
 by_cases hq:s[i].toNat=34
 ·have hw:=c_quotedR s hs i hi;rw[D5i hg hl0 hd0 hq,hsh]at hw;rw[hsh];have hb34:((s[i].toNat:Int)==34)=true:=by rw[hq];rfl
  (repeat'((with_reducible first|apply wr|refine cpc hlt ?_|refine cpc hdg ?_|refine cpc hw ?_|refine k_cu ?_ ?_|apply wb2<;>(intro hb;try simp only[hb]))<;>try simp only[go_sem,seval,hl0,hd0,hg,hb34]));rw[G4 (v:=.tup [.agg [I64 k,.str t,I64 v,I64 p],I64 n,I64 e]) rfl];exact A4 rfl
 clear hsh;have hb34:((s[i].toNat:Int)==34)=false:=by simpa using (λh=>hq (by omega))
 have hM:A7 (s.drop i)=if I4 (s.drop i)=0 then nxE 47 else⟨5,(s.drop i).take (I4 (s.drop i)),0,I4 (s.drop i),0⟩:=by
  have hdr:=S9 hg;have:∀r,s.drop i=s[i]::r->A7 (s.drop i)=if I4 (s.drop i)=0 then nxE 47 else⟨5,(s.drop i).take (I4 (s.drop i)),0,I4 (s.drop i),0⟩:=by
   intro r e;rw[e,A7,if_neg hl,if_neg hd,if_neg hq]
  exact this _ hdr
 rw[hM];have hsg:=c_signsR;(repeat'((with_reducible first|apply wr|refine cpc hlt ?_|refine cpc hdg ?_|refine cpc hsg ?_|refine k_cu ?_ ?_|apply wb2<;>(intro hb;try simp only[hb]))<;>try simp only[go_sem,seval,hl0,hd0,hg,hb34]));have hlen:X8.length=21:=rfl;refine A9 (λk:Nat=>[(0,.str s),(1,I64 i),(4,.ptr 0 0),(8,.lst (X8.map DV.str)),(9,I64 k)]) (λ_=>Sym.nil.upd 0 ⟨0,true,[I64 0,.str [],I64 0,I64 0]⟩) (λk _=>k<=X8.length/\∀j,j<k->B0g (X8.getD j []) (s.drop i)=false) (λk=>X8.length-k) 0 (by simp[B5,tm,Tm.upd]) (Sub.refl _) (by simp) ?_;rintro k c ⟨hk,he⟩;by_cases hkl:k<X8.length
 ·have hd:decide ((k:Int)<X8.length)=true:=by simpa using hkl
  have hgk:=A0B hkl;have hget:X8.getD k []=X8[k]:=by rw[A1L,hgk];rfl
  have hw:IntKind.i64.wrap ((k:Int)+1)=((k+1:Nat):Int):=l8
  obtain⟨L,hL⟩:∃L,L=X8[k]:=⟨_,rfl⟩;rw[<- hL]at hgk hget;have hLl:1<=L.length/\L.length<=2:=by
   have:∀x∈X8,1<=x.length/\x.length<=2:=n7
   rw[hL];exact this _ (A0O hkl)
  have hw1:IntKind.i64.wrap ((s.length:Int)-i)=((s.length-i:Nat):Int):=l8
  have hw2:IntKind.i64.wrap ((i:Int)+L.length)=((i+L.length:Nat):Int):=l8
  have hnext:B0g L (s.drop i)=false->C3m (λk _=>k<=X8.length/\∀j,j<k->B0g (X8.getD j []) (s.drop i)=false) (k+1) c:=λh=>inv ⟨hkl,λj hj=>by
   by_cases e:j=k
   ·rw[e,hget];exact h
   ·exact he j (by omega)⟩
  by_cases hln:L.length<=s.length-i
  ·have hd2:decide (((s.length-i:Nat):Int)≥L.length)=true:=by simp only[A0L];omega
   have hsx:=C0f (s:=s) (i:=i) (n:=L.length) (by omega);have hpr:B0g L (s.drop i)=((s.drop i).take L.length==L):=by
    unfold B0g;rw[decide_eq_true (by rw[A2J];exact hln),A2D]
   repeat'((with_reducible first|apply wr|refine k_cu ?_ ?_|apply wb2<;>(intro hb;try simp only[hb]))<;>try simp only[go_sem,seval,hd,hgk,hw,hw1,hw2,hd2,hsx])
   ·have hp:=hpr.trans hb;have:=D0m (s:=s.drop i) (k:=k) (by omega) he (by rw[hget];exact hp);rw[hget]at this;rw[G4 (v:=okN 5 L 0 i L.length) rfl];refine A4 ?_;rw[this.1,iN,B3x, <- this.2]
   ·exact⟨k+1,rfl,Sub.refl _,hnext (hpr.trans hb),by omega⟩
  ·have hd2:decide (((s.length-i:Nat):Int)≥L.length)=false:=by simp only[A1O];omega
   refine wA0 hd hgk hw hw1 hd2 ?_;exact⟨k+1,rfl,Sub.refl _,hnext (by unfold B0g;rw[decide_eq_false (by rw[A2J];exact hln),Bool.false_and]),by omega⟩
 ·have hd:decide ((k:Int)<X8.length)=false:=by simpa using hkl
  refine wAs hd ?_;rw[G4 (v:=A1a 47 i) rfl];refine A4 ?_;rw[if_pos (D4n λj hj=>he j (by omega)),A8p (by decide)]
theorem c_ScanR(s:List UInt8)(hs:s.length<=1000000000):PC Tryz.prog 30 [.str s] (D4t (J2 s)):=by
 refine PC.ofT A3 rfl (A0F rfl) rfl (D4s _) ?_;have hsk:=c_skipR s hs 0 (by omega);rw[A3V,A1F]at hsk;by_cases h20:20000<s.length
 ·have hd0:decide ((s.length:Int)>20000)=true:=by simp;omega
  have hM:J2 s=([],0,9):=if_pos h20;rw[hM];(repeat'((with_reducible first|apply wr|refine k_cu ?_ ?_|apply wb2<;>(intro hb;try simp only[hb]))<;>try simp only[go_sem,seval,hd0]));exact C0j
 have hd0:decide ((s.length:Int)>20000)=false:=b9
 have hM:J2 s=T8 (s.length+1) s (skM false s) []:=if_neg h20;rw[hM];have hle0:=A4i false s;(repeat'((with_reducible first|apply wr|refine cpc hsk ?_|refine k_cu ?_ ?_|apply wb2<;>(intro hb;try simp only[hb]))<;>try simp only[go_sem,seval,hd0]));refine A9 (λq:Nat × Nat × Option Nat × List Tok=>[(0,.str s),(5,todoV q.2.2.1 q.2.2.2.length),(6,I64 q.2.1)]) (λq=>optH Sym.nil q.2.2.1 ⟨4,true,cellsL (q.2.2.2.map Tok.v)⟩)
  (λq c=>q.2.1<=s.length/\s.length<q.1+q.2.1/\q.2.2.2.length<=q.2.1/\(q.2.2.1=none->q.2.2.2=[])/\(∀i,q.2.2.1=some i->i<c)/\T8 (s.length+1) s (skM false s) []=T8 q.1 s q.2.1 q.2.2.2) (λq=>q.1) (s.length+1,skM false s,none,[])
  (by simp[B5,tm,Tm.upd,todoV]) (Sub.nil _) ⟨g9,g9,by simp,λ_=>rfl,(λi hi=>by cases hi),rfl⟩ ?_
 rintro⟨f,at_,o,acc⟩ c ⟨h1,hf,hal,hno,ho,he⟩;simp only at h1 hf hal hno ho he;simp only;rw[he];by_cases hlt:at_<s.length
 ·have hd:=dtz hlt;have hnx:=c_oneR s (by omega) at_ hlt;obtain⟨f,rfl⟩:∃g,f=g+1:=⟨f-1,by omega⟩;by_cases hz:(A7 (s.drop at_)).err=0
  ·have hn:=A8s hz;rw[A2J]at hn;have hst:T8 (f+1) s at_ acc=T8 f s (at_+(A7 (s.drop at_)).n+skM false (s.drop (at_+(A7 (s.drop at_)).n))) (acc++[⟨(A7 (s.drop at_)).kind,(A7 (s.drop at_)).text,(A7 (s.drop at_)).value,(at_:Int)⟩]):=by
    rw[T8,iN,if_neg (by simpa using hz)]
   rw[hst];obtain⟨x,hx⟩:∃x,x=A7 (s.drop at_):=⟨_,rfl⟩;rw[<- hx]at hnx hz hn ⊢;rw[nxR,if_pos hz,okN]at hnx;have hsk2:=c_skipR s hs (at_+x.n) (by omega);have hkl:=A4i false (s.drop (at_+x.n));rw[A2J]at hkl;obtain⟨z,hzz⟩:∃z,z=skM false (s.drop (at_+x.n)):=⟨_,rfl⟩;rw[<- hzz]at hsk2 hkl ⊢;have ne0:=W9 c (c+1) (c+2) (by omega);refine wBd hnx hsk2 (wJ hd ne0) ?_;refine G6 (F9 (cs:=cellsL (acc.map Tok.v)) (λe=>by rw[hno e];exact⟨rfl,rfl⟩) (λi hi=>?_) (by rw[C3 (u:=4) (G8 _)];simp) (by omega) (by omega) (by omega)) ?_
   ·have:=ho i hi;rw[hnO,hnO,hnO];exact A5i hi
   refine wBe hnx hsk2 (wJ hd ne0) ?_;exact⟨(f,at_+x.n+z,some (c+1+1),acc++[⟨x.kind,x.text,x.value,(at_:Int)⟩]),⟨v7,rfl⟩,
    A4h (by simp only[A0S,C4];rfl),inv ⟨g9,g9,u7,(λh=>by cases h),(λi hi=>by cases hi;omega),rfl⟩,by simp only;omega⟩
  ·have hst:T8 (f+1) s at_ acc=([],(at_:Int),(A7 (s.drop at_)).err):=by
    rw[T8,iN,if_pos hz]
   rw[hst];obtain⟨x,hx⟩:∃x,x=A7 (s.drop at_):=⟨_,rfl⟩;rw[<- hx]at hnx hz ⊢;rw[nxR,if_neg hz,A1a]at hnx;have hz':(x.err != 0)=true:=by simpa using hz
   have ne0:=A1z c (c+1) (by omega);refine wA8 hnx (wJ hd (wJ hz' ne0)) ?_;exact C0j
 ·have hd:=dfz hlt;refine wAs hd ?_;have hM2:T8 f s at_ acc=(acc,0,0):=by
   cases f with
   |zero=>rfl
   |succ f=>rw[T8,iP]
  rw[hM2];exact D5s (λe=>by rw[hno e];rfl) (by simp) (G8 acc)
theorem c_IsNameR(s:List UInt8)(hs:s.length<=1000000000):PC Tryz.prog 151 [.str s] (.bool (D8 s)):=by
 refine PC.go A3 ?_;have hw:=c_IsWordR s;cases s with
 |nil =>
  refine wAp ?_;exact A4 rfl
 |cons c r =>
  have hx:C5j (DV.str (c::r)) (.int .i64 0)=some (.int .u8 (c.toNat:Int)):=rfl;have hlt:=c_letterR c;have hd1:decide (((r.length+1:Nat):Int)<1)=false:=b9
  have hN:D8 (c::r)=(decide ((r.length+1)<=12)&&ltB c&&decide (F3 ptB (c::r)=r.length+1) && !L7 (c::r)):=by
   simp[D8]
  rw[hN];have hN2:∀b:Bool,decide (((r.length+1:Nat):Int)>12)=b->decide ((r.length+1)<=12) = !b:=by
   intro b hb;subst hb;rw[A2G];simp;omega
  obtain⟨dd,hdd⟩:∃dd,dd=decide ((r.length+1)<=12):=⟨_,rfl⟩;rw[<- hdd]at hN2 ⊢;obtain⟨ee,hee⟩:∃ee,ee=decide (F3 ptB (c::r)=r.length+1):=⟨_,rfl⟩;rw[<- hee];obtain⟨ff,hff⟩:∃ff,ff=L7 (c::r):=⟨_,rfl⟩;rw[<- hff]at hw ⊢;repeat'((with_reducible first|apply wr|refine cpc hw ?_|refine cpc hlt ?_|refine k_cu ?_ ?_|apply wb2<;>(intro hb;try simp only[hb]))<;>try simp only[go_sem,seval,hx,hd1])
  ·refine A4 (congrArg DV.bool ?_);rw[hN2 _ hb];rfl
  ·refine A4 (congrArg DV.bool ?_);have:ltB c=false:=by simpa using hb
   rw[this];simp
  ·refine A4 (congrArg DV.bool ?_);simp
  ·have hN3:=hN2 _ (by assumption);have hl:ltB c=true:=by simpa using (by assumption:(!ltB c)=false)
   rw[hN3,hl];refine A9 (λk:Nat=>[(0,.str (c::r)),(3,I64 k)]) (λ_=>nil) (λk _=>k<=(c::r).length/\k<=F3 ptB (c::r)) (λk=>(c::r).length-k) 0 (by simp[B5,tm,Tm.upd]) (Sub.nil _) (by simp) ?_;rintro k cc ⟨hk,he⟩;have hsl:=A2o ptB (c::r);have hS:(c::r).length=r.length+1:=rfl;by_cases hlt2:k<(c::r).length
   ·have hd:decide ((k:Int)<((r.length+1:Nat):Int))=true:=by simp only[A0L];omega
    have hg:=A0B hlt2;have hw:IntKind.i64.wrap ((k:Int)+1)=((k+1:Nat):Int):=l8
    have hst:=B2o hg he;obtain⟨x,hxx⟩:∃x,x=(c::r)[k]:=⟨_,rfl⟩;rw[<- hxx]at hg hst;have h1:=c_letterR x;have h2:=c_digitR x;obtain⟨L,hL⟩:∃L,L=c::r:=⟨_,rfl⟩;have hd3:decide ((k:Int)<(L.length:Int))=true:=by rw[hL];exact hd
    rw[<- hL]at hg hst hk he hsl hee ⊢;by_cases hp:ptB x=true
    ·have hgo:∃b,DV.int IntKind.i64 ((k+1:Nat):Int)=I64 ((b:Nat):Int)/\Sym.Sub Sym.nil Sym.nil/\C3m (λk _=>k<=L.length/\k<=F3 ptB L) b cc/\L.length-b<L.length-k :=
      ⟨k+1,rfl,Sub.refl _,inv ⟨by rw[hL];exact hlt2,hst.1 hp⟩,by rw[hL];omega⟩
     simp only[ptB,A1H,A0L]at hp;repeat'((with_reducible first|apply wr|refine cpc h1 ?_|refine cpc h2 ?_|refine k_cu ?_ ?_|apply wb2<;>(intro hb;try simp only[hb]))<;>try simp only[go_sem,seval,hd3,hg,hw])
     ·exfalso;have p1:ltB x=false:=by simpa using (by assumption:(!ltB x)=true)
      have p2:dgB x=false:=by simpa using (by assumption:(!dgB x)=true)
      have p3:=E3v (b:=95) hb;rw[p1,p2]at hp;rcases hp with (hp|hp)|hp
      ·cases hp
      ·cases hp
      ·exact p3 hp
     ·exact hgo
     ·exact hgo
     ·exact hgo
    ·have hp':ptB x=false:=by simpa using hp
     have hj:=hst.2 hp';simp only[ptB,Bool.or_eq_false_iff,A1O]at hp';obtain⟨⟨q1,q2⟩,q3⟩:=hp';have q4:((x.toNat:Int) != 95)=true:=b9
     refine wBd h1 h2 (wJ hd3 (wJ hg (wJ hw (wJ q1 (wJ q2 q4))))) ?_;refine A4 (congrArg DV.bool ?_);rw[hee,hj,decide_eq_false];have:L.length=r.length+1:=by rw[hL];rfl
     have:k<L.length:=by rw[hL];exact hlt2
     omega
   ·have hd:decide ((k:Int)<((r.length+1:Nat):Int))=false:=by simp only[A1O];omega
    refine wAs hd ?_;refine A4 (congrArg DV.bool ?_);rw[hee,decide_eq_true (by omega)]
theorem c_Dec:∀(m:Nat) (n:Int),n.natAbs<m -> -9223372036854775808<=n->n<=9223372036854775807->PC Tryz.prog 34 [I64 n] (.str (A4t n)):=by
 intro m
 induction m with
 |zero=>intro n h;omega
 |succ m ih =>
  intro n h h1 h2;have b:=F1e (d:=Z7 n) (C8s n);have hl:=C8s n;by_cases h0:n<0
  ·have hd:decide (n<0)=true:=by simpa using h0
   have e1:=E1j h0;have e2:=E1i h0;have hh:=C9b (n:=n) (by omega);have w1:=w64 (n := -((A2d n:Nat):Int));have w2:=w64 (n:=0 - -((Z7 n:Nat):Int));have w3:0 - -((Z7 n:Nat):Int)=(Z7 n:Int):=a8
   rw[w3]at w2;have hlen:=C2q (n := -((A2d n:Nat):Int)) (by omega) (by omega);have a0:=Q9 (s:=A4t (-((A2d n:Nat):Int))) (t:=[A4s (Z7 n)]) (by simp;omega);have a2:A5a (nil.upd 5 ⟨1,true,[DV.int .u8 ((A4s (Z7 n)).toNat:Int)]⟩) (.slc 5 0 1)=some (.str [A4s (Z7 n)]):=B1b A0 rfl rfl;have a1:=Q9 (s:=[45]) (t:=[A4s (Z7 n)]) (by simp);refine PC.go A3 ?_;repeat'((first|(with_reducible first|apply wr|refine cpc (ih (-((A2d n:Nat):Int)) (by omega) (by omega) (by omega)) ?_|refine k_cu ?_ ?_)|(with_reducible apply wb2<;>(intro hb;try simp only[hb]))|((with_reducible refine C8x (B1b (l:=[A4s (Z7 n)]) A0 rfl rfl) ?_)))<;>try simp only[go_sem,seval,hd,A8k,B3u,e1,e2,w1,w3,w2,b,a0,a1,a2])
   ·rw[D2c h0 (by simpa using hb)];exact A4 rfl
   ·rw[D8r h0 (by simpa using hb)];exact A4 rfl
  ·have hd:decide (n<0)=false:=by simpa using h0
   have e1:=E0w (n:=n) (by omega);have e2:=E0v (n:=n) (by omega);have hh:A2d n<=n.natAbs:=by unfold A2d;omega
   have w1:=w64 (n:=((A2d n:Nat):Int));have hlen:=C2q (n:=((A2d n:Nat):Int)) (by omega) (by omega);have a0:=Q9 (s:=A4t ((A2d n:Nat):Int)) (t:=[A4s (Z7 n)]) (by simp;omega);by_cases h9:n<10
   ·have hd9:decide (n<10)=true:=by simpa using h9
    refine PC.go A3 ?_;(repeat'((first|(with_reducible first|apply wr|refine k_cu ?_ ?_)|(with_reducible apply wb2<;>(intro hb;try simp only[hb]))|((with_reducible refine C8x (B1b (l:=[A4s (Z7 n)]) A0 rfl rfl) ?_)))<;>try simp only[go_sem,seval,hd,hd9,A8k,B3u,e1,e2,w1,b]));rw[B9c (by omega) h9];exact A4 rfl
   ·have hd9:decide (n<10)=false:=by simpa using h9
    have hh:=C9b (n:=n) (by omega);refine PC.go A3 ?_;(repeat'((first|(with_reducible first|apply wr|refine cpc (ih ((A2d n:Nat):Int) (by omega) (by omega) (by omega)) ?_|refine k_cu ?_ ?_)|(with_reducible apply wb2<;>(intro hb;try simp only[hb]))|((with_reducible refine C8x (B1b (l:=[A4s (Z7 n)]) A0 rfl rfl) ?_)))<;>try simp only[go_sem,seval,hd,hd9,A8k,B3u,e1,e2,w1,b,a0]));rw[C9o h9];exact A4 rfl
theorem c_Dec'(n:Int)(h1 : -9223372036854775808<=n)(h2:n<=9223372036854775807):PC Tryz.prog 34 [I64 n] (.str (A4t n)):=c_Dec (n.natAbs+1) n (by omega) h1 h2
theorem D5t{H:Hp}{a b:DV}:∃H2,GL H [.tup [.agg [.snil,.snil],a,b]] H2 [.tup [.agg [.lst [],.lst []],a,b]] :=
 ⟨H,GL.view fun ρ vs hA=>P8 (λv h=>by
  obtain⟨b',rfl,k1,k2⟩:=h.tup_inv;refine .tup _ _ k1 λi x y hx hy=>?_
  match i with
  |0 =>
   cases hx;obtain⟨c',rfl,m1,m2⟩:=(k2 0 _ y rfl hy).agg_inv;refine .agg _ _ m1 λj x z hx hz=>?_
   match j with
   |0=>cases hx;exact(m2 0 _ z rfl hz).snil_lst
   |1=>cases hx;exact(m2 1 _ z rfl hz).snil_lst
   |_+2=>cases hx
  |1=>cases hx;exact k2 1 _ y rfl hy
  |2=>cases hx;exact k2 2 _ y rfl hy
  |_+3=>cases hx) vs hA⟩
theorem c_Parse(s:List UInt8)(hs:s.length<=1000000000):PC Tryz.prog 13 [.str s] (E1a (O7 s)):=by
 refine PC.ofT A3 rfl (A0F rfl) rfl (E0z _) ?_;have hsc:=c_ScanR s hs;have hpar:O7 s=O7 s:=rfl;by_cases h0:(J2 s).2.2=0
 ·have hd:((J2 s).2.2 != 0)=false:=by simpa using h0
  refine wA8 hsc hd ?_;obtain⟨f,hf⟩:=(A7l (J2 s).1 s.length).get;refine AC.call (c_rules (J2 s).1 s.length (by have:=C7f h0;omega) (D4r h0) f rd0 _ hf (A0Q _) _ _ 1 rfl (by decide)) ?_;rintro v H' c2 ⟨rfl,rfl⟩ hc2;have hM:O7 s=if okR (A2l (J2 s).1 s.length).2=false then(Ru0,(A2l (J2 s).1 s.length).2.pos,(A2l (J2 s).1 s.length).2.e) else((A2l (J2 s).1 s.length).1,0,0):=by
   unfold O7;dsimp only;rw[if_neg (by simpa using h0)]
  rw[hM];generalize A2l (J2 s).1 s.length=w;clear hM hpar hf;have ne0:=W9 0 1 c2 (by omega);refine wAx ne0 @A0 @A1 ?_;refine AC.call (c_rdok (J2 s).1 s.length w.2 _ _ 1 (by rw[hnO];exact A0) (by omega)) ?_;rintro v H' c3 ⟨rfl,rfl⟩ hc3;cases hok:okR w.2 with
  |true =>
   rw[if_neg (by decide)];refine wAz hok ne0 @A0 @A1 ?_;rw[G4 (v:=E1a (w.1,0,0)) rfl];exact⟨_,GL.refl _ _⟩
  |false =>
   rw[if_pos rfl];refine wAz hok ne0 @A0 @A1 ?_
   repeat refine⟨n9,?_⟩
   refine wAy hok ne0 @A0 @A1 ?_;rw[G4 (v:=.tup [.agg [.snil,.snil],I64 w.2.pos,I64 w.2.e]) rfl];exact D5t
 ·have hd:((J2 s).2.2 != 0)=true:=by simpa using h0
  have hM:O7 s=(Ru0,(J2 s).2.1,(J2 s).2.2):=by
   unfold O7;dsimp only;rw[if_pos h0]
  rw[hM];refine wA8 hsc hd ?_;rw[G4 (v:=.tup [.agg [.snil,.snil],I64 (J2 s).2.1,I64 (J2 s).2.2]) rfl];exact D5t
open Go.Sym
abbrev x96:XT Tryz.prog 96:=mkF
instance t96:FT Tryz.prog 96 x96.d:=x96.ft
abbrev x97:XT Tryz.prog 97:=mkF
instance t97:FT Tryz.prog 97 x97.d:=x97.ft
abbrev x98:XT Tryz.prog 98:=mkF
instance t98:FT Tryz.prog 98 x98.d:=x98.ft
abbrev x186:XT Tryz.prog 186:=mkF
instance t186:FT Tryz.prog 186 x186.d:=x186.ft
abbrev x95:XT Tryz.prog 95:=mkF
instance t95:FT Tryz.prog 95 x95.d:=x95.ft
abbrev x219:XT Tryz.prog 219:=mkF
instance t219:FT Tryz.prog 219 x219.d:=x219.ft
abbrev x208:XT Tryz.prog 208:=mkF
instance t208:FT Tryz.prog 208 x208.d:=x208.ft
abbrev x185:XT Tryz.prog 185:=mkF
instance t185:FT Tryz.prog 185 x185.d:=x185.ft
abbrev x100:XT Tryz.prog 100:=mkF
instance t100:FT Tryz.prog 100 x100.d:=x100.ft
abbrev x152:XT Tryz.prog 152:=mkF
instance t152:FT Tryz.prog 152 x152.d:=x152.ft
abbrev x94:XT Tryz.prog 94:=mkF
instance t94:FT Tryz.prog 94 x94.d:=x94.ft
abbrev x56:XT Tryz.prog 56:=mkF
instance t56:FT Tryz.prog 56 x56.d:=x56.ft
abbrev x26:XT Tryz.prog 26:=mkF
instance t26:FT Tryz.prog 26 x26.d:=x26.ft
abbrev x154:XT Tryz.prog 154:=mkF
instance t154:FT Tryz.prog 154 x154.d:=x154.ft
abbrev x102:XT Tryz.prog 102:=mkF
instance t102:FT Tryz.prog 102 x102.d:=x102.ft
abbrev x58:XT Tryz.prog 58:=mkF
instance t58:FT Tryz.prog 58 x58.d:=x58.ft
abbrev x187:XT Tryz.prog 187:=mkF
instance t187:FT Tryz.prog 187 x187.d:=x187.ft
abbrev x153:XT Tryz.prog 153:=mkF
instance t153:FT Tryz.prog 153 x153.d:=x153.ft
abbrev x101:XT Tryz.prog 101:=mkF
instance t101:FT Tryz.prog 101 x101.d:=x101.ft
abbrev x57:XT Tryz.prog 57:=mkF (i:=⟨135,.seq (.reg [oX 2 0,oX 3 1,oV 4 (.bool false)]) (.seq (.seq (.reg [oF 12 2 0,oL 13 12,oH 14 13,oF 15 3 0,oL 16 15,oH 17 16,oB 18 14 17 .neq,oM 19 18,hF 20 2 1 19,hL 21 20 19,oR 22 (.len (.t 21)) 19,hF 23 3 1 19,hL 24 23 19,oR 25 (.len (.t 24)) 19,oR 26 (.bin .neq (.t 22) (.t 25)) 19,oO 27 19 26]) (.cond (.t 27) (.seq (.reg [oV 4 (.bool false)]) .ret) .skip)) (.seq (.seq (.reg [oI 5 0]) (.blk 0 (.loop (.seq (.seq (.reg [oM 28 5,oF 29 2 0,oL 30 29,oH 31 30,oB 32 28 31 .lss]) (.cond (.t 32) .skip (.exit 0))) (.seq (.blk 1 (.seq (.drw 11 (dQ [oF 35 2 0,oL 36 35,oM 37 5,oA 38 36 37 4,oD 39 38 4,oF 40 3 0,oL 41 40,oM 42 5,oA 43 41 42 4,oD 44 43 4,oP 45 (.eqa true [0,2,0,0] (.t 39) (.t 44))] 0)) (.cond (.t 45) (.seq (.reg [oV 4 (.bool false)]) .ret) .skip))) (.reg [oM 33 5,oK 34 33 .add 1,oM 5 34])))))) (.seq (.seq (.reg [oI 6 0]) (.blk 2 (.loop (.seq (.seq (.reg [oM 46 6,oF 47 2 1,oL 48 47,oH 49 48,oB 50 46 49 .lss]) (.cond (.t 50) .skip (.exit 2))) (.seq (.blk 3 (.seq (.drw 14 ⟨[oF 53 2 1,oL 54 53,oM 55 6,oA 56 54 55 4,oD 57 56 4,oF 58 3 1,oL 59 58,oM 60 6,oA 61 59 60 4,oD 62 61 4,oW 7 (.agg #[.string ⟨#[]⟩,.int .i64 0,.slice none 0 0,.int .i64 0]),oW 8 (.agg #[.string ⟨#[]⟩,.int .i64 0,.slice none 0 0,.int .i64 0]),oS 7 57 4,oS 8 62 4],[],[(0,none),(1,none),(2,none),(3,none),(4,none),(5,none),(6,none),(7,none),(8,none),(9,none),(10,none),(11,none),(12,some [5,6,7,8,9]),(13,some [])]⟩) (.seq (.seq (.reg [oF 63 7 0,oL 64 63,oF 65 8 0,oL 66 65,oB 67 64 66 .neq,oM 68 67,hF 69 7 1 68,hL 70 69 68,hF 71 8 1 68,hL 72 71 68,oR 73 (.bin .neq (.t 70) (.t 72)) 68,oO 74 68 73,oM 75 74,hF 76 7 3 75,hL 77 76 75,hF 78 8 3 75,hL 79 78 75,oR 80 (.bin .neq (.t 77) (.t 79)) 75,oO 81 75 80,oM 82 81,hF 83 7 2 82,hL 84 83 82,oR 85 (.len (.t 84)) 82,hF 86 8 2 82,hL 87 86 82,oR 88 (.len (.t 87)) 82,oR 89 (.bin .neq (.t 85) (.t 88)) 82,oO 90 82 89]) (.cond (.t 90) (.seq (.reg [oV 4 (.bool false)]) .ret) .skip)) (.seq (.reg [oI 9 0]) (.blk 4 (.loop (.seq (.seq (.reg [oM 91 9,oF 92 7 2,oL 93 92,oH 94 93,oB 95 91 94 .lss]) (.cond (.t 95) .skip (.exit 4))) (.seq (.blk 5 (.seq (.drw 14 ⟨[oF 98 7 2,oL 99 98,oM 100 9,oA 101 99 100 4,oD 102 101 4,oF 103 8 2,oL 104 103,oM 105 9,oA 106 104 105 4,oD 107 106 4,oW 10 (.agg #[.int .i64 0,.string ⟨#[]⟩,.slice none 0 0,.int .i64 0]),oW 11 (.agg #[.int .i64 0,.string ⟨#[]⟩,.slice none 0 0,.int .i64 0]),oS 10 102 4,oS 11 107 4],[],[(0,none),(1,none),(2,none),(3,none),(4,none),(5,none),(6,none),(7,none),(8,none),(9,none),(10,none),(11,none),(12,some [5,6,7,8,9]),(13,some [])]⟩) (.seq (.reg [oF 108 10 0,oL 109 108,oF 110 11 0,oL 111 110,oB 112 109 111 .neq,oM 113 112,hF 114 10 1 113,hL 115 114 113,hF 116 11 1 113,hL 117 116 113,oR 118 (.bin .neq (.t 115) (.t 117)) 113,oO 119 113 118,oM 120 119,hF 121 10 3 120,hL 122 121 120,hF 123 11 3 120,hL 124 123 120,oR 125 (.bin .neq (.t 122) (.t 124)) 120,oO 126 120 125,oM 127 126,hF 128 10 2 127,hL 129 128 127,hF 130 11 2 127,hL 131 130 127,⟨some 132,.call 101 [.t 129,.t 131],some (127,false)⟩,oR 133 (.un .not (.t 132)) 127,oO 134 127 133]) (.cond (.t 134) (.seq (.reg [oV 4 (.bool false)]) .ret) .skip)))) (.reg [oM 96 9,oK 97 96 .add 1,oM 9 97]))))))))) (.reg [oM 51 6,oK 52 51 .add 1,oM 6 52])))))) (.seq (.reg [oV 4 (.bool true)]) .ret)))),[.tmp 4]⟩) (by unfold P0;kernel_rfl) (λh=>by conv=>lhs;cbv)
instance t57:FT Tryz.prog 57 x57.d:=x57.ft
theorem A6d{k v p:Int}{x:List UInt8}:∃H2,GL (nil.upd 0 ⟨4,true,[I64 k,.str x,I64 v,I64 p]⟩) [.slc 0 0 1] H2 [D0 [⟨k,x,v,p⟩]] :=
 U1 rfl rfl rfl (G8 _) ⟨[],rfl⟩
theorem A8n{o:Option Nat}{xs:List DV}{u n:Nat}(hno:o=none->xs=[])(hl:xs.length=n)(hu:∀x∈xs,x.cells.length=u):
  ∃H2,GL (optH Sym.nil o ⟨u,true,cellsL xs⟩) [todoV o n] H2 [.lst xs]:=by
 cases o with
 |none=>rw[hno rfl];exact C7y
 |some i=>exact U1 (id:=i) A0 rfl hl hu ⟨[],by simp⟩
theorem c_named(s:List UInt8)(hs:s.length<=1000000000):PC Tryz.prog 97 [.str s] (D0 (F1 s)):=by
 refine PC.go A3 ?_;have h1:=c_IsNameR s hs;unfold F1;cases h:D8 s with
 |true =>
  rw[if_neg (by decide)];refine wA8 h1 h ?_;exact A6d
 |false =>
  rw[if_pos rfl];refine wA8 h1 h ?_;exact A6d
theorem c_number31(n:Int):PC Tryz.prog 98 [I64 n] (D0 (A0s n)):=by
 refine PC.go A3 ?_;unfold A0s;by_cases h0:n<0
 ·have hd:decide (n<0)=true:=by simpa using h0
  rw[if_pos (.inl h0)];refine wAs hd ?_;exact A6d
 ·have hd:decide (n<0)=false:=by simpa using h0
  by_cases h1:2147483647<n
  ·have hd1:decide (n>2147483647)=true:=by simpa using h1
   rw[if_pos (.inr h1)];refine wAs (wJ hd hd1) ?_;exact A6d
  ·have hd1:decide (n>2147483647)=false:=by simpa using h1
   rw[iN];refine wAs (wJ hd hd1) ?_;exact A6d
theorem c_words1(l:List (List UInt8))(hl:l.length<=1000000)(hx:∀x∈l,x.length<=1000000000):PC Tryz.prog 96 [A7a l] (D0 (l.map A2)):=by
 refine PC.ofT A3 rfl (A0F rfl) (by simp[DV.nlL,DV.nl,J1]) (Q5 _) ?_;refine wAp ?_;refine A9 (λq:Nat × Option Nat=>[(0,A7a l),(3,todoV q.2 q.1),(4,I64 q.1)]) (λq=>optH Sym.nil q.2 ⟨4,true,cellsL (((l.take q.1).map A2).map Tok.v)⟩)
  (λq c=>q.1<=l.length/\(q.2=none->q.1=0)/\(∀i,q.2=some i->i<c)) (λq=>l.length-q.1) (0,none)
  (by simp[B5,tm,Tm.upd,todoV]) (Sub.nil _) ⟨A0Q _,λ_=>rfl,(λi hi=>by cases hi)⟩ ?_
 rintro⟨k,o⟩ c ⟨hk,hno,ho⟩;dsimp only at hk hno ho ⊢;by_cases hlt:k<l.length
 ·have hd:=dtz hlt;have hg:=A0B hlt;have hx1:=hx _ (A0O hlt);have hw:=w64 (n:=(k:Int)+1);have e0:(l.take (k+1)).map A2=(l.take k).map A2++[A2 l[k]]:=by rw[A0V,hg,A0S];rfl
  generalize l[k]=x at hg hx1 e0;have h1:=c_IsWordR x;have h2:=c_IsNameR x (by omega);have ne0:=A1z c (c+1) (by omega);have hln:(cellsL (((l.take k).map A2).map Tok.v)).length=k*4:=(C3 (u:=4) (G8 _)).trans (by rw[A0N,A0N,A1C,Nat.min_eq_left hk]);cases hw1:L7 x with
  |true =>
   refine wBd h1 h2 (wJ hd (wJ hg (wJ hw (wJ hw1 (wJ ne0 (wJ @A0 @A1)))))) ?_;refine G6 (F9 (cs:=cellsL (((l.take k).map A2).map Tok.v)) (λe=>by have:=hno e;subst this;exact⟨rfl,rfl⟩) (λi hi=>by have:=ho i hi;rw[hnO,hnO];exact A5i hi) hln (by omega) (by omega) (by omega)) ?_;refine wAx hd hw ne0 ?_;refine⟨(k+1,some (c+1+1)),by simp[B5,tm,Tm.upd,todoV],?_,inv ⟨a8,(λh=>by cases h),(λi hi=>by cases hi;omega)⟩,by simp only;omega⟩;dsimp only[optH];rw[e0,A0S,C4];refine A4h ?_;unfold A2;simp only[hw1,if_true,if_false,A1M];rfl
  |false =>
   cases hn1:D8 x with
   |true =>
    refine wBd h1 h2 (wJ hd (wJ hg (wJ hw (wJ hw1 (wJ hn1 (wJ ne0 (wJ @A0 @A1))))))) ?_;refine G6 (F9 (cs:=cellsL (((l.take k).map A2).map Tok.v)) (λe=>by have:=hno e;subst this;exact⟨rfl,rfl⟩) (λi hi=>by have:=ho i hi;rw[hnO,hnO];exact A5i hi) hln (by omega) (by omega) (by omega)) ?_;refine wAx hd hw ne0 ?_;refine⟨(k+1,some (c+1+1)),by simp[B5,tm,Tm.upd,todoV],?_,inv ⟨a8,(λh=>by cases h),(λi hi=>by cases hi;omega)⟩,by simp only;omega⟩;dsimp only[optH];rw[e0,A0S,C4];refine A4h ?_;unfold A2;simp only[hw1,hn1,if_true,if_false,A1M];rfl
   |false =>
    refine wBd h1 h2 (wJ hd (wJ hg (wJ hw (wJ hw1 (wJ hn1 (wJ ne0 (wJ @A0 @A1))))))) ?_;refine G6 (F9 (cs:=cellsL (((l.take k).map A2).map Tok.v)) (λe=>by have:=hno e;subst this;exact⟨rfl,rfl⟩) (λi hi=>by have:=ho i hi;rw[hnO,hnO];exact A5i hi) hln (by omega) (by omega) (by omega)) ?_;refine wAx hd hw ne0 ?_;refine⟨(k+1,some (c+1+1)),by simp[B5,tm,Tm.upd,todoV],?_,inv ⟨a8,(λh=>by cases h),(λi hi=>by cases hi;omega)⟩,by simp only;omega⟩;dsimp only[optH];rw[e0,A0S,C4];refine A4h ?_;unfold A2;simp only[hw1,hn1,if_true,if_false,A1M];rfl
 ·have hd:=dfz hlt;refine wAs hd ?_;rw[A0J (by omega)];exact A8n (λe=>by rw[A1Y (l:=l) (by have:=hno e;omega)];rfl) (by simp;omega) (G8 _)
theorem c_join1(l:List (List Tok))(hl:l.length<=1000)(hx:∀x∈l,1<=x.length/\x.length<=1000000000):PC Tryz.prog 95 [.lst (l.map D0)] (D0 l.flatten):=by
 refine PC.ofT A3 rfl (A0F rfl) (by simp only[DV.nlL,DV.nl,P1 (f:=D0) (λa=>Q5 a),A3I]) (Q5 _) ?_;refine wAp ?_;refine A9 (λq:Nat × Option Nat=>[(0,.lst (l.map D0)),(3,todoV q.2 (l.take q.1).flatten.length),(4,I64 q.1)]) (λq=>optH Sym.nil q.2 ⟨4,true,cellsL ((l.take q.1).flatten.map Tok.v)⟩)
  (λq c=>q.1<=l.length/\(q.2=none->q.1=0)/\(∀i,q.2=some i->i<c)/\(l.take q.1).flatten.length<=1000000000*q.1) (λq=>l.length-q.1) (0,none)
  (by simp[B5,tm,Tm.upd,todoV]) (Sub.nil _) ⟨A0Q _,λ_=>rfl,(λi hi=>by cases hi),by simp⟩ ?_
 rintro⟨k,o⟩ c ⟨hk,hno,ho,hlen⟩;dsimp only at hk hno ho hlen ⊢;by_cases hlt:k<l.length
 ·have hd:=dtz hlt;have hg:=A0B hlt;obtain⟨hx1,hx2⟩:=hx _ (A0O hlt);have hw:=w64 (n:=(k:Int)+1);have e0:(l.take (k+1)).flatten=(l.take k).flatten++l[k]:=by rw[A0V,hg,List.flatten_append];simp
  generalize l[k]=x at hg hx1 hx2 e0;generalize hy:(l.take k).flatten=y at hlen e0 ⊢;have hun:unit 4 (x.map Tok.v)=true:=by unfold unit;rw[A0R];intro d hd;simp[G8 x d hd]
  have hny:o=none->y=[]:=λe=>by rw[<- hy,hno e];rfl
  have hln:(cellsL (y.map Tok.v)).length=y.length*4:=(C3 (u:=4) (G8 _)).trans (by simp);(repeat'((with_reducible first|apply wr|refine k_cu ?_ ?_|apply wb2<;>(intro hb;try simp only[hb]))<;>try simp only[go_sem,seval,hd,hg,hw,X9 hun]));refine G6 (F9 (cs:=cellsL (y.map Tok.v)) (λe=>by rw[hny e];exact⟨rfl,rfl⟩) (λi hi=>A5i hi) hln (by omega) (by omega) (by omega)) ?_;refine wAu (wJ hd hw) ?_;refine⟨(k+1,some c),y7,?_,inv ⟨a8,(λh=>by cases h),(λi hi=>by cases hi;omega),by simp only;rw[e0,A0A];omega⟩,by simp only;omega⟩;dsimp only[optH];rw[e0,A0S,C4];exact A4h rfl
 ·have hd:=dfz hlt;refine wAs hd ?_;rw[A0J (by omega)];exact A8n (λe=>by rw[A1Y (l:=l) (by have:=hno e;omega)];rfl) (by rw[A0N]) (G8 _)
theorem A0i{H:Hp}{i j:Nat}:delO H (some i) j=if j=i then none else H j:=_root_.id rfl
theorem D8p{H:Hp}{i:Nat}{b:Blk}:delO (H.upd i b) (some i)=delO H (some i):=by
 funext j;rw[A0i,A0i];split
 ·rfl
 ·rename_i h;rw[h_ne h]
theorem E3c{H:Hp}{i k:Nat}{b:Blk}(h:¬k=i):delO (H.upd k b) (some i)=(delO H (some i)).upd k b:=by
 funext j;rw[A0i]
 by_cases e:j=k
 ·subst e;rw[A0,if_neg h,A0]
 ·rw[h_ne e,h_ne e,A0i]
theorem E3d{i:Nat}:delO nil (some i)=nil:=by
 funext j;rw[A0i];split<;>rfl
theorem E9n{ks:List Nat}{H:Hp}{i:Nat}(h:ks.all (λk=>k != i)=true):O9 ks H (delO (K3 H ks) (some i))=delO H (some i):=by
 have hi:i ∉ ks:=λhm=>by simpa using A0R.1 h i hm
 funext j
 simp only[O9,A0i,K3];by_cases e:j=i
 ·subst e;rw[if_neg hi,if_pos rfl,if_pos rfl]
 ·by_cases e2:j∈ks
  ·rw[if_pos e2,if_neg e]
  ·rw[if_neg e2,if_neg e,if_neg e,if_neg e2]
attribute [go_sem] D8p E3c E3d
theorem E1s{k i:Nat}{H:Hp}(h:¬k=i):O9 [k] H (delO (K3 H [k]) (some i))=delO H (some i):=E9n (by simpa using h)
attribute [go_sem] E1s
theorem A3q{f:Nat}{xs:List DV}{r:DV}{u id n cc:Nat}{H:Hp}{cs:List DV}(h:PC Tryz.prog f [.lst xs] r)(hb:H id=some ⟨u,true,cs⟩)(hcs:cs=cellsL xs)(hl:xs.length=n)(hu:∀x∈xs,x.cells.length=u):
  AC Tryz.prog f [.slc id 0 n] H cc (λv H' c'=>v=r/\H'=delO H (some id)/\c'=cc) :=
 AC.ghost (GL.frzS (id:=id) hb rfl (λj=>by
  by_cases e:j=id
  ·subst e;exact .inl (by rw[A0i,if_pos rfl])
  ·exact .inr ⟨e,by rw[A0i,if_neg e]⟩) (.cons _ _ _ _ (U3 hl hu ⟨[],by rw[hcs];simp⟩) .nil)) (h.at _ cc)
def wT(x:List UInt8):List Tok:=[A2 x]
theorem A9v(x:List UInt8):1<=(wT x).length/\(wT x).length<=1000000000:=⟨A0E _,by show 1<=_;omega⟩
theorem wd1{x:List UInt8}{id cc:Nat}{H:Hp}(hb:H id=some ⟨1,true,[.str x]⟩)(hx:x.length<=1000000000):
  AC Tryz.prog 96 [.slc id 0 1] H cc (λv H' c'=>v=D0 (wT x)/\H'=delO H (some id)/\c'=cc) :=
 A3q (xs:=[.str x]) (c_words1 [x] (by simp) (by simpa using hx)) hb rfl rfl (T7 [x])
theorem wd2{x y:List UInt8}{id cc:Nat}{H:Hp}(hb:H id=some ⟨1,true,[.str x,.str y]⟩)(hx:x.length<=1000000000)(hy:y.length<=1000000000):
  AC Tryz.prog 96 [.slc id 0 2] H cc (λv H' c'=>v=D0 [A2 x,A2 y]/\H'=delO H (some id)/\c'=cc) :=
 A3q (xs:=[.str x,.str y]) (c_words1 [x,y] (by simp) (by simp[hx,hy])) hb rfl rfl (T7 [x,y])
theorem A8f(l:List (List Tok)):∀x∈l.map D0,x.cells.length=1:=λx hx=>w7
theorem jn2{a b:List Tok}{id cc:Nat}{H:Hp}(hH:H id=some ⟨1,true,[D0 a,D0 b]⟩)(ha:1<=a.length/\a.length<=1000000000)(hb:1<=b.length/\b.length<=1000000000):
  AC Tryz.prog 95 [.slc id 0 2] H cc (λv H' c'=>v=D0 (a++b)/\H'=delO H (some id)/\c'=cc):=by
 have:=A3q (id:=id) (cc:=cc) (H:=H) (u:=1) (n:=2) (c_join1 [a,b] (by simp) (by simp[ha,hb])) hH rfl rfl (A8f [a,b])
 rwa [A1K,A1K,A3L,A1D]at this
theorem jn3{a b c:List Tok}{id cc:Nat}{H:Hp}(hH:H id=some ⟨1,true,[D0 a,D0 b,D0 c]⟩)(ha:1<=a.length/\a.length<=1000000000)(hb:1<=b.length/\b.length<=1000000000)(hc:1<=c.length/\c.length<=1000000000):
  AC Tryz.prog 95 [.slc id 0 3] H cc (λv H' c'=>v=D0 (a++b++c)/\H'=delO H (some id)/\c'=cc):=by
 have:=A3q (id:=id) (cc:=cc) (H:=H) (u:=1) (n:=3) (c_join1 [a,b,c] (by simp) (by simp[ha,hb,hc])) hH rfl rfl (A8f [a,b,c])
 rwa [A1K,A1K,A1K,A3L,A1D, <- A0K]at this
theorem E8y(x:List UInt8):1<=(F1 x).length/\(F1 x).length<=1000000000:=by rw[B6];omega
theorem c_operand(e:Ex)(n:Int)(hT:(exT e).length<=100000000)(h:PC Tryz.prog 208 [e.v] (D0 (exT e))):PC Tryz.prog 219 [e.v,I64 n] (D0 (H9 (e.kind,exT e) n)):=by
 refine PC.ofT A3 rfl (A0F rfl) (by simp[DV.nlL,DV.nl,Ex.nl]) (Q5 _) ?_;rw[Ex.v_w]at h ⊢;have hlv:=c_level e.kind;obtain⟨hl1, -⟩:=A6n e;obtain⟨R,hR⟩:∃R,R=D0 (H9 (e.kind,exT e) n):=⟨_,rfl⟩;rw[<- hR];unfold H9 at hR;dsimp only at hR;generalize exT e=T at h hT hl1 hR;by_cases hlt:B0 e.kind<n
 ·have hd:decide (B0 e.kind<n)=true:=by simpa using hlt
  rw[if_pos hlt]at hR;(repeat'((first|(with_reducible first|apply wr|refine cpc hlv ?_|refine cpc h ?_|refine k_cu ?_ ?_)|(with_reducible apply wb2<;>(intro hb;try simp only[hb]))|(refine ca3 (wd1 rfl (by decide)) ?_)|(refine ca3 (jn3 rfl (A9v _) ⟨hl1,by omega⟩ (A9v _)) ?_))<;>try simp only[go_sem,seval,hd]));exact⟨_,by rw[hR];exact GL.refl _ _⟩
 ·have hd:decide (B0 e.kind<n)=false:=by simpa using hlt
  rw[if_neg hlt]at hR;refine wBd hlv h hd ?_;exact⟨_,by rw[hR];exact GL.refl _ _⟩
theorem D5e{sz:Nat}{xs:List DV}{k:IntKind}:A9b sz (.lst xs) (.int k 1)=D1n sz xs[1]? := C4i (l:=1)
theorem c_exprT:∀(m:Nat) (e:Ex),e.sz<m->e.sz<=10000000->PC Tryz.prog 208 [e.v] (D0 (exT e)):=by
 intro m
 induction m with
 |zero=>intro e h;omega
 |succ m ih =>
 intro e hm hB;have ihx:∀x∈e.args,PC Tryz.prog 208 [x.v] (D0 (exT x)):=λx hx=>ih x (by have:=Ex.sz_arg hx;omega) (by have:=Ex.sz_arg hx;omega);have hop:∀x∈e.args, ∀n,PC Tryz.prog 219 [x.v,I64 n] (D0 (H9 (x.kind,exT x) n)):=λx hx n=>c_operand x n (by have:=(A6n x).2;have:=Ex.sz_arg hx;omega) (ihx x hx);have hle:∀x∈e.args, ∀n,1<=(H9 (x.kind,exT x) n).length/\(H9 (x.kind,exT x) n).length<=1000000000:=λx hx n=>by
  have h1:=A6n x;have h2:=Ex.sz_arg hx;have h3:=A6e (x.kind,exT x) n;dsimp only at h3;omega
 clear ih ihx;obtain⟨R,hR⟩:∃R,R=D0 (exT e):=⟨_,rfl⟩;have hnm:=e.sz_name;refine PC.ofT A3 rfl (A0F rfl) (by simp[DV.nlL,DV.nl,Ex.nl]) (Q5 _) ?_;rw[Ex.v_w, <- hR];cases e with|mk k v n a p =>
 rw[exT,A9i]at hR;dsimp only[Ex.w,Ex.kind,Ex.value,Ex.name,Ex.args,Ex.pos]at hop hle hnm ⊢;unfold P6 at hR;dsimp only at hR;have hlv:=c_level k;have hnu:=c_number31 v;have hna:=c_named n (by omega);by_cases h1:k=1
 ·subst h1;rw[if_pos rfl]at hR;refine wBb hlv hnu ?_;exact⟨_,by rw[hR];exact GL.refl _ _⟩
 have d1:(k==1)=false:=w9
 rw[if_neg h1]at hR;by_cases h2:k=2
 ·subst h2;rw[if_pos rfl]at hR;refine wBb hlv hna ?_;exact⟨_,by rw[hR];exact GL.refl _ _⟩
 have d2:(k==2)=false:=by simpa using h2
 rw[if_neg h2]at hR;by_cases h3:k=3
 ·subst h3;rw[if_pos rfl]at hR;refine wAh hlv ?_;exact⟨_,by rw[hR];exact GL.refl _ _⟩
 have d3:(k==3)=false:=by simpa using h3
 rw[if_neg h3]at hR;by_cases h4:k=4
 ·subst h4;rw[if_pos rfl]at hR;refine wAh hlv ?_;exact⟨_,by rw[hR];exact GL.refl _ _⟩
 have d4:(k==4)=false:=by simpa using h4
 rw[if_neg h4]at hR;by_cases h8:k=8
 ·subst h8;rw[if_pos rfl]at hR;refine wAh hlv ?_;exact⟨_,by rw[hR];exact GL.refl _ _⟩
 have d8:(k==8)=false:=by simpa using h8
 rw[if_neg h8]at hR;by_cases h9:k=9
 ·subst h9;rw[if_pos rfl]at hR;refine wAh hlv ?_;exact⟨_,by rw[hR];exact GL.refl _ _⟩
 have d9:(k==9)=false:=by simpa using h9
 rw[if_neg h9]at hR;by_cases h5:k=5
 ·subst h5;rw[if_pos rfl]at hR;refine wAe hlv hna ?_;exact⟨_,by rw[hR];exact GL.refl _ _⟩
 have d5:(k==5)=false:=by simpa using h5
 rw[if_neg h5]at hR;by_cases h6:k=6
 ·subst h6;rw[if_pos rfl]at hR;refine wAe hlv hna ?_;exact⟨_,by rw[hR];exact GL.refl _ _⟩
 have d6:(k==6)=false:=by simpa using h6
 rw[if_neg h6]at hR;by_cases h7:k=7
 ·subst h7;rw[if_pos rfl]at hR;refine wAe hlv hna ?_;exact⟨_,by rw[hR];exact GL.refl _ _⟩
 have d7:(k==7)=false:=by simpa using h7
 rw[if_neg h7]at hR;have hbad:∀q:List Tok,R=D0 q->q=[A1t]->∃H2,GL ((nil.upd 0 ⟨0,true,[I64 k,I64 v,.str n,L9 a,I64 p]⟩).upd 1 ⟨4,true,[I64 0,.str [],I64 0,I64 0]⟩) [.slc 1 0 1] H2 [R]:=λq h1 h2=>by
  rw[h1,h2];exact U1 (id:=1) A0 rfl rfl (G8 [A1t]) ⟨[],rfl⟩
 have w0:IntKind.i64.wrap 0=0:=n7
 have w1:IntKind.i64.wrap 1=1:=n7
 match a with
 |[] =>
  have e1:((0:Int)==1)=false:=rfl;have e2:((0:Int)==2)=false:=rfl;try dsimp only[List.map_nil]at hR
  by_cases l6:B0 k=6
  ·have m6:(B0 k==6)=true:=by simpa using l6
   have m5:decide (B0 k<6)=false:=b9
   refine wA6 hlv (wJ d1 (wJ d2 (wJ d3 (wJ d4 (wJ d8 (wJ d9 (wJ d5 (wJ d6 (wJ d7 (wJ m6 m5)))))))))) ?_;exact hbad _ hR rfl
  ·have m6:(B0 k==6)=false:=by simpa using l6
   by_cases l5:B0 k<6
   ·have m5:decide (B0 k<6)=true:=by simpa using l5
    refine wA6 hlv (wJ d1 (wJ d2 (wJ d3 (wJ d4 (wJ d8 (wJ d9 (wJ d5 (wJ d6 (wJ d7 (wJ m6 m5)))))))))) ?_;exact hbad _ hR rfl
   ·have m5:decide (B0 k<6)=false:=by simpa using l5
    refine wA6 hlv (wJ d1 (wJ d2 (wJ d3 (wJ d4 (wJ d8 (wJ d9 (wJ d5 (wJ d6 (wJ d7 (wJ m6 m5)))))))))) ?_;exact hbad _ hR rfl
 |[x] =>
  have hx:=λn=>by have:=hop x A0H n;rwa [Ex.v_w]at this
  have hxl:=hle x A0H;simp only[A0P,List.map_nil]at hR;by_cases l6:B0 k=6
  ·have m6:(B0 k==6)=true:=by simpa using l6
   rw[if_pos l6]at hR;have hk:k=10\/k=11:=by
    unfold B0 at l6;repeat' split at l6
    all_goals omega
   rcases hk with rfl|rfl
   ·rw[if_pos rfl]at hR;refine wAd hlv (hx 6) (wJ d1 (wJ d2 (wJ d3 (wJ d4 (wJ d8 (wJ d9 (wJ d5 (wJ d6 (wJ d7 (wJ m6 (wJ w0 (wJ w1 @Ex.v_w)))))))))))) ?_;exact⟨_,by rw[hR];exact GL.refl _ _⟩
   ·rw[if_neg (by decide)]at hR;refine wAd hlv (hx 6) (wJ d1 (wJ d2 (wJ d3 (wJ d4 (wJ d8 (wJ d9 (wJ d5 (wJ d6 (wJ d7 (wJ m6 (wJ w0 (wJ w1 @Ex.v_w)))))))))))) ?_;exact⟨_,by rw[hR];exact GL.refl _ _⟩
  ·have m6:(B0 k==6)=false:=by simpa using l6
   rw[if_neg l6]at hR;by_cases l5:B0 k<6
   ·have m5:decide (B0 k<6)=true:=by simpa using l5
    refine wBa hlv d1 d2 d3 d4 d8 d9 d5 d6 d7 m6 m5 ?_;exact hbad _ hR rfl
   ·have m5:decide (B0 k<6)=false:=by simpa using l5
    refine wBa hlv d1 d2 d3 d4 d8 d9 d5 d6 d7 m6 m5 ?_;exact hbad _ hR rfl
 |[x,y] =>
  have hx:=λn=>by have:=hop x A0H n;rwa [Ex.v_w]at this
  have hxl:=hle x A0H;have hy:=λn=>by have:=hop y (A0D _ A0H) n;rwa [Ex.v_w]at this
  have hyl:=hle y (A0D _ A0H);simp only[A0P,List.map_nil]at hR;by_cases l5:B0 k<6
  ·have m5:decide (B0 k<6)=true:=by simpa using l5
   have m6:(B0 k==6)=false:=b9
   rw[if_pos l5]at hR;obtain⟨k1,k2⟩:=B8p (k:=k) (by omega);have k3:12<=k:=by
    apply Classical.byContradiction;intro hc;have:k=10\/k=11:=a8
    rw[A8y this]at l5;omega
   obtain⟨j,hj⟩:∃j:Nat,k=12+(j:Int):=⟨(k-12).toNat,by omega⟩;have hjw:IntKind.i64.wrap (k-12)=(j:Int):=l8
   have hjn:(k-12).toNat=j:=a8
   rw[hjn]at hR;have hj13:j<13:=a8
   have hgj:C9[j]? = some (C9.getD j []):=by
    rw[A1L,A0B (show j<C9.length from hj13)];rfl
   have hsl:(C9.getD j []).length<=1000000000:=by
    have:∀i:Nat,i<13->(C9.getD i []).length<=1000000000:=n7
    exact this j hj13
   generalize C9.getD j []=S at hR hgj hsl;have hw1:IntKind.i64.wrap (B0 k+1)=B0 k+1:=w64 (by have:=A1r k;omega) (by have:=A1r k;omega);by_cases l3:B0 k=3
   ·have m3:(B0 k==3)=true:=by simpa using l3
    rw[if_pos l3]at hR;(repeat'((first|(with_reducible first|apply wr|refine cpc hlv ?_|refine cpc (hx 4) ?_|refine cpc c_signs31 ?_|refine cpc (hy (B0 k+1)) ?_|refine k_cu ?_ ?_)|(with_reducible apply wb2<;>(intro hb;try simp only[hb]))|(refine ca3 (wd1 rfl hsl) ?_)|(refine ca3 (jn3 rfl (hxl 4) (A9v _) (hyl (B0 k+1))) ?_))<;>try simp only[go_sem,seval,d1,d2,d3,d4,d8,d9,d5,d6,d7,m6,m5,m3,hjw,hgj,hw1,Ex.v_w,D5e,A2N,A2Z]));exact⟨_,by rw[hR];exact GL.refl _ _⟩
   ·have m3:(B0 k==3)=false:=by simpa using l3
    rw[if_neg l3]at hR;(repeat'((first|(with_reducible first|apply wr|refine cpc hlv ?_|refine cpc (hx (B0 k)) ?_|refine cpc c_signs31 ?_|refine cpc (hy (B0 k+1)) ?_|refine k_cu ?_ ?_)|(with_reducible apply wb2<;>(intro hb;try simp only[hb]))|(refine ca3 (wd1 rfl hsl) ?_)|(refine ca3 (jn3 rfl (hxl (B0 k)) (A9v _) (hyl (B0 k+1))) ?_))<;>try simp only[go_sem,seval,d1,d2,d3,d4,d8,d9,d5,d6,d7,m6,m5,m3,hjw,hgj,hw1,Ex.v_w,D5e,A2N,A2Z]));exact⟨_,by rw[hR];exact GL.refl _ _⟩
  ·have m5:decide (B0 k<6)=false:=by simpa using l5
   rw[if_neg l5]at hR;by_cases l6:B0 k=6
   ·have m6:(B0 k==6)=true:=by simpa using l6
    refine wBa hlv d1 d2 d3 d4 d8 d9 d5 d6 d7 m6 m5 ?_;exact hbad _ hR rfl
   ·have m6:(B0 k==6)=false:=by simpa using l6
    refine wBa hlv d1 d2 d3 d4 d8 d9 d5 d6 d7 m6 m5 ?_;exact hbad _ hR rfl
 |x::y::z::l =>
  simp only[A0P]at hR;obtain⟨A,hA⟩:∃A,A=(x::y::z::l).map Ex.v:=⟨_,rfl⟩;have n1:((A.length:Int)==1)=false:=by rw[hA];simp;omega
  have n2:((A.length:Int)==2)=false:=by rw[hA];simp;omega
  have hex:L9 (x::y::z::l)=.lst A:=by rw[hA]
  rw[hex]at hbad ⊢;by_cases l6:B0 k=6
  ·have m6:(B0 k==6)=true:=by simpa using l6
   have m5:decide (B0 k<6)=false:=b9
   refine wA8 hlv (wJ d1 (wJ d2 (wJ d3 (wJ d4 (wJ d8 (wJ d9 (wJ d5 (wJ d6 (wJ d7 (wJ m6 (wJ m5 (wJ n1 n2)))))))))))) ?_;exact hbad _ hR rfl
  ·have m6:(B0 k==6)=false:=by simpa using l6
   by_cases l5:B0 k<6
   ·have m5:decide (B0 k<6)=true:=by simpa using l5
    refine wA8 hlv (wJ d1 (wJ d2 (wJ d3 (wJ d4 (wJ d8 (wJ d9 (wJ d5 (wJ d6 (wJ d7 (wJ m6 (wJ m5 (wJ n1 n2)))))))))))) ?_;exact hbad _ hR rfl
   ·have m5:decide (B0 k<6)=false:=by simpa using l5
    refine wA8 hlv (wJ d1 (wJ d2 (wJ d3 (wJ d4 (wJ d8 (wJ d9 (wJ d5 (wJ d6 (wJ d7 (wJ m6 (wJ m5 (wJ n1 n2)))))))))))) ?_;exact hbad _ hR rfl
end Go.Proofs.YtnkkfehegdplgaaGreatDoor
set_option maxHeartbeats 8000000
namespace Go.Proofs.YtnkkfehegdplgaaGreatDoor
open Go.Eng (IC IOper DReg IFn P0)
open Go.Sym Go.Pb
theorem lw(x:List UInt8):(wT x).length=1:=rfl
theorem jn4{a b c d:List Tok}{id cc:Nat}{H:Hp}(hH:H id=some ⟨1,true,[D0 a,D0 b,D0 c,D0 d]⟩)(ha:1<=a.length/\a.length<=1000000000)(hb:1<=b.length/\b.length<=1000000000)(hc:1<=c.length/\c.length<=1000000000)(hd:1<=d.length/\d.length<=1000000000):
  AC Tryz.prog 95 [.slc id 0 4] H cc (λv H' c'=>v=D0 (a++b++c++d)/\H'=delO H (some id)/\c'=cc):=by
 have:=A3q (id:=id) (cc:=cc) (H:=H) (u:=1) (n:=4) (c_join1 [a,b,c,d] (by simp) (by simp[ha,hb,hc,hd])) hH rfl rfl (A8f [a,b,c,d])
 rwa [A1K,A1K,A1K,A1K,A3L,A1D, <- A0K, <- A0K]at this
theorem jn5{a b c d e:List Tok}{id cc:Nat}{H:Hp}(hH:H id=some ⟨1,true,[D0 a,D0 b,D0 c,D0 d,D0 e]⟩)(ha:1<=a.length/\a.length<=1000000000)(hb:1<=b.length/\b.length<=1000000000)(hc:1<=c.length/\c.length<=1000000000)(hd:1<=d.length/\d.length<=1000000000)(he:1<=e.length/\e.length<=1000000000):
  AC Tryz.prog 95 [.slc id 0 5] H cc (λv H' c'=>v=D0 (a++b++c++d++e)/\H'=delO H (some id)/\c'=cc):=by
 have:=A3q (id:=id) (cc:=cc) (H:=H) (u:=1) (n:=5) (c_join1 [a,b,c,d,e] (by simp) (by simp[ha,hb,hc,hd,he])) hH rfl rfl (A8f [a,b,c,d,e])
 rwa [A1K,A1K,A1K,A1K,A1K,A3L,A1D, <- A0K, <- A0K, <- A0K]at this
theorem jo2{a b:List Tok}{id cc:Nat}{H:Hp}(hH:H id=some ⟨1,true,[D0 a,D0 b]⟩)(ha:1<=a.length/\a.length<=1000000000:=by constructor<;>(try simp only[A0A,lw,B6,F7,G9])<;>omega)(hb:1<=b.length/\b.length<=1000000000:=by constructor<;>(try simp only[A0A,lw,B6,F7,G9])<;>omega):
  AC Tryz.prog 95 [.slc id 0 2] H cc (λv H' c'=>v=D0 (a++b)/\H'=delO H (some id)/\c'=cc):=jn2 hH ha hb
theorem jo3{a b c:List Tok}{id cc:Nat}{H:Hp}(hH:H id=some ⟨1,true,[D0 a,D0 b,D0 c]⟩)(ha:1<=a.length/\a.length<=1000000000:=by constructor<;>(try simp only[A0A,lw,B6,F7,G9])<;>omega)(hb:1<=b.length/\b.length<=1000000000:=by constructor<;>(try simp only[A0A,lw,B6,F7,G9])<;>omega)(hc:1<=c.length/\c.length<=1000000000:=by constructor<;>(try simp only[A0A,lw,B6,F7,G9])<;>omega):
  AC Tryz.prog 95 [.slc id 0 3] H cc (λv H' c'=>v=D0 (a++b++c)/\H'=delO H (some id)/\c'=cc):=jn3 hH ha hb hc
theorem jo4{a b c d:List Tok}{id cc:Nat}{H:Hp}(hH:H id=some ⟨1,true,[D0 a,D0 b,D0 c,D0 d]⟩)(ha:1<=a.length/\a.length<=1000000000:=by constructor<;>(try simp only[A0A,lw,B6,F7,G9])<;>omega)(hb:1<=b.length/\b.length<=1000000000:=by constructor<;>(try simp only[A0A,lw,B6,F7,G9])<;>omega)(hc:1<=c.length/\c.length<=1000000000:=by constructor<;>(try simp only[A0A,lw,B6,F7,G9])<;>omega)(hd:1<=d.length/\d.length<=1000000000:=by constructor<;>(try simp only[A0A,lw,B6,F7,G9])<;>omega):
  AC Tryz.prog 95 [.slc id 0 4] H cc (λv H' c'=>v=D0 (a++b++c++d)/\H'=delO H (some id)/\c'=cc):=jn4 hH ha hb hc hd
theorem jo5{a b c d e:List Tok}{id cc:Nat}{H:Hp}(hH:H id=some ⟨1,true,[D0 a,D0 b,D0 c,D0 d,D0 e]⟩)(ha:1<=a.length/\a.length<=1000000000:=by constructor<;>(try simp only[A0A,lw,B6,F7,G9])<;>omega)(hb:1<=b.length/\b.length<=1000000000:=by constructor<;>(try simp only[A0A,lw,B6,F7,G9])<;>omega)(hc:1<=c.length/\c.length<=1000000000:=by constructor<;>(try simp only[A0A,lw,B6,F7,G9])<;>omega)(hd:1<=d.length/\d.length<=1000000000:=by constructor<;>(try simp only[A0A,lw,B6,F7,G9])<;>omega)(he:1<=e.length/\e.length<=1000000000:=by constructor<;>(try simp only[A0A,lw,B6,F7,G9])<;>omega):
  AC Tryz.prog 95 [.slc id 0 5] H cc (λv H' c'=>v=D0 (a++b++c++d++e)/\H'=delO H (some id)/\c'=cc):=jn5 hH ha hb hc hd he
theorem wo1{x:List UInt8}{id cc:Nat}{H:Hp}(hb:H id=some ⟨1,true,[.str x]⟩)(hx:x.length<=1000000000:=by first|assumption|decide):
  AC Tryz.prog 96 [.slc id 0 1] H cc (λv H' c'=>v=D0 (wT x)/\H'=delO H (some id)/\c'=cc):=wd1 hb hx
theorem C9z(l:List Ex)(i:Nat)(hl:Ex.szs l<=10000000):1<=(agT l i).length/\(agT l i).length<=100000000:=by
 unfold agT;cases h:l[i]? with
 |none=>exact⟨A0E _,by decide⟩
 |some e =>
  have h1:=A6n e;have h2:=Ex.szs_mem (A0W h);dsimp only;omega
theorem c_arg(l:List Ex)(i:Nat)(hi:i<=5)(hl:Ex.szs l<=10000000):PC Tryz.prog 185 [L9 l,I64 i] (D0 (agT l i)):=by
 refine PC.ofT A3 rfl (A0F rfl) (by simp[DV.nlL,DV.nl,A4n]) (Q5 _) ?_;unfold agT;cases h:l[i]? with
 |none =>
  have hlt:l.length<=i:=List.getElem?_eq_none_iff.1 h;have hd:decide ((i:Int)≥(l.length:Int))=true:=b9
  refine wAr hd ?_;exact A6d
 |some e =>
  have hlt:=(A1G.1 h).1;have hd:decide ((i:Int)≥(l.length:Int))=false:=b9
  have he:=c_exprT (e.sz+1) e (by omega) (by have:=Ex.szs_mem (A0W h);omega);rw[Ex.v_w]at he;refine wA7 he (wJ hd (wJ h @Ex.v_w)) ?_;exact⟨_,GL.refl _ _⟩
theorem B8f{c:Nat}{k v p:Int}{x:List UInt8}:∃H2,GL (nil.upd c ⟨4,true,[I64 k,.str x,I64 v,I64 p]⟩) [.slc c 0 1] H2 [D0 [⟨k,x,v,p⟩]] :=
 U1 A0 rfl rfl (G8 _) ⟨[],rfl⟩
theorem c_text31(s:List UInt8)(hs:s.length<=1000000000):PC Tryz.prog 186 [.str s] (D0 (A4u s)):=by
 refine PC.ofT A3 rfl (A0F rfl) rfl (Q5 _) ?_;unfold A4u;refine wAp ?_;refine A9 (λk:Nat=>[(0,.str s),(3,I64 k)]) (λ_=>Sym.nil) (λk c=>k<=s.length/\(s.take k).all txB=true) (λk=>s.length-k) 0 (by simp[B5,tm,Tm.upd]) (Sub.nil _) ⟨A0Q _,rfl⟩ ?_;rintro k c ⟨hk,ha⟩;by_cases hlt:k<s.length
 ·have hd:=dtz hlt;have hg:=A0B hlt;have hw:=w64 (n:=(k:Int)+1);have e0:(s.take (k+1)).all txB=((s.take k).all txB&&txB s[k]):=by rw[A0V,hg,List.all_append];simp
  have e1:txB s[k]=false->s.all txB=false:=λh=>by
   cases hz:s.all txB with
   |false=>rfl
   |true=>rw[A0R]at hz;rw[hz _ (A0O hlt)]at h;cases h
  generalize s[k]=x at hg e0 e1;by_cases h1:x.toNat<32
  ·have hd1:decide ((x.toNat:Int)<32)=true:=by simp;omega
   rw[if_pos (.inl (e1 (by simp[txB];omega)))];refine wAy hd hg hw hd1 ?_;exact B8f
  ·have hd1:decide ((x.toNat:Int)<32)=false:=by simp;omega
   by_cases h2:126<x.toNat
   ·have hd2:decide ((x.toNat:Int)>126)=true:=by simp;omega
    rw[if_pos (.inl (e1 (by simp[txB];omega)))];refine wA0 hd hg hw hd1 hd2 ?_;exact B8f
   ·have hd2:decide ((x.toNat:Int)>126)=false:=by simp;omega
    have e2:txB x=true:=by simp[txB];omega
    refine wA0 hd hg hw hd1 hd2 ?_;exact⟨k+1,i6,Sub.nil _,inv ⟨a8,by rw[e0,ha,e2];rfl⟩,by omega⟩
 ·have hd:=dfz hlt;rw[A0J (by omega)]at ha;by_cases h3:32<s.length
  ·have hd3:decide ((s.length:Int)>32)=true:=by simp;omega
   rw[if_pos (.inr h3)];refine wAs (wJ hd hd3) ?_;exact B8f
  ·have hd3:decide ((s.length:Int)>32)=false:=by simp;omega
   rw[if_neg (by rw[ha];simp;omega)];refine wAs (wJ hd hd3) ?_;exact B8f
theorem E0e(x:Pb.St):Pb.St.szs [x]=x.sz:=by rw[Pb.St.szs,Pb.St.szs];omega
theorem c_stmtT(m:Nat)(ihs:∀x:Pb.St,x.sz<m->PC Tryz.prog 152 [x.v] (D0 (stT x)))(ihb:∀l:List Pb.St,Pb.St.szs l<m->PC Tryz.prog 100 [G7 l] (D0 (blT l)))
  (hlb:∀l:List Pb.St,Pb.St.szs l<m->1<=(blT l).length/\(blT l).length<=100000000) (hls:∀x:Pb.St,x.sz<m->1<=(stT x).length/\(stT x).length<=100000000)
  (s:Pb.St) (hm:s.sz<=m) (hB:s.sz<=10000000):PC Tryz.prog 152 [s.v] (D0 (stT s)):=by
 obtain⟨R,hR⟩:∃R,R=D0 (stT s):=⟨_,rfl⟩;have hnm:=s.sz_name;have htx:=s.sz_text;have hax:Ex.szs s.args<=10000000:=by cases s with|mk k n t a x y p=>rw[Pb.St.sz]at hB;show Ex.szs a<=_;omega
 have hxx:=s.sz_thn;have hyy:=s.sz_els;refine PC.ofT A3 rfl (A0F rfl) (by simp[DV.nlL,DV.nl,Pb.St.nl]) (Q5 _) ?_;rw[Pb.St.v_w, <- hR];cases s with|mk k n t a x y p =>
 unfold stT at hR;dsimp only[Pb.St.w,Pb.St.kind,Pb.St.name,Pb.St.text,Pb.St.args,Pb.St.thn,Pb.St.els,Pb.St.pos]at hnm htx hax hxx hyy ⊢;have hna:=c_named n (by omega);have hte:=c_text31 t (by omega);have ha0:=c_arg a 0 (by decide) hax;have ha1:=c_arg a 1 (by decide) hax;have la0:=C9z a 0 hax;have la1:=C9z a 1 hax;rw[show((0:Nat):Int)=0 from rfl]at ha0;rw[show((1:Nat):Int)=1 from rfl]at ha1;have hbx:=ihb x (by omega);have hby:=ihb y (by omega);have lbx:=hlb x (by omega);have lby:=hlb y (by omega);by_cases h1:k=1
 ·subst h1;rw[if_pos rfl]at hR;(repeat'((first|(with_reducible first|apply wr|refine cpc hna ?_|refine cpc ha0 ?_|refine k_cu ?_ ?_)|(with_reducible apply wb2<;>(intro hb;try simp only[hb]))|(refine ca3 (wo1 rfl) ?_)|(refine ca3 (jo2 rfl) ?_)|(refine ca3 (jo3 rfl) ?_)|(refine ca3 (jo4 rfl) ?_)|(refine ca3 (jo5 rfl) ?_))<;>try simp only[go_sem,seval]));exact⟨_,by rw[hR];exact GL.refl _ _⟩
 rw[if_neg h1]at hR;have d1:(k==1)=false:=w9
 by_cases hbk:k<2\/19<k
 ·rw[if_pos hbk]at hR;by_cases h2:k<2
  ·have d2:decide (k<2)=true:=by simpa using h2
   refine wAs (wJ d1 d2) ?_;rw[hR];exact U1 (id:=1) A0 rfl rfl (G8 [A1t]) ⟨[],rfl⟩
  ·have d2:decide (k<2)=false:=by simpa using h2
   have d3:decide (k>19)=true:=b9
   refine wAw d1 d2 d3 ?_;rw[hR];exact U1 (id:=1) A0 rfl rfl (G8 [A1t]) ⟨[],rfl⟩
 rw[if_neg hbk]at hR;have e2:decide (k<2)=false:=b9
 have e3:decide (k>19)=false:=b9
 dsimp only at hR;obtain⟨j,hj⟩:∃j:Nat,k=2+(j:Int):=⟨(k-2).toNat,by omega⟩;have hjw:IntKind.i64.wrap (k-2)=(j:Int):=l8
 have hjn:(k-2).toNat=j:=a8
 rw[hjn]at hR;have hj18:j<18:=a8
 have hgj:B7[j]? = some (B7.getD j []):=by
  rw[A1L,A0B (show j<B7.length from hj18)];rfl
 have hsl:(B7.getD j []).length<=1000000000:=by
  have:∀i:Nat,i<18->(B7.getD i []).length<=1000000000:=n7
  exact this j hj18
 generalize B7.getD j []=S at hR hgj hsl;have dk:∀q:Int,¬k=q->(k==q)=false:=λq h=>by simpa using h
 (repeat'((first|(with_reducible first|refine O8 (p:=IW _ _ (pz Tryz.prog 152 (.i (.o (.i (.o .h))))) _ _) ?_|refine wr ?_|refine cpc c_stmts31 ?_|refine k_cu ?_ ?_)|(with_reducible apply wb2<;>(intro hb;try simp only[hb]))|(refine ca3 (wo1 rfl) ?_))<;>try simp only[go_sem,seval,d1,e2,e3,hjw,hgj]));unfold B9p;by_cases h2:k=2\/k=3
 ·rw[if_pos h2]at hR;have dd:(k==2)=true\/(k==2)=false/\(k==3)=true:=by
   rcases h2 with rfl|rfl
   ·exact .inl rfl
   ·exact .inr ⟨rfl,rfl⟩
  clear h2 hj hjn h1 hbk
  match y with
  |[] =>
   dsimp only at hR;rcases dd with d2|⟨d2,d3⟩
   ·refine wAf ha0 hbx d2 ?_;exact⟨_,by rw[hR];exact GL.refl _ _⟩
   ·refine wAf ha0 hbx (wJ d2 d3) ?_;exact⟨_,by rw[hR];exact GL.refl _ _⟩
  |[q] =>
   rw[E0e]at hyy;have hq:=ihs q (by omega);have lq:=hls q (by omega);rw[Pb.St.v_w]at hq;dsimp only at hR;have hone:blT [q]=wT [123]++stT q++wT [125]:=by unfold blT;rw[X7,X7,A1D];rfl
   have hby':=hby;rw[hone]at hby lby;by_cases hk2:q.kind=2
   ·rw[if_pos hk2]at hR;have m2:(q.kind==2)=true:=by simpa using hk2
    rcases dd with d2|⟨d2,d3⟩
    ·refine wAc ha0 hbx hq (wJ d2 (wJ m2 @Pb.St.v_w)) ?_;exact⟨_,by rw[hR];exact GL.refl _ _⟩
    ·refine wAc ha0 hbx hq (wJ d2 (wJ d3 (wJ m2 @Pb.St.v_w))) ?_;exact⟨_,by rw[hR];exact GL.refl _ _⟩
   ·rw[if_neg hk2]at hR;have m2:(q.kind==2)=false:=by simpa using hk2
    rcases dd with d2|⟨d2,d3⟩
    ·refine wAc ha0 hbx hby (wJ d2 (wJ m2 @Pb.St.v_w)) ?_;exact⟨_,by rw[hR];exact GL.refl _ _⟩
    ·refine wAc ha0 hbx hby (wJ d2 (wJ d3 (wJ m2 @Pb.St.v_w))) ?_;exact⟨_,by rw[hR];exact GL.refl _ _⟩
  |q::q2::l =>
   dsimp only at hR;obtain⟨A,hA⟩:∃A,A=(q::q2::l).map Pb.St.v:=⟨_,rfl⟩;have n1:((A.length:Int)==1)=false:=by rw[hA];simp;omega
   have n2:decide ((A.length:Int)>0)=true:=by rw[hA];simp;omega
   have hex:G7 (q::q2::l)=.lst A:=by rw[hA]
   rw[hex]at hby ⊢;rcases dd with d2|⟨d2,d3⟩
   ·refine wAc ha0 hbx hby (wJ d2 (wJ n1 n2)) ?_;exact⟨_,by rw[hR];exact GL.refl _ _⟩
   ·refine wAc ha0 hbx hby (wJ d2 (wJ d3 (wJ n1 n2))) ?_;exact⟨_,by rw[hR];exact GL.refl _ _⟩
 rw[if_neg h2]at hR;have d2:=dk 2 (λh=>h2 (.inl h));have d3:=dk 3 (λh=>h2 (.inr h));by_cases h4:k=4
 ·subst h4;rw[if_pos rfl]at hR;refine wAi ha0 (wJ d2 d3) ?_;exact⟨_,by rw[hR];exact GL.refl _ _⟩
 rw[if_neg h4]at hR;have d4:=dk 4 h4;by_cases h18:k=18
 ·subst h18;rw[if_pos rfl]at hR;refine wAg ha0 hte (wJ d2 (wJ d3 d4)) ?_;exact⟨_,by rw[hR];exact GL.refl _ _⟩
 rw[if_neg h18]at hR;have d18:=dk 18 h18;by_cases h8:k=8\/k=10
 ·rw[if_pos h8]at hR;rcases h8 with rfl|rfl
  ·refine wAg ha0 hna (wJ d2 (wJ d3 (wJ d4 d18))) ?_;exact⟨_,by rw[hR];exact GL.refl _ _⟩
  ·refine wAg ha0 hna (wJ d2 (wJ d3 (wJ d4 d18))) ?_;exact⟨_,by rw[hR];exact GL.refl _ _⟩
 rw[if_neg h8]at hR;have d8:=dk 8 (λh=>h8 (.inl h));have d10:=dk 10 (λh=>h8 (.inr h));by_cases h9:k=9
 ·subst h9;rw[if_pos rfl]at hR;refine wAc ha0 ha1 hna (wJ d2 (wJ d3 (wJ d4 (wJ d18 (wJ d8 d10))))) ?_;exact⟨_,by rw[hR];exact GL.refl _ _⟩
 rw[if_neg h9]at hR;have d9:=dk 9 h9;by_cases h19:k=19
 ·subst h19;rw[if_pos rfl]at hR;(repeat'((first|(with_reducible first|apply wr|refine k_cu ?_ ?_)|(with_reducible apply wb2<;>(intro hb;try simp only[hb]))|(refine ca3 (wo1 rfl) ?_)|(refine ca3 (jo2 rfl) ?_)|(refine ca3 (jo3 rfl) ?_)|(refine ca3 (jo4 rfl) ?_)|(refine ca3 (jo5 rfl) ?_))<;>try simp only[go_sem,seval,d2,d3,d4,d18,d8,d10,d9]));exact⟨_,by rw[hR];exact GL.refl _ _⟩
 rw[if_neg h19]at hR;have d19:=dk 19 h19;refine wAi hna (wJ d2 (wJ d3 (wJ d4 (wJ d18 (wJ d8 (wJ d10 (wJ d9 d19))))))) ?_;exact⟨_,by rw[hR];exact GL.refl _ _⟩
theorem c_wordsO(x:List UInt8)(hx:x.length<=1000000000)(H:Hp)(cc:Nat):AC Tryz.prog 96 [A7a [x]] H cc (λv H' c' => ∃id,cc<=id/\id<c'/\v=.slc id 0 1/\H'=H.upd id ⟨4,true,(A2 x).v.cells⟩):=by
 refine AC.go A3 λhfr=>?_;have h1:=c_IsWordR x;have h2:=c_IsNameR x (by omega);refine wAp ?_;refine A9 (λq:Option Nat=>[(0,A7a [x]),(3,todoV q 1),(4,I64 (if q=none then 0 else 1))]) (λq=>optH H q ⟨4,true,(A2 x).v.cells⟩)
  (λq c=>cc<=c/\(∀i,q=some i->cc<=i/\i<c)) (λq=>if q=none then 1 else 0) none
  (by simp[B5,tm,Tm.upd,todoV]) (Sub.refl _) ⟨A0E _,(λi hi=>by cases hi)⟩ ?_
 rintro o c ⟨hc,ho⟩;cases o with
 |none =>
  have hd:decide ((0:Int)<1)=true:=n7
  have hw:IntKind.i64.wrap (0+1)=1:=n7
  have hw':IntKind.i64.wrap 1=1:=n7
  have hr0:∀i:Nat,H (c+i)=none:=λi=>hfr _ (by omega);have ne0:=A1z c (c+1) (by omega);cases hw1:L7 x with
  |true =>
   refine wBd h1 h2 (wJ hw1 (wJ ne0 (wJ @A0 (wJ @A1 (wJ hw hw'))))) ?_;refine G6 (A0l (by decide) (by decide) (by decide)) ?_;refine wAx hw hw' ne0 ?_;refine⟨some (c+1+1),zaf,?_,inv ⟨a8,(λi hi=>by cases hi;omega)⟩,by simp⟩;intro j b hj;simp only[optH]at hj;by_cases e1:j=c+1+1
   ·subst e1;rw[A0]at hj ⊢;rw[<- hj];unfold A2;simp only[hw1,if_true,if_false,A1M]
   ·rw[h_ne e1]at hj ⊢;have:j<cc:=Classical.byContradiction λh=>by rw[hfr j (by omega)]at hj;cases hj
    rw[hnO,hnO];exact hj
  |false =>
   cases hn1:D8 x with
   |true =>
    refine wBd h1 h2 (wJ hw1 (wJ hn1 (wJ ne0 (wJ @A0 (wJ @A1 (wJ hw hw')))))) ?_;refine G6 (A0l (by decide) (by decide) (by decide)) ?_;refine wAx hw hw' ne0 ?_;refine⟨some (c+1+1),zaf,?_,inv ⟨a8,(λi hi=>by cases hi;omega)⟩,by simp⟩;intro j b hj;simp only[optH]at hj;by_cases e1:j=c+1+1
    ·subst e1;rw[A0]at hj ⊢;rw[<- hj];unfold A2;simp only[hw1,hn1,if_true,if_false,A1M]
    ·rw[h_ne e1]at hj ⊢;have:j<cc:=Classical.byContradiction λh=>by rw[hfr j (by omega)]at hj;cases hj
     rw[hnO,hnO];exact hj
   |false =>
    refine wBd h1 h2 (wJ hw1 (wJ hn1 (wJ ne0 (wJ @A0 (wJ @A1 (wJ hw hw')))))) ?_;refine G6 (A0l (by decide) (by decide) (by decide)) ?_;refine wAx hw hw' ne0 ?_;refine⟨some (c+1+1),zaf,?_,inv ⟨a8,(λi hi=>by cases hi;omega)⟩,by simp⟩;intro j b hj;simp only[optH]at hj;by_cases e1:j=c+1+1
    ·subst e1;rw[A0]at hj ⊢;rw[<- hj];unfold A2;simp only[hw1,hn1,if_true,if_false,A1M]
    ·rw[h_ne e1]at hj ⊢;have:j<cc:=Classical.byContradiction λh=>by rw[hfr j (by omega)]at hj;cases hj
     rw[hnO,hnO];exact hj
 |some i =>
  have hd:decide ((1:Int)<1)=false:=n7
  refine wAs hd ?_;exact⟨_,_,GL.refl _ _,i,(ho i rfl).1,(ho i rfl).2,rfl,rfl⟩
theorem F7k{x:List UInt8}{id cc:Nat}{H:Hp}(hb:H id=some ⟨1,true,[.str x]⟩)(hx:x.length<=1000000000):
  AC Tryz.prog 96 [.slc id 0 1] H cc (λv H' c' => ∃i,cc<=i/\i<c'/\v=.slc i 0 1/\H'=(delO H (some id)).upd i ⟨4,true,(A2 x).v.cells⟩) :=
 AC.ghost (GL.frzS (id:=id) hb rfl (λj=>by
  by_cases e:j=id
  ·subst e;exact .inl (by rw[A0i,if_pos rfl])
  ·exact .inr ⟨e,by rw[A0i,if_neg e]⟩) (.cons _ _ _ _ (U3 (xs:=[.str x]) rfl (T7 [x]) ⟨[],rfl⟩) .nil)) (c_wordsO x hx _ cc)
theorem B3h:∀l:List Pb.St,X7 l=(l.map stT).flatten
 |[]=>rfl
 |e::l=>by rw[X7,B3h l];rfl
theorem c_blockT(l:List Pb.St)(hl:l.length<=10000000)(hs:∀x∈l,PC Tryz.prog 152 [x.v] (D0 (stT x)))(hx:∀x∈l,1<=(stT x).length/\(stT x).length<=100000000)(hT:(blT l).length<=100000000):PC Tryz.prog 100 [G7 l] (D0 (blT l)):=by
 refine PC.ofT A3 rfl (A0F rfl) (by simp[DV.nlL,DV.nl,A2t]) (Q5 _) ?_;obtain⟨R,hR⟩:∃R,R=D0 (blT l):=⟨_,rfl⟩;rw[<- hR];unfold blT at hR;rw[B3h]at hR;have hT':(l.map stT).flatten.length<=100000000:=by
  unfold blT at hT;rw[B3h]at hT;simp only[A0A,A0I]at hT;omega
 refine wAp ?_;refine AC.call (F7k rfl (by decide)) ?_;rintro v H' c1 ⟨i,hi1,hi2,rfl,rfl⟩ -;refine wAq ?_;obtain⟨F,hF⟩:∃F:Nat->List Tok, ∀k,F k=wT [123]++((l.take k).map stT).flatten:=⟨_,λ_=>rfl⟩;have hF0:F 0=wT [123]:=by rw[hF];simp
 refine A9 (λq:Nat × Nat=>[(0,G7 l),(3,.slc q.2 0 (F q.1).length),(4,I64 q.1)]) (λq=>Sym.nil.upd q.2 ⟨4,true,cellsL ((F q.1).map Tok.v)⟩)
  (λq c=>q.1<=l.length/\q.2<c) (λq=>l.length-q.1) (0,i)
  (by simp[B5,tm,Tm.upd,hF0,lw]) (by dsimp only;rw[hF0];exact Sub.refl _) ⟨A0Q _,hi2⟩ ?_
 clear hi1 hi2;rintro⟨k,i⟩ c ⟨hk,hi⟩;dsimp only at hk hi ⊢;by_cases hlt:k<l.length
 ·have hd:=dtz hlt;have hg:=A0B hlt;have hsx:=hs _ (A0O hlt);obtain⟨hx1,hx2⟩:=hx _ (A0O hlt);have hw:=w64 (n:=(k:Int)+1);have e0:F (k+1)=F k++stT l[k]:=by rw[hF,hF,A0V,hg,A0S,List.flatten_append];simp
  have hle:((l.take k).map stT).flatten.length<=100000000:=by
   have h1:(l.map stT).flatten=((l.take k).map stT).flatten++((l.drop k).map stT).flatten:=by rw[<- List.flatten_append, <- A0S,A1P]
   rw[h1,A0A]at hT';omega
  have hle2:(F k).length<=200000000:=by rw[hF,A0A,lw];omega
  rw[Pb.St.v_w]at hsx;generalize l[k]=x at hg hx1 hx2 e0 hsx;generalize F k=y at hle2 e0 ⊢;have hln:(cellsL (y.map Tok.v)).length=y.length*4:=(C3 (u:=4) (G8 _)).trans (by simp);have hun:unit 4 ((stT x).map Tok.v)=true:=by unfold unit;rw[A0R];intro d hd;simp[G8 (stT x) d hd]
  (repeat'((with_reducible first|apply wr|refine cpc hsx ?_|refine k_cu ?_ ?_|apply wb2<;>(intro hb;try simp only[hb]))<;>try simp only[go_sem,seval,hd,hg,hw,Pb.St.v_w,X9 hun]));refine G6 (Z6 hln (by omega) (by omega)) ?_;refine wAu hw ?_;refine⟨(k+1,c),by simp[B5,tm,Tm.upd,e0],?_,inv ⟨a8,by simp only;omega⟩,by simp only;omega⟩;dsimp only;rw[e0,A0S,C4];intro j b hj;by_cases e1:j=c
  ·subst e1;rw[A0]at hj ⊢;exact hj
  ·rw[h_ne e1]at hj;cases hj
 ·have hd:=dfz hlt;rw[hF,A0J (by omega)];have hun:unit 4 ((wT [125]).map Tok.v)=true:=by unfold unit;rw[A0R];intro d hd;simp[G8 (wT [125]) d hd]
  have hle2:(wT [123]++(l.map stT).flatten).length<=200000000:=by rw[A0A,lw];omega
  have hR':R=D0 ((wT [123]++(l.map stT).flatten)++wT [125]):=hR;generalize wT [123]++(l.map stT).flatten=y at hle2 hR' ⊢;have hln:(cellsL (y.map Tok.v)).length=y.length*4:=(C3 (u:=4) (G8 _)).trans (by simp);have hnic:¬i=c:=a8
  have hlw:=lw [125];refine wAs hd ?_;refine AC.call (wd1 A0 (by decide)) ?_;rintro v H' c2 ⟨rfl,rfl,rfl⟩ -;simp only[go_sem,seval,hnic,X9 hun];(repeat'((with_reducible first|apply wr|refine k_cu ?_ ?_|apply wb2<;>(intro hb;try simp only[hb]))<;>try simp only[go_sem,seval,hnic,X9 hun]));refine G6 (Z6 hln (by omega) (by omega)) ?_;refine wAq ?_;rw[hR'];exact U1 (id:=c+1) A0 rfl (by simp) (G8 _) ⟨[],by rw[A0S,C4,A1D]⟩
theorem c_stT:∀m:Nat,m<=5000000->(∀x:Pb.St,x.sz<m->PC Tryz.prog 152 [x.v] (D0 (stT x)))/\(∀l:List Pb.St,Pb.St.szs l<m->PC Tryz.prog 100 [G7 l] (D0 (blT l))):=by
 intro m
 induction m with
 |zero=>exact λ_=>⟨λx h=>a8,λl h=>by omega⟩
 |succ m ih =>
  intro hm;obtain⟨i1,i2⟩:=ih (by omega);have A:∀x:Pb.St,x.sz<m+1->PC Tryz.prog 152 [x.v] (D0 (stT x)):=λx hx =>
   c_stmtT m i1 i2 (λl hl=>by have:=B3c l;omega) (λy hy=>by have:=B2n y;omega) x (by omega) (by omega)
  refine⟨A,λl hl=>?_⟩;have h1:=Pb.St.szs_len l;have h2:=B3c l;exact c_blockT l (by omega) (λx hx=>A x (by have:=Pb.St.szs_mem hx;omega)) (λx hx=>by have:=B2n x;have:=Pb.St.szs_mem hx;omega) (by omega)
theorem c_blkT(l:List Pb.St)(h:Pb.St.szs l<5000000):PC Tryz.prog 100 [G7 l] (D0 (blT l)):=(c_stT 5000000 (A0E _)).2 l h
theorem E0f{X H1:Hp}{o:Option Nat}{c n0:Nat}{b b3 b3':Blk}(hX:∀j q,X j=some q->j<c)(ho:∀i,o=some i->X i=none)(hH:∀j,j<c->H1 j=optH X o b j)(hn:c<=n0)(hb:b3=b3'):
  Sym.Sub (optH X (some n0) b3) ((delO H1 o).upd n0 b3'):=by
 subst hb;intro j q hj;simp only[optH]at hj;by_cases e:j=n0
 ·subst e;rw[A0]at hj ⊢;exact hj
 ·rw[h_ne e]at hj ⊢;have h1:=hX j q hj;have h2:∀i,o=some i->¬j=i:=λi hi e2=>by rw[e2,ho i hi]at hj;cases hj
  rw[C5 h2,hH j h1,B9 h2];exact hj
theorem B4z{H:Hp}{i:Nat}(h:H i=none):delO H (some i)=H:=by
 funext j;rw[A0i];split
 ·rename_i e;rw[e,h]
 ·rfl
theorem D5r{X:Hp}{o:Option Nat}{xs:List DV}{u n:Nat}(hno:o=none->xs=[])(hl:xs.length=n)(hu:∀x∈xs,x.cells.length=u):
  ∃H2,GL (optH X o ⟨u,true,cellsL xs⟩) [todoV o n] H2 [.lst xs]:=by
 cases o with
 |none=>rw[hno rfl];exact C7y
 |some i=>exact U1 (id:=i) A0 rfl hl hu ⟨[],by simp⟩
def wT2(x y:List UInt8):List Tok:=[A2 x,A2 y]
theorem F7j{x y:List UInt8}{id cc:Nat}{H:Hp}(hb:H id=some ⟨1,true,[.str x,.str y]⟩)(hx:x.length<=1000000000)(hy:y.length<=1000000000):
  AC Tryz.prog 96 [.slc id 0 2] H cc (λv H' c'=>v=D0 (wT2 x y)/\H'=delO H (some id)/\c'=cc):=wd2 hb hx hy
theorem B9b{X:Hp}{i j:Nat}(h:¬j=i):(X.del i) j=X j:=by rw[show X.del i=delO X (some i) from rfl,A0i,if_neg h]
theorem A8g(l:List Tok):unit 4 (l.map Tok.v)=true:=by unfold unit;rw[A0R];intro d hd;simp[G8 l d hd]
theorem X5(l:List Tok):(cellsL (l.map Tok.v)).length=l.length*4:=(C3 (u:=4) (G8 _)).trans (by simp)
theorem c_declT(d:Dc)(hn:d.name.length<=1000000000):PC Tryz.prog 94 [d.v] (D0 (dcT d)):=by
 refine PC.ofT A3 rfl (A0F rfl) rfl (Q5 _) ?_;obtain⟨R,hR⟩:∃R,R=D0 (dcT d):=⟨_,rfl⟩;rw[<- hR];obtain⟨k,n,v,p⟩:=d;unfold dcT at hR;dsimp only at hR hn ⊢;have hna:=c_named n hn;have hnu:=c_number31 v;have hnn:=c_number31 (-v);by_cases hbk:k<1\/8<k
 ·rw[if_pos hbk]at hR;by_cases h2:k<1
  ·have d2:decide (k<1)=true:=by simpa using h2
   refine wAs d2 ?_;rw[hR];exact U1 (id:=1) A0 rfl rfl (G8 [A1t]) ⟨[],rfl⟩
  ·have d2:decide (k<1)=false:=by simp;omega
   have d3:decide (k>8)=true:=b9
   refine wAs (wJ d2 d3) ?_;rw[hR];exact U1 (id:=1) A0 rfl rfl (G8 [A1t]) ⟨[],rfl⟩
 rw[if_neg hbk]at hR;have e2:decide (k<1)=false:=b9
 have e3:decide (k>8)=false:=b9
 try dsimp only at hR
 obtain⟨j,hj⟩:∃j:Nat,k=1+(j:Int):=⟨(k-1).toNat,by omega⟩;have hjw:IntKind.i64.wrap (k-1)=(j:Int):=l8
 have hjn:(k-1).toNat=j:=a8
 rw[hjn]at hR;have hj8:j<8:=a8
 have hgj:F0[j]? = some (F0.getD j []):=by
  rw[A1L,A0B (show j<F0.length from hj8)];rfl
 have hsl:(F0.getD j []).length<=1000000000:=by
  have:∀i:Nat,i<8->(F0.getD i []).length<=1000000000:=n7
  exact this j hj8
 generalize F0.getD j []=S at hR hgj hsl;by_cases h6:6<k
 ·have d6:decide (k>6)=true:=by simpa using h6
  rw[if_pos h6]at hR;(repeat'((first|(with_reducible first|apply wr|refine cpc c_decls31 ?_|refine cpc hna ?_|refine k_cu ?_ ?_)|(with_reducible apply wb2<;>(intro hb;try simp only[hb]))|(refine ca3 (wo1 rfl) ?_)|(refine ca3 (jo2 rfl) ?_)|(refine ca3 (jo3 rfl) ?_))<;>try simp only[go_sem,seval,e2,e3,hjw,hgj,d6]));exact⟨_,by rw[hR];exact GL.refl _ _⟩
 rw[if_neg h6]at hR;have d6:decide (k>6)=false:=b9
 by_cases hm:v<0 /\ -2147483647<=v/\k=6
 ·obtain⟨m1,m2,hk6⟩:=hm;have x3:(k==6)=true:=by simpa using hk6
  have x1:decide (v<0)=true:=by simpa using m1
  have x2:decide (v ≥ -2147483647)=true:=by simpa using m2
  have hng:IntKind.i64.wrap (0-v) = -v:=l8
  rw[if_pos ⟨m1,m2,hk6⟩]at hR;(repeat'((first|(with_reducible first|apply wr|refine cpc c_decls31 ?_|refine cpc hna ?_|refine cpc hnn ?_|refine k_cu ?_ ?_)|(with_reducible apply wb2<;>(intro hb;try simp only[hb]))|(refine ca3 (wo1 rfl) ?_)|(refine ca3 (jo2 rfl) ?_)|(refine ca3 (jo3 rfl) ?_))<;>try simp only[go_sem,seval,e2,e3,hjw,hgj,d6,x1,x2,x3,hng]));exact⟨_,by rw[hR];exact GL.refl _ _⟩
 rw[if_neg hm]at hR;by_cases m1:v<0
 ·have x1:decide (v<0)=true:=by simpa using m1
  by_cases m2 : -2147483647<=v
  ·have x2:decide (v ≥ -2147483647)=true:=by simpa using m2
   have x3:(k==6)=false:=b9
   (repeat'((first|(with_reducible first|apply wr|refine cpc c_decls31 ?_|refine cpc hna ?_|refine cpc hnu ?_|refine k_cu ?_ ?_)|(with_reducible apply wb2<;>(intro hb;try simp only[hb]))|(refine ca3 (wo1 rfl) ?_)|(refine ca3 (jo2 rfl) ?_)|(refine ca3 (jo3 rfl) ?_))<;>try simp only[go_sem,seval,e2,e3,hjw,hgj,d6,x1,x2,x3]));exact⟨_,by rw[hR];exact GL.refl _ _⟩
  ·have x2:decide (v ≥ -2147483647)=false:=by simp;omega
   refine wAb c_decls31 hna hnu (wJ e2 (wJ e3 (wJ hjw (wJ hgj (wJ d6 (wJ x1 x2)))))) ?_;exact⟨_,by rw[hR];exact GL.refl _ _⟩
 ·have x1:decide (v<0)=false:=by simp;omega
  refine wAb c_decls31 hna hnu (wJ e2 (wJ e3 (wJ hjw (wJ hgj (wJ d6 x1))))) ?_;exact⟨_,by rw[hR];exact GL.refl _ _⟩
theorem c_rulesT(r:Ru)(hB:r.sz<4000000)(hT:(r.decls.flatMap dcT++r.modes.flatMap mdT).length<=100000000):PC Tryz.prog 56 [r.v] (D0 (ruT r)):=by
 refine PC.ofT A3 rfl (A0F rfl) (by simp[DV.nlL,DV.nl,S6,S0]) (Q5 _) ?_;obtain⟨R,hR⟩:∃R,R=D0 (ruT r):=⟨_,rfl⟩;rw[<- hR];obtain⟨D,M⟩:=r;dsimp only at hT;unfold ruT at hR;dsimp only[Ru.v]at hR ⊢;have hDs:(D.map Dc.sz).sum+(M.map Md.sz).sum<4000000:=hB;have hDl:D.length<=(D.map Dc.sz).sum:=K5 λx _=>zac
 have hMl:M.length<=(M.map Md.sz).sum:=K5 λx _=>r8
 refine wAp ?_;obtain⟨F,hF⟩:∃F:Nat->List Tok, ∀k,F k=(D.take k).flatMap dcT:=⟨_,λ_=>rfl⟩;have hF0:F 0=[]:=by rw[hF];rfl
 have hFl:∀k,(F k).length<=100000000:=λk=>by
  have h1:D.flatMap dcT=F k++(D.drop k).flatMap dcT:=by rw[hF, <- A3J,A1P]
  rw[h1]at hT;simp only[A0A]at hT;omega
 refine A9 (λq:Nat × Option Nat=>[(1,.ptr 0 0),(3,todoV q.2 (F q.1).length),(4,I64 q.1)]) (λq=>optH (Sym.nil.upd 0 ⟨0,true,[D7 D,F6 M]⟩) q.2 ⟨4,true,cellsL ((F q.1).map Tok.v)⟩)
  (λq c=>1<=c/\q.1<=D.length/\(q.2=none->F q.1=[])/\(∀i,q.2=some i->1<=i/\i<c)) (λq=>D.length-q.1) (0,none)
  (by simp[B5,tm,Tm.upd,todoV]) (Sub.refl _) ⟨a8,A0Q _,λ_=>hF0,(λi hi=>by cases hi)⟩ ?_
 rintro⟨k,o⟩ c ⟨hc,hk,hno,ho⟩;dsimp only at hc hk hno ho ⊢;have hbx:optH (Sym.nil.upd 0 ⟨0,true,[D7 D,F6 M]⟩) o ⟨4,true,cellsL ((F k).map Tok.v)⟩ 0=some ⟨0,true,[D7 D,F6 M]⟩:=n8
 by_cases hlt:k<D.length
 ·have hd:=dtz hlt;have hg:=A0B hlt;have hsz:=O1 (f:=Dc.sz) (A0O hlt);have hdt:=c_declT D[k] (by have h5:D[k].name.length<Dc.sz D[k]:=(by unfold Dc.sz;omega);omega);have hdl:=C9p D[k];have hw:=w64 (n:=(k:Int)+1);have e0:F (k+1)=F k++dcT D[k]:=by rw[hF,hF,A0V,hg,A3J];simp
  have hFk:=hFl k;generalize D[k]=x at hg hdt hdl e0;have hun:unit 4 ((dcT x).map Tok.v)=true:=by unfold unit;rw[A0R];intro d hd;simp[G8 (dcT x) d hd]
  have hln:(cellsL ((F k).map Tok.v)).length=(F k).length*4:=(C3 (u:=4) (G8 _)).trans (by simp);(repeat'((with_reducible first|apply wr|refine cpc hdt ?_|refine k_cu ?_ ?_|apply wb2<;>(intro hb;try simp only[hb]))<;>try simp only[go_sem,seval,hd,hg,hw,hbx,X9 hun]));refine G6 (F9 (cs:=cellsL ((F k).map Tok.v)) (λe=>by rw[hno e];exact⟨rfl,rfl⟩) (λi hi=>A5i hi) hln (by omega) (by omega) (by omega)) ?_;refine wAu hw ?_;refine⟨(k+1,some c),y7,?_,inv ⟨a8,a8,(λh=>by cases h),(λi hi=>by cases hi;omega)⟩,by simp only;omega⟩;dsimp only;refine E0f (n0:=c) (c:=c) (λj q hq=>?_) (λi hi=>?_) (λj hj=>rfl) (A0E _) (by rw[e0,A0S,C4])
  ·by_cases e:j=0
   ·omega
   ·rw[h_ne e]at hq;cases hq
  ·have:=ho i hi;rw[hnO];rfl
 ·have hd:=dfz hlt;refine wAs (wJ hd hbx) ?_;have hFD:F k=D.flatMap dcT:=by rw[hF,A0J (by omega)]
  have hc0:=hc;obtain⟨G,hG⟩:∃G:Nat->List Tok, ∀k,G k=D.flatMap dcT++(M.take k).flatMap mdT:=⟨_,λ_=>rfl⟩;have hG0:G 0=F k:=by rw[hG,hFD];simp
  have hGl:∀k,(G k).length<=100000000:=λk=>by
   have h1:M.flatMap mdT=(M.take k).flatMap mdT++(M.drop k).flatMap mdT:=by rw[<- A3J,A1P]
   rw[h1]at hT;rw[hG];simp only[A0A]at hT ⊢;omega
  refine A9 (λq:Nat × Option Nat=>[(1,.ptr 0 0),(3,todoV q.2 (G q.1).length),(5,I64 q.1)]) (λq=>optH (Sym.nil.upd 0 ⟨0,true,[D7 D,F6 M]⟩) q.2 ⟨4,true,cellsL ((G q.1).map Tok.v)⟩)
   (λq c=>1<=c/\q.1<=M.length/\(q.2=none->G q.1=[])/\(∀i,q.2=some i->1<=i/\i<c)/\((M.take q.1).any λm=>m.hds.any A0w)=false) (λq=>M.length-q.1) (0,o)
   (by simp[B5,tm,Tm.upd,hG0]) (by dsimp only;rw[hG0];exact Sub.refl _) ⟨hc,A0Q _,(by dsimp only;rw[hG0];exact hno),ho,rfl⟩ ?_
  clear hbx hno ho hG0 hFD hFl hF0 hF hc hc0 hlt hd hk;rintro⟨k,o⟩ c ⟨hc,hk,hno,ho,hbad⟩;dsimp only at hc hk hno ho hbad ⊢;have hbx:optH (Sym.nil.upd 0 ⟨0,true,[D7 D,F6 M]⟩) o ⟨4,true,cellsL ((G k).map Tok.v)⟩ 0=some ⟨0,true,[D7 D,F6 M]⟩:=n8
  by_cases hlt:k<M.length
  ·have hd:=dtz hlt;have hg:=A0B hlt;have hsz:=O1 (f:=Md.sz) (A0O hlt);have hw:=w64 (n:=(k:Int)+1);have e0:G (k+1)=G k++mdT M[k]:=by rw[hG,hG,A0V,hg,A3J];simp
   have b0:((M.take (k+1)).any λm=>m.hds.any A0w)=(M[k].hds.any A0w):=by rw[A0V,hg,List.any_append,hbad];simp
   have b1:(M[k].hds.any A0w)=true->R=D0 [A1t]:=λh=>by rw[hR,if_pos (List.any_eq_true.2 ⟨_,A0O hlt,h⟩)]
   have hGk:=hGl k;have hGk1:=hGl (k+1);generalize M[k]=m at hg hsz e0 b0 b1;have hln:(cellsL ((G k).map Tok.v)).length=(G k).length*4:=(C3 (u:=4) (G8 _)).trans (by simp);have hnl:m.name.length<=1000000000:=by
    have h5:m.name.length<Md.sz m:=by unfold Md.sz;omega
    omega
   have hna:=c_named m.name hnl;have hnu:=c_number31 m.prio;have hbo:∀i:Nat,o=some i->optH (Sym.nil.upd 0 ⟨0,true,[D7 D,F6 M]⟩) o ⟨4,true,cellsL ((G k).map Tok.v)⟩ i=some ⟨4,true,cellsL ((G k).map Tok.v)⟩:=λi hi=>u5
   have hbn:∀j:Nat,c<=j->optH (Sym.nil.upd 0 ⟨0,true,[D7 D,F6 M]⟩) o ⟨4,true,cellsL ((G k).map Tok.v)⟩ j=none:=λj hj=>by rw[B9 (λi hi=>by have:=ho i hi;omega),hnO];rfl
   generalize hHH:optH (Sym.nil.upd 0 ⟨0,true,[D7 D,F6 M]⟩) o ⟨4,true,cellsL ((G k).map Tok.v)⟩=HH at hbx hbo hbn ⊢;have ne0:=A1y 0 c (c+1+1) (c+1+9) (c+1+11) (by omega);have hd1:delO HH (some (c+1+1))=HH:=B4z (hbn _ (by omega));have hd2:delO HH (some (c+1+9))=HH:=B4z (hbn _ (by omega));have hd3:delO HH (some (c+1+11))=HH:=B4z (hbn _ (by omega));refine wBd hna hnu (wJ hd (wJ hg (wJ hw (wJ hbx (wJ ne0 (wJ @A0 @A1)))))) ?_;refine AC.call (wd1 (x:=[109,111,100,101]) (by simp[K3,Hp.upd]) (by decide)) ?_;rintro v H' c2 ⟨rfl,rfl,rfl⟩ -;refine wBe hna hnu (wJ ne0 (wJ @A0 (wJ @A1 (wJ hd1 (wJ hd2 hd3))))) ?_;refine⟨m9,?_⟩;refine wBd hna hnu (wJ ne0 (wJ @A0 (wJ @A1 (wJ hd1 (wJ hd2 hd3))))) ?_;refine⟨m9,?_⟩;refine wBd hna hnu (wJ ne0 (wJ @A0 (wJ @A1 (wJ hd1 (wJ hd2 hd3))))) ?_;refine⟨m9,?_⟩;refine wBd hna hnu (wJ ne0 (wJ @A0 (wJ @A1 (wJ hd1 (wJ hd2 hd3))))) ?_;refine AC.call (wd1 (x:=[123]) (by simp[K3,Hp.upd]) (by decide)) ?_;rintro v H' c2 ⟨rfl,rfl,rfl⟩ -;simp only[go_sem,seval,ne0,A0,A1,hd1,hd2,hd3];refine⟨m9,?_⟩;refine wBd hna hnu (wJ ne0 (wJ @A0 (wJ @A1 (wJ hd1 (wJ hd2 hd3))))) ?_;refine AC.call (jn4 A0 (by constructor<;>(try simp only[A0A,lw,B6,F7,G9])<;>omega) (by constructor<;>(try simp only[A0A,lw,B6,F7,G9])<;>omega) (by constructor<;>(try simp only[A0A,lw,B6,F7,G9])<;>omega) (by constructor<;>(try simp only[A0A,lw,B6,F7,G9])<;>omega)) ?_;rintro v H' c2 ⟨rfl,rfl,rfl⟩ -;have hun4:unit 4 ((wT [109,111,100,101]++F1 m.name++A0s m.prio++wT [123]).map Tok.v)=true:=by unfold unit;rw[A0R];intro d hd;simp[G8 _ d hd]
   have hl4:(wT [109,111,100,101]++F1 m.name++A0s m.prio++wT [123]).length=4:=by simp only[A0A,lw,B6,F7]
   have hsrc:A7b (HH.upd c ⟨0,true,[.str m.name,I64 m.prio,W0 m.hds,I64 m.pos]⟩) 4 (D0 (wT [109,111,100,101]++F1 m.name++A0s m.prio++wT [123]))=some (4,cellsL ((wT [109,111,100,101]++F1 m.name++A0s m.prio++wT [123]).map Tok.v)):=by
    rw[X9 hun4,A0N,hl4]
   obtain⟨Q,hQ⟩:∃Q,Q=wT [109,111,100,101]++F1 m.name++A0s m.prio++wT [123]:=⟨_,rfl⟩;rw[<- hQ]at hsrc ⊢;refine wBe hna hnu (wJ ne0 (wJ @A0 (wJ @A1 (wJ hd1 (wJ hd2 (wJ hd3 hsrc)))))) ?_;refine⟨zag,?_⟩;rw[F9 (cs:=cellsL ((G k).map Tok.v)) (λe=>by rw[hno e];exact⟨rfl,rfl⟩) (λi hi=>by have:=ho i hi;rw[hnO];exact hbo i hi) hln (by omega) (by omega) (by omega)];refine wAu ne0 ?_;have hQl:Q.length=4:=by rw[hQ];exact hl4
   obtain⟨K,hK⟩:∃K:Nat->List Tok, ∀j,K j=G k++Q++(m.hds.take j).flatMap hdT:=⟨_,λ_=>rfl⟩;have hK0:K 0=G k++Q:=by rw[hK];simp
   have hKl:∀j,(K j).length<=100000000:=λj=>by
    have h1:m.hds.flatMap hdT=(m.hds.take j).flatMap hdT++(m.hds.drop j).flatMap hdT:=by rw[<- A3J,A1P]
    have h2:mdT m=Q++m.hds.flatMap hdT++wT [125]:=by rw[hQ];rfl
    rw[e0,h2,h1]at hGk1;rw[hK];simp only[A0A]at hGk1 ⊢;omega
   have hKe:K m.hds.length++wT [125]=G (k+1):=by
    have h2:mdT m=Q++m.hds.flatMap hdT++wT [125]:=by rw[hQ];rfl
    rw[hK,e0,h2,A1T];simp only[A0K]
   have hhl:m.hds.length<=4000000:=by
    have h5:m.hds.length<=(m.hds.map Hd.sz).sum:=K5 λx _=>r8
    have h6:(m.hds.map Hd.sz).sum<Md.sz m:=by unfold Md.sz;omega
    omega
   refine A9 (λq:Nat × Nat=>[(1,.ptr 0 0),(3,.slc q.2 0 (K q.1).length),(5,I64 k),(6,.ptr c 0),(7,I64 q.1)]) (λq=>((Sym.nil.upd 0 ⟨0,true,[D7 D,F6 M]⟩).upd c ⟨0,true,[.str m.name,I64 m.prio,W0 m.hds,I64 m.pos]⟩).upd q.2 ⟨4,true,cellsL ((K q.1).map Tok.v)⟩)
    (λq n=>c<q.2/\q.2<n/\q.1<=m.hds.length/\((m.hds.take q.1).any A0w)=false) (λq=>m.hds.length-q.1) (0,c+1+15)
    (by simp[B5,tm,Tm.upd,hK0,hQl]) ?_ ⟨g9,g9,A0Q _,rfl⟩ ?_
   ·dsimp only;rw[hK0,A0S,C4];intro j b hj;by_cases e1:j=c+1+15
    ·subst e1;rw[A0]at hj ⊢;exact hj
    rw[h_ne e1]at hj ⊢;rw[C5 (λi hi=>by
     have h1:=ho i hi;intro e;subst e;rw[hnO,hnO]at hj;cases hj)]
    by_cases e2:j=c
    ·subst e2;rw[A0]at hj ⊢;exact hj
    rw[h_ne e2]at hj ⊢;by_cases e3:j=0
    ·subst e3;rw[A0]at hj;rw[hbx];exact hj
    ·rw[h_ne e3]at hj;cases hj
   clear hbo hbn hd1 hd2 hd3 hsrc hl4 hun4 hHH hbx hno ho;rintro⟨j,i⟩ n ⟨hi1,hi2,hj,hbj⟩;dsimp only at hi1 hi2 hj hbj ⊢;by_cases hjl:j<m.hds.length
   ·have hdj:decide ((j:Int)<(m.hds.length:Int))=true:=by simpa using hjl
    have hgj:=A0B hjl;have hwj:=w64 (n:=(j:Int)+1);have k0:K (j+1)=K j++hdT m.hds[j]:=by rw[hK,hK,A0V,hgj,A3J];simp
    have c0:((m.hds.take (j+1)).any A0w)=A0w m.hds[j]:=by rw[A0V,hgj,List.any_append,hbj];simp
    have c1:A0w m.hds[j]=true->R=D0 [A1t]:=λh=>b1 (List.any_eq_true.2 ⟨_,A0O hjl,h⟩);have hszj:=O1 (f:=Hd.sz) (A0O hjl);have h6:(m.hds.map Hd.sz).sum<Md.sz m:=by unfold Md.sz;omega
    have hKj:=hKl j;have hKj1:=hKl (j+1);generalize m.hds[j]=h at hgj k0 c0 c1 hszj;have ne0:=V8 0 c i n (by omega);have hb9:A0w h=true->∃H2,GL (((((Sym.nil.upd 0 ⟨0,true,[D7 D,F6 M]⟩).upd c ⟨0,true,[.str m.name,I64 m.prio,W0 m.hds,I64 m.pos]⟩).upd i ⟨4,true,cellsL ((K j).map Tok.v)⟩).upd n ⟨0,true,[I64 h.trig,.str h.name,G7 h.body,I64 h.pos]⟩).upd (n+1) ⟨4,true,[I64 0,.str [],I64 0,I64 0]⟩) [.slc (n+1) 0 1] H2 [R]:=λhb=>by
     rw[c1 hb];exact U1 A0 rfl rfl (G8 [A1t]) ⟨[],rfl⟩
    by_cases t1:h.trig<1
    ·have x1:decide (h.trig<1)=true:=by simpa using t1
     refine wA3 hdj hgj hwj x1 ne0 @A0 @A1 ?_;exact hb9 (by unfold A0w;rw[x1];rfl)
    have x1:decide (h.trig<1)=false:=by simpa using t1
    by_cases t2:6<h.trig
    ·have x2:decide (h.trig>6)=true:=by simpa using t2
     have x2':decide (6<h.trig)=true:=by simpa using t2
     refine wA4 hdj hgj hwj x1 x2 ne0 @A0 @A1 ?_;exact hb9 (by unfold A0w;rw[x2',Bool.or_true])
    have x2:decide (h.trig>6)=false:=by simpa using t2
    have x2':decide (6<h.trig)=false:=by simpa using t2
    have c2:A0w h=false:=by unfold A0w;rw[x1,x2'];rfl
    clear hb9 c1;obtain⟨y,hy⟩:∃y:Nat,h.trig=1+(y:Int):=⟨(h.trig-1).toNat,by omega⟩;have hyw:IntKind.i64.wrap (h.trig-1)=(y:Int):=l8
    have hyn:(h.trig-1).toNat=y:=a8
    have hy6:y<6:=a8
    have hgy:F8[y]? = some (F8.getD y []):=by
     rw[A1L,A0B (show y<F8.length from hy6)];rfl
    have hsl:(F8.getD y []).length<=1000000000:=by
     have:∀i:Nat,i<6->(F8.getD i []).length<=1000000000:=n7
     exact this y hy6
    have hTT:hdT h=wT2 [111,110] (F8.getD y [])++(if 2<h.trig then F1 h.name else [])++blT h.body:=by unfold hdT;rw[hyn];rfl
    generalize F8.getD y []=S at hgy hsl hTT;have hnh:=c_named h.name (by have h5:h.name.length<Hd.sz h:=(by unfold Hd.sz;omega);omega);have hbb:=c_blkT h.body (by have h5:Pb.St.szs h.body<Hd.sz h:=(by unfold Hd.sz;omega);omega);obtain⟨bl1, -⟩:=B3c h.body;rw[k0,hTT]at hKj1;simp only[A0A]at hKj1;have hbn:∀j':Nat,n<=j'->(((Sym.nil.upd 0 ⟨0,true,[D7 D,F6 M]⟩).upd c ⟨0,true,[.str m.name,I64 m.prio,W0 m.hds,I64 m.pos]⟩).upd i ⟨4,true,cellsL ((K j).map Tok.v)⟩) j'=none:=λj' h'=>by rw[hnO,hnO,hnO];rfl
    have ne0:=A1y 0 c i n (n+1+7) (by omega);refine wA8 c_trigs31 (wJ hdj (wJ hgj (wJ hwj (wJ x1 (wJ x2 (wJ hyw (wJ hgy (wJ ne0 (wJ @A0 @A1))))))))) ?_;refine⟨n9,?_⟩;refine AC.call (F7j A0 (by decide) hsl) ?_;rintro v H' c3 ⟨rfl,rfl,rfl⟩ -;have hw2:(wT2 [111,110] S).length=2:=rfl;have hun:=A8g (wT2 [111,110] S);have hunB:=A8g (blT h.body);have hunN:=A8g (F1 h.name);have hnl1:=B6 h.name;have hlnK:=X5 (K j);simp only[go_sem,seval,ne0,A0,A1,X9 hun];(repeat'((with_reducible first|apply wr|refine k_cu ?_ ?_|apply wb2<;>(intro hb;try simp only[hb]))<;>try simp only[go_sem,seval,ne0,A0,A1,X9 hun]));refine⟨n9,?_⟩;rw[Z6 hlnK (by omega) (by omega)];have ne0:=A1y 0 c i n (n+1+11) (by omega);simp only[go_sem,seval,ne0,A0,A1];by_cases t3:2<h.trig
    ·have x3:decide (h.trig>2)=true:=by simpa using t3
     rw[if_pos t3]at hTT hKj1;try simp only[A0A]at hKj1
     (repeat'((with_reducible first|apply wr|refine cpc hnh ?_|refine k_cu ?_ ?_|apply wb2<;>(intro hb;try simp only[hb]))<;>try simp only[go_sem,seval,ne0,A0,A1,x3,X9 hunN]));refine G6 (Z6 (by rw[A0A,X5,X5];omega) (by omega) (by omega)) ?_;have ne0:=A7s 0 c i n (n+1+11) (n+1+11+1) (by omega);simp only[go_sem,seval,ne0,A0,A1];(repeat'((with_reducible first|apply wr|refine cpc hbb ?_|refine k_cu ?_ ?_|apply wb2<;>(intro hb;try simp only[hb]))<;>try simp only[go_sem,seval,ne0,A0,A1,X9 hunB]));refine G6 (Z6 (by rw[A0A,A0A,X5,X5,X5];omega) (by omega) (by omega)) ?_;refine wAz ne0 @A0 @A1 hwj ?_;refine⟨(j+1,n+1+11+1+1),by simp[B5,tm,Tm.upd,k0,hTT,hwj,A2P],?_,inv ⟨g9,g9,g9,by rw[c0];exact c2⟩,by simp only;omega⟩;dsimp only;intro j' b' hj';by_cases e1:j'=n+1+11+1+1
     ·subst e1;rw[A0]at hj' ⊢;rw[<- hj',k0,hTT];simp only[A0S,C4,A0K,List.map_nil,List.nil_append];try rfl
     rw[h_ne e1]at hj' ⊢;by_cases e2:j'=c
     ·subst e2;rw[A0]at hj'
      repeat (first|rw[A0]|rw[hnO]|rw[B9b (by omega)])
      exact hj'
     rw[h_ne e2]at hj';by_cases e3:j'=0
     ·subst e3;rw[A0]at hj'
      repeat (first|rw[A0]|rw[hnO]|rw[B9b (by omega)])
      exact hj'
     ·rw[h_ne e3]at hj';cases hj'
    ·have x3:decide (h.trig>2)=false:=by simpa using t3
     rw[if_neg t3]at hTT hKj1;try simp only[A0M]at hKj1
     (repeat'((with_reducible first|apply wr|refine cpc hbb ?_|refine k_cu ?_ ?_|apply wb2<;>(intro hb;try simp only[hb]))<;>try simp only[go_sem,seval,ne0,A0,A1,x3,X9 hunB]));refine G6 (Z6 (by rw[A0A,X5,X5];omega) (by omega) (by omega)) ?_;have ne0:=A7s 0 c i n (n+1+11) (n+1+11+1) (by omega);refine wAz ne0 @A0 @A1 hwj ?_;refine⟨(j+1,n+1+11+1),by simp[B5,tm,Tm.upd,k0,hTT,hwj,A2P],?_,inv ⟨g9,g9,g9,by rw[c0];exact c2⟩,by simp only;omega⟩;dsimp only;intro j' b' hj';by_cases e1:j'=n+1+11+1
     ·subst e1;rw[A0]at hj' ⊢;rw[<- hj',k0,hTT];simp only[A0S,C4,A0K,List.map_nil,List.nil_append];try rfl
     rw[h_ne e1]at hj' ⊢;by_cases e2:j'=c
     ·subst e2;rw[A0]at hj'
      repeat (first|rw[A0]|rw[hnO]|rw[B9b (by omega)])
      exact hj'
     rw[h_ne e2]at hj';by_cases e3:j'=0
     ·subst e3;rw[A0]at hj'
      repeat (first|rw[A0]|rw[hnO]|rw[B9b (by omega)])
      exact hj'
     ·rw[h_ne e3]at hj';cases hj'
   ·have hdj:decide ((j:Int)<(m.hds.length:Int))=false:=by simpa using hjl
    have ne0:=V8 0 c i n (by omega);have hjE:j=m.hds.length:=a8
    subst hjE;rw[A1T]at hbj;have hlw:=lw [125];have hun:=A8g (wT [125]);have hln2:=X5 (K m.hds.length);have hKm:=hKl m.hds.length;refine wAy hdj ne0 @A0 @A1 ?_;refine AC.call (wd1 A0 (by decide)) ?_;rintro v H' c3 ⟨rfl,rfl,rfl⟩ -;simp only[go_sem,seval,ne0,A0,A1,X9 hun];(repeat'((with_reducible first|apply wr|refine k_cu ?_ ?_|apply wb2<;>(intro hb;try simp only[hb]))<;>try simp only[go_sem,seval,ne0,A0,A1,X9 hun]));refine G6 (Z6 hln2 (by omega) (by omega)) ?_;refine wAu (wJ hw ne0) ?_;refine⟨(k+1,some (n+1)),by simp[B5,tm,Tm.upd,todoV, <- hKe,hlw],?_,inv ⟨a8,g9,(λh=>by cases h),(λi hi=>by cases hi;omega),by rw[b0];exact hbj⟩,by simp only;omega⟩;dsimp only[optH];rw[<- hKe,A0S,C4];intro j b hj;by_cases e1:j=n+1
    ·subst e1;rw[A0]at hj ⊢;exact hj
    rw[h_ne e1]at hj ⊢;by_cases e2:j=0
    ·subst e2;rw[A0]at hj;rw[show ∀X:Hp,X.del i=delO X (some i) from λ_=>rfl,A0i,iN,hnO,hnO,A0];exact hj
    ·rw[h_ne e2]at hj;cases hj
  ·have hd:=dfz hlt;rw[A0J (by omega)]at hbad;rw[if_neg (by rw[hbad];decide)]at hR;refine wAs (wJ hd hbx) ?_;rw[hR,hG,A0J (by omega)];rw[hG,A0J (by omega)]at hno;exact D5r (λe=>by rw[hno e];rfl) (by simp) (G8 _)
theorem C2e(p:Bool):∀(l l':List Ex) (k:Nat),l.length=l'.length->(V4 p (l.take k) (l'.take k)=true)->∀x x',l[k]? = some x->l'[k]? = some x'->V4 p (l.take (k+1)) (l'.take (k+1))=B5w p x x'/\(B5w p x x'=false->V4 p l l'=false)
 |[],_,k,_,_,x,x',h,_=>by simp at h
 |_::_,[],k,h,_,_,_,_,_=>by simp at h
 |a::l,a'::l',0,_,_,x,x',h,h'=>by
  cases h;cases h';refine⟨?_,λe=>?_⟩
  ·simp[V4]
  ·rw[V4,e];rfl
 |a::l,a'::l',k+1,hl,he,x,x',h,h'=>by
  rw[A0Y,A0Y,V4,A0G]at he;have ih:=C2e p l l' k (by simpa using hl) he.2 x x' (by simpa using h) (by simpa using h');refine⟨?_,λe=>?_⟩
  ·rw[A0Y,A0Y,V4,he.1,A2D];exact ih.1
  ·rw[V4,ih.2 e,A3W]
theorem B7b(p:Bool):∀(l l':List Ex),¬l.length=l'.length->V4 p l l'=false
 |[],[],h=>absurd rfl h
 |[],_::_,_=>rfl
 |_::_,[],_=>rfl
 |a::l,a'::l',h=>by rw[V4,B7b p l l' (by simpa using h),A3W]
theorem c_sameEs(p:Bool)(l l':List Ex)(hl:l.length<=100000000000)(h:∀x∈l, ∀y,PC Tryz.prog 187 [x.v,y.v,.bool p] (.bool (B5w p x y))):PC Tryz.prog 153 [L9 l,L9 l',.bool p] (.bool (V4 p l l')):=by
 refine PC.go A3 ?_;by_cases hlen:l.length=l'.length
 ·have hd0:((l.length:Int) != (l'.length:Int))=false:=by simp[hlen]
  (repeat'((with_reducible first|apply wr|refine k_cu ?_ ?_|apply wb2<;>(intro hb;try simp only[hb]))<;>try simp only[go_sem,seval,hd0,A0N]));refine A9 (λk:Nat=>[(0,L9 l),(1,L9 l'),(2,.bool p),(7,I64 k)]) (λ_=>Sym.nil) (λk c=>k<=l.length/\V4 p (l.take k) (l'.take k)=true) (λk=>l.length-k) 0 (by simp[B5,tm,Tm.upd]) (Sub.nil _) ⟨A0Q _,rfl⟩ ?_;rintro k c ⟨hk,he⟩;by_cases hlt:k<l.length
  ·have hd:=dtz hlt;have hg:=A0B hlt;have hg':=A0B (l:=l') (i:=k) (by omega);have hw:=w64 (n:=(k:Int)+1);have hc:=h _ (A0O hlt) (l'[k]'(by omega));obtain⟨s1,s2⟩:=C2e p l l' k hlen he _ _ hg hg';generalize l[k]=x at hg hc s1 s2;generalize l'[k]'(by omega)=x' at hg' hc s1 s2;rw[Ex.v_w,Ex.v_w]at hc;cases hx:B5w p x x' with
   |true =>
    refine wA7 hc (wJ hd (wJ hg (wJ hg' (wJ hw (wJ hx @Ex.v_w))))) ?_;exact⟨k+1,i6,Sub.nil _,inv ⟨a8,by rw[s1];exact hx⟩,by omega⟩
   |false =>
    refine wA7 hc (wJ hd (wJ hg (wJ hg' (wJ hw (wJ hx @Ex.v_w))))) ?_;exact⟨_,by rw[s2 hx];exact GL.refl _ _⟩
  ·have hd:=dfz hlt;rw[A0J (by omega),A0J (by omega)]at he;refine wAr hd ?_;exact⟨_,by rw[he];exact GL.refl _ _⟩
 ·have hd0:((l.length:Int) != (l'.length:Int))=true:=by simp;omega
  (repeat'((with_reducible first|apply wr|refine k_cu ?_ ?_|apply wb2<;>(intro hb;try simp only[hb]))<;>try simp only[go_sem,seval,hd0,A0N]));exact⟨_,by rw[B7b p l l' hlen];exact GL.refl _ _⟩
theorem c_sameE(p:Bool):∀(m:Nat) (a b:Ex),a.sz<m->a.sz<=100000000000->PC Tryz.prog 187 [a.v,b.v,.bool p] (.bool (B5w p a b)):=by
 intro m
 induction m with
 |zero=>intro a b h;omega
 |succ m ih =>
 intro a b hm hB;have hs:=c_sameEs p a.args b.args (by have:=a.sz_args;omega) (λx hx y=>ih x y (by have:=Ex.sz_arg hx;omega) (by have:=Ex.sz_arg hx;omega));have e0:B5w p a b=(a.kind==b.kind&&(a.value==b.value&&(a.name==b.name&&((p||a.pos==b.pos)&&V4 p a.args b.args)))):=by
  cases a with|mk k v n l q=>cases b with|mk k' v' n' l' q'=>rw[B5w];rfl
 refine PC.go A3 ?_;rw[Ex.v_w,Ex.v_w,e0];cases h1:a.kind==b.kind with
 |false =>
  refine wAs h1 ?_;exact⟨_,GL.refl _ _⟩
 |true =>
  cases h2:a.value==b.value with
  |false =>
   refine wAs (wJ h1 h2) ?_;exact⟨_,GL.refl _ _⟩
  |true =>
   cases h3:a.name==b.name with
   |false =>
    refine wAw h1 h2 h3 ?_;exact⟨_,GL.refl _ _⟩
   |true =>
    cases hp:p with
    |true =>
     subst hp;refine wA8 hs (wJ h1 (wJ h2 h3)) ?_;exact⟨_,GL.refl _ _⟩
    |false =>
     subst hp;cases h4:a.pos==b.pos with
     |false =>
      refine wA8 hs (wJ h1 (wJ h2 (wJ h3 h4))) ?_;exact⟨_,GL.refl _ _⟩
     |true =>
      refine wA8 hs (wJ h1 (wJ h2 (wJ h3 h4))) ?_;exact⟨_,GL.refl _ _⟩
theorem C0c:∀(l l':List Pb.St) (k:Nat),l.length=l'.length->(R6 (l.take k) (l'.take k)=true)->∀x x',l[k]? = some x->l'[k]? = some x'->R6 (l.take (k+1)) (l'.take (k+1))=C3z x x'/\(C3z x x'=false->R6 l l'=false)
 |[],_,k,_,_,x,x',h,_=>by simp at h
 |_::_,[],k,h,_,_,_,_,_=>by simp at h
 |a::l,a'::l',0,_,_,x,x',h,h'=>by
  cases h;cases h';refine⟨?_,λe=>?_⟩
  ·simp[R6]
  ·rw[R6,e];rfl
 |a::l,a'::l',k+1,hl,he,x,x',h,h'=>by
  rw[A0Y,A0Y,R6,A0G]at he;have ih:=C0c l l' k (by simpa using hl) he.2 x x' (by simpa using h) (by simpa using h');refine⟨?_,λe=>?_⟩
  ·rw[A0Y,A0Y,R6,he.1,A2D];exact ih.1
  ·rw[R6,ih.2 e,A3W]
theorem B6c:∀(l l':List Pb.St),¬l.length=l'.length->R6 l l'=false
 |[],[],h=>absurd rfl h
 |[],_::_,_=>rfl
 |_::_,[],_=>rfl
 |a::l,a'::l',h=>by rw[R6,B6c l l' (by simpa using h),A3W]
theorem E7b(a b:Pb.St):C3z a b=(a.kind==b.kind&&(a.name==b.name&&(a.text==b.text&&(a.pos==b.pos&&(V4 false a.args b.args&&(R6 a.thn b.thn&&R6 a.els b.els)))))):=by
 cases a with|mk k n t a x y q=>cases b with|mk k' n' t' a' x' y' q'=>rw[C3z];rfl
theorem c_sameS:∀(m:Nat) (l l':List Pb.St),Pb.St.szs l<m->Pb.St.szs l<=100000000000->PC Tryz.prog 101 [G7 l,G7 l'] (.bool (R6 l l')):=by
 intro m
 induction m with
 |zero=>intro a b h;omega
 |succ m ih =>
 intro l l' hm hB;have hl:=Pb.St.szs_len l;refine PC.go A3 ?_;by_cases hlen:l.length=l'.length
 ·have hd0:((l.length:Int) != (l'.length:Int))=false:=by simp[hlen]
  (repeat'((with_reducible first|apply wr|refine k_cu ?_ ?_|apply wb2<;>(intro hb;try simp only[hb]))<;>try simp only[go_sem,seval,hd0,A0N]));refine A9 (λk:Nat=>[(0,G7 l),(1,G7 l'),(5,I64 k)]) (λ_=>Sym.nil) (λk c=>k<=l.length/\R6 (l.take k) (l'.take k)=true) (λk=>l.length-k) 0 (by simp[B5,tm,Tm.upd]) (Sub.nil _) ⟨A0Q _,rfl⟩ ?_;rintro k c ⟨hk,he⟩;by_cases hlt:k<l.length
  ·have hd:=dtz hlt;have hg:=A0B hlt;have hg':=A0B (l:=l') (i:=k) (by omega);have hw:=w64 (n:=(k:Int)+1);obtain⟨s1,s2⟩:=C0c l l' k hlen he _ _ hg hg';have hsx:=Pb.St.szs_mem (A0O hlt);generalize l[k]=x at hg hsx s1 s2;generalize l'[k]'(by omega)=x' at hg' s1 s2;have ht:=x.sz_thn;have hy:=x.sz_els;have hargs:∀y∈x.args,y.sz<x.sz:=λy hy=>Pb.St.sz_arg hy;have hal:=x.sz_args;have ca:=c_sameEs false x.args x'.args (by omega) (λy hy z=>c_sameE false (y.sz+1) y z (by omega) (by have:=hargs y hy;omega));have ct:=ih x.thn x'.thn (by omega) (by omega);have cy:=ih x.els x'.els (by omega) (by omega);rw[E7b]at s1 s2;have ne0:=A1z (c+8) (c+9) (by omega);have hn8:∀i:Nat,Sym.nil (c+i)=none:=λ_=>rfl;refine wAr (wJ hd (wJ hg (wJ hg' (wJ @Pb.St.v_w (wJ ne0 (wJ @A0 @A1)))))) ?_;refine⟨n9,?_⟩;(repeat'((with_reducible first|refine O8 (p:=IW _ _ (pz Tryz.prog 101 (.o (.i (.o (.i .h))))) _ _) ?_|refine wr ?_|refine k_cu ?_ ?_|apply wb2<;>(intro hb;try simp only[hb]))<;>try simp only[go_sem,seval,ne0,A0,A1]));unfold B9p;clear hd hg hg';cases h1:x.kind==x'.kind with
   |false =>
    have n1:(x.kind != x'.kind)=true:=by rw[bne,h1];rfl
    refine wBf ca ct cy (wJ hw (wJ ne0 (wJ @A0 (wJ @A1 n1)))) ?_;exact⟨_,by rw[s2 (by rw[h1];rfl)];exact GL.refl _ _⟩
   |true =>
    have n1:(x.kind != x'.kind)=false:=by rw[bne,h1];rfl
    cases h2:x.name==x'.name with
    |false =>
     refine wBf ca ct cy (wJ hw (wJ ne0 (wJ @A0 (wJ @A1 (wJ n1 h2))))) ?_;exact⟨_,by rw[s2 (by rw[h1,h2];rfl)];exact GL.refl _ _⟩
    |true =>
     cases h3:x.text==x'.text with
     |false =>
      refine wBf ca ct cy (wJ hw (wJ ne0 (wJ @A0 (wJ @A1 (wJ n1 (wJ h2 h3)))))) ?_;exact⟨_,by rw[s2 (by rw[h1,h2,h3];rfl)];exact GL.refl _ _⟩
     |true =>
      cases h4:x.pos==x'.pos with
      |false =>
       have n4:(x.pos != x'.pos)=true:=by rw[bne,h4];rfl
       refine wBf ca ct cy (wJ hw (wJ ne0 (wJ @A0 (wJ @A1 (wJ n1 (wJ h2 (wJ h3 n4))))))) ?_;exact⟨_,by rw[s2 (by rw[h1,h2,h3,h4];rfl)];exact GL.refl _ _⟩
      |true =>
       have n4:(x.pos != x'.pos)=false:=by rw[bne,h4];rfl
       cases h5:V4 false x.args x'.args with
       |false =>
        refine wBf ca ct cy (wJ hw (wJ ne0 (wJ @A0 (wJ @A1 (wJ n1 (wJ h2 (wJ h3 (wJ n4 h5)))))))) ?_;exact⟨_,by rw[s2 (by rw[h1,h2,h3,h4,h5];rfl)];exact GL.refl _ _⟩
       |true =>
        cases h6:R6 x.thn x'.thn with
        |false =>
         refine wBf ca ct cy (wJ hw (wJ ne0 (wJ @A0 (wJ @A1 (wJ n1 (wJ h2 (wJ h3 (wJ n4 (wJ h5 h6))))))))) ?_;exact⟨_,by rw[s2 (by rw[h1,h2,h3,h4,h5,h6];rfl)];exact GL.refl _ _⟩
        |true =>
         cases h7:R6 x.els x'.els with
         |false =>
          refine wBf ca ct cy (wJ hw (wJ ne0 (wJ @A0 (wJ @A1 (wJ n1 (wJ h2 (wJ h3 (wJ n4 (wJ h5 (wJ h6 h7)))))))))) ?_;exact⟨_,by rw[s2 (by rw[h1,h2,h3,h4,h5,h6,h7];rfl)];exact GL.refl _ _⟩
         |true =>
          refine wBf ca ct cy (wJ hw (wJ ne0 (wJ @A0 (wJ @A1 (wJ n1 (wJ h2 (wJ h3 (wJ n4 (wJ h5 (wJ h6 h7)))))))))) ?_;exact⟨k+1,i6,Sub.nil _,inv ⟨a8,by rw[s1,h1,h2,h3,h4,h5,h6,h7];rfl⟩,by omega⟩
  ·have hd:=dfz hlt;rw[A0J (by omega),A0J (by omega)]at he;refine wAr hd ?_;exact⟨_,by rw[he];exact GL.refl _ _⟩
 ·have hd0:((l.length:Int) != (l'.length:Int))=true:=by simp;omega
  (repeat'((with_reducible first|apply wr|refine k_cu ?_ ?_|apply wb2<;>(intro hb;try simp only[hb]))<;>try simp only[go_sem,seval,hd0,A0N]));exact⟨_,by rw[B6c l l' hlen];exact GL.refl _ _⟩
def C4c(a b:Ru):Bool:=@decide (a=b) (Classical.propDecidable _)
theorem E7l{a b:Ru}(h:a=b):C4c a b=true:=by unfold C4c;exact @decide_eq_true _ (_) h
theorem E7m{a b:Ru}(h:¬a=b):C4c a b=false:=by unfold C4c;exact @decide_eq_false _ (_) h
theorem B7y{α:Type}{l l':List α}{k:Nat}{x x' : α}(h:l.take k=l'.take k)(hx:l[k]? = some x)(hx':l'[k]? = some x')(e:x=x'):l.take (k+1)=l'.take (k+1):=by
 rw[A0V,A0V,h,hx,hx',e]
theorem U7{α:Type}{l l':List α}{k:Nat}{x x' : α}(hx:l[k]? = some x)(hx':l'[k]? = some x')(e:¬x=x'):¬l=l':=by
 rintro rfl;rw[hx]at hx';exact e (Option.some.inj hx')
theorem C6z{H H':Hp}{c:Nat}(h1:∀j b,H j=some b->j<c)(h2:∀j,j<c->H' j=H j):Sym.Sub H H':=λj b hj=>by rw[h2 j (h1 j b hj)];exact hj
theorem c_Same31(a b:Ru)(hB:a.sz<=100000000000):PC Tryz.prog 57 [a.v,b.v] (.bool (C4c a b)):=by
 refine PC.go A3 ?_;obtain⟨R,hR⟩:∃R,R=C4c a b:=⟨_,rfl⟩;rw[<- hR];obtain⟨D,M⟩:=a;obtain⟨D',M'⟩:=b;have hF:(¬D=D'\/¬M=M')->R=false:=λh=>by
  rw[hR];exact E7m λe=>by cases e;exact h.elim (· rfl) (· rfl)
 have hT:D=D'->M=M'->R=true:=λh1 h2=>by rw[hR];exact E7l (by rw[h1,h2])
 clear hR;have hDs:(D.map Dc.sz).sum+(M.map Md.sz).sum<=100000000000:=hB;have hDl:D.length<=(D.map Dc.sz).sum:=K5 λx _=>zac
 have hMl:M.length<=(M.map Md.sz).sum:=K5 λx _=>r8
 dsimp only[Ru.v];by_cases l1:D.length=D'.length
 case neg =>
  have f1:((D.length:Int) != (D'.length:Int))=true:=b9
  refine wAr f1 ?_;exact⟨_,by rw[hF (.inl λe=>l1 (by rw[e]))];exact GL.refl _ _⟩
 have f1:((D.length:Int) != (D'.length:Int))=false:=by simp[l1]
 by_cases l2:M.length=M'.length
 case neg =>
  have f2:((M.length:Int) != (M'.length:Int))=true:=b9
  refine wAr (wJ f1 f2) ?_;exact⟨_,by rw[hF (.inr λe=>l2 (by rw[e]))];exact GL.refl _ _⟩
 have f2:((M.length:Int) != (M'.length:Int))=false:=by simp[l2]
 refine wAr (wJ f1 f2) ?_;refine A9 (λk:Nat=>[(2,.ptr 0 0),(3,.ptr 1 0),(5,I64 k)]) (λ_=>(Sym.nil.upd 0 ⟨0,true,[D7 D,F6 M]⟩).upd 1 ⟨0,true,[D7 D',F6 M']⟩) (λk c=>2<=c/\k<=D.length/\D.take k=D'.take k) (λk=>D.length-k) 0 (by simp[B5,tm,Tm.upd]) (Sub.refl _) ⟨a8,A0Q _,rfl⟩ ?_;rintro k c ⟨hc,hk,he⟩;by_cases hlt:k<D.length
 ·have hd:=dtz hlt;have hg:=A0B hlt;have hg':=A0B (l:=D') (i:=k) (by omega);have hw:=w64 (n:=(k:Int)+1);generalize D[k]=x at hg;generalize D'[k]'(by omega)=x' at hg';have hq:(x.kind==x'.kind&&(x.name==x'.name&&(x.value==x'.value&&x.pos==x'.pos)))=true↔x=x':=by
   cases x;cases x';simp only[A0G,A1S,Dc.mk.injEq]
  by_cases hx:x=x'
  ·have hqt:(true != (x.kind==x'.kind&&(x.name==x'.name&&(x.value==x'.value&&x.pos==x'.pos))))=false:=by rw[hq.2 hx];rfl
   refine wAr (wJ hd (wJ hg (wJ hg' (wJ hw (wJ @E5n hqt))))) ?_;exact⟨k+1,i6,Sub.refl _,inv ⟨a8,a8,B7y he hg hg' hx⟩,by omega⟩
  ·have hqf:(true != (x.kind==x'.kind&&(x.name==x'.name&&(x.value==x'.value&&x.pos==x'.pos))))=true:=by
    rw[show(x.kind==x'.kind&&(x.name==x'.name&&(x.value==x'.value&&x.pos==x'.pos)))=false from by
     cases hz:(x.kind==x'.kind&&(x.name==x'.name&&(x.value==x'.value&&x.pos==x'.pos))) with
     |false=>rfl
     |true=>exact absurd (hq.1 hz) hx]
    rfl
   refine wAr (wJ hd (wJ hg (wJ hg' (wJ hw (wJ @E5n hqf))))) ?_;exact⟨_,by rw[hF (.inl (U7 hg hg' hx))];exact GL.refl _ _⟩
 ·have hd:=dfz hlt;rw[A0J (by omega),A0J (by omega)]at he;refine wAr hd ?_;have hDD:=he;clear hd hlt he hk;refine A9 (λk:Nat=>[(2,.ptr 0 0),(3,.ptr 1 0),(6,I64 k)]) (λ_=>(Sym.nil.upd 0 ⟨0,true,[D7 D,F6 M]⟩).upd 1 ⟨0,true,[D7 D',F6 M']⟩) (λk c=>2<=c/\k<=M.length/\M.take k=M'.take k) (λk=>M.length-k) 0 (by simp[B5,tm,Tm.upd]) (Sub.refl _) ⟨hc,A0Q _,rfl⟩ ?_;clear hc k c;rintro k c ⟨hc,hk,he⟩;by_cases hlt:k<M.length
  ·have hd:=dtz hlt;have hg:=A0B hlt;have hg':=A0B (l:=M') (i:=k) (by omega);have hw:=w64 (n:=(k:Int)+1);have hsx:=O1 (f:=Md.sz) (A0O hlt);generalize M[k]=x at hg hsx;generalize M'[k]'(by omega)=x' at hg';have hxs:(x.hds.map Hd.sz).sum<Md.sz x:=by unfold Md.sz;omega
   have hxl:x.hds.length<=(x.hds.map Hd.sz).sum:=K5 λx _=>r8
   have ne0:=V8 0 1 (c+10) (c+11) (by omega);refine wAr (wJ hd (wJ hg (wJ hg' (wJ ne0 (wJ @A0 @A1))))) ?_;refine⟨n9,?_⟩;(repeat'((with_reducible first|refine O8 (p:=IW _ _ (pz Tryz.prog 57 (.i (.i (.i (.i (.o .h)))))) _ _) ?_|refine wr ?_|refine k_cu ?_ ?_|apply wb2<;>(intro hb;try simp only[hb]))<;>try simp only[go_sem,seval,ne0,A0,A1]));unfold B9p;clear hd;by_cases h1:x.name=x'.name
   case neg =>
    have nh1:(x.name==x'.name)=false:=w9
    refine wAr (wJ ne0 (wJ @A0 (wJ @A1 nh1))) ?_;exact⟨_,by rw[hF (.inr (U7 hg hg' λe=>h1 (by rw[e])))];exact GL.refl _ _⟩
   case pos =>
    have nh1:(x.name==x'.name)=true:=w9
    by_cases h2:x.prio=x'.prio
    case neg =>
     have nh2:(x.prio != x'.prio)=true:=by simpa using h2
     refine wAr (wJ ne0 (wJ @A0 (wJ @A1 (wJ nh1 nh2)))) ?_;exact⟨_,by rw[hF (.inr (U7 hg hg' λe=>h2 (by rw[e])))];exact GL.refl _ _⟩
    case pos =>
     have nh2:(x.prio != x'.prio)=false:=by simpa using h2
     by_cases h3:x.pos=x'.pos
     case neg =>
      have nh3:(x.pos != x'.pos)=true:=by simpa using h3
      refine wAr (wJ ne0 (wJ @A0 (wJ @A1 (wJ nh1 (wJ nh2 nh3))))) ?_;exact⟨_,by rw[hF (.inr (U7 hg hg' λe=>h3 (by rw[e])))];exact GL.refl _ _⟩
     case pos =>
      have nh3:(x.pos != x'.pos)=false:=by simpa using h3
      by_cases h4:x.hds.length=x'.hds.length
      case neg =>
       have nh4:((x.hds.length:Int) != (x'.hds.length:Int))=true:=b9
       refine wAr (wJ ne0 (wJ @A0 (wJ @A1 (wJ nh1 (wJ nh2 (wJ nh3 nh4)))))) ?_;exact⟨_,by rw[hF (.inr (U7 hg hg' λe=>h4 (by rw[e])))];exact GL.refl _ _⟩
      case pos =>
       have nh4:((x.hds.length:Int) != (x'.hds.length:Int))=false:=by simp[h4]
       refine wAr (wJ ne0 (wJ @A0 (wJ @A1 (wJ nh1 (wJ nh2 (wJ nh3 nh4)))))) ?_;refine A9 (λj:Nat=>[(2,.ptr 0 0),(3,.ptr 1 0),(6,I64 k),(7,.ptr (c+10) 0),(8,.ptr (c+11) 0),(9,I64 j)]) (λ_=>(((Sym.nil.upd 0 ⟨0,true,[D7 D,F6 M]⟩).upd 1 ⟨0,true,[D7 D',F6 M']⟩).upd (c+10) ⟨0,true,[.str x.name,I64 x.prio,W0 x.hds,I64 x.pos]⟩).upd (c+11) ⟨0,true,[.str x'.name,I64 x'.prio,W0 x'.hds,I64 x'.pos]⟩) (λj n=>c+12<=n/\j<=x.hds.length/\x.hds.take j=x'.hds.take j) (λj=>x.hds.length-j) 0 (by simp[B5,tm,Tm.upd]) ?_ ⟨a8,A0Q _,rfl⟩ ?_
       ·intro j b hj;by_cases e1:j=c+11
        ·subst e1;rw[A0]at hj ⊢;exact hj
        rw[h_ne e1]at hj ⊢;by_cases e2:j=c+10
        ·subst e2;rw[A0]at hj ⊢;exact hj
        rw[h_ne e2]at hj ⊢
        repeat rw[hnO]
        exact hj
       rintro j n ⟨hn,hj,hej⟩;by_cases hjl:j<x.hds.length
       ·have hdj:decide ((j:Int)<(x.hds.length:Int))=true:=by simpa using hjl
        have gj:=A0B hjl;have gj':=A0B (l:=x'.hds) (i:=j) (by omega);have hwj:=w64 (n:=(j:Int)+1);have hsj:=O1 (f:=Hd.sz) (A0O hjl);generalize x.hds[j]=y at gj hsj;generalize x'.hds[j]'(by omega)=y' at gj';have hbs:Pb.St.szs y.body<Hd.sz y:=by unfold Hd.sz;omega
        have cs:=c_sameS (Pb.St.szs y.body+1) y.body y'.body (by omega) (by omega);have ne0:=A7s 0 1 (c+10) (c+11) (n+10) (n+11) (by omega);refine wAr (wJ hdj (wJ gj (wJ gj' (wJ ne0 (wJ @A0 @A1))))) ?_;refine⟨n9,?_⟩;(repeat'((with_reducible first|refine O8 (p:=IW _ _ (pz Tryz.prog 57 (.i (.o (.i (.o (.o (.o .h))))))) _ _) ?_|refine wr ?_|refine k_cu ?_ ?_|apply wb2<;>(intro hb;try simp only[hb]))<;>try simp only[go_sem,seval,ne0,A0,A1]));unfold B9p;clear hdj;by_cases q1:y.trig=y'.trig
        case neg =>
         have nq1:(y.trig != y'.trig)=true:=by simpa using q1
         refine wA8 cs (wJ hwj (wJ ne0 (wJ @A0 (wJ @A1 nq1)))) ?_;exact⟨_,by rw[hF (.inr (U7 hg hg' λe=>U7 gj gj' (λe2=>by exact q1 (by rw[e2])) (by rw[e])))];exact GL.refl _ _⟩
        case pos =>
         have nq1:(y.trig != y'.trig)=false:=by simpa using q1
         by_cases q2:y.name=y'.name
         case neg =>
          have nq2:(y.name==y'.name)=false:=by simpa using q2
          refine wA8 cs (wJ hwj (wJ ne0 (wJ @A0 (wJ @A1 (wJ nq1 nq2))))) ?_;exact⟨_,by rw[hF (.inr (U7 hg hg' λe=>U7 gj gj' (λe2=>by exact q2 (by rw[e2])) (by rw[e])))];exact GL.refl _ _⟩
         case pos =>
          have nq2:(y.name==y'.name)=true:=by simpa using q2
          by_cases q3:y.pos=y'.pos
          case neg =>
           have nq3:(y.pos != y'.pos)=true:=by simpa using q3
           refine wA8 cs (wJ hwj (wJ ne0 (wJ @A0 (wJ @A1 (wJ nq1 (wJ nq2 nq3)))))) ?_;exact⟨_,by rw[hF (.inr (U7 hg hg' λe=>U7 gj gj' (λe2=>by exact q3 (by rw[e2])) (by rw[e])))];exact GL.refl _ _⟩
          case pos =>
           have nq3:(y.pos != y'.pos)=false:=by simpa using q3
           cases q4:R6 y.body y'.body with
           |false =>
            refine wA8 cs (wJ hwj (wJ ne0 (wJ @A0 (wJ @A1 (wJ nq1 (wJ nq2 (wJ nq3 q4))))))) ?_;exact⟨_,by rw[hF (.inr (U7 hg hg' λe=>U7 gj gj' (λe2=>by rw[e2,(A3o _ _).2 rfl]at q4;cases q4) (by rw[e])))];exact GL.refl _ _⟩
           |true =>
            refine wA8 cs (wJ hwj (wJ ne0 (wJ @A0 (wJ @A1 (wJ nq1 (wJ nq2 (wJ nq3 q4))))))) ?_;exact⟨j+1,i6,(C6z (c:=n) (λj0 b0 h0=>by by_cases a1:j0=c+11;omega;rw[h_ne a1]at h0;by_cases a2:j0=c+10;omega;rw[h_ne a2]at h0;by_cases a3:j0=1;omega;rw[h_ne a3]at h0;by_cases a4:j0=0;omega;rw[h_ne a4]at h0;cases h0) (λj0 h0=>by repeat rw[hnO])),inv ⟨a8,a8,B7y hej gj gj' (by cases y;cases y';simp only[Hd.mk.injEq]at *;exact⟨q1,q2,(A3o _ _).1 q4,q3⟩)⟩,by omega⟩
       ·have hdj:decide ((j:Int)<(x.hds.length:Int))=false:=by simpa using hjl
        rw[A0J (by omega),A0J (by omega)]at hej;have ne0:=V8 0 1 (c+10) (c+11) (by omega);refine wAr (wJ hdj (wJ hw (wJ ne0 (wJ @A0 @A1)))) ?_;exact⟨k+1,i6,(C6z (c:=c) (λj0 b0 h0=>by by_cases a3:j0=1;omega;rw[h_ne a3]at h0;by_cases a4:j0=0;omega;rw[h_ne a4]at h0;cases h0) (λj0 h0=>by repeat rw[hnO])),inv ⟨a8,a8,B7y he hg hg' (by cases x;cases x';simp only[Md.mk.injEq]at *;exact⟨h1,h2,hej,h3⟩)⟩,by omega⟩
  ·have hd:=dfz hlt;rw[A0J (by omega),A0J (by omega)]at he;refine wAr hd ?_;exact⟨_,by rw[hT hDD he];exact GL.refl _ _⟩
theorem c_plainE:∀(m:Nat) (l:List Ex),Ex.szs l<m->Ex.szs l<=100000000000->PC Tryz.prog 154 [L9 l] (L9 (l.map Ex.plain)):=by
 intro m
 induction m with
 |zero=>intro l h;omega
 |succ m ih =>
 intro l hm hB;have hl:=Ex.szs_len l;refine PC.ofT A3 rfl (A0F rfl) (by simp[DV.nlL,DV.nl,A4n]) (A4n _) ?_;refine wAp ?_;obtain⟨F,hF⟩:∃F:Nat->List Ex, ∀k,F k=(l.take k).map Ex.plain:=⟨_,λ_=>rfl⟩;have hF0:F 0=[]:=by rw[hF];rfl
 have hFl:∀k,(F k).length<=l.length:=λk=>by rw[hF,A0N,A1C];omega
 refine A9 (λq:Nat × Option Nat=>[(0,L9 l),(3,todoV q.2 (F q.1).length),(4,I64 q.1)]) (λq=>optH Sym.nil q.2 ⟨5,true,cellsL ((F q.1).map Ex.v)⟩)
  (λq c=>q.1<=l.length/\(q.2=none->F q.1=[])/\(∀i,q.2=some i->i<c)) (λq=>l.length-q.1) (0,none)
  (by simp[B5,tm,Tm.upd,todoV]) (Sub.nil _) ⟨A0Q _,λ_=>hF0,(λi hi=>by cases hi)⟩ ?_
 rintro⟨k,o⟩ c ⟨hk,hno,ho⟩;dsimp only at hk hno ho ⊢;by_cases hlt:k<l.length
 ·have hd:=dtz hlt;have hg:=A0B hlt;have hsx:=Ex.szs_mem (A0O hlt);have hw:=w64 (n:=(k:Int)+1);have e0:F (k+1)=F k++[l[k].plain]:=by rw[hF,hF,A0V,hg,A0S];rfl
  have hFk:=hFl k;generalize l[k]=x at hg hsx e0;have hax:Ex.szs x.args<x.sz:=by cases x with|mk k v n a p=>rw[Ex.sz];show Ex.szs a<_;omega
  have hc:=ih x.args (by omega) (by omega);have hln:(cellsL ((F k).map Ex.v)).length=(F k).length*5:=(C3 (u:=5) (A9g _)).trans (by simp);have ne0:=W9 c (c+1) (c+2) (by omega);refine wA8 hc (wJ hd (wJ hg (wJ hw (wJ @Ex.v_w (wJ ne0 (wJ @A0 @A1)))))) ?_;refine G6 (F9 (cs:=cellsL ((F k).map Ex.v)) (λe=>by rw[hno e];exact⟨rfl,rfl⟩) (λi hi=>by have:=ho i hi;rw[hnO,hnO];exact A5i hi) hln (by omega) (by omega) (by omega)) ?_;refine wAu hw ?_;refine⟨(k+1,some (c+1+1)),y7,?_,inv ⟨a8,(λh=>by cases h),(λi hi=>by cases hi;omega)⟩,by simp only;omega⟩;dsimp only[optH];rw[e0,A0S,C4];refine A4h ?_;cases x with|mk kk v n a p=>simp only[Ex.plain,Ex.plains_map,Ex.kind,Ex.value,Ex.name,Ex.args,Ex.pos,A9h]
 ·have hd:=dfz hlt;refine wAs hd ?_;rw[hF,A0J (by omega)];exact A8n (λe=>by have:=hno e;rw[hF,A0J (by omega)]at this;rw[this];rfl) (by simp) (A9g _)
theorem c_plainS:∀(m:Nat) (l:List Pb.St),Pb.St.szs l<m->Pb.St.szs l<=100000000000->PC Tryz.prog 102 [G7 l] (G7 (l.map Pb.St.plain)):=by
 intro m
 induction m with
 |zero=>intro l h;omega
 |succ m ih =>
 intro l hm hB;have hl:=Pb.St.szs_len l;refine PC.ofT A3 rfl (A0F rfl) (by simp[DV.nlL,DV.nl,A2t]) (A2t _) ?_;refine wAp ?_;obtain⟨F,hF⟩:∃F:Nat->List Pb.St, ∀k,F k=(l.take k).map Pb.St.plain:=⟨_,λ_=>rfl⟩;have hF0:F 0=[]:=by rw[hF];rfl
 have hFl:∀k,(F k).length<=l.length:=λk=>by rw[hF,A0N,A1C];omega
 refine A9 (λq:Nat × Option Nat=>[(0,G7 l),(3,todoV q.2 (F q.1).length),(4,I64 q.1)]) (λq=>optH Sym.nil q.2 ⟨7,true,cellsL ((F q.1).map Pb.St.v)⟩)
  (λq c=>q.1<=l.length/\(q.2=none->F q.1=[])/\(∀i,q.2=some i->i<c)) (λq=>l.length-q.1) (0,none)
  (by simp[B5,tm,Tm.upd,todoV]) (Sub.nil _) ⟨A0Q _,λ_=>hF0,(λi hi=>by cases hi)⟩ ?_
 rintro⟨k,o⟩ c ⟨hk,hno,ho⟩;dsimp only at hk hno ho ⊢;by_cases hlt:k<l.length
 ·have hd:=dtz hlt;have hg:=A0B hlt;have hsx:=Pb.St.szs_mem (A0O hlt);have hw:=w64 (n:=(k:Int)+1);have e0:F (k+1)=F k++[l[k].plain]:=by rw[hF,hF,A0V,hg,A0S];rfl
  have hFk:=hFl k;generalize l[k]=x at hg hsx e0;have hax:Ex.szs x.args<x.sz:=by cases x with|mk k n t a x y p=>rw[Pb.St.sz];show Ex.szs a<_;omega
  have htx:=x.sz_thn;have hyx:=x.sz_els;have hc:=c_plainE (Ex.szs x.args+1) x.args (by omega) (by omega);have hct:=ih x.thn (by omega) (by omega);have hcy:=ih x.els (by omega) (by omega);have hln:(cellsL ((F k).map Pb.St.v)).length=(F k).length*7:=(C3 (u:=7) (B2m _)).trans (by simp);have hbn:∀j:Nat,c<=j->optH Sym.nil o ⟨7,true,cellsL ((F k).map Pb.St.v)⟩ j=none:=λj hj=>by rw[B9 (λi hi=>by have:=ho i hi;omega)];rfl
  have ne0:=W9 c (c+1) (c+2) (by omega);refine wBf hc hct hcy (wJ hd (wJ hg (wJ hw (wJ @Pb.St.v_w (wJ ne0 (wJ @A0 @A1)))))) ?_;refine⟨m9,?_⟩;refine wBf hc hct hcy (wJ @Pb.St.v_w (wJ ne0 (wJ @A0 @A1))) ?_;refine⟨m9,?_⟩;refine wBf hc hct hcy (wJ @Pb.St.v_w (wJ ne0 (wJ @A0 @A1))) ?_;refine⟨m9,?_⟩;refine wBf hc hct hcy (wJ @Pb.St.v_w (wJ ne0 (wJ @A0 @A1))) ?_;refine G6 (F9 (cs:=cellsL ((F k).map Pb.St.v)) (λe=>by rw[hno e];exact⟨rfl,rfl⟩) (λi hi=>by have:=ho i hi;rw[hnO,hnO];exact A5i hi) hln (by omega) (by omega) (by omega)) ?_;refine wAu hw ?_;refine⟨(k+1,some (c+1+17+1)),y7,?_,inv ⟨a8,(λh=>by cases h),(λi hi=>by cases hi;omega)⟩,by simp only;omega⟩;dsimp only[optH];rw[e0,A0S,C4];refine A4h ?_;cases x with|mk kk n t a x y p=>simp only[Pb.St.plain,Ex.plains_map,Pb.St.plains_map,Pb.St.kind,Pb.St.name,Pb.St.text,Pb.St.args,Pb.St.thn,Pb.St.els,Pb.St.pos,D4c]
 ·have hd:=dfz hlt;refine wAs hd ?_;rw[hF,A0J (by omega)];exact A8n (λe=>by have:=hno e;rw[hF,A0J (by omega)]at this;rw[this];rfl) (by simp) (B2m _)
theorem c_Plain31(r:Ru)(hB:r.sz<=100000000000):PC Tryz.prog 58 [r.v] r.plain.v:=by
 refine PC.ofT A3 rfl (A0F rfl) (by simp[DV.nlL,DV.nl,S6,S0]) (Ru.nl _) ?_;obtain⟨D,M⟩:=r;have hDs:(D.map Dc.sz).sum+(M.map Md.sz).sum<=100000000000:=hB;have hDl:D.length<=(D.map Dc.sz).sum:=K5 λx _=>zac
 have hMl:M.length<=(M.map Md.sz).sum:=K5 λx _=>r8
 dsimp only[Ru.v,Ru.plain];refine wAp ?_;obtain⟨F,hF⟩:∃F:Nat->List Dc, ∀k,F k=(D.take k).map Dc.plain:=⟨_,λ_=>rfl⟩;have hF0:F 0=[]:=by rw[hF];rfl
 have hFl:∀k,(F k).length<=D.length:=λk=>by rw[hF,A0N,A1C];omega
 refine A9 (λq:Nat × Option Nat=>[(1,.ptr 0 0),(2,.ptr 1 0),(3,.ptr 2 0),(4,I64 q.1)]) (λq=>optH (((Sym.nil.upd 0 ⟨0,true,[D7 D,F6 M]⟩).upd 1 ⟨0,true,[.snil,.snil]⟩).upd 2 ⟨0,true,[todoV q.2 (F q.1).length,.snil]⟩) q.2 ⟨4,true,cellsL ((F q.1).map Dc.v)⟩)
  (λq c=>3<=c/\q.1<=D.length/\(q.2=none->F q.1=[])/\(∀i,q.2=some i->3<=i/\i<c)) (λq=>D.length-q.1) (0,none)
  (by simp[B5,tm,Tm.upd]) (Sub.refl _) ⟨a8,A0Q _,λ_=>hF0,(λi hi=>by cases hi)⟩ ?_
 rintro⟨k,o⟩ c ⟨hc,hk,hno,ho⟩;dsimp only at hc hk hno ho ⊢;have hbr:optH (((Sym.nil.upd 0 ⟨0,true,[D7 D,F6 M]⟩).upd 1 ⟨0,true,[.snil,.snil]⟩).upd 2 ⟨0,true,[todoV o (F k).length,.snil]⟩) o ⟨4,true,cellsL ((F k).map Dc.v)⟩ 0=some ⟨0,true,[D7 D,F6 M]⟩:=o6
 by_cases hlt:k<D.length
 ·have hd:=dtz hlt;have hg:=A0B hlt;have hw:=w64 (n:=(k:Int)+1);have e0:F (k+1)=F k++[D[k].plain]:=by rw[hF,hF,A0V,hg,A0S];rfl
  have hFk:=hFl k;generalize D[k]=x at hg e0;have hln:(cellsL ((F k).map Dc.v)).length=(F k).length*4:=(C3 (u:=4) (A9k _)).trans (by simp);have hbx:optH (((Sym.nil.upd 0 ⟨0,true,[D7 D,F6 M]⟩).upd 1 ⟨0,true,[.snil,.snil]⟩).upd 2 ⟨0,true,[todoV o (F k).length,.snil]⟩) o ⟨4,true,cellsL ((F k).map Dc.v)⟩ 2=some ⟨0,true,[todoV o (F k).length,.snil]⟩:=n8
  have hb1:optH (((Sym.nil.upd 0 ⟨0,true,[D7 D,F6 M]⟩).upd 1 ⟨0,true,[.snil,.snil]⟩).upd 2 ⟨0,true,[todoV o (F k).length,.snil]⟩) o ⟨4,true,cellsL ((F k).map Dc.v)⟩ 1=some ⟨0,true,[.snil,.snil]⟩:=r7
  have hbo:∀i:Nat,o=some i->optH (((Sym.nil.upd 0 ⟨0,true,[D7 D,F6 M]⟩).upd 1 ⟨0,true,[.snil,.snil]⟩).upd 2 ⟨0,true,[todoV o (F k).length,.snil]⟩) o ⟨4,true,cellsL ((F k).map Dc.v)⟩ i=some ⟨4,true,cellsL ((F k).map Dc.v)⟩:=λi hi=>u5
  have hdx:∀X:Hp,delO X o 2=X 2:=λX=>C5 (λi hi=>by have:=ho i hi;omega);generalize hHH:optH (((Sym.nil.upd 0 ⟨0,true,[D7 D,F6 M]⟩).upd 1 ⟨0,true,[.snil,.snil]⟩).upd 2 ⟨0,true,[todoV o (F k).length,.snil]⟩) o ⟨4,true,cellsL ((F k).map Dc.v)⟩=HH at hbr hbx hbo hb1 ⊢;have ne0:=A7s 0 1 2 c (c+1) (c+1+1) (by omega);refine wA4 hd hg hw hbr hbx ne0 @A0 @A1 ?_;refine G6 (F9 (cs:=cellsL ((F k).map Dc.v)) (λe=>by rw[hno e];exact⟨rfl,rfl⟩) (λi hi=>by have:=ho i hi;rw[hnO,hnO];exact hbo i hi) hln (by omega) (by omega) (by omega)) ?_;refine wA2 hw ne0 @A0 @A1 hdx hbx ?_;refine⟨(k+1,some (c+1+1)),i6,?_,inv ⟨a8,a8,(λh=>by cases h),(λi hi=>by cases hi;omega)⟩,by simp only;omega⟩;dsimp only[optH,todoV];rw[e0,A0S,C4,A0A,A0I];intro j b hj;by_cases e1:j=c+1+1
  ·subst e1;rw[A0]at hj;rw[hnO,A0, <- hj];rfl
  rw[h_ne e1]at hj;by_cases e2:j=2
  ·subst e2;rw[A0]at hj ⊢;exact hj
  rw[h_ne e2]at hj ⊢;rw[h_ne e1];by_cases e3:j=1
  ·subst e3;rw[A0]at hj;rw[C5 (λi hi=>by have:=ho i hi;omega),hnO,hnO,hb1];exact hj
  rw[h_ne e3]at hj;by_cases e4:j=0
  ·subst e4;rw[A0]at hj;rw[C5 (λi hi=>by have:=ho i hi;omega),hnO,hnO,hbr];exact hj
  ·rw[h_ne e4]at hj;cases hj
 ·have hd:=dfz hlt;refine wAs (wJ hd hbr) ?_;refine IW.keep [1,2,3,6] [.ptr 0 0,.ptr 1 0,.ptr 2 0,I64 0] (g_fin (Hb:=((Sym.nil.upd 0 ⟨0,true,[D7 D,F6 M]⟩).upd 1 ⟨0,true,[.snil,.snil]⟩)) (ci:=2) (u:=4) (pre:=[]) (suf:=[.snil]) (xs:=(F k).map Dc.v) (by simp[DV.one]) (λh=>by rw[hno h];rfl) (λi hi=>by have:=ho i hi;exact⟨a8,by rw[hnO,hnO];rfl⟩) (by simp) (A9k _)) ?_;have hFD:F k=D.map Dc.plain:=by rw[hF,A0J (by omega)]
  rw[hFD];clear hno ho hbr hFD hlt hd hFl hF0 hF hk;obtain⟨G,hG⟩:∃G:Nat->List Md, ∀k,G k=(M.take k).map Md.plain:=⟨_,λ_=>rfl⟩;have hG0:G 0=[]:=by rw[hG];rfl
  have hGl:∀k,(G k).length<=M.length:=λk=>by rw[hG,A0N,A1C];omega
  refine A9 (λq:Nat × Option Nat=>[(1,.ptr 0 0),(2,.ptr 1 0),(3,.ptr 2 0),(6,I64 q.1)]) (λq=>optH (((Sym.nil.upd 0 ⟨0,true,[D7 D,F6 M]⟩).upd 1 ⟨0,true,[.snil,.snil]⟩).upd 2 ⟨0,true,[D7 (D.map Dc.plain),todoV q.2 (G q.1).length]⟩) q.2 ⟨4,true,cellsL ((G q.1).map Md.v)⟩)
   (λq c=>3<=c/\q.1<=M.length/\(q.2=none->G q.1=[])/\(∀i,q.2=some i->3<=i/\i<c)) (λq=>M.length-q.1) (0,none)
   (by simp[B5,tm,Tm.upd]) (by rw[hG0];exact Sub.refl _) ⟨hc,A0Q _,λ_=>hG0,(λi hi=>by cases hi)⟩ ?_
  clear hc k c o;rintro⟨k,o⟩ c ⟨hc,hk,hno,ho⟩;dsimp only at hc hk hno ho ⊢;have hGk:=hGl k;have hbr:optH (((Sym.nil.upd 0 ⟨0,true,[D7 D,F6 M]⟩).upd 1 ⟨0,true,[.snil,.snil]⟩).upd 2 ⟨0,true,[D7 (D.map Dc.plain),todoV o (G k).length]⟩) o ⟨4,true,cellsL ((G k).map Md.v)⟩ 0=some ⟨0,true,[D7 D,F6 M]⟩:=o6
  have hbx:optH (((Sym.nil.upd 0 ⟨0,true,[D7 D,F6 M]⟩).upd 1 ⟨0,true,[.snil,.snil]⟩).upd 2 ⟨0,true,[D7 (D.map Dc.plain),todoV o (G k).length]⟩) o ⟨4,true,cellsL ((G k).map Md.v)⟩ 2=some ⟨0,true,[D7 (D.map Dc.plain),todoV o (G k).length]⟩:=n8
  have hb1:optH (((Sym.nil.upd 0 ⟨0,true,[D7 D,F6 M]⟩).upd 1 ⟨0,true,[.snil,.snil]⟩).upd 2 ⟨0,true,[D7 (D.map Dc.plain),todoV o (G k).length]⟩) o ⟨4,true,cellsL ((G k).map Md.v)⟩ 1=some ⟨0,true,[.snil,.snil]⟩:=r7
  have hbo:∀i:Nat,o=some i->optH (((Sym.nil.upd 0 ⟨0,true,[D7 D,F6 M]⟩).upd 1 ⟨0,true,[.snil,.snil]⟩).upd 2 ⟨0,true,[D7 (D.map Dc.plain),todoV o (G k).length]⟩) o ⟨4,true,cellsL ((G k).map Md.v)⟩ i=some ⟨4,true,cellsL ((G k).map Md.v)⟩:=λi hi=>u5
  have hbn:∀j:Nat,c<=j->optH (((Sym.nil.upd 0 ⟨0,true,[D7 D,F6 M]⟩).upd 1 ⟨0,true,[.snil,.snil]⟩).upd 2 ⟨0,true,[D7 (D.map Dc.plain),todoV o (G k).length]⟩) o ⟨4,true,cellsL ((G k).map Md.v)⟩ j=none:=λj hj=>by rw[B9 (λi hi=>by have:=ho i hi;omega),hnO,hnO,hnO];rfl
  have hT:(todoV o (G k).length).one=true:=by cases o<;>rfl
  have hdx:∀X:Hp,delO X o 2=X 2:=λX=>C5 (λi hi=>by have:=ho i hi;omega);by_cases hlt:k<M.length
  ·have hd:=dtz hlt;have hg:=A0B hlt;have hw:=w64 (n:=(k:Int)+1);have e0:G (k+1)=G k++[M[k].plain]:=by rw[hG,hG,A0V,hg,A0S];rfl
   have hsx:=O1 (f:=Md.sz) (A0O hlt);generalize M[k]=x at hg hsx e0;have hxs:(x.hds.map Hd.sz).sum<Md.sz x:=by unfold Md.sz;omega
   have hxl:x.hds.length<=(x.hds.map Hd.sz).sum:=K5 λx _=>r8
   have hln:(cellsL ((G k).map Md.v)).length=(G k).length*4:=(C3 (u:=4) (B8m _)).trans (by simp);generalize hHH:optH (((Sym.nil.upd 0 ⟨0,true,[D7 D,F6 M]⟩).upd 1 ⟨0,true,[.snil,.snil]⟩).upd 2 ⟨0,true,[D7 (D.map Dc.plain),todoV o (G k).length]⟩) o ⟨4,true,cellsL ((G k).map Md.v)⟩=HH at hbr hbx hbo hb1 hbn ⊢;have ne0:=V8 0 1 2 (c+13) (by omega);refine wA4 hd hg hw hbr hbx ne0 @A0 @A1 ?_;obtain⟨K,hK⟩:∃K:Nat->List Hd, ∀j,K j=(x.hds.take j).map Hd.plain:=⟨_,λ_=>rfl⟩;have hK0:K 0=[]:=by rw[hK];rfl
   have hKl:∀j,(K j).length<=x.hds.length:=λj=>by rw[hK,A0N,A1C];omega
   refine A9 (λq:Nat × Option Nat=>[(1,.ptr 0 0),(2,.ptr 1 0),(3,.ptr 2 0),(6,I64 k),(7,.ptr (c+13) 0),(8,I64 q.1)]) (λq=>optH (HH.upd (c+13) ⟨0,true,[.str x.name,I64 x.prio,todoV q.2 (K q.1).length,I64 0]⟩) q.2 ⟨4,true,cellsL ((K q.1).map Hd.v)⟩)
    (λq n=>c+15<=n/\q.1<=x.hds.length/\(q.2=none->K q.1=[])/\(∀i,q.2=some i->c+15<=i/\i<n)) (λq=>x.hds.length-q.1) (0,none)
    (by simp[B5,tm,Tm.upd]) (by rw[hK0];exact Sub.refl _) ⟨A0E _,A0Q _,λ_=>hK0,(λi hi=>by cases hi)⟩ ?_
   rintro⟨j,o2⟩ n ⟨hn,hj,hno2,ho2⟩;dsimp only at hn hj hno2 ho2 ⊢;have hKj:=hKl j;have h2r:optH (HH.upd (c+13) ⟨0,true,[.str x.name,I64 x.prio,todoV o2 (K j).length,I64 0]⟩) o2 ⟨4,true,cellsL ((K j).map Hd.v)⟩ 0=some ⟨0,true,[D7 D,F6 M]⟩:=by rw[B9 (λi hi=>by have:=ho2 i hi;omega),hnO,hbr]
   have h2b:optH (HH.upd (c+13) ⟨0,true,[.str x.name,I64 x.prio,todoV o2 (K j).length,I64 0]⟩) o2 ⟨4,true,cellsL ((K j).map Hd.v)⟩ (c+13)=some ⟨0,true,[.str x.name,I64 x.prio,todoV o2 (K j).length,I64 0]⟩:=by rw[B9 (λi hi=>by have:=ho2 i hi;omega),A0]
   have h2o:∀i:Nat,o2=some i->optH (HH.upd (c+13) ⟨0,true,[.str x.name,I64 x.prio,todoV o2 (K j).length,I64 0]⟩) o2 ⟨4,true,cellsL ((K j).map Hd.v)⟩ i=some ⟨4,true,cellsL ((K j).map Hd.v)⟩:=λi hi=>u5
   have h2n:∀i:Nat,n<=i->optH (HH.upd (c+13) ⟨0,true,[.str x.name,I64 x.prio,todoV o2 (K j).length,I64 0]⟩) o2 ⟨4,true,cellsL ((K j).map Hd.v)⟩ i=none:=λi hi=>by rw[B9 (λi hi=>by have:=ho2 i hi;omega),hnO];exact hbn _ (by omega)
   have h2j:∀i:Nat,i<c+13->optH (HH.upd (c+13) ⟨0,true,[.str x.name,I64 x.prio,todoV o2 (K j).length,I64 0]⟩) o2 ⟨4,true,cellsL ((K j).map Hd.v)⟩ i=HH i:=λi hi=>by rw[B9 (λi hi=>by have:=ho2 i hi;omega),hnO]
   have hT2:(todoV o2 (K j).length).one=true:=by cases o2<;>rfl
   have hdx2:∀X:Hp,delO X o2 (c+13)=X (c+13):=λX=>C5 (λi hi=>by have:=ho2 i hi;omega);by_cases hjl:j<x.hds.length
   ·have hdj:decide ((j:Int)<(x.hds.length:Int))=true:=by simpa using hjl
    have hgj:=A0B hjl;have hwj:=w64 (n:=(j:Int)+1);have k0:K (j+1)=K j++[x.hds[j].plain]:=by rw[hK,hK,A0V,hgj,A0S];rfl
    have hsj:=O1 (f:=Hd.sz) (A0O hjl);generalize x.hds[j]=y at hgj hsj k0;have hbs:Pb.St.szs y.body<Hd.sz y:=by unfold Hd.sz;omega
    have cb:=c_plainS (Pb.St.szs y.body+1) y.body (by omega) (by omega);have hlj:(cellsL ((K j).map Hd.v)).length=(K j).length*4:=(C3 (u:=4) (A6i _)).trans (by simp);generalize hH2:optH (HH.upd (c+13) ⟨0,true,[.str x.name,I64 x.prio,todoV o2 (K j).length,I64 0]⟩) o2 ⟨4,true,cellsL ((K j).map Hd.v)⟩=H2 at h2r h2b h2o h2n h2j ⊢;have ne0:=A1y 0 1 2 (c+13) n (by omega);refine wA8 cb (wJ hdj (wJ hg (wJ hgj (wJ hwj (wJ h2r (wJ h2b (wJ ne0 (wJ @A0 @A1)))))))) ?_;refine⟨by and_intros<;>(repeat rw[hnO])<;>exact h2n _ (by omega),?_⟩;rw[F9 (cs:=cellsL ((K j).map Hd.v)) (λe=>by rw[hno2 e];exact⟨rfl,rfl⟩) (λi hi=>by have:=ho2 i hi;rw[hnO,hnO];exact h2o i hi) hlj (by omega) (by omega) (by omega)];have ne0:=E9f 0 1 2 (c+13) n (n+1+10) (n+1+14) (by omega);refine wA2 ne0 @A0 @A1 hdx2 h2b hwj ?_;refine⟨(j+1,some (n+1+14)),by simp,?_,inv ⟨a8,a8,(λh=>by cases h),(λi hi=>by cases hi;omega)⟩,by simp only;omega⟩;dsimp only[optH,todoV];rw[k0,A0S,C4,A0A,A0I];intro i b hi;by_cases e1:i=n+1+14
    ·subst e1;rw[A0]at hi;rw[hnO,A0, <- hi];simp only[Hd.plain,Pb.St.plains_map];rfl
    rw[h_ne e1]at hi;by_cases e2:i=c+13
    ·subst e2;rw[A0]at hi ⊢;exact hi
    rw[h_ne e2]at hi ⊢;rw[h_ne e1];have hic:i<c:=Classical.byContradiction λh=>by rw[hbn i (by omega)]at hi;cases hi
    rw[C5 (λi' hi'=>by have:=ho2 i' hi';omega),hnO,hnO,h2j i (by omega)];exact hi
   ·have hdj:decide ((j:Int)<(x.hds.length:Int))=false:=by simpa using hjl
    have ne0:=A1y 0 1 2 (c+13) n (by omega);(repeat'((with_reducible first|refine O8 (p:=IW _ _ (pz Tryz.prog 58 (.o (.o (.o (.i (.i .h)))))) _ _) ?_|refine wr ?_|refine k_cu ?_ ?_|apply wb2<;>(intro hb;try simp only[hb]))<;>try simp only[go_sem,seval,hdj,hg,h2r,h2b,ne0,A0,A1]));unfold B9p;have hKM:K j=x.hds.map Hd.plain:=by rw[hK,A0J (by omega)]
    refine IW.keep [1,2,3,6,7] [.ptr 0 0,.ptr 1 0,.ptr 2 0,I64 k,.ptr (c+13) 0] (g_fin (Hb:=HH) (ci:=c+13) (u:=4) (pre:=[.str x.name,I64 x.prio]) (suf:=[I64 0]) (xs:=(K j).map Hd.v) (by simp[DV.one]) (λh=>by rw[hno2 h];rfl) (λi hi=>by have:=ho2 i hi;exact⟨a8,hbn _ (by omega)⟩) (by simp) (A6i _)) ?_;rw[hKM];dsimp only[List.cons_append,List.nil_append];show IW Tryz.prog _ _ ⟨tm [(1,.ptr 0 0),(2,.ptr 1 0),(3,.ptr 2 0),(6,I64 k),(7,.ptr (c+13) 0)],_,_⟩ _;have ne0:=A7s 0 1 2 (c+13) n (n+1) (by omega);refine wA0 hbx hbr ne0 @A0 @A1 ?_;refine G6 (F9 (cs:=cellsL ((G k).map Md.v)) (λe=>by rw[hno e];exact⟨rfl,rfl⟩) (λi hi=>by have:=ho i hi;rw[hnO,hnO];exact hbo i hi) hln (by omega) (by omega) (by omega)) ?_;refine wA2 hw ne0 @A0 @A1 hdx hbx ?_;refine⟨(k+1,some (n+1)),i6,?_,inv ⟨a8,a8,(λh=>by cases h),(λi hi=>by cases hi;omega)⟩,by simp only;omega⟩;dsimp only[optH,todoV];rw[e0,A0S,C4,A0A,A0I];intro i b hi;by_cases e1:i=n+1
    ·subst e1;rw[A0]at hi;rw[hnO,A0, <- hi];rfl
    rw[h_ne e1]at hi;by_cases e2:i=2
    ·subst e2;rw[A0]at hi ⊢;exact hi
    rw[h_ne e2]at hi ⊢;rw[h_ne e1];by_cases e3:i=1
    ·subst e3;rw[A0]at hi;rw[C5 (λi hi=>by have:=ho i hi;omega),hnO,hnO,hb1];exact hi
    rw[h_ne e3]at hi;by_cases e4:i=0
    ·subst e4;rw[A0]at hi;rw[C5 (λi hi=>by have:=ho i hi;omega),hnO,hnO,hbr];exact hi
    ·rw[h_ne e4]at hi;cases hi
  ·have hd:=dfz hlt;generalize hHH:optH (((Sym.nil.upd 0 ⟨0,true,[D7 D,F6 M]⟩).upd 1 ⟨0,true,[.snil,.snil]⟩).upd 2 ⟨0,true,[D7 (D.map Dc.plain),todoV o (G k).length]⟩) o ⟨4,true,cellsL ((G k).map Md.v)⟩=HH at hbr hbx hbo hb1 hbn ⊢;have ne0:=W9 0 1 2 (by omega);(repeat'((with_reducible first|apply wr|refine k_cu ?_ ?_|apply wb2<;>(intro hb;try simp only[hb]))<;>try simp only[go_sem,seval,hd,hbr,hbx,hb1,ne0,A0,A1,hT]));refine G6 (B2a (by rfl) (by decide) (by cases o<;>rfl)) ?_;refine wAu (wJ ne0 @A0) ?_;rw[G4 (rv2 rfl rfl)];have hGM:M.map Md.plain=G k:=by rw[hG,A0J (by omega)]
   rw[hGM];exact⟨Sym.nil,E5i (cc:=0) (G k) (λ_ _=>rfl) (λ_ _=>A0Q _) hno (λi hi=>by have:=ho i hi;show(HH.upd 1 _) i=_;rw[hnO];exact hbo i hi) (λj hj=>by omega)⟩
theorem c_ValidR31(r:Ru)(hB:r.sz<4000000):PC Tryz.prog 26 [r.v] (.bool (D0e r)):=by
 refine PC.go A3 ?_;have hg:=D7o r;have hGT:∀t∈ruT r,K8 t:=λt ht=>(hg t ht).1;have hval:∀t∈ruT r,0<=t.value/\t.value<=9223372036854775807:=λt ht=>by have:=(hg t ht).2;omega
 obtain⟨l1,l2⟩:=E0m r;have hsz:=C7h (E:=0) hGT;have ht:=c_rulesT r hB (by omega);have hp:=c_Plain31 r (by omega);obtain⟨f,hf⟩:=(A7l (ruT r) 0).get;have hr:=c_rules (ruT r) 0 (by omega) hval f rd0 _ hf (A0Q _);have hv:D0e r=(okR (A2l (ruT r) 0).2&&C4c (A2l (ruT r) 0).1.plain r.plain):=rfl;rw[hv];have hpo:=c_Plain31 (A2l (ruT r) 0).1 (by omega);have hps:(A2l (ruT r) 0).1.plain.sz<=100000000000:=by rw[Ru.plain_sz];omega
 have hsm:=c_Same31 (A2l (ruT r) 0).1.plain r.plain hps;generalize A2l (ruT r) 0=w at hr hpo hsm hsz ⊢;generalize hL:ruT r=L at ht hr;refine wA5 ht ?_;refine AC.call (hr _ _ 1 rfl (by decide)) ?_;rintro v H' c2 ⟨rfl,rfl⟩ hc2;dsimp only at hc2 ⊢;have ne0:=W9 0 1 c2 (by omega);refine wAx ne0 @A0 @A1 ?_;refine AC.call (c_rdok L 0 w.2 _ _ 1 (by rw[hnO];exact A0) (by omega)) ?_;rintro v H' c3 ⟨rfl,rfl⟩ hc3;cases hok:okR w.2 with
 |false =>
  refine wAz hok ne0 @A0 @A1 ?_;refine⟨by repeat rw[hnO]<;>rfl,?_⟩;refine wAy hok ne0 @A0 @A1 ?_;exact⟨_,GL.refl _ _⟩
 |true =>
  simp only[go_sem,seval,hok,ne0,A0,A1];(repeat'((with_reducible first|apply wr|refine cpc hpo ?_|refine cpc hp ?_|refine cpc hsm ?_|refine k_cu ?_ ?_|apply wb2<;>(intro hb;try simp only[hb]))<;>try simp only[go_sem,seval,hok,ne0,A0,A1]));refine⟨n9,?_⟩;refine wBf hpo hp hsm (wJ hok (wJ ne0 (wJ @A0 @A1))) ?_;exact⟨_,GL.refl _ _⟩
end Go.Proofs.YtnkkfehegdplgaaGreatDoor
set_option maxHeartbeats 4000000
namespace Go.Proofs.YtnkkfehegdplgaaGreatDoor
open Go.Eng (IC IOper DReg IFn P0)
open Go.Sym
abbrev x217:XT Tryz.prog 217:=mkF
instance t217:FT Tryz.prog 217 x217.d:=x217.ft
abbrev x205:XT Tryz.prog 205:=mkF
instance t205:FT Tryz.prog 205 x205.d:=x205.ft
abbrev x229:XT Tryz.prog 229:=mkF
instance t229:FT Tryz.prog 229 x229.d:=x229.ft
abbrev x228:XT Tryz.prog 228:=mkF
instance t228:FT Tryz.prog 228 x228.d:=x228.ft
abbrev x230:XT Tryz.prog 230:=mkF
instance t230:FT Tryz.prog 230 x230.d:=x230.ft
abbrev x202:XT Tryz.prog 202:=mkF
instance t202:FT Tryz.prog 202 x202.d:=x202.ft
abbrev x206:XT Tryz.prog 206:=mkF
instance t206:FT Tryz.prog 206 x206.d:=x206.ft
abbrev x122:XT Tryz.prog 122:=mkF
instance t122:FT Tryz.prog 122 x122.d:=x122.ft
abbrev x174:XT Tryz.prog 174:=mkF
instance t174:FT Tryz.prog 174 x174.d:=x174.ft
abbrev x175:XT Tryz.prog 175:=mkF
instance t175:FT Tryz.prog 175 x175.d:=x175.ft
abbrev x204:XT Tryz.prog 204:=mkF
instance t204:FT Tryz.prog 204 x204.d:=x204.ft
abbrev x74:XT Tryz.prog 74:=mkF
instance t74:FT Tryz.prog 74 x74.d:=x74.ft
abbrev x77:XT Tryz.prog 77:=mkF
instance t77:FT Tryz.prog 77 x77.d:=x77.ft
abbrev x36:XT Tryz.prog 36:=mkF
instance t36:FT Tryz.prog 36 x36.d:=x36.ft
abbrev x73:XT Tryz.prog 73:=mkF
instance t73:FT Tryz.prog 73 x73.d:=x73.ft
abbrev x76:XT Tryz.prog 76:=mkF
instance t76:FT Tryz.prog 76 x76.d:=x76.ft
abbrev x41:XT Tryz.prog 41:=mkF
instance t41:FT Tryz.prog 41 x41.d:=x41.ft
abbrev x81:XT Tryz.prog 81:=mkF
instance t81:FT Tryz.prog 81 x81.d:=x81.ft
abbrev x72:XT Tryz.prog 72:=mkF
instance t72:FT Tryz.prog 72 x72.d:=x72.ft
abbrev x119:XT Tryz.prog 119:=mkF
instance t119:FT Tryz.prog 119 x119.d:=x119.ft
abbrev x75:XT Tryz.prog 75:=mkF
instance t75:FT Tryz.prog 75 x75.d:=x75.ft
abbrev x121:XT Tryz.prog 121:=mkF
instance t121:FT Tryz.prog 121 x121.d:=x121.ft
abbrev x173:XT Tryz.prog 173:=mkF
instance t173:FT Tryz.prog 173 x173.d:=x173.ft
abbrev x201:XT Tryz.prog 201:=mkF
instance t201:FT Tryz.prog 201 x201.d:=x201.ft
abbrev x203:XT Tryz.prog 203:=mkF
instance t203:FT Tryz.prog 203 x203.d:=x203.ft
abbrev x216:XT Tryz.prog 216:=mkF
instance t216:FT Tryz.prog 216 x216.d:=x216.ft
end Go.Proofs.YtnkkfehegdplgaaGreatDoor
set_option maxHeartbeats 8000000
namespace Go.Proofs.YtnkkfehegdplgaaGreatDoor
open Go.Eng (IC IOper DReg IFn P0)
open Go.Sym Go.Pb
theorem c_IF_hd{g:Hd->Bool}{f:Nat}{a cs:List DV}(xs:List (Hd))(hx:xs.length<=9223372036854775807)(na:DV.nlL a=true)(ncs:DV.nlL cs=true)(hf:∀x∈xs,PC Tryz.prog f (a++[Hd.v x]++cs) (.bool (g x))):
  PC Tryz.prog 81 [W0 xs,.func f a cs] (I64 (V9 g xs 0)):=by
 refine PC.ofT A3 rfl (A0F rfl) (by simp[DV.nlL,DV.nl,B2u,na,ncs]) rfl ?_;refine wAo ?_;refine A9 (λk:Nat=>[(0,W0 xs),(1,.func f a cs),(7,I64 xs.length),(8,I64 k)]) (λ_=>nil) (λk _=>k<=xs.length/\V9 g xs 0=V9 g (xs.drop k) k) (λk=>xs.length-k) 0 (by simp[B5,tm,Tm.upd]) (Sub.nil _) (by simp) ?_;rintro k c ⟨hk,he⟩;by_cases hlt:k<xs.length
 ·have hd:=dtz hlt;have hg:=A0B hlt;have hw:=w64 (n:=(k:Int)+1);have hst:=W7 (g:=g) hg;have hc:=hf xs[k] (A0O hlt);repeat'((with_reducible first|apply wr|refine cpc hc ?_|refine k_cu ?_ ?_|apply wb2<;>(intro hb;try simp only[hb]))<;>try simp only[go_sem,seval,hd,hg,hw])
  ·refine A4 ?_;rw[he,hst,hb];rfl
  ·exact⟨k+1,rfl,Sub.refl _,inv ⟨a8,by rw[he,hst,hb];rfl⟩,by omega⟩
 ·have hd:=dfz hlt;refine wAs hd ?_;refine A4 ?_;rw[he,A0u (by omega)]
theorem c_CF_hd{g:Hd->Bool}{f:Nat}{a cs:List DV}(xs:List (Hd))(hx:xs.length<=9223372036854775807)(na:DV.nlL a=true)(ncs:DV.nlL cs=true)(hf:∀x∈xs,PC Tryz.prog f (a++[Hd.v x]++cs) (.bool (g x))):
  PC Tryz.prog 41 [W0 xs,.func f a cs] (.bool (xs.any g)):=by
 refine PC.ofT A3 rfl (A0F rfl) (by simp[DV.nlL,DV.nl,B2u,na,ncs]) rfl ?_;have hc:=c_IF_hd xs hx na ncs hf;refine wA5 hc ?_;refine A4 ?_;rw[A0v]
theorem c_IF_dc{g:Dc->Bool}{f:Nat}{a cs:List DV}(xs:List (Dc))(hx:xs.length<=9223372036854775807)(na:DV.nlL a=true)(ncs:DV.nlL cs=true)(hf:∀x∈xs,PC Tryz.prog f (a++[Dc.v x]++cs) (.bool (g x))):
  PC Tryz.prog 119 [D7 xs,.func f a cs] (I64 (V9 g xs 0)):=by
 refine PC.ofT A3 rfl (A0F rfl) (by simp[DV.nlL,DV.nl,S6,na,ncs]) rfl ?_;refine wAo ?_;refine A9 (λk:Nat=>[(0,D7 xs),(1,.func f a cs),(7,I64 xs.length),(8,I64 k)]) (λ_=>nil) (λk _=>k<=xs.length/\V9 g xs 0=V9 g (xs.drop k) k) (λk=>xs.length-k) 0 (by simp[B5,tm,Tm.upd]) (Sub.nil _) (by simp) ?_;rintro k c ⟨hk,he⟩;by_cases hlt:k<xs.length
 ·have hd:=dtz hlt;have hg:=A0B hlt;have hw:=w64 (n:=(k:Int)+1);have hst:=W7 (g:=g) hg;have hc:=hf xs[k] (A0O hlt);repeat'((with_reducible first|apply wr|refine cpc hc ?_|refine k_cu ?_ ?_|apply wb2<;>(intro hb;try simp only[hb]))<;>try simp only[go_sem,seval,hd,hg,hw])
  ·refine A4 ?_;rw[he,hst,hb];rfl
  ·exact⟨k+1,rfl,Sub.refl _,inv ⟨a8,by rw[he,hst,hb];rfl⟩,by omega⟩
 ·have hd:=dfz hlt;refine wAs hd ?_;refine A4 ?_;rw[he,A0u (by omega)]
theorem c_CF_dc{g:Dc->Bool}{f:Nat}{a cs:List DV}(xs:List (Dc))(hx:xs.length<=9223372036854775807)(na:DV.nlL a=true)(ncs:DV.nlL cs=true)(hf:∀x∈xs,PC Tryz.prog f (a++[Dc.v x]++cs) (.bool (g x))):
  PC Tryz.prog 72 [D7 xs,.func f a cs] (.bool (xs.any g)):=by
 refine PC.ofT A3 rfl (A0F rfl) (by simp[DV.nlL,DV.nl,S6,na,ncs]) rfl ?_;have hc:=c_IF_dc xs hx na ncs hf;refine wA5 hc ?_;refine A4 ?_;rw[A0v]
theorem c_IF_md{g:Md->Bool}{f:Nat}{a cs:List DV}(xs:List (Md))(hx:xs.length<=9223372036854775807)(na:DV.nlL a=true)(ncs:DV.nlL cs=true)(hf:∀x∈xs,PC Tryz.prog f (a++[Md.v x]++cs) (.bool (g x))):
  PC Tryz.prog 121 [F6 xs,.func f a cs] (I64 (V9 g xs 0)):=by
 refine PC.ofT A3 rfl (A0F rfl) (by simp[DV.nlL,DV.nl,S0,na,ncs]) rfl ?_;refine wAo ?_;refine A9 (λk:Nat=>[(0,F6 xs),(1,.func f a cs),(7,I64 xs.length),(8,I64 k)]) (λ_=>nil) (λk _=>k<=xs.length/\V9 g xs 0=V9 g (xs.drop k) k) (λk=>xs.length-k) 0 (by simp[B5,tm,Tm.upd]) (Sub.nil _) (by simp) ?_;rintro k c ⟨hk,he⟩;by_cases hlt:k<xs.length
 ·have hd:=dtz hlt;have hg:=A0B hlt;have hw:=w64 (n:=(k:Int)+1);have hst:=W7 (g:=g) hg;have hc:=hf xs[k] (A0O hlt);repeat'((with_reducible first|apply wr|refine cpc hc ?_|refine k_cu ?_ ?_|apply wb2<;>(intro hb;try simp only[hb]))<;>try simp only[go_sem,seval,hd,hg,hw])
  ·refine A4 ?_;rw[he,hst,hb];rfl
  ·exact⟨k+1,rfl,Sub.refl _,inv ⟨a8,by rw[he,hst,hb];rfl⟩,by omega⟩
 ·have hd:=dfz hlt;refine wAs hd ?_;refine A4 ?_;rw[he,A0u (by omega)]
theorem c_CF_md{g:Md->Bool}{f:Nat}{a cs:List DV}(xs:List (Md))(hx:xs.length<=9223372036854775807)(na:DV.nlL a=true)(ncs:DV.nlL cs=true)(hf:∀x∈xs,PC Tryz.prog f (a++[Md.v x]++cs) (.bool (g x))):
  PC Tryz.prog 75 [F6 xs,.func f a cs] (.bool (xs.any g)):=by
 refine PC.ofT A3 rfl (A0F rfl) (by simp[DV.nlL,DV.nl,S0,na,ncs]) rfl ?_;have hc:=c_IF_md xs hx na ncs hf;refine wA5 hc ?_;refine A4 ?_;rw[A0v]
theorem c_IF_st{g:Pb.St->Bool}{f:Nat}{a cs:List DV}(xs:List (Pb.St))(hx:xs.length<=9223372036854775807)(na:DV.nlL a=true)(ncs:DV.nlL cs=true)(hf:∀x∈xs,PC Tryz.prog f (a++[Pb.St.v x]++cs) (.bool (g x))):
  PC Tryz.prog 201 [G7 xs,.func f a cs] (I64 (V9 g xs 0)):=by
 refine PC.ofT A3 rfl (A0F rfl) (by simp[DV.nlL,DV.nl,A2t,na,ncs]) rfl ?_;refine wAo ?_;refine A9 (λk:Nat=>[(0,G7 xs),(1,.func f a cs),(7,I64 xs.length),(8,I64 k)]) (λ_=>nil) (λk _=>k<=xs.length/\V9 g xs 0=V9 g (xs.drop k) k) (λk=>xs.length-k) 0 (by simp[B5,tm,Tm.upd]) (Sub.nil _) (by simp) ?_;rintro k c ⟨hk,he⟩;by_cases hlt:k<xs.length
 ·have hd:=dtz hlt;have hg:=A0B hlt;have hw:=w64 (n:=(k:Int)+1);have hst:=W7 (g:=g) hg;have hc:=hf xs[k] (A0O hlt);rw[Pb.St.v_w]at hc;repeat'((with_reducible first|apply wr|refine cpc hc ?_|refine k_cu ?_ ?_|apply wb2<;>(intro hb;try simp only[hb]))<;>try simp only[go_sem,seval,hd,hg,hw,Pb.St.v_w])
  ·refine A4 ?_;rw[he,hst,hb];rfl
  ·exact⟨k+1,rfl,Sub.refl _,inv ⟨a8,by rw[he,hst,hb];rfl⟩,by omega⟩
 ·have hd:=dfz hlt;refine wAs hd ?_;refine A4 ?_;rw[he,A0u (by omega)]
theorem c_CF_st{g:Pb.St->Bool}{f:Nat}{a cs:List DV}(xs:List (Pb.St))(hx:xs.length<=9223372036854775807)(na:DV.nlL a=true)(ncs:DV.nlL cs=true)(hf:∀x∈xs,PC Tryz.prog f (a++[Pb.St.v x]++cs) (.bool (g x))):
  PC Tryz.prog 173 [G7 xs,.func f a cs] (.bool (xs.any g)):=by
 refine PC.ofT A3 rfl (A0F rfl) (by simp[DV.nlL,DV.nl,A2t,na,ncs]) rfl ?_;have hc:=c_IF_st xs hx na ncs hf;refine wA5 hc ?_;refine A4 ?_;rw[A0v]
theorem c_IF_ex{g:Ex->Bool}{f:Nat}{a cs:List DV}(xs:List (Ex))(hx:xs.length<=9223372036854775807)(na:DV.nlL a=true)(ncs:DV.nlL cs=true)(hf:∀x∈xs,PC Tryz.prog f (a++[Ex.v x]++cs) (.bool (g x))):
  PC Tryz.prog 216 [L9 xs,.func f a cs] (I64 (V9 g xs 0)):=by
 refine PC.ofT A3 rfl (A0F rfl) (by simp[DV.nlL,DV.nl,A4n,na,ncs]) rfl ?_;refine wAo ?_;refine A9 (λk:Nat=>[(0,L9 xs),(1,.func f a cs),(7,I64 xs.length),(8,I64 k)]) (λ_=>nil) (λk _=>k<=xs.length/\V9 g xs 0=V9 g (xs.drop k) k) (λk=>xs.length-k) 0 (by simp[B5,tm,Tm.upd]) (Sub.nil _) (by simp) ?_;rintro k c ⟨hk,he⟩;by_cases hlt:k<xs.length
 ·have hd:=dtz hlt;have hg:=A0B hlt;have hw:=w64 (n:=(k:Int)+1);have hst:=W7 (g:=g) hg;have hc:=hf xs[k] (A0O hlt);rw[Ex.v_w]at hc;repeat'((with_reducible first|apply wr|refine cpc hc ?_|refine k_cu ?_ ?_|apply wb2<;>(intro hb;try simp only[hb]))<;>try simp only[go_sem,seval,hd,hg,hw,Ex.v_w])
  ·refine A4 ?_;rw[he,hst,hb];rfl
  ·exact⟨k+1,rfl,Sub.refl _,inv ⟨a8,by rw[he,hst,hb];rfl⟩,by omega⟩
 ·have hd:=dfz hlt;refine wAs hd ?_;refine A4 ?_;rw[he,A0u (by omega)]
theorem c_CF_ex{g:Ex->Bool}{f:Nat}{a cs:List DV}(xs:List (Ex))(hx:xs.length<=9223372036854775807)(na:DV.nlL a=true)(ncs:DV.nlL cs=true)(hf:∀x∈xs,PC Tryz.prog f (a++[Ex.v x]++cs) (.bool (g x))):
  PC Tryz.prog 203 [L9 xs,.func f a cs] (.bool (xs.any g)):=by
 refine PC.ofT A3 rfl (A0F rfl) (by simp[DV.nlL,DV.nl,A4n,na,ncs]) rfl ?_;have hc:=c_IF_ex xs hx na ncs hf;refine wA5 hc ?_;refine A4 ?_;rw[A0v]
theorem E0y{H:Hp}{a b:Bool}(h:a=b):∃H2,GL H [.bool a] H2 [.bool b]:=⟨H,by rw[h];exact GL.refl _ _⟩
theorem C0b{b1 b2 b3:Blk}{cc:Nat}(u:Unit)(h:1<=cc):Sym.Sub (Sym.nil.upd 0 b1) (((Sym.nil.upd 0 b1).upd cc b2).upd cc b3):=by
 intro j b hj;simp only[Hp.upd,Sym.nil]at hj ⊢;split at hj
 ·rename_i h0;rw[iN,iN,if_pos h0];exact hj
 ·cases hj
theorem c_levS(k:Int):PC Tryz.prog 228 [I64 k] (I64 (B0 k)):=by
 refine PC.go A3 ?_;repeat'((with_reducible first|apply wr|refine k_cu ?_ ?_|apply wb2<;>(intro hb;try simp only[hb]))<;>try simp only[go_sem,seval])
 all_goals refine A4 (congrArg I64 ?_)
 all_goals simp_all[B0]
 all_goals omega
theorem c_namedS(k:Int):PC Tryz.prog 229 [I64 k] (.bool (C1i k)):=by
 refine PC.go A3 ?_;repeat'((with_reducible first|apply wr|refine k_cu ?_ ?_|apply wb2<;>(intro hb;try simp only[hb]))<;>try simp only[go_sem,seval])
 all_goals refine A4 (congrArg DV.bool ?_)
 all_goals(cases h5:k==5<;>cases h6:k==6<;>cases h7:k==7<;>simp_all[C1i])
theorem c_wrapped(e x:Ex)(i:Nat)(h:e.args[i]? = some x)(hi:i<=1):PC Tryz.prog 230 [e.v,I64 i] (.bool (A3b e.kind x.kind i)):=by
 refine PC.go A3 ?_;rw[Ex.v_w];have h1:=c_levS e.kind;have h2:=c_levS x.kind;repeat'((with_reducible first|apply wr|refine cpc h1 ?_|refine cpc h2 ?_|refine k_cu ?_ ?_|apply wb2<;>(intro hb;try simp only[hb]))<;>try simp only[go_sem,seval,h,Ex.v_w])
 all_goals refine E0y ?_
 all_goals unfold A3b
 all_goals(cases hi1:i==1<;>cases h3:B0 e.kind==3<;>simp_all)
 all_goals omega
theorem c_measure:∀(m:Nat) (e:Ex),e.sz<m->e.sz<=100000000->PC Tryz.prog 217 [e.v] (msV (msM e)):=by
 intro m
 induction m with
 |zero=>intro e h;omega
 |succ m ih =>
 intro e hm hB;have hnl:=e.sz_name;have hx:∀x∈e.args,PC Tryz.prog 217 [x.v] (msV (msM x)):=λx hx=>ih x (by have:=Ex.sz_arg hx;omega) (by have:=Ex.sz_arg hx;omega);have hwr:∀(x:Ex) (i:Nat),e.args[i]? = some x->i<=1->PC Tryz.prog 230 [e.w,I64 i] (.bool (A3b e.kind x.kind i)):=λx i h hi=>by have:=c_wrapped e x i h hi;rwa [Ex.v_w]at this
 refine PC.ofT A3 rfl (A0F rfl) (by simp[DV.nlL,DV.nl,Ex.nl]) (E9j _) ?_;rw[Ex.v_w];obtain⟨R,hR⟩:∃R,R=msV (msM e):=⟨_,rfl⟩;rw[<- hR];have hle:=C4w e.kind 0 e.args;have hal:Ex.szs e.args<e.sz:=by cases e with|mk k v n a p=>rw[Ex.sz];show Ex.szs a<_;omega
 have hargs:∀x∈e.args,x.sz<=Ex.szs e.args:=λx hx=>Ex.szs_mem hx;cases e with|mk k v n a p =>
 rw[msM]at hR;dsimp only[Ex.w,Ex.kind,Ex.value,Ex.name,Ex.args,Ex.pos]at hx hwr hle hal hargs hnl ⊢;have hl:=c_levS k;have hnk:=c_namedS k;have hin:=c_IsName n (by omega);have none0:kOk k=false\/a.length≠N5 k\/B0k k n=false\/A5f k v=false->R=.tup [I64 0,I64 0,.bool false]:=λh=>by rw[hR,if_pos h];rfl
 have ci:((N5 k:Nat):Int)<=2:=by unfold N5;(repeat' split)<;>decide
 have kA:∀nm vl:Bool,B0k k n=nm->A5f k v=vl->kOk k=true->IW Tryz.prog 113 (pz Tryz.prog 217 (.o (.i (.o (.o (.o .h)))))) ⟨tm [(1,.ptr 0 0),(2,I64 0),(3,I64 0),(5,I64 (N5 k)),(7,.bool nm),(8,.bool vl)],Sym.nil.upd 0 ⟨0,true,[I64 k,I64 v,.str n,L9 a,I64 p]⟩,1⟩ (rt [.tmp 2,.tmp 3,.tmp 4] λv H' x => ∃H2,GL H' [v] H2 [R]):=by
  intro nm vl hnm hvl hkk;by_cases hlen:a.length=N5 k
  ·have d0:((a.length:Int) != (N5 k:Int))=false:=by simp[hlen]
   cases nm with
   |false =>
    refine wAs d0 ?_;exact A4 (none0 (.inr (.inr (.inl hnm)))).symm
   |true =>
    cases vl with
    |false =>
     refine wAs d0 ?_;exact A4 (none0 (.inr (.inr (.inr hvl)))).symm
    |true =>
     rw[if_neg (by simp[hkk,hnm,hvl,hlen])]at hR;by_cases hc0:N5 k=0
     ·have d1:((N5 k:Int)==0)=true:=by simp[hc0]
      rw[if_pos hc0]at hR;refine wAs (wJ d0 d1) ?_;exact A4 hR.symm
     ·have d1:((N5 k:Int)==0)=false:=by simp[hc0]
      rw[if_neg hc0]at hR;refine wAs (wJ d0 d1) ?_;have hl2:a.length<=2:=a8
      refine A9 (λq:Nat × Nat × Nat=>[(1,.ptr 0 0),(5,I64 (N5 k)),(80,L9 a),(81,I64 a.length),(82,I64 q.1),(2,I64 q.2.1),(3,I64 q.2.2)]) (λ_=>Sym.nil.upd 0 ⟨0,true,[I64 k,I64 v,.str n,L9 a,I64 p]⟩)
       (λq cc=>1<=cc/\q.1<=a.length/\q.2.1<=q.1*1000000000/\q.2.2<=1000000000/\msL k 0 a=(match msL k q.1 (a.drop q.1) with
        |none=>none
        |some (o2,d2)=>some (q.2.1+o2,max q.2.2 d2))) (λq=>a.length-q.1) (0,0,0) (by simp[B5,tm,Tm.upd]) (Sub.refl _)
       ⟨A0E _,A0Q _,A0Q _,A0Q _,by
        rw[A3V];cases msL k 0 a with
        |none=>rfl
        |some q=>obtain⟨o2,d2⟩:=q;simp⟩ ?_
      rintro⟨i,o,d⟩ cc ⟨h1c,hk,ho,hd3,he⟩;dsimp only at hk ho hd3 he ⊢;by_cases hlt:i<a.length
      ·have hd:=dtz hlt;have hg:=A0B hlt;have hw:=w64 (n:=(i:Int)+1);rw[D6k hg]at he;have hmx:=hx _ (A0O hlt);have hax:=hargs _ (A0O hlt);have hwx:=hwr _ i hg (by omega);have hms:=E4y a[i];generalize a[i]=x at hg he hmx hax hwx hms;rw[Ex.v_w]at hmx;have hwx:PC Tryz.prog 230 [DV.agg [I64 k,I64 v,DV.str n,L9 a,I64 p],I64 i] (.bool (A3b k x.kind i)):=hwx;have ne0:=A1z 0 cc (by omega);cases hq:msM x with
       |none =>
        rw[hq]at he hmx;dsimp only[msV]at he hmx;rw[he]at hR;refine wBd hmx hwx (wJ hd (wJ hg (wJ hw (wJ @Ex.v_w ne0)))) ?_;exact A4 hR.symm
       |some qq =>
        obtain⟨o1,d1'⟩:=qq;rw[hq]at he hmx;dsimp only[msV]at he hmx;have:=hms o1 d1' hq;have w1:=w64 (n:=(o:Int)+(o1:Int));have w2:=w64 (n:=(d1':Int)+1);cases hwb:A3b k x.kind i with
        |true =>
         rw[hwb]at he;refine wBd hmx hwx (wJ hd (wJ hg (wJ hw (wJ @Ex.v_w (wJ ne0 (wJ hwb (wJ w1 w2))))))) ?_;all_goals(refine⟨(i+1,o+o1,max d (d1'+1)),⟨by simp,by simp,?_⟩,?_,inv ⟨a8,g9,g9,g9,?_⟩,by simp only;omega⟩)
         all_goals first
          |(refine congrArg I64 ?_;dsimp only;split<;>omega)
          |exact C0b () h1c
          |(rw[he];dsimp only;cases msL k (i+1) (a.drop (i+1)) with
           |none=>rfl
           |some q=>obtain⟨o2,d2⟩:=q;simp[A2P,Nat.max_assoc])
        |false =>
         rw[hwb]at he;refine wBd hmx hwx (wJ hd (wJ hg (wJ hw (wJ @Ex.v_w (wJ ne0 (wJ hwb (wJ w1 w2))))))) ?_;all_goals(refine⟨(i+1,o+o1,max d (d1')),⟨by simp,by simp,?_⟩,?_,inv ⟨a8,g9,g9,g9,?_⟩,by simp only;omega⟩)
         all_goals first
          |(refine congrArg I64 ?_;dsimp only;split<;>omega)
          |exact C0b () h1c
          |(rw[he];dsimp only;cases msL k (i+1) (a.drop (i+1)) with
           |none=>rfl
           |some q=>obtain⟨o2,d2⟩:=q;simp[A2P,Nat.max_assoc])
      ·have hd:=dfz hlt;rw[A2R (by omega)]at he;have w1:=w64 (n:=(d:Int)+1);by_cases hc1:N5 k=1
       ·have e1:((N5 k:Int)==1)=true:=by simp[hc1]
        rw[he,hc1]at hR;refine wAw hd e1 w1 ?_;refine A4 ?_;rw[hR];simp[msV,msL]
       ·have e1:((N5 k:Int)==1)=false:=by simp;omega
        rw[he]at hR;simp only[if_neg hc1]at hR;refine wAw hd e1 w1 ?_;refine A4 ?_;rw[hR];simp[msV,msL]
  ·have d0:((a.length:Int) != (N5 k:Int))=true:=by simp;omega
   refine wAs d0 ?_;exact A4 (none0 (.inr (.inl hlen))).symm
 have kB:∀nm:Bool,B0k k n=nm->kOk k=true->IW Tryz.prog 113 (pz Tryz.prog 217 (.o (.o (.o (.o (.o .h)))))) ⟨tm [(1,.ptr 0 0),(2,I64 0),(3,I64 0),(5,I64 (N5 k)),(7,.bool nm)],Sym.nil.upd 0 ⟨0,true,[I64 k,I64 v,.str n,L9 a,I64 p]⟩,1⟩ (rt [.tmp 2,.tmp 3,.tmp 4] λv H' x => ∃H2,GL H' [v] H2 [R]):=by
  intro nm hnm hkk;repeat'((with_reducible first|refine O8 (p:=IW _ _ (pz Tryz.prog 217 (.o (.i (.o (.o (.o .h)))))) _ _) ?_|refine wr ?_|refine k_cu ?_ ?_|apply wb2<;>(intro hb;try simp only[hb]))<;>try simp only[go_sem,seval])
  all_goals refine IW.stage (L:=[(1,.ptr 0 0),(2,I64 0),(3,I64 0),(5,I64 (N5 k)),(7,.bool nm),(8,.bool (A5f k v))]) ?_ (kA nm _ hnm rfl hkk)
  all_goals simp_all[B5,tm,Tm.upd,A5f]
  all_goals omega
 have kC:kOk k=true->IW Tryz.prog 113 (pz Tryz.prog 217 (.o (.o (.o (.i .h))))) ⟨tm [(1,.ptr 0 0),(2,I64 0),(3,I64 0),(5,I64 (N5 k))],Sym.nil.upd 0 ⟨0,true,[I64 k,I64 v,.str n,L9 a,I64 p]⟩,1⟩ (rt [.tmp 2,.tmp 3,.tmp 4] λv H' x => ∃H2,GL H' [v] H2 [R]):=by
  intro hkk;repeat'((with_reducible first|refine O8 (p:=IW _ _ (pz Tryz.prog 217 (.o (.o (.o (.o (.o .h)))))) _ _) ?_|refine wr ?_|refine cpc hnk ?_|refine cpc hin ?_|refine k_cu ?_ ?_|apply wb2<;>(intro hb;try simp only[hb]))<;>try simp only[go_sem,seval])
  all_goals refine IW.stage (L:=[(1,.ptr 0 0),(2,I64 0),(3,I64 0),(5,I64 (N5 k)),(7,.bool (B0k k n))]) ?_ (kB _ rfl hkk)
  all_goals simp_all[B5,tm,Tm.upd,B0k]
 by_cases l6:B0 k=6
 ·have m6:(B0 k==6)=true:=by simpa using l6
  refine wAm hl m6 ?_;refine IW.stage ?_ (kC (by simp[kOk];left;omega));simp[B5,tm,Tm.upd,N5,l6]
 have m6:(B0 k==6)=false:=by simpa using l6
 by_cases l5:B0 k<6
 ·have m5:decide (B0 k<6)=true:=by simpa using l5
  refine wAm hl (wJ m6 m5) ?_;refine IW.stage ?_ (kC (by simp[kOk];left;omega));simp[B5,tm,Tm.upd,N5,l6,l5]
 have m5:decide (B0 k<6)=false:=by simpa using l5
 repeat'((with_reducible first|refine O8 (p:=IW _ _ (pz Tryz.prog 217 (.o (.o (.o (.i .h))))) _ _) ?_|refine wr ?_|refine cpc hl ?_|refine k_cu ?_ ?_|apply wb2<;>(intro hb;try simp only[hb]))<;>try simp only[go_sem,seval,m6,m5])
 all_goals first
  |(refine IW.stage ?_ (kC (by simp_all[kOk]<;>omega));simp[B5,tm,Tm.upd,N5,l6,l5];done)
  |(refine A4 (none0 (.inl ?_)).symm;simp_all[kOk]<;>omega)
theorem c_ValidExpr(e:Ex)(hB:e.sz<=100000000):PC Tryz.prog 205 [e.v] (.bool (Z9 e)):=by
 refine PC.go A3 ?_;have hm:=c_measure _ e (A1Q _) hB;unfold Z9;rw[Ex.v_w]at hm ⊢;cases hq:msM e with
 |none =>
  rw[hq]at hm;dsimp only[msV]at hm;refine wA5 hm ?_;all_goals exact A4 rfl
 |some q =>
  obtain⟨o,d⟩:=q;rw[hq]at hm;dsimp only[msV]at hm;repeat'((with_reducible first|apply wr|refine cpc hm ?_|refine k_cu ?_ ?_|apply wb2<;>(intro hb;try simp only[hb]))<;>try simp only[go_sem,seval])
  all_goals(refine A4 (congrArg DV.bool ?_);by_cases h1:o<=32<;>by_cases h2:d<=16<;>simp_all<;>omega)
end Go.Proofs.YtnkkfehegdplgaaGreatDoor
end
