/-
  HELPERS of the claim: part 8 of its texts.
-/
import Derived.Test.YtenmhfknbopmeaaGreatDoorCmtg
import Derived.Shelf.LaysC
import Derived.Shelf.Strconv.ParseIntPublic10
import Derived.Test.YtenmhfknbopmeaaGreatDoorProg
noncomputable section
set_option linter.unusedVariables false
namespace Go.Proofs
open Go.Shelf
def Tryz.laysC174_ren:Go.Shelf.Ren:=⟨fun |174=>231 |247=>252 |245=>253 |287=>261 |279=>262 |280=>263 |281=>264 |282=>265 |321=>271 |322=>272 |316=>273 |171=>275 |205=>274 |243=>278 |246=>281 |283=>284 |284=>285 |285=>286 |286=>287 |129=>172 |317=>289 |318=>290 |319=>291 |320=>292 |337=>293 |338=>294|n=>n,fun |9=>9 |3=>3 |2=>2 |75=>259 |85=>260 |4=>4 |167=>295 |5=>5 |53=>171 |175=>296 |46=>185 |168=>298 |37=>22 |0=>0 |210=>306 |21=>21 |127=>308 |145=>311 |143=>309 |171=>313 |173=>315 |212=>318 |51=>221 |20=>20 |213=>319 |232=>320 |233=>321 |80=>80|n=>n,fun |15=>2 |16=>3 |17=>5 |18=>6 |19=>7|n=>n⟩
theorem Tryz.laysC174:Go.Proofs.LaysC.n174 Tryz.prog Tryz.laysC174_ren:={
 mixed:=by kernel_rfl
 f129:=Tryz.func172.trans (congrArg some (by kernel_rfl))
 f171:=Tryz.func275.trans (congrArg some (by kernel_rfl))
 f174:=Tryz.func231.trans (congrArg some (by kernel_rfl))
 f205:=Tryz.func274.trans (congrArg some (by kernel_rfl))
 f243:=Tryz.func278.trans (congrArg some (by kernel_rfl))
 f245:=Tryz.func253.trans (congrArg some (by kernel_rfl))
 f246:=Tryz.func281.trans (congrArg some (by kernel_rfl))
 f247:=Tryz.func252.trans (congrArg some (by kernel_rfl))
 f279:=Tryz.func262.trans (congrArg some (by kernel_rfl))
 f280:=Tryz.func263.trans (congrArg some (by kernel_rfl))
 f281:=Tryz.func264.trans (congrArg some (by kernel_rfl))
 f282:=Tryz.func265.trans (congrArg some (by kernel_rfl))
 f283:=Tryz.func284.trans (congrArg some (by kernel_rfl))
 f284:=Tryz.func285.trans (congrArg some (by kernel_rfl))
 f285:=Tryz.func286.trans (congrArg some (by kernel_rfl))
 f286:=Tryz.func287.trans (congrArg some (by kernel_rfl))
 f287:=Tryz.func261.trans (congrArg some (by kernel_rfl))
 f316:=Tryz.func273.trans (congrArg some (by kernel_rfl))
 f317:=Tryz.func289.trans (congrArg some (by kernel_rfl))
 f318:=Tryz.func290.trans (congrArg some (by kernel_rfl))
 f319:=Tryz.func291.trans (congrArg some (by kernel_rfl))
 f320:=Tryz.func292.trans (congrArg some (by kernel_rfl))
 f321:=Tryz.func271.trans (congrArg some (by kernel_rfl))
 f322:=Tryz.func272.trans (congrArg some (by kernel_rfl))
 f337:=Tryz.func293.trans (congrArg some (by kernel_rfl))
 f338:=Tryz.func294.trans (congrArg some (by kernel_rfl))
 t0:=Tryz.underlying0
 a0:=Tryz.isAgg0
 z0:=Tryz.sizeOf0
 v0:=Tryz.zeroValue0
 t2:=Tryz.underlying2
 a2:=Tryz.isAgg2
 z2:=Tryz.sizeOf2
 v2:=Tryz.zeroValue2
 t3:=Tryz.underlying3
 a3:=Tryz.isAgg3
 z3:=Tryz.sizeOf3
 v3:=Tryz.zeroValue3
 t4:=Tryz.underlying4
 a4:=Tryz.isAgg4
 z4:=Tryz.sizeOf4
 v4:=Tryz.zeroValue4
 t5:=Tryz.underlying5
 a5:=Tryz.isAgg5
 z5:=Tryz.sizeOf5
 v5:=Tryz.zeroValue5
 t9:=Tryz.underlying9
 a9:=Tryz.isAgg9
 z9:=Tryz.sizeOf9
 v9:=Tryz.zeroValue9
 t20:=Tryz.underlying20
 a20:=Tryz.isAgg20
 z20:=Tryz.sizeOf20
 v20:=Tryz.zeroValue20
 t21:=Tryz.underlying21
 a21:=Tryz.isAgg21
 z21:=Tryz.sizeOf21
 v21:=Tryz.zeroValue21
 t37:=Tryz.underlying22
 a37:=Tryz.isAgg22
 z37:=Tryz.sizeOf22
 v37:=Tryz.zeroValue22
 t46:=Tryz.underlying185
 a46:=Tryz.isAgg185
 z46:=Tryz.sizeOf185
 v46:=Tryz.zeroValue185
 t51:=Tryz.underlying221
 a51:=Tryz.isAgg221
 z51:=Tryz.sizeOf221
 v51:=Tryz.zeroValue221
 t53:=Tryz.underlying171
 a53:=Tryz.isAgg171
 z53:=Tryz.sizeOf171
 v53:=Tryz.zeroValue171
 t75:=Tryz.underlying259
 a75:=Tryz.isAgg259
 z75:=Tryz.sizeOf259
 v75:=Tryz.zeroValue259
 t85:=Tryz.underlying260
 a85:=Tryz.isAgg260
 z85:=Tryz.sizeOf260
 v85:=Tryz.zeroValue260
 t127:=Tryz.underlying308
 a127:=Tryz.isAgg308
 z127:=Tryz.sizeOf308
 v127:=Tryz.zeroValue308
 t143:=Tryz.underlying309
 a143:=Tryz.isAgg309
 z143:=Tryz.sizeOf309
 v143:=Tryz.zeroValue309
 t145:=Tryz.underlying311
 a145:=Tryz.isAgg311
 z145:=Tryz.sizeOf311
 v145:=Tryz.zeroValue311
 t167:=Tryz.underlying295
 a167:=Tryz.isAgg295
 z167:=Tryz.sizeOf295
 v167:=Tryz.zeroValue295
 t168:=Tryz.underlying298
 a168:=Tryz.isAgg298
 z168:=Tryz.sizeOf298
 v168:=Tryz.zeroValue298
 t171:=Tryz.underlying313
 a171:=Tryz.isAgg313
 z171:=Tryz.sizeOf313
 v171:=Tryz.zeroValue313
 t173:=Tryz.underlying315
 a173:=Tryz.isAgg315
 z173:=Tryz.sizeOf315
 v173:=Tryz.zeroValue315
 t175:=Tryz.underlying296
 a175:=Tryz.isAgg296
 z175:=Tryz.sizeOf296
 v175:=Tryz.zeroValue296
 t210:=Tryz.underlying306
 a210:=Tryz.isAgg306
 z210:=Tryz.sizeOf306
 v210:=Tryz.zeroValue306
 t212:=Tryz.underlying318
 a212:=Tryz.isAgg318
 z212:=Tryz.sizeOf318
 v212:=Tryz.zeroValue318
 t213:=Tryz.underlying319
 a213:=Tryz.isAgg319
 z213:=Tryz.sizeOf319
 t232:=Tryz.underlying320
 a232:=Tryz.isAgg320
 z232:=Tryz.sizeOf320
 v232:=Tryz.zeroValue320
 t233:=Tryz.underlying321
 a233:=Tryz.isAgg321
 z233:=Tryz.sizeOf321
 v233:=Tryz.zeroValue321
 g15:=by kernel_rfl
 g16:=by kernel_rfl
 g17:=by kernel_rfl
 g18:=by kernel_rfl
 g19:=by kernel_rfl
 t80:=Tryz.underlying80
 a80:=Tryz.isAgg80
 z80:=Tryz.sizeOf80
 v80:=Tryz.zeroValue80
 i0:=by kernel_rfl
 i2:=by kernel_rfl
 i3:=by kernel_rfl
 i4:=by kernel_rfl
 i5:=by kernel_rfl
 i9:=by kernel_rfl
 i20:=by kernel_rfl
 i21:=by kernel_rfl
 i37:=by kernel_rfl
 i46:=by kernel_rfl
 i51:=by kernel_rfl
 i53:=by kernel_rfl
 i75:=by kernel_rfl
 i80:=by kernel_rfl
 i85:=by kernel_rfl
 i127:=by kernel_rfl
 i143:=by kernel_rfl
 i145:=by kernel_rfl
 i167:=by kernel_rfl
 i168:=by kernel_rfl
 i171:=by kernel_rfl
 i173:=by kernel_rfl
 i175:=by kernel_rfl
 i210:=by kernel_rfl
 i212:=by kernel_rfl
 i232:=by kernel_rfl
 i233:=by kernel_rfl
 m15:=by kernel_rfl
 m16:=by kernel_rfl
 m17:=by kernel_rfl
 m18:=by kernel_rfl
 m19:=by kernel_rfl
 c0:=by kernel_rfl
 c2:=by kernel_rfl
 c3:=by kernel_rfl
 c4:=by kernel_rfl
 c5:=by kernel_rfl
 c9:=by kernel_rfl
 c20:=by kernel_rfl
 c21:=by kernel_rfl
 c37:=by kernel_rfl
 c46:=by kernel_rfl
 c51:=by kernel_rfl
 c53:=by kernel_rfl
 c75:=by kernel_rfl
 c80:=by kernel_rfl
 c85:=by kernel_rfl
 c127:=by kernel_rfl
 c143:=by kernel_rfl
 c145:=by kernel_rfl
 c167:=by kernel_rfl
 c168:=by kernel_rfl
 c171:=by kernel_rfl
 c173:=by kernel_rfl
 c175:=by kernel_rfl
 c210:=by kernel_rfl
 c212:=by kernel_rfl
 c213:=by kernel_rfl
 c232:=by kernel_rfl
 c233:=by kernel_rfl }
open Go.RowKit in
theorem Tryz.strconv_ParseInt_10_at64_ok(s:ByteArray)(hmax:s.size<=9223372036854775806)(v:Int)(h:Lib.parseIntB 64 s.data.toList=.ok v)(w:World):
  Calls Tryz.prog 231 #[.string s,.int .i64 10,.int .i64 64] w λe w'=>e=.returned (.tuple #[.int .i64 v,.nilIface])/\(w'=w\/∃t,w'=Lib.bytesWorld w 5 t):=Any.strconv_ParseInt_10_at64_ok Tryz.laysC174 s hmax v h w
end Go.Proofs
set_option maxHeartbeats 4000000
set_option maxRecDepth 100000
set_option linter.unusedSimpArgs false
namespace Go.Proofs.YtenmhfknbopmeaaGreatDoor
open Go.Eng (IC IOper DReg IFn L1 I5)
open Go.Sym Go.Pb Go.RowKit
theorem F1u{ρ:Ren}{x:DV}{u:Value}{vs:Array Value}(hA:G4 ρ [x] vs)(h:∀y,VRel ρ x y->y=u):vs = #[u]:=by
 obtain⟨y,h1,h2⟩:=hA.get (i:=0) rfl;have hs:vs.size=1:=hA.1.symm;obtain rfl:=h y h2;cases vs with|mk l=>match l,hs,h1 with
  |[a],_,h1=>simp at h1;subst h1;rfl
theorem F1t{ρ:Ren}{x x2:DV}{u u2:Value}{vs:Array Value}(hA:G4 ρ [x,x2] vs)(h:∀y,VRel ρ x y->y=u)(h2:∀y,VRel ρ x2 y->y=u2):vs = #[u,u2]:=by
 obtain⟨y,g1,g2⟩:=hA.get (i:=0) rfl;obtain⟨z,g3,g4⟩:=hA.get (i:=1) rfl;obtain rfl:=h y g2;obtain rfl:=h2 z g4;have hs:vs.size=2:=hA.1.symm;cases vs with|mk r=>match r,hs,g1,g3 with
  |[a,b],_,h1,h3=>simp at h1 h3;subst h1 h3;rfl
theorem F1s{ρ:Ren}{x x2 x3:DV}{u u2 u3:Value}{vs:Array Value}(hA:G4 ρ [x,x2,x3] vs)(h:∀y,VRel ρ x y->y=u)(h2:∀y,VRel ρ x2 y->y=u2)(h3:∀y,VRel ρ x3 y->y=u3):vs = #[u,u2,u3]:=by
 obtain⟨y,g1,g2⟩:=hA.get (i:=0) rfl;obtain⟨z,g3,g4⟩:=hA.get (i:=1) rfl;obtain⟨q,g5,g6⟩:=hA.get (i:=2) rfl;obtain rfl:=h y g2;obtain rfl:=h2 z g4;obtain rfl:=h3 q g6;have hs:vs.size=3:=hA.1.symm;cases vs with|mk r=>match r,hs,g1,g3,g5 with
  |[a,b,c],_,h1,h3,h5=>simp at h1 h3 h5;subst h1 h3 h5;rfl
theorem c_IndexByte(s:List UInt8)(c:UInt8):PC Tryz.prog 232 [.str s,.int .u8 c.toNat] (I64 (Lib.indexByte s c)):=by
 refine PC.of_calls (by kernel_rfl) rfl rfl fun ρ w vs hf hA=>?_;rw[F1t hA (λy h=>h.str_inv) (λy h=>h.int_inv)];refine(Tryz.strings_IndexByte _ _ w).mono ?_;rintro e w' ⟨rfl,rfl⟩;refine⟨_,rfl,fun ρ'=>?_,Below.refl _ _⟩;have:((c.toNat:Int).toNat.toUInt8)=c:=by rw[A3F];exact UInt8.ofNat_toNat
 rw[this];exact .int _ _
theorem c_ParseOk(s:List UInt8)(hs:s.length<=281474976710656)(h:∀c∈s,dgB c=true)(h0:s≠[])(hv:U1 s<=9223372036854775807):PC Tryz.prog 231 [.str s,I64 10,I64 64] (.tup [I64 (U1 s),.inil]):=by
 refine PC.of_calls (by kernel_rfl) rfl rfl fun ρ w vs hf hA=>?_;rw[F1s hA (λy h=>h.str_inv) (λy h=>h.int_inv) (λy h=>h.int_inv)];refine(Tryz.strconv_ParseInt_10_at64_ok _ (by show s.toArray.size<=_;rw[A4G];omega) (U1 s:Int) (by have:=pib h h0;rw[if_pos hv]at this;exact this) w).mono ?_;rintro e w' ⟨rfl,hw⟩;refine⟨_,rfl,fun ρ'=>.tup _ _ rfl (λi x y hx hy=>?_),?_⟩
 ·match i with
  |0=>simp at hx hy;subst hx hy;exact .int _ _
  |1=>simp at hx hy;subst hx hy;exact .inil
  |_+2=>simp at hx
 ·rcases hw with rfl|⟨t,rfl⟩
  ·exact Below.refl _ _
  ·exact⟨rfl,rfl,rfl,by rw[Lib.bytesWorld_size];omega,λj hj=>Lib.bytesWorld_at_old _ _ _ _ hj⟩
def C7x:List UInt8:=w8 [115,119,105,116,99,104,32,99,111,105,108,32,108,97,109,112,32,115,111,117,110,100,32,115,104,111,119,32,118,97,114,32,116,105,109,101,114,32,101,118,101,110,116,32,109,111,100,101,32,111,110,32,115,116,97,114,116,32,115,116,111,112,32,99,108,111,115,101,32,111,112,101,110,32,105,102,32,101,108,115,101,32,114,101,112,101,97,116,32,115,99,111,114,101,32,102,105,114,101,32,104,111,108,100,32,114,101,108,101,97,115,101,32,108,105,103,104,116,32,98,108,105,110,107,32,98,101,103,105,110,32,101,110,100,32,112,111,115,116,32,112,108,97,121,32,114,117,110,32,104,97,108,116,32,116,101,120,116,32,99,111,110,115,117,109,101,32,99,108,111,115,101,100,32,97,99,116,105,118,101,32,108,101,102,116,32,112,108,97,121,101,114,32,98,97,108,108,32,116,114,117,101,32,102,97,108,115,101]
theorem D9d:Lib.fields C7x=F8:=by kernel_rfl
theorem D9e:C7x.all (λb=>decide (b.toNat<128))=true:=by kernel_rfl
theorem c_Fields:PC Tryz.prog 178 [.str C7x] (.lst (F8.map DV.str)):=by
 refine PC.of_callsF (by kernel_rfl) rfl (J6 _) fun ρ w vs hf hA=>?_;rw[F1u hA (fun y h=>h.str_inv)];obtain⟨r,hr,rfl⟩ := ρ.tab _ (A0G _ A0J);obtain⟨e,fr,hb⟩:=hf _ _ hr;have ht : Lib.TabIs Tryz.prog w "strings.asciiSpace" .u8 Lib.asciiSpaceTab := by
  unfold Lib.TabIs World.var?;rw [show Tryz.prog.globalNamed "strings.asciiSpace" = some 0 by kernel_rfl]
  show(match w.heap[0]? with|some (.cells cs _ _)=>some cs|_=>none)=_;have hb':w.heap[0]? = _:=hb;rw[hb']
 refine(Tryz.strings_Fields _ w (by decide) ?_ ht).mono ?_
 ·intro j b hj;have:=A0S.1 D9e b (A0U hj);simpa using this
 ·rintro e w' ⟨rfl,rfl⟩;have hl:Lib.fields (⟨C7x.toArray⟩:ByteArray).data.toList=F8:=D9d;rw[hl];refine⟨_,w.heap.size,_,9,_,rfl,A0E _,(by show(w.heap.push _)[w.heap.size]? = _;rw[Array.getElem?_push_size]),fun ρ' hρ => VRel.strs hρ rfl (A0E _) (by decide),Below.alloc (Below.refl _ _) (A0E _) _⟩
open Go.Eng (IC IOper DReg IFn L1)
open Go.Sym Go.Pb
theorem c_Fields':PC Tryz.prog 178 [.str [115,119,105,116,99,104,32,99,111,105,108,32,108,97,109,112,32,115,111,117,110,100,32,115,104,111,119,32,118,97,114,32,116,105,109,101,114,32,101,118,101,110,116,32,109,111,100,101,32,111,110,32,115,116,97,114,116,32,115,116,111,112,32,99,108,111,115,101,32,111,112,101,110,32,105,102,32,101,108,115,101,32,114,101,112,101,97,116,32,115,99,111,114,101,32,102,105,114,101,32,104,111,108,100,32,114,101,108,101,97,115,101,32,108,105,103,104,116,32,98,108,105,110,107,32,98,101,103,105,110,32,101,110,100,32,112,111,115,116,32,112,108,97,121,32,114,117,110,32,104,97,108,116,32,116,101,120,116,32,99,111,110,115,117,109,101,32,99,108,111,115,101,100,32,97,99,116,105,118,101,32,108,101,102,116,32,112,108,97,121,101,114,32,98,97,108,108,32,116,114,117,101,32,102,97,108,115,101]] (.lst (F8.map DV.str)):=c_Fields
theorem C5l:∀k:Nat,k<38->(F8.take k).contains (F8.getD k [])=false:=by decide +kernel
theorem c_words:PC Tryz.prog 123 [] (.mp .s (F8.map DV.str) (F8.map λ_=>DV.bool true)):=by
 refine PC.ofT A2 rfl (A0H rfl) rfl (by simp only[DV.nl];rw[J6,L3 (λ_=>rfl)];rfl) ?_;have hf:=c_Fields';repeat'((with_reducible first|apply wr|refine cpc hf ?_)<;>try simp only[go_sem,seval])
 clear hf;refine A6 (λk:Nat=>[(1,.mid 0),(5,.lst (F8.map DV.str)),(6,I64 F8.length),(7,I64 k)]) (λk=>Sym.nil.upd 0 ⟨0,true,[.mpc .s ((F8.take k).map DV.str) ((F8.take k).map λ_=>DV.bool true)]⟩) (λk _=>k<=F8.length) (λk=>F8.length-k) 0 (by simp[B7,tm,Tm.upd]) (Sub.refl _) (by simp) ?_;rintro k c hk;have hlen:F8.length=38:=rfl;by_cases hlt:k<F8.length
 ·have hd:=dtz hlt;have hg:=A0B hlt;have hw:IntKind.i64.wrap ((k:Int)+1)=((k+1:Nat):Int):=by rw[w6z];omega
  have hn:(F8.take k).contains F8[k]=false:=by
   have:=C5l k (by omega)
   rwa [A1K,hg,A4I]at this
  have hm:=B0w hn 0;have e1:F8.take (k+1)=F8.take k++[F8[k]]:=by rw[A0R,hg];rfl
  repeat'(apply wr<;>try simp only[go_sem,seval,hd,hg,hw,hm])
  refine⟨k+1,rfl,?_,inv hlt,by omega⟩;rw[e1,A0T,A0T];intro j b hj;by_cases e:j=0
  ·subst e;rw[A0]at hj ⊢;exact hj
  ·rw[h_ne e]at hj;cases hj
 ·have hd:=dfz hlt;repeat'(apply wr<;>try simp only[go_sem,seval,hd])
  rw[A0M (by omega)];exact D0h A0
abbrev A5c:DV:=.mp .s (F8.map DV.str) (F8.map λ_=>DV.bool true)
theorem E2c(w:List UInt8):lkV (.bool false) false (F8.map λ_=>DV.bool true) (E7 (.str w) (F8.map DV.str) 0)=some (.bool (I6 w)):=by
 cases h:I6 w with
 |false=>rw[B0w h 0];rfl
 |true =>
  obtain⟨j,hj⟩:=C0r h 0;have hlt:=(B0x hj).2;rw[A0C]at hlt;rw[hj,D1g,A1O,A0B (by omega)];rfl
theorem c_IsWord(s:List UInt8):PC Tryz.prog 218 [.str s] (.bool (I6 s)):=by
 refine PC.go A2 ?_;have hw:=c_words;have hlk:=E2c s;repeat'((with_reducible first|apply wr|refine cpc hw ?_)<;>try simp only[go_sem,seval,hlk])
 exact A1 rfl
theorem c_IsName(s:List UInt8)(hs:s.length<=1000000000):PC Tryz.prog 160 [.str s] (.bool (D7 s)):=by
 refine PC.go A2 ?_;have hw:=c_IsWord s;have hsp:=c_spanPt s (by omega);cases s with
 |nil =>
  repeat'(apply wr<;>try simp only[go_sem,seval])
  exact A1 rfl
 |cons c r =>
  have hx:C1b (DV.str (c::r)) (.int .i64 0)=some (.int .u8 (c.toNat:Int)):=rfl;have hlt:=c_letter c;have hd1:decide (((r.length+1:Nat):Int)≥1)=true:=by simp;omega
  repeat'((with_reducible first|apply wr|refine cpc hw ?_|refine cpc hsp ?_|refine cpc hlt ?_|apply wb2<;>(intro hb;try simp only[hb]))<;>try simp only[go_sem,seval,hx,hd1])
  all_goals(refine A1 (congrArg DV.bool ?_);simp_all[D7]<;>omega)
theorem c_wordsR:PC Tryz.prog 174 [] (.lst (F8.map DV.str)):=by
 refine PC.ofT A2 rfl (A0H rfl) rfl (J6 _) ?_;repeat'(apply wr<;>try simp only[go_sem,seval])
 exact O3 (xs:=F8.map DV.str) (u:=1) A0 rfl rfl (P7 _) ⟨[],rfl⟩
theorem c_signsR:PC Tryz.prog 137 [] (.lst (R5.map DV.str)):=by
 refine PC.ofT A2 rfl (A0H rfl) rfl (J6 _) ?_;repeat'(apply wr<;>try simp only[go_sem,seval])
 exact O3 (xs:=R5.map DV.str) (u:=1) A0 rfl rfl (P7 _) ⟨[],rfl⟩
theorem c_IsWordR(s:List UInt8):PC Tryz.prog 120 [.str s] (.bool (I6 s)):=by
 refine PC.go A2 ?_;have hw:=c_wordsR;repeat'((with_reducible first|apply wr|refine cpc hw ?_)<;>try simp only[go_sem,seval])
 refine A6 (λk:Nat=>[(0,.str s),(3,.lst (F8.map DV.str)),(4,I64 k)]) (λ_=>nil) (λk _=>k<=F8.length/\(F8.take k).contains s=false) (λk=>F8.length-k) 0 (by simp[B7,tm,Tm.upd]) (Sub.nil _) (by simp) ?_;rintro k c ⟨hk,he⟩;have hlen:F8.length=38:=rfl;by_cases hlt:k<F8.length
 ·have hd:=dtz hlt;have hg:=A0B hlt;have hw:IntKind.i64.wrap ((k:Int)+1)=((k+1:Nat):Int):=by rw[w6z];omega
  repeat'((with_reducible first|apply wr|apply wb2<;>(intro hb;try simp only[hb]))<;>try simp only[go_sem,seval,hd,hg,hw])
  ·refine A1 (congrArg DV.bool ?_);have:s=F8[k]:=(A1T.1 hb).symm;unfold I6;rw[List.contains_iff_mem.2 (by rw[this];exact A0L hlt)]
  ·refine⟨k+1,rfl,Sub.refl _,inv ⟨hlt,?_⟩,by omega⟩;rw[A0R,hg,List.contains_append,he];have:¬s=F8[k]:=λe=>by rw[e]at hb;simp at hb
   simpa using this
 ·have hd:=dfz hlt;repeat'(apply wr<;>try simp only[go_sem,seval,hd])
  refine A1 (congrArg DV.bool ?_);rw[A0M (by omega)]at he;exact he.symm
theorem c_skipR(s:List UInt8)(hs:s.length<=1000000000)(i:Nat)(hi:i<=s.length):PC Tryz.prog 84 [.str s,I64 i] (I64 ((i+skM false (s.drop i):Nat):Int)):=by
 refine PC.go A2 ?_;repeat'(apply wr<;>try simp only[go_sem,seval])
 refine A6 (λk:Nat=>[(0,.str s),(1,I64 k)]) (λ_=>nil) (λk _=>k<=s.length/\i+skM false (s.drop i)=k+skM false (s.drop k)) (λk=>s.length-k) i (by simp[B7,tm,Tm.upd]) (Sub.nil _) ⟨hi,rfl⟩ ?_;rintro k c ⟨hk,he⟩;by_cases hlt:k<s.length
 ·have hd:=dtz hlt;have hg:=A0B hlt;have hw:=w64 (n:=(k:Int)+1);have hsep:A8w s[k]=true->∃b,DV.int IntKind.i64 ((k:Int)+1)=I64 ((b:Nat):Int)/\Sym.Sub Sym.nil Sym.nil/\B9k (λk _=>k<=s.length/\i+skM false (s.drop i)=k+skM false (s.drop k)) b c/\s.length-b<s.length-k :=
   λh=>⟨k+1,rfl,Sub.refl _,inv ⟨by omega,by rw[he,E0e hg h];omega⟩,by omega⟩
  repeat'((with_reducible first|apply wr|apply wb2<;>(intro hb;try simp only[hb]))<;>try simp only[go_sem,seval,hd,hg,hw])
  ·have h35:=B9d (b:=35) hb;have h1:=D4t hg h35;have h2:=E0g hg h35;refine A6 (λj:Nat=>[(0,.str s),(1,I64 ((k+j:Nat):Int))]) (λ_=>nil) (λj _=>k+j<=s.length/\j<=E1 (λc=>decide (c.toNat≠10)) (s.drop k)) (λj=>s.length-(k+j)) 0 (by simp[B7,tm,Tm.upd]) (Sub.nil _) (by simp;omega) ?_;rintro j c ⟨hkj,hej⟩;have hend:E1 (λc=>decide (c.toNat≠10)) (s.drop k)=j->∃b,I64 ((k+j:Nat):Int)=I64 ((b:Nat):Int)/\Sym.Sub Sym.nil Sym.nil/\B9k (λk _=>k<=s.length/\i+skM false (s.drop i)=k+skM false (s.drop k)) b c/\s.length-b<s.length-k:=by
    intro e;rw[e]at h1 h2;exact⟨k+j,rfl,Sub.refl _,inv ⟨hkj,by rw[he,h2];omega⟩,by omega⟩
   by_cases hlt2:k+j<s.length
   ·have hd2:decide (((k+j:Nat):Int)<s.length)=true:=by simp;omega
    have hg2:=A0B hlt2;have hw2:IntKind.i64.wrap (((k+j:Nat):Int)+1)=((k+(j+1):Nat):Int):=by rw[w6z];omega
    have hst:=B0h hg2 hej;repeat'((with_reducible first|apply wr|apply wb2<;>(intro hb;try simp only[hb]))<;>try simp only[go_sem,seval,hd2,hg2,hw2])
    ·exact⟨j+1,rfl,Sub.refl _,inv ⟨hlt2,hst.1 (by simpa using D7k (b:=10) hb)⟩,by omega⟩
    ·exact hend (hst.2 (by simpa using E3t (b:=10) hb))
   ·have hd2:decide (((k+j:Nat):Int)<s.length)=false:=by simp;omega
    repeat'(apply wr<;>try simp only[go_sem,seval,hd2])
    exact hend (A7j (by omega) hej)
  ·exact hsep (by simp[A8w,B9d (b:=9) hb])
  ·exact hsep (by simp[A8w,B9d (b:=10) hb])
  ·exact hsep (by simp[A8w,B9d (b:=13) hb])
  ·exact hsep (by simp[A8w,B9d (b:=32) hb])
  ·refine A1 ?_;have h9:=A9b (a:=s[k].toNat) (b:=9) (by assumption);have h10:=A9b (a:=s[k].toNat) (b:=10) (by assumption);have h13:=A9b (a:=s[k].toNat) (b:=13) (by assumption);have h32:=A9b (a:=s[k].toNat) (b:=32) (by assumption);have h35:=A9b (a:=s[k].toNat) (b:=35) (by assumption);rw[he,D4s hg (by simp[A8w,h9,h10,h13,h32]) h35];simp
 ·have hd:=dfz hlt;repeat'(apply wr<;>try simp only[go_sem,seval,hd])
  refine A1 ?_;rw[he,E0f (by omega)];simp
theorem c_wordR(s:List UInt8)(hs:s.length<=1000000000)(i:Nat)(hi:i<s.length)(hl:ltB s[i]=true):PC Tryz.prog 133 [.str s,I64 i] (nxR (C9 (s.drop i)) i):=by
 have hM:C9 (s.drop i)=if 12<E1 ptB (s.drop i) then nxE 9 else⟨if I6 ((s.drop i).take (E1 ptB (s.drop i)))=true then 2 else 1,(s.drop i).take (E1 ptB (s.drop i)),0,E1 ptB (s.drop i),0⟩:=by
  rw[O1 (A0B hi),C9,if_pos hl]
 rw[hM];have hle:=A0l ptB (s.drop i);rw[A2M]at hle;refine PC.ofT A2 rfl (A0H rfl) rfl (C0l _ _) ?_;repeat'(apply wr<;>try simp only[go_sem,seval])
 refine A6 (λj:Nat=>[(0,.str s),(1,I64 i),(4,.ptr 0 0),(7,I64 ((i+j:Nat):Int))]) (λ_=>Sym.nil.upd 0 ⟨0,true,[I64 0,.str [],I64 0,I64 0]⟩) (λj cc=>1<=cc/\i+j<=s.length/\j<=E1 ptB (s.drop i)) (λj=>s.length-(i+j)) 0 (by simp[B7,tm,Tm.upd]) (Sub.refl _) (by simp;omega) ?_;rintro j c ⟨h1c,hk,he⟩;have hw2:IntKind.i64.wrap (((i+j:Nat):Int)-i)=(j:Int):=by rw[w6z];omega
 have hsx:=B6r hk;have hiw:=c_IsWordR ((s.drop i).take j);have hR9:E1 ptB (s.drop i)=j->12<j->W5 9 i=nxR (if 12<E1 ptB (s.drop i) then nxE 9 else⟨if I6 ((s.drop i).take (E1 ptB (s.drop i)))=true then 2 else 1,(s.drop i).take (E1 ptB (s.drop i)),0,E1 ptB (s.drop i),0⟩) i:=by
  intro e h;rw[e,if_pos h,A9p (by decide)]
 have hRw:E1 ptB (s.drop i)=j->¬ 12<j->I6 ((s.drop i).take j)=true->okN 2 ((s.drop i).take j) 0 i j=nxR (if 12<E1 ptB (s.drop i) then nxE 9 else⟨if I6 ((s.drop i).take (E1 ptB (s.drop i)))=true then 2 else 1,(s.drop i).take (E1 ptB (s.drop i)),0,E1 ptB (s.drop i),0⟩) i:=by
  intro e h h2;rw[e,if_neg h,B0r,if_pos h2]
 have hRn:E1 ptB (s.drop i)=j->¬ 12<j->I6 ((s.drop i).take j)=false->okN 1 ((s.drop i).take j) 0 i j=nxR (if 12<E1 ptB (s.drop i) then nxE 9 else⟨if I6 ((s.drop i).take (E1 ptB (s.drop i)))=true then 2 else 1,(s.drop i).take (E1 ptB (s.drop i)),0,E1 ptB (s.drop i),0⟩) i:=by
  intro e h h2;rw[e,if_neg h,B0r,if_neg (by rw[h2];simp)]
 by_cases hlt:i+j<s.length
 ·have hd:decide (((i+j:Nat):Int)<s.length)=true:=by simp;omega
  have hg:=A0B hlt;have hw:IntKind.i64.wrap (((i+j:Nat):Int)+1)=((i+(j+1):Nat):Int):=by rw[w6z];omega
  have h1:=c_letterR s[i+j];have h2:=c_digitR s[i+j];have hst:=B0h hg he;have hlp:ptB s[i+j]=true->∃b,DV.int IntKind.i64 ((i+(j+1):Nat):Int)=I64 ((i+b:Nat):Int)/\Sym.Sub (Sym.nil.upd 0 ⟨0,true,[I64 0,.str [],I64 0,I64 0]⟩) (Sym.nil.upd 0 ⟨0,true,[I64 0,.str [],I64 0,I64 0]⟩) /\
    B9k (λj cc=>1<=cc/\i+j<=s.length/\j<=E1 ptB (s.drop i)) b c/\s.length-(i+b)<s.length-(i+j) :=
   λh=>⟨j+1,rfl,Sub.refl _,inv ⟨h1c,hlt,hst.1 h⟩,by omega⟩
  have ne0:=W9 c 0 (by omega);repeat'((with_reducible first|apply wr|refine cpc h1 ?_|refine cpc h2 ?_|refine cpc hiw ?_|apply wb2<;>(intro hb;try simp only[hb]))<;>try simp only[go_sem,seval,hd,hg,hw,hw2,hsx,ne0])
  ·exact hlp (by simp[ptB,hb])
  ·exact hlp (by simp[ptB,hb])
  ·exact hlp (by simp[ptB,B9d (b:=95) hb])
  ·have hj:=hst.2 (by simp only[ptB];rw[‹ltB s[i+j]=false›, ‹dgB s[i+j]=false›];simpa using A9b (a:=s[i+j].toNat) (b:=95) (by assumption));rw[E6 (v:=W5 9 i) rfl];exact A1 (hR9 hj (C6w hb))
  ·have hj:=hst.2 (by simp only[ptB];rw[‹ltB s[i+j]=false›, ‹dgB s[i+j]=false›];simpa using A9b (a:=s[i+j].toNat) (b:=95) (by assumption));rw[E6 (v:=okN 2 ((s.drop i).take j) 0 i j) rfl];exact A1 (hRw hj (B2l (a:=j) (b:=12) (by assumption)) hb)
  ·have hj:=hst.2 (by simp only[ptB];rw[‹ltB s[i+j]=false›, ‹dgB s[i+j]=false›];simpa using A9b (a:=s[i+j].toNat) (b:=95) (by assumption));rw[E6 (v:=okN 1 ((s.drop i).take j) 0 i j) rfl];exact A1 (hRn hj (B2l (a:=j) (b:=12) (by assumption)) hb)
 ·have hd:decide (((i+j:Nat):Int)<s.length)=false:=by simp;omega
  have hj:=A7j (p:=ptB) (s:=s) (by omega) he;have ne0:=W9 c 0 (by omega);repeat'((with_reducible first|apply wr|refine cpc hiw ?_|apply wb2<;>(intro hb;try simp only[hb]))<;>try simp only[go_sem,seval,hd,hw2,hsx,ne0])
  ·rw[E6 (v:=W5 9 i) rfl];exact A1 (hR9 hj (C6w hb))
  ·rw[E6 (v:=okN 2 ((s.drop i).take j) 0 i j) rfl];exact A1 (hRw hj (B2l (a:=j) (b:=12) (by assumption)) hb)
  ·rw[E6 (v:=okN 1 ((s.drop i).take j) 0 i j) rfl];exact A1 (hRn hj (B2l (a:=j) (b:=12) (by assumption)) hb)
theorem c_numberR(s:List UInt8)(hs:s.length<=1000000000)(i:Nat)(hi:i<s.length)(hl:ltB s[i]=false)(hg0:dgB s[i]=true):PC Tryz.prog 135 [.str s,I64 i] (nxR (C9 (s.drop i)) i):=by
 have hM:C9 (s.drop i)=if 1<E1 dgB (s.drop i)/\s[i].toNat=48 then nxE 47
   else if 2147483647<U1 ((s.drop i).take (E1 dgB (s.drop i))) then nxE 5
   else⟨3,[],(U1 ((s.drop i).take (E1 dgB (s.drop i))):Int),E1 dgB (s.drop i),0⟩:=by
  have hdr:=O1 (A0B hi);have:∀r,s.drop i=s[i]::r->C9 (s.drop i)=if 1<E1 dgB (s.drop i)/\s[i].toNat=48 then nxE 47
   else if 2147483647<U1 ((s.drop i).take (E1 dgB (s.drop i))) then nxE 5
   else⟨3,[],(U1 ((s.drop i).take (E1 dgB (s.drop i))):Int),E1 dgB (s.drop i),0⟩:=by
   intro r e;rw[e,C9,if_neg (by rw[hl];simp),if_pos hg0]
  exact this _ hdr
 have hle:=A0l dgB (s.drop i);rw[A2M]at hle;obtain⟨D,hD⟩:∃D,D=s.drop i:=⟨_,rfl⟩;refine PC.ofT A2 rfl (A0H rfl) rfl (C0l _ _) ?_;repeat'(apply wr<;>try simp only[go_sem,seval])
 refine A6 (λj:Nat=>[(0,.str s),(1,I64 i),(4,.ptr 0 0),(7,I64 ((i+j:Nat):Int)),(8,I64 (smV (D.take j))),(9,.bool (B5z (D.take j)))]) (λ_=>Sym.nil.upd 0 ⟨0,true,[I64 0,.str [],I64 0,I64 0]⟩) (λj _=>i+j<=s.length/\j<=E1 dgB (s.drop i)) (λj=>s.length-(i+j)) 0 (by simp[B7,tm,Tm.upd,smV,B5z,U1]) (Sub.refl _) (by simp;omega) ?_;rintro j c ⟨hk,he⟩;have hw2:IntKind.i64.wrap (((i+j:Nat):Int)-i)=(j:Int):=by rw[w6z];omega
 have hgi:=A0B hi;have hRz:E1 dgB (s.drop i)=j->1<j->s[i].toNat=48->W5 47 i=nxR (C9 (s.drop i)) i:=by
  intro e h h2;rw[hM,e,if_pos ⟨h,h2⟩,A9p (by decide)]
 have hRb:E1 dgB (s.drop i)=j->¬(1<j/\s[i].toNat=48)->B5z (D.take j)=true->W5 5 i=nxR (C9 (s.drop i)) i:=by
  intro e h h2;rw[hM,e,if_neg h, <- hD,if_pos (of_decide_eq_true h2),A9p (by decide)]
 have hRk:E1 dgB (s.drop i)=j->¬(1<j/\s[i].toNat=48)->B5z (D.take j)=false->okN 3 [] (smV (D.take j)) i j=nxR (C9 (s.drop i)) i:=by
  intro e h h2;have h3:=of_decide_eq_false h2;rw[hM,e,if_neg h, <- hD,if_neg h3,B0r,C8z h3]
 by_cases hlt:i+j<s.length
 ·have hd:decide (((i+j:Nat):Int)<s.length)=true:=by simp;omega
  have hg:=A0B hlt;have hw:IntKind.i64.wrap (((i+j:Nat):Int)+1)=((i+(j+1):Nat):Int):=by rw[w6z];omega
  have h2:=c_digitR s[i+j];have hst:=B0h hg he;by_cases hdg:dgB s[i+j]=true
  ·rw[hdg]at h2;have hgD:D[j]? = some s[i+j]:=by rw[hD,A2F];exact hg
   have hn:=C6g hgD;have hdd:48<=s[i+j].toNat/\s[i+j].toNat<=57:=by simpa[dgB] using hdg
   obtain⟨z,hz⟩:∃z:Nat,z=s[i+j].toNat-48:=⟨_,rfl⟩;rw[<- hz]at hn;have w1:IntKind.i64.wrap (10*(smV (D.take j):Int))=((10*smV (D.take j):Nat):Int):=by have:=C8y (D.take j);rw[w6z];omega
   have w2:IntKind.u8.wrap ((s[i+j].toNat:Int)-48)=(z:Int):=by rw[wu8 (by omega) (by omega)];omega
   have w3:IntKind.i64.wrap (z:Int)=(z:Int):=w6z;have w4:IntKind.i64.wrap (((10*smV (D.take j):Nat):Int)+z)=((10*smV (D.take j)+z:Nat):Int):=by have:=C8y (D.take j);rw[w6z];omega
   by_cases hbg:2147483647<U1 (D.take j)
   ·have hb1:B5z (D.take j)=true:=decide_eq_true hbg;have e1:B5z (D.take (j+1))=true:=decide_eq_true (by omega);have e2:smV (D.take (j+1))=0:=D7x (by omega);rw[hb1];repeat'((with_reducible first|apply wr|refine cpc h2 ?_)<;>try simp only[go_sem,seval,hd,hg,hw,w1,w2,w3,w4])
    exact⟨j+1,⟨rfl,by rw[e2];rfl,by rw[e1]⟩,Sub.refl _,inv ⟨hlt,hst.1 hdg⟩,by omega⟩
   ·have hb1:B5z (D.take j)=false:=decide_eq_false hbg;have hs1:=C8z hbg;rw[hb1];by_cases hbn:2147483647<U1 (D.take (j+1))
    ·have e1:B5z (D.take (j+1))=true:=decide_eq_true hbn;have e2:smV (D.take (j+1))=0:=D7x hbn;have hd5:decide (((10*smV (D.take j)+z:Nat):Int)>2147483647)=true:=by simp only[A0I];omega
     repeat'((with_reducible first|apply wr|refine cpc h2 ?_)<;>try simp only[go_sem,seval,hd,hg,hw,w1,w2,w3,w4,hd5])
     exact⟨j+1,⟨rfl,by rw[e2];rfl,by rw[e1]⟩,Sub.refl _,inv ⟨hlt,hst.1 hdg⟩,by omega⟩
    ·have e1:B5z (D.take (j+1))=false:=decide_eq_false hbn;have e2:smV (D.take (j+1))=10*smV (D.take j)+z:=by rw[C8z hbn,hn,hs1]
     have hd5:decide (((10*smV (D.take j)+z:Nat):Int)>2147483647)=false:=by simp only[A1U];omega
     repeat'((with_reducible first|apply wr|refine cpc h2 ?_)<;>try simp only[go_sem,seval,hd,hg,hw,w1,w2,w3,w4,hd5])
     exact⟨j+1,⟨rfl,by rw[e2],by rw[e1]⟩,Sub.refl _,inv ⟨hlt,hst.1 hdg⟩,by omega⟩
  ·have hdg0:dgB s[i+j]=false:=by simpa using hdg
   rw[hdg0]at h2;have hj:=hst.2 hdg0;repeat'((with_reducible first|apply wr|refine cpc h2 ?_|apply wb2<;>(intro hb;try simp only[hb]))<;>try simp only[go_sem,seval,hd,hg,hw2,hgi])
   ·rw[E6 (v:=W5 47 i) rfl];exact A1 (hRz hj (C6w hb) (B9d (b:=48) (by assumption)))
   ·rw[E6 (v:=W5 5 i) rfl];exact A1 (hRb hj (λh=>B2l (a:=j) (b:=1) (by assumption) h.1) hb)
   ·rw[E6 (v:=okN 3 [] (smV (D.take j)) i j) rfl];exact A1 (hRk hj (λh=>B2l (a:=j) (b:=1) (by assumption) h.1) hb)
   ·rw[E6 (v:=W5 5 i) rfl];exact A1 (hRb hj (λh=>A9b (b:=48) (by assumption) h.2) hb)
   ·rw[E6 (v:=okN 3 [] (smV (D.take j)) i j) rfl];exact A1 (hRk hj (λh=>A9b (b:=48) (by assumption) h.2) hb)
 ·have hd:decide (((i+j:Nat):Int)<s.length)=false:=by simp;omega
  have hj:=A7j (p:=dgB) (s:=s) (by omega) he;repeat'((with_reducible first|apply wr|apply wb2<;>(intro hb;try simp only[hb]))<;>try simp only[go_sem,seval,hd,hw2,hgi])
  ·rw[E6 (v:=W5 47 i) rfl];exact A1 (hRz hj (C6w hb) (B9d (b:=48) (by assumption)))
  ·rw[E6 (v:=W5 5 i) rfl];exact A1 (hRb hj (λh=>B2l (a:=j) (b:=1) (by assumption) h.1) hb)
  ·rw[E6 (v:=okN 3 [] (smV (D.take j)) i j) rfl];exact A1 (hRk hj (λh=>B2l (a:=j) (b:=1) (by assumption) h.1) hb)
  ·rw[E6 (v:=W5 5 i) rfl];exact A1 (hRb hj (λh=>A9b (b:=48) (by assumption) h.2) hb)
  ·rw[E6 (v:=okN 3 [] (smV (D.take j)) i j) rfl];exact A1 (hRk hj (λh=>A9b (b:=48) (by assumption) h.2) hb)
theorem c_quotedR(s:List UInt8)(hs:s.length<=100000)(i:Nat)(hi:i<s.length):PC Tryz.prog 136 [.str s,I64 i] (quR i (quA [] (i+1) (quM (s.drop (i+1))))):=by
 refine PC.ofT A2 rfl (A0H rfl) rfl (E1g _ _) ?_;have hw0:IntKind.i64.wrap ((i:Int)+1)=((i+1:Nat):Int):=by rw[w6z];omega
 repeat'(apply wr<;>try simp only[go_sem,seval,hw0])
 refine A6 (λq:Nat × Option Nat × List UInt8=>[(0,.str s),(1,I64 i),(4,.ptr 0 0),(7,todoV q.2.1 q.2.2.length),(8,I64 q.1)]) (λq=>optH (Sym.nil.upd 0 D3t) q.2.1 ⟨1,true,bytesC q.2.2⟩)
  (λq c=>1<=c/\i+1<=q.1/\q.2.2.length<=q.1/\q.1<=s.length+1/\(q.2.1=none->q.2.2=[])/\(∀i,q.2.1=some i->1<=i/\i<c)/\quA [] (i+1) (quM (s.drop (i+1)))=quA q.2.2 q.1 (quM (s.drop q.1))) (λq=>s.length+1-q.1) (i+1,none,[])
  (by simp[B7,tm,Tm.upd,todoV]) (Sub.refl _) ⟨by simp,by simp,by simp,by simp only;omega,λ_=>rfl,(λi hi=>by cases hi),rfl⟩ ?_
 rintro⟨k,o,acc⟩ c ⟨h1c,h1,hal,hk,hno,ho,he⟩;simp only at h1 hal hk hno ho he;simp only;rw[he];have hH0:optH (Sym.nil.upd 0 D3t) o ⟨1,true,bytesC acc⟩ 0=some ⟨0,true,[I64 0,.str [],I64 0,I64 0]⟩:=by rw[B5 (λi hi=>by have:=ho i hi;omega),A0];rfl
 have hlt0:=N2 (o:=o) (n:=acc.length) (λe=>by rw[hno e];rfl);by_cases hlt:k<s.length
 ·have hd:=dtz hlt;have hg:=A0B hlt;have hw:IntKind.i64.wrap ((k:Int)+1)=((k+1:Nat):Int):=by rw[w6z];omega
  have hw2:IntKind.i64.wrap (((k+1:Nat):Int)+1)=((k+2:Nat):Int):=by rw[w6z];omega
  have hcv:=C9p (H:=optH (Sym.nil.upd 0 D3t) o ⟨1,true,bytesC acc⟩) (u:=1) hno (λi hi=>by subst hi;exact A0);have hc0:∀n:Nat,((s[k].toNat:Int)==(n:Int))=true->s[k].toNat=n:=λn h=>by have:=A1T.1 h;omega
  have hc1:∀n:Nat,((s[k].toNat:Int)==(n:Int))=false->s[k].toNat≠n:=λn h h2=>by rw[h2]at h;simp at h
  by_cases hlt2:k+1<s.length
  ·have hd2:decide (((k+1:Nat):Int)≥s.length)=false:=by simp;omega
   have hg2:=A0B hlt2;have hc2:∀n:Nat,((s[k+1].toNat:Int)==(n:Int))=true->s[k+1].toNat=n:=λn h=>by have:=A1T.1 h;omega
   have hc3:∀n:Nat,((s[k+1].toNat:Int)==(n:Int))=false->s[k+1].toNat≠n:=λn h h2=>by rw[h2]at h;simp at h
   have ne0:=P5 c (c+1) 0 (by omega);have hap:=B7c (X:=Sym.nil.upd 0 D3t) hno (λi hi=>(ho i hi).2) (by omega);repeat'((with_reducible first|apply wr|apply wb2<;>(intro hb;try simp only[hb]))<;>try simp only[go_sem,seval,hd,hg,hw,hcv,hlt0,hd2,hg2,hw2,hap,hH0])
   ·rw[E6 (v:=W5 9 i) rfl];refine A1 ?_;rw[A6b hg (hc0 34 (by assumption)),quR,if_pos (C6w hb)]
   ·rw[E6 (v:=.tup [.agg [I64 4,.str acc,I64 0,I64 i],I64 ((k+1:Nat):Int),I64 0]) rfl];refine A1 ?_;rw[A6b hg (hc0 34 (by assumption)),quR,if_neg (B2l hb)]
   ·rw[E6 (v:=W5 48 i) rfl];refine A1 ?_;rw[B4s hg (hc1 34 (by assumption)) (.inl (by have:=of_decide_eq_true hb;omega))];rfl
   ·rw[E6 (v:=W5 48 i) rfl];refine A1 ?_;rw[B4s hg (hc1 34 (by assumption)) (.inr (by have:=of_decide_eq_true hb;omega))];rfl
   ·rw[E6 (v:=W5 48 i) rfl];refine A1 ?_;rw[C2z hg (hc0 92 (by assumption)) (λd hd=>by
     rw[hg2]at hd;cases hd;exact⟨D7k (b:=34) (by assumption),D7k (b:=92) hb⟩)];rfl
   ·have hq:=C9r (acc:=acc) hg (hc0 92 (by assumption)) hg2 (.inr (E3t (b:=92) hb));exact⟨(k+2,some (c+1),acc++[s[k+1]]),⟨by simp only[A0A,A0K];rfl,rfl⟩,A9j (λj q=>A9h h1c) (λi hi=>A9g (by have:=ho i hi;omega)) rfl,inv ⟨by omega,by simp only;omega,by simp;omega,by simp only;omega,(λh=>by cases h),(λi hi=>by cases hi;omega),hq⟩,by simp only;omega⟩
   ·have hq:=C9r (acc:=acc) hg (hc0 92 (by assumption)) hg2 (.inl (E3t (b:=34) hb));exact⟨(k+2,some (c+1),acc++[s[k+1]]),⟨by simp only[A0A,A0K];rfl,rfl⟩,A9j (λj q=>A9h h1c) (λi hi=>A9g (by have:=ho i hi;omega)) rfl,inv ⟨by omega,by simp only;omega,by simp;omega,by simp only;omega,(λh=>by cases h),(λi hi=>by cases hi;omega),hq⟩,by simp only;omega⟩
   ·have hq:=C3a (acc:=acc) hg (hc1 34 (by assumption)) (by have:=of_decide_eq_false (by assumption:decide (((s[k].toNat:Int))<32)=false);omega) (by have:=of_decide_eq_false (by assumption:decide (((s[k].toNat:Int))>126)=false);omega) (hc1 92 (by assumption));exact⟨(k+1,some (c+1),acc++[s[k]]),⟨by simp only[A0A,A0K];rfl,rfl⟩,A9j (λj q=>A9h h1c) (λi hi=>A9g (by have:=ho i hi;omega)) rfl,inv ⟨by omega,by simp only;omega,by simp;omega,by simp only;omega,(λh=>by cases h),(λi hi=>by cases hi;omega),hq⟩,by simp only;omega⟩
  ·have hd2:decide (((k+1:Nat):Int)≥s.length)=true:=by simp;omega
   have ne0:=P5 c (c+1) 0 (by omega);have hap:=B7c (X:=Sym.nil.upd 0 D3t) hno (λi hi=>(ho i hi).2) (by omega);repeat'((with_reducible first|apply wr|apply wb2<;>(intro hb;try simp only[hb]))<;>try simp only[go_sem,seval,hd,hg,hw,hcv,hlt0,hd2,hap,hH0])
   ·rw[E6 (v:=W5 9 i) rfl];refine A1 ?_;rw[A6b hg (hc0 34 (by assumption)),quR,if_pos (C6w hb)]
   ·rw[E6 (v:=.tup [.agg [I64 4,.str acc,I64 0,I64 i],I64 ((k+1:Nat):Int),I64 0]) rfl];refine A1 ?_;rw[A6b hg (hc0 34 (by assumption)),quR,if_neg (B2l hb)]
   ·rw[E6 (v:=W5 48 i) rfl];refine A1 ?_;rw[B4s hg (hc1 34 (by assumption)) (.inl (by have:=of_decide_eq_true hb;omega))];rfl
   ·rw[E6 (v:=W5 48 i) rfl];refine A1 ?_;rw[B4s hg (hc1 34 (by assumption)) (.inr (by have:=of_decide_eq_true hb;omega))];rfl
   ·rw[E6 (v:=W5 48 i) rfl];refine A1 ?_;rw[C2z hg (hc0 92 (by assumption)) (λd hd=>by rw[A2Q (by omega)]at hd;cases hd)];rfl
   ·have hq:=C3a (acc:=acc) hg (hc1 34 (by assumption)) (by have:=of_decide_eq_false (by assumption:decide (((s[k].toNat:Int))<32)=false);omega) (by have:=of_decide_eq_false (by assumption:decide (((s[k].toNat:Int))>126)=false);omega) (hc1 92 (by assumption));exact⟨(k+1,some (c+1),acc++[s[k]]),⟨by simp only[A0A,A0K];rfl,rfl⟩,A9j (λj q=>A9h h1c) (λi hi=>A9g (by have:=ho i hi;omega)) rfl,inv ⟨by omega,by simp only;omega,by simp;omega,by simp only;omega,(λh=>by cases h),(λi hi=>by cases hi;omega),hq⟩,by simp only;omega⟩
 ·have hd:=dfz hlt;have ne0:=W9 c 0 (by omega);repeat'(apply wr<;>try simp only[go_sem,seval,hd,hH0])
  rw[E6 (v:=W5 48 i) rfl];refine A1 ?_;rw[E1f (by omega)];rfl
theorem c_oneR(s:List UInt8)(hs:s.length<=100000)(i:Nat)(hi:i<s.length):PC Tryz.prog 85 [.str s,I64 i] (nxR (C9 (s.drop i)) i):=by
 refine PC.ofT A2 rfl (A0H rfl) rfl (C0l _ _) ?_;have hg:=A0B hi;have hlt:=c_letterR s[i];have hdg:=c_digitR s[i];obtain⟨k,t,v,p,n,e,hsh⟩:=C6f (C9 (s.drop i)) i;by_cases hl:ltB s[i]=true
 ·have hw:=c_wordR s (by omega) i hi hl;rw[hsh]at hw ⊢;repeat'((with_reducible first|apply wr|refine cpc hlt ?_|refine cpc hw ?_)<;>try simp only[go_sem,seval,hl,hg])
  rw[E6 (v:=.tup [.agg [I64 k,.str t,I64 v,I64 p],I64 n,I64 e]) rfl];exact A1 rfl
 have hl0:ltB s[i]=false:=by simpa using hl
 by_cases hd:dgB s[i]=true
 ·have hw:=c_numberR s (by omega) i hi hl0 hd;rw[hsh]at hw ⊢;repeat'((with_reducible first|apply wr|refine cpc hlt ?_|refine cpc hdg ?_|refine cpc hw ?_)<;>try simp only[go_sem,seval,hl0,hd,hg])
  rw[E6 (v:=.tup [.agg [I64 k,.str t,I64 v,I64 p],I64 n,I64 e]) rfl];exact A1 rfl
 have hd0:dgB s[i]=false:=by simpa using hd
 by_cases hq:s[i].toNat=34
 ·have hw:=c_quotedR s hs i hi;rw[C9s hg hl0 hd0 hq,hsh]at hw;rw[hsh];have hb34:((s[i].toNat:Int)==34)=true:=by rw[hq];rfl
  repeat'((with_reducible first|apply wr|refine cpc hlt ?_|refine cpc hdg ?_|refine cpc hw ?_)<;>try simp only[go_sem,seval,hl0,hd0,hg,hb34])
  rw[E6 (v:=.tup [.agg [I64 k,.str t,I64 v,I64 p],I64 n,I64 e]) rfl];exact A1 rfl
 clear hsh;have hb34:((s[i].toNat:Int)==34)=false:=by simpa using (λh=>hq (by omega))
 have hM:C9 (s.drop i)=if Q5 (s.drop i)=0 then nxE 47 else⟨5,(s.drop i).take (Q5 (s.drop i)),0,Q5 (s.drop i),0⟩:=by
  have hdr:=O1 hg;have:∀r,s.drop i=s[i]::r->C9 (s.drop i)=if Q5 (s.drop i)=0 then nxE 47 else⟨5,(s.drop i).take (Q5 (s.drop i)),0,Q5 (s.drop i),0⟩:=by
   intro r e;rw[e,C9,if_neg hl,if_neg hd,if_neg hq]
  exact this _ hdr
 rw[hM];have hsg:=c_signsR;repeat'((with_reducible first|apply wr|refine cpc hlt ?_|refine cpc hdg ?_|refine cpc hsg ?_)<;>try simp only[go_sem,seval,hl0,hd0,hg,hb34])
 have hlen:R5.length=21:=rfl;refine A6 (λk:Nat=>[(0,.str s),(1,I64 i),(4,.ptr 0 0),(8,.lst (R5.map DV.str)),(9,I64 k)]) (λ_=>Sym.nil.upd 0 ⟨0,true,[I64 0,.str [],I64 0,I64 0]⟩) (λk _=>k<=R5.length/\∀j,j<k->A7p (R5.getD j []) (s.drop i)=false) (λk=>R5.length-k) 0 (by simp[B7,tm,Tm.upd]) (Sub.refl _) (by simp) ?_;rintro k c ⟨hk,he⟩;by_cases hkl:k<R5.length
 ·have hd:decide ((k:Int)<R5.length)=true:=by simpa using hkl
  have hgk:=A0B hkl;have hget:R5.getD k []=R5[k]:=by rw[A1K,hgk];rfl
  have hw:IntKind.i64.wrap ((k:Int)+1)=((k+1:Nat):Int):=by rw[w6z];omega
  obtain⟨L,hL⟩:∃L,L=R5[k]:=⟨_,rfl⟩;rw[<- hL]at hgk hget;have hLl:1<=L.length/\L.length<=2:=by
   have:∀x∈R5,1<=x.length/\x.length<=2:=by decide
   rw[hL];exact this _ (A0L hkl)
  have hw1:IntKind.i64.wrap ((s.length:Int)-i)=((s.length-i:Nat):Int):=by rw[w6z];omega
  have hw2:IntKind.i64.wrap ((i:Int)+L.length)=((i+L.length:Nat):Int):=by rw[w6z];omega
  have hnext:A7p L (s.drop i)=false->B9k (λk _=>k<=R5.length/\∀j,j<k->A7p (R5.getD j []) (s.drop i)=false) (k+1) c:=λh=>inv ⟨hkl,λj hj=>by
   by_cases e:j=k
   ·rw[e,hget];exact h
   ·exact he j (by omega)⟩
  by_cases hln:L.length<=s.length-i
  ·have hd2:decide (((s.length-i:Nat):Int)≥L.length)=true:=by simp only[A0I];omega
   have hsx:=B6r (s:=s) (i:=i) (n:=L.length) (by omega);have hpr:A7p L (s.drop i)=((s.drop i).take L.length==L):=by
    unfold A7p;rw[decide_eq_true (by rw[A2M];exact hln),A2E]
   repeat'((with_reducible first|apply wr|apply wb2<;>(intro hb;try simp only[hb]))<;>try simp only[go_sem,seval,hd,hgk,hw,hw1,hw2,hd2,hsx])
   ·have hp:=hpr.trans hb;have:=C5u (s:=s.drop i) (k:=k) (by omega) he (by rw[hget];exact hp);rw[hget]at this;rw[E6 (v:=okN 5 L 0 i L.length) rfl];refine A1 ?_;rw[this.1,iN,B0r, <- this.2]
   ·exact⟨k+1,rfl,Sub.refl _,hnext (hpr.trans hb),by omega⟩
  ·have hd2:decide (((s.length-i:Nat):Int)≥L.length)=false:=by simp only[A1U];omega
   repeat'(apply wr<;>try simp only[go_sem,seval,hd,hgk,hw,hw1,hd2])
   exact⟨k+1,rfl,Sub.refl _,hnext (by unfold A7p;rw[decide_eq_false (by rw[A2M];exact hln),Bool.false_and]),by omega⟩
 ·have hd:decide ((k:Int)<R5.length)=false:=by simpa using hkl
  repeat'(apply wr<;>try simp only[go_sem,seval,hd])
  rw[E6 (v:=W5 47 i) rfl];refine A1 ?_;rw[if_pos (C9d λj hj=>he j (by omega)),A9p (by decide)]
theorem c_ScanR(s:List UInt8)(hs:s.length<=1000000000):PC Tryz.prog 40 [.str s] (C9i (J0 s)):=by
 refine PC.ofT A2 rfl (A0H rfl) rfl (C9h _) ?_;have hsk:=c_skipR s hs 0 (by omega);rw[A3O,A1J]at hsk;by_cases h20:20000<s.length
 ·have hd0:decide ((s.length:Int)>20000)=true:=by simp;omega
  have hM:J0 s=([],0,9):=if_pos h20;rw[hM];repeat'(apply wr<;>try simp only[go_sem,seval,hd0])
  exact B6u
 have hd0:decide ((s.length:Int)>20000)=false:=by simp;omega
 have hM:J0 s=R6 (s.length+1) s (skM false s) []:=if_neg h20;rw[hM];have hle0:=A1t false s;repeat'((with_reducible first|apply wr|refine cpc hsk ?_)<;>try simp only[go_sem,seval,hd0])
 refine A6 (λq:Nat × Nat × Option Nat × List Tok=>[(0,.str s),(5,todoV q.2.2.1 q.2.2.2.length),(6,I64 q.2.1)]) (λq=>optH Sym.nil q.2.2.1 ⟨4,true,cellsL (q.2.2.2.map Tok.v)⟩)
  (λq c=>q.2.1<=s.length/\s.length<q.1+q.2.1/\q.2.2.2.length<=q.2.1/\(q.2.2.1=none->q.2.2.2=[])/\(∀i,q.2.2.1=some i->i<c)/\R6 (s.length+1) s (skM false s) []=R6 q.1 s q.2.1 q.2.2.2) (λq=>q.1) (s.length+1,skM false s,none,[])
  (by simp[B7,tm,Tm.upd,todoV]) (Sub.nil _) ⟨by simp only;omega,by simp only;omega,by simp,λ_=>rfl,(λi hi=>by cases hi),rfl⟩ ?_
 rintro⟨f,at_,o,acc⟩ c ⟨h1,hf,hal,hno,ho,he⟩;simp only at h1 hf hal hno ho he;simp only;rw[he];by_cases hlt:at_<s.length
 ·have hd:=dtz hlt;have hnx:=c_oneR s (by omega) at_ hlt;obtain⟨f,rfl⟩:∃g,f=g+1:=⟨f-1,by omega⟩;by_cases hz:(C9 (s.drop at_)).err=0
  ·have hn:=B5d hz;rw[A2M]at hn;have hst:R6 (f+1) s at_ acc=R6 f s (at_+(C9 (s.drop at_)).n+skM false (s.drop (at_+(C9 (s.drop at_)).n))) (acc++[⟨(C9 (s.drop at_)).kind,(C9 (s.drop at_)).text,(C9 (s.drop at_)).value,(at_:Int)⟩]):=by
    rw[R6,iN,if_neg (by simpa using hz)]
   rw[hst];obtain⟨x,hx⟩:∃x,x=C9 (s.drop at_):=⟨_,rfl⟩;rw[<- hx]at hnx hz hn ⊢;rw[nxR,if_pos hz,okN]at hnx;have hsk2:=c_skipR s hs (at_+x.n) (by omega);have hkl:=A1t false (s.drop (at_+x.n));rw[A2M]at hkl;obtain⟨z,hzz⟩:∃z,z=skM false (s.drop (at_+x.n)):=⟨_,rfl⟩;rw[<- hzz]at hsk2 hkl ⊢;have ne0:=P5 c (c+1) (c+2) (by omega);repeat'((with_reducible first|apply wr|refine cpc hnx ?_)<;>try simp only[go_sem,seval,hd])
   refine F6 (D4 (cs:=cellsL (acc.map Tok.v)) (λe=>by rw[hno e];exact⟨rfl,rfl⟩) (λi hi=>?_) (by rw[C1 (u:=4) (E9 _)];simp) (by omega) (by omega) (by omega)) ?_
   ·have:=ho i hi;rw[hnO,hnO,hnO];exact A2x hi
   simp only[go_sem,seval];repeat'((with_reducible first|apply wr|refine cpc hsk2 ?_)<;>try simp only[go_sem,seval])
   exact⟨(f,at_+x.n+z,some (c+1+1),acc++[⟨x.kind,x.text,x.value,(at_:Int)⟩]),⟨by simp only[A0A,A0K];rfl,rfl⟩,
    A1s (by simp only[A0T,C2];rfl),inv ⟨by simp only;omega,by simp only;omega,by simp only[A0A,A0K];omega,(λh=>by cases h),(λi hi=>by cases hi;omega),rfl⟩,by simp only;omega⟩
  ·have hst:R6 (f+1) s at_ acc=([],(at_:Int),(C9 (s.drop at_)).err):=by
    rw[R6,iN,if_pos hz]
   rw[hst];obtain⟨x,hx⟩:∃x,x=C9 (s.drop at_):=⟨_,rfl⟩;rw[<- hx]at hnx hz ⊢;rw[nxR,if_neg hz,W5]at hnx;have hz':(x.err != 0)=true:=by simpa using hz
   have ne0:=W9 c (c+1) (by omega);repeat'((with_reducible first|apply wr|refine cpc hnx ?_)<;>try simp only[go_sem,seval,hd,hz'])
   exact B6u
 ·have hd:=dfz hlt;repeat'(apply wr<;>try simp only[go_sem,seval,hd])
  have hM2:R6 f s at_ acc=(acc,0,0):=by
   cases f with
   |zero=>rfl
   |succ f=>rw[R6,iP]
  rw[hM2];exact D0e (λe=>by rw[hno e];rfl) (by simp) (E9 acc)
theorem c_IsNameR(s:List UInt8)(hs:s.length<=1000000000):PC Tryz.prog 121 [.str s] (.bool (D7 s)):=by
 refine PC.go A2 ?_;have hw:=c_IsWordR s;cases s with
 |nil =>
  repeat'(apply wr<;>try simp only[go_sem,seval])
  exact A1 rfl
 |cons c r =>
  have hx:C1b (DV.str (c::r)) (.int .i64 0)=some (.int .u8 (c.toNat:Int)):=rfl;have hlt:=c_letterR c;have hd1:decide (((r.length+1:Nat):Int)<1)=false:=by simp;omega
  have hN:D7 (c::r)=(decide ((r.length+1)<=12)&&ltB c&&decide (E1 ptB (c::r)=r.length+1) && !I6 (c::r)):=by
   simp[D7]
  rw[hN];have hN2:∀b:Bool,decide (((r.length+1:Nat):Int)>12)=b->decide ((r.length+1)<=12) = !b:=by
   intro b hb;subst hb;rw[A2G];simp;omega
  obtain⟨dd,hdd⟩:∃dd,dd=decide ((r.length+1)<=12):=⟨_,rfl⟩;rw[<- hdd]at hN2 ⊢;obtain⟨ee,hee⟩:∃ee,ee=decide (E1 ptB (c::r)=r.length+1):=⟨_,rfl⟩;rw[<- hee];obtain⟨ff,hff⟩:∃ff,ff=I6 (c::r):=⟨_,rfl⟩;rw[<- hff]at hw ⊢;repeat'((with_reducible first|apply wr|refine cpc hw ?_|refine cpc hlt ?_|apply wb2<;>(intro hb;try simp only[hb]))<;>try simp only[go_sem,seval,hx,hd1])
  ·refine A1 (congrArg DV.bool ?_);rw[hN2 _ hb];rfl
  ·refine A1 (congrArg DV.bool ?_);have:ltB c=false:=by simpa using hb
   rw[this];simp
  ·refine A1 (congrArg DV.bool ?_);simp
  ·have hN3:=hN2 _ (by assumption);have hl:ltB c=true:=by simpa using (by assumption:(!ltB c)=false)
   rw[hN3,hl];refine A6 (λk:Nat=>[(0,.str (c::r)),(3,I64 k)]) (λ_=>nil) (λk _=>k<=(c::r).length/\k<=E1 ptB (c::r)) (λk=>(c::r).length-k) 0 (by simp[B7,tm,Tm.upd]) (Sub.nil _) (by simp) ?_;rintro k cc ⟨hk,he⟩;have hsl:=A0l ptB (c::r);have hS:(c::r).length=r.length+1:=rfl;by_cases hlt2:k<(c::r).length
   ·have hd:decide ((k:Int)<((r.length+1:Nat):Int))=true:=by simp only[A0I];omega
    have hg:=A0B hlt2;have hw:IntKind.i64.wrap ((k:Int)+1)=((k+1:Nat):Int):=by rw[w6z];omega
    have hst:=A9n hg he;obtain⟨x,hxx⟩:∃x,x=(c::r)[k]:=⟨_,rfl⟩;rw[<- hxx]at hg hst;have h1:=c_letterR x;have h2:=c_digitR x;obtain⟨L,hL⟩:∃L,L=c::r:=⟨_,rfl⟩;have hd3:decide ((k:Int)<(L.length:Int))=true:=by rw[hL];exact hd
    rw[<- hL]at hg hst hk he hsl hee ⊢;by_cases hp:ptB x=true
    ·have hgo:∃b,DV.int IntKind.i64 ((k+1:Nat):Int)=I64 ((b:Nat):Int)/\Sym.Sub Sym.nil Sym.nil/\B9k (λk _=>k<=L.length/\k<=E1 ptB L) b cc/\L.length-b<L.length-k :=
      ⟨k+1,rfl,Sub.refl _,inv ⟨by rw[hL];exact hlt2,hst.1 hp⟩,by rw[hL];omega⟩
     simp only[ptB,A1H,A0I]at hp;repeat'((with_reducible first|apply wr|refine cpc h1 ?_|refine cpc h2 ?_|apply wb2<;>(intro hb;try simp only[hb]))<;>try simp only[go_sem,seval,hd3,hg,hw])
     ·exfalso;have p1:ltB x=false:=by simpa using (by assumption:(!ltB x)=true)
      have p2:dgB x=false:=by simpa using (by assumption:(!dgB x)=true)
      have p3:=D7k (b:=95) hb;rw[p1,p2]at hp;rcases hp with (hp|hp)|hp
      ·cases hp
      ·cases hp
      ·exact p3 hp
     ·exact hgo
     ·exact hgo
     ·exact hgo
    ·have hp':ptB x=false:=by simpa using hp
     have hj:=hst.2 hp';simp only[ptB,Bool.or_eq_false_iff,A1U]at hp';obtain⟨⟨q1,q2⟩,q3⟩:=hp';have q4:((x.toNat:Int) != 95)=true:=by simp;omega
     repeat'((with_reducible first|apply wr|refine cpc h1 ?_|refine cpc h2 ?_)<;>try simp only[go_sem,seval,hd3,hg,q1,q2,q4])
     refine A1 (congrArg DV.bool ?_);rw[hee,hj,decide_eq_false];have:L.length=r.length+1:=by rw[hL];rfl
     have:k<L.length:=by rw[hL];exact hlt2
     omega
   ·have hd:decide ((k:Int)<((r.length+1:Nat):Int))=false:=by simp only[A1U];omega
    repeat'(apply wr<;>try simp only[go_sem,seval,hd])
    refine A1 (congrArg DV.bool ?_);rw[hee,decide_eq_true (by omega)]
theorem c_Dec:∀(m:Nat) (n:Int),n.natAbs<m -> -9223372036854775808<=n->n<=9223372036854775807->PC Tryz.prog 39 [I64 n] (.str (A2s n)):=by
 intro m
 induction m with
 |zero=>intro n h;omega
 |succ m ih =>
  intro n h h1 h2;have b:=E3i (d:=V6 n) (C4f n);have hl:=C4f n;by_cases h0:n<0
  ·have hd:decide (n<0)=true:=by simpa using h0
   have e1:=D5q h0;have e2:=D5p h0;have hh:=C4o (n:=n) (by omega);have w1:=w64 (n := -((A0j n:Nat):Int));have w2:=w64 (n:=0 - -((V6 n:Nat):Int));have w3:0 - -((V6 n:Nat):Int)=(V6 n:Int):=by omega
   rw[w3]at w2;have hlen:=B1r (n := -((A0j n:Nat):Int)) (by omega) (by omega);have a0:=T3 (s:=A2s (-((A0j n:Nat):Int))) (t:=[A2r (V6 n)]) (by simp;omega);have a2:A2o (nil.upd 5 ⟨1,true,[DV.int .u8 ((A2r (V6 n)).toNat:Int)]⟩) (.slc 5 0 1)=some (.str [A2r (V6 n)]):=B1s A0 rfl rfl;have a1:=T3 (s:=[45]) (t:=[A2r (V6 n)]) (by simp);refine PC.go A2 ?_;repeat'((first|(with_reducible first|apply wr|refine cpc (ih (-((A0j n:Nat):Int)) (by omega) (by omega) (by omega)) ?_)|(with_reducible apply wb2<;>(intro hb;try simp only[hb]))|((with_reducible refine D1i (B1s (l:=[A2r (V6 n)]) A0 rfl rfl) ?_)))<;>try simp only[go_sem,seval,hd,B2x,D7y,e1,e2,w1,w3,w2,b,a0,a1,a2])
   ·rw[C7k h0 (by simpa using hb)];exact A1 rfl
   ·rw[D3h h0 (by simpa using hb)];exact A1 rfl
  ·have hd:decide (n<0)=false:=by simpa using h0
   have e1:=D5g (n:=n) (by omega);have e2:=D5f (n:=n) (by omega);have hh:A0j n<=n.natAbs:=by unfold A0j;omega
   have w1:=w64 (n:=((A0j n:Nat):Int));have hlen:=B1r (n:=((A0j n:Nat):Int)) (by omega) (by omega);have a0:=T3 (s:=A2s ((A0j n:Nat):Int)) (t:=[A2r (V6 n)]) (by simp;omega);by_cases h9:n<10
   ·have hd9:decide (n<10)=true:=by simpa using h9
    refine PC.go A2 ?_;repeat'((first|(with_reducible first|apply wr)|(with_reducible apply wb2<;>(intro hb;try simp only[hb]))|((with_reducible refine D1i (B1s (l:=[A2r (V6 n)]) A0 rfl rfl) ?_)))<;>try simp only[go_sem,seval,hd,hd9,B2x,e2,b])
    rw[D7a (by omega) h9];exact A1 rfl
   ·have hd9:decide (n<10)=false:=by simpa using h9
    have hh:=C4o (n:=n) (by omega);refine PC.go A2 ?_;repeat'((first|(with_reducible first|apply wr|refine cpc (ih ((A0j n:Nat):Int) (by omega) (by omega) (by omega)) ?_)|(with_reducible apply wb2<;>(intro hb;try simp only[hb]))|((with_reducible refine D1i (B1s (l:=[A2r (V6 n)]) A0 rfl rfl) ?_)))<;>try simp only[go_sem,seval,hd,hd9,B2x,D7y,e1,e2,w1,b,a0])
    rw[D7b h9];exact A1 rfl
theorem c_Dec'(n:Int)(h1 : -9223372036854775808<=n)(h2:n<=9223372036854775807):PC Tryz.prog 39 [I64 n] (.str (A2s n)):=c_Dec (n.natAbs+1) n (by omega) h1 h2
theorem D0g{H:Hp}{a b:DV}:∃H2,GL H [.tup [.agg [.snil,.snil],a,b]] H2 [.tup [.agg [.lst [],.lst []],a,b]] :=
 ⟨H,GL.view fun ρ vs hA=>M9 (λv h=>by
  obtain⟨b',rfl,k1,k2⟩:=h.tup_inv;refine .tup _ _ k1 λi x y hx hy=>?_
  match i with
  |0 =>
   cases hx;obtain⟨c',rfl,m1,m2⟩:=(k2 0 _ y rfl hy).agg_inv;refine .agg _ _ m1 λj x z hx hz=>?_
   match j with
   |0=>cases hx;exact(m2 0 _ z rfl hz).snil_lst
   |1=>cases hx;exact(m2 1 _ z rfl hz).snil_lst
   |_+2=>cases hx
  |1=>cases hx;exact k2 1 _ y rfl hy
  |2=>cases hx;exact k2 2 _ y rfl hy
  |_+3=>cases hx) vs hA⟩
theorem c_Parse(s:List UInt8)(hs:s.length<=1000000000):PC Tryz.prog 16 [.str s] (D5k (A1x s)):=by
 refine PC.ofT A2 rfl (A0H rfl) rfl (D5j _) ?_;have hsc:=c_ScanR s hs;have hpar:A1x s=A1x s:=rfl;by_cases h0:(J0 s).2.2=0
 ·have hd:((J0 s).2.2 != 0)=false:=by simpa using h0
  repeat'((with_reducible first|apply wr|refine cpc hsc ?_)<;>try simp only[go_sem,seval,hd])
  obtain⟨f,hf⟩:=(B0l (J0 s).1 s.length).get;refine AC.call (c_rules (J0 s).1 s.length (by have:=C2r h0;omega) (C9g h0) f rd0 _ hf (A0P _) _ _ 1 rfl (by decide)) ?_;rintro v H' c2 ⟨rfl,rfl⟩ hc2;have hM:A1x s=if okR (A0y (J0 s).1 s.length).2=false then(Ru0,(A0y (J0 s).1 s.length).2.pos,(A0y (J0 s).1 s.length).2.e) else((A0y (J0 s).1 s.length).1,0,0):=by
   unfold A1x;dsimp only;rw[if_neg (by simpa using h0)]
  rw[hM];generalize A0y (J0 s).1 s.length=w;clear hM hpar hf;have ne0:=P5 0 1 c2 (by omega);simp only[go_sem,seval,A0,A4];repeat'(apply wr<;>try simp only[go_sem,seval])
  refine AC.call (c_rdok (J0 s).1 s.length w.2 _ _ 1 (by rw[hnO];exact A0) (by omega)) ?_;rintro v H' c3 ⟨rfl,rfl⟩ hc3;cases hok:okR w.2 with
  |true =>
   rw[if_neg (by decide)];simp only[go_sem,seval];repeat'(apply wr<;>try simp only[go_sem,seval,ne0,A0])
   rw[E6 (v:=D5k (w.1,0,0)) rfl];exact⟨_,GL.refl _ _⟩
  |false =>
   rw[if_pos rfl];simp only[go_sem,seval];repeat'(apply wr<;>try simp only[go_sem,seval,ne0,A0])
   repeat refine⟨by and_intros<;>(repeat rw[hnO])<;>rfl,?_⟩
   repeat'(apply wr<;>try simp only[go_sem,seval])
   rw[E6 (v:=.tup [.agg [.snil,.snil],I64 w.2.pos,I64 w.2.e]) rfl];exact D0g
 ·have hd:((J0 s).2.2 != 0)=true:=by simpa using h0
  have hM:A1x s=(Ru0,(J0 s).2.1,(J0 s).2.2):=by
   unfold A1x;dsimp only;rw[if_pos h0]
  rw[hM];repeat'((with_reducible first|apply wr|refine cpc hsc ?_)<;>try simp only[go_sem,seval,hd])
  rw[E6 (v:=.tup [.agg [.snil,.snil],I64 (J0 s).2.1,I64 (J0 s).2.2]) rfl];exact D0g
open Go.Sym
abbrev x75:XT Tryz.prog 75:=mkF
instance t75:FT Tryz.prog 75 x75.d:=x75.ft
abbrev x76:XT Tryz.prog 76:=mkF
instance t76:FT Tryz.prog 76 x76.d:=x76.ft
abbrev x77:XT Tryz.prog 77:=mkF
instance t77:FT Tryz.prog 77 x77.d:=x77.ft
abbrev x177:XT Tryz.prog 177:=mkF
instance t177:FT Tryz.prog 177 x177.d:=x177.ft
abbrev x74:XT Tryz.prog 74:=mkF
instance t74:FT Tryz.prog 74 x74.d:=x74.ft
abbrev x249:XT Tryz.prog 249:=mkF
instance t249:FT Tryz.prog 249 x249.d:=x249.ft
abbrev x228:XT Tryz.prog 228:=mkF
instance t228:FT Tryz.prog 228 x228.d:=x228.ft
abbrev x175:XT Tryz.prog 175:=mkF
instance t175:FT Tryz.prog 175 x175.d:=x175.ft
abbrev x79:XT Tryz.prog 79:=mkF
instance t79:FT Tryz.prog 79 x79.d:=x79.ft
abbrev x122:XT Tryz.prog 122:=mkF
instance t122:FT Tryz.prog 122 x122.d:=x122.ft
abbrev x73:XT Tryz.prog 73:=mkF
instance t73:FT Tryz.prog 73 x73.d:=x73.ft
abbrev x33:XT Tryz.prog 33:=mkF
instance t33:FT Tryz.prog 33 x33.d:=x33.ft
abbrev x32:XT Tryz.prog 32:=mkF
instance t32:FT Tryz.prog 32 x32.d:=x32.ft
abbrev x71:XT Tryz.prog 71:=mkF
instance t71:FT Tryz.prog 71 x71.d:=x71.ft
abbrev x30:XT Tryz.prog 30:=mkF
instance t30:FT Tryz.prog 30 x30.d:=x30.ft
abbrev x9:XT Tryz.prog 9:=mkF
instance t9:FT Tryz.prog 9 x9.d:=x9.ft
abbrev x227:XT Tryz.prog 227:=mkF
instance t227:FT Tryz.prog 227 x227.d:=x227.ft
abbrev x173:XT Tryz.prog 173:=mkF
instance t173:FT Tryz.prog 173 x173.d:=x173.ft
abbrev x119:XT Tryz.prog 119:=mkF
instance t119:FT Tryz.prog 119 x119.d:=x119.ft
abbrev x72:XT Tryz.prog 72:=mkF (i:=⟨135,.seq (.reg [oX 2 0,oX 3 1,oV 4 (.bool false)]) (.seq (.seq (.reg [oF 12 2 0,oL 13 12,oH 14 13,oF 15 3 0,oL 16 15,oH 17 16,oB 18 14 17 .neq,oM 19 18,hF 20 2 1 19,hL 21 20 19,oR 22 (.len (.t 21)) 19,hF 23 3 1 19,hL 24 23 19,oR 25 (.len (.t 24)) 19,oR 26 (.bin .neq (.t 22) (.t 25)) 19,oO 27 19 26]) (.cond (.t 27) (.seq (.reg [oV 4 (.bool false)]) .ret) .skip)) (.seq (.seq (.reg [oI 5 0]) (.blk 0 (.loop (.seq (.seq (.reg [oM 28 5,oF 29 2 0,oL 30 29,oH 31 30,oB 32 28 31 .lss]) (.cond (.t 32) .skip (.exit 0))) (.seq (.blk 1 (.seq (.drw 11 (dQ [oF 35 2 0,oL 36 35,oM 37 5,oA 38 36 37 4,oD 39 38 4,oF 40 3 0,oL 41 40,oM 42 5,oA 43 41 42 4,oD 44 43 4,oP 45 (.eqa true [0,2,0,0] (.t 39) (.t 44))] 0)) (.cond (.t 45) (.seq (.reg [oV 4 (.bool false)]) .ret) .skip))) (.reg [oM 33 5,oK 34 33 .add 1,oM 5 34])))))) (.seq (.seq (.reg [oI 6 0]) (.blk 2 (.loop (.seq (.seq (.reg [oM 46 6,oF 47 2 1,oL 48 47,oH 49 48,oB 50 46 49 .lss]) (.cond (.t 50) .skip (.exit 2))) (.seq (.blk 3 (.seq (.drw 14 ⟨[oF 53 2 1,oL 54 53,oM 55 6,oA 56 54 55 4,oD 57 56 4,oF 58 3 1,oL 59 58,oM 60 6,oA 61 59 60 4,oD 62 61 4,oW 7 (.agg #[.string ⟨#[]⟩,.int .i64 0,.slice none 0 0,.int .i64 0]),oW 8 (.agg #[.string ⟨#[]⟩,.int .i64 0,.slice none 0 0,.int .i64 0]),oS 7 57 4,oS 8 62 4],[],[(0,none),(1,none),(2,none),(3,none),(4,none),(5,none),(6,none),(7,none),(8,none),(9,none),(10,none),(11,none),(12,some [5,6,7,8,9]),(13,some [])]⟩) (.seq (.seq (.reg [oF 63 7 0,oL 64 63,oF 65 8 0,oL 66 65,oB 67 64 66 .neq,oM 68 67,hF 69 7 1 68,hL 70 69 68,hF 71 8 1 68,hL 72 71 68,oR 73 (.bin .neq (.t 70) (.t 72)) 68,oO 74 68 73,oM 75 74,hF 76 7 3 75,hL 77 76 75,hF 78 8 3 75,hL 79 78 75,oR 80 (.bin .neq (.t 77) (.t 79)) 75,oO 81 75 80,oM 82 81,hF 83 7 2 82,hL 84 83 82,oR 85 (.len (.t 84)) 82,hF 86 8 2 82,hL 87 86 82,oR 88 (.len (.t 87)) 82,oR 89 (.bin .neq (.t 85) (.t 88)) 82,oO 90 82 89]) (.cond (.t 90) (.seq (.reg [oV 4 (.bool false)]) .ret) .skip)) (.seq (.reg [oI 9 0]) (.blk 4 (.loop (.seq (.seq (.reg [oM 91 9,oF 92 7 2,oL 93 92,oH 94 93,oB 95 91 94 .lss]) (.cond (.t 95) .skip (.exit 4))) (.seq (.blk 5 (.seq (.drw 14 ⟨[oF 98 7 2,oL 99 98,oM 100 9,oA 101 99 100 4,oD 102 101 4,oF 103 8 2,oL 104 103,oM 105 9,oA 106 104 105 4,oD 107 106 4,oW 10 (.agg #[.int .i64 0,.string ⟨#[]⟩,.slice none 0 0,.int .i64 0]),oW 11 (.agg #[.int .i64 0,.string ⟨#[]⟩,.slice none 0 0,.int .i64 0]),oS 10 102 4,oS 11 107 4],[],[(0,none),(1,none),(2,none),(3,none),(4,none),(5,none),(6,none),(7,none),(8,none),(9,none),(10,none),(11,none),(12,some [5,6,7,8,9]),(13,some [])]⟩) (.seq (.reg [oF 108 10 0,oL 109 108,oF 110 11 0,oL 111 110,oB 112 109 111 .neq,oM 113 112,hF 114 10 1 113,hL 115 114 113,hF 116 11 1 113,hL 117 116 113,oR 118 (.bin .neq (.t 115) (.t 117)) 113,oO 119 113 118,oM 120 119,hF 121 10 3 120,hL 122 121 120,hF 123 11 3 120,hL 124 123 120,oR 125 (.bin .neq (.t 122) (.t 124)) 120,oO 126 120 125,oM 127 126,hF 128 10 2 127,hL 129 128 127,hF 130 11 2 127,hL 131 130 127,⟨some 132,.call 119 [.t 129,.t 131],some (127,false)⟩,oR 133 (.un .not (.t 132)) 127,oO 134 127 133]) (.cond (.t 134) (.seq (.reg [oV 4 (.bool false)]) .ret) .skip)))) (.reg [oM 96 9,oK 97 96 .add 1,oM 9 97]))))))))) (.reg [oM 51 6,oK 52 51 .add 1,oM 6 52])))))) (.seq (.reg [oV 4 (.bool true)]) .ret)))),[.tmp 4]⟩) (by unfold L1;kernel_rfl) (λh=>by conv=>lhs;cbv)
instance t72:FT Tryz.prog 72 x72.d:=x72.ft
theorem A3v{k v p:Int}{x:List UInt8}:∃H2,GL (nil.upd 0 ⟨4,true,[I64 k,.str x,I64 v,I64 p]⟩) [.slc 0 0 1] H2 [C7 [⟨k,x,v,p⟩]] :=
 O3 rfl rfl rfl (E9 _) ⟨[],rfl⟩
theorem A6c{o:Option Nat}{xs:List DV}{u n:Nat}(hno:o=none->xs=[])(hl:xs.length=n)(hu:∀x∈xs,x.cells.length=u):
  ∃H2,GL (optH Sym.nil o ⟨u,true,cellsL xs⟩) [todoV o n] H2 [.lst xs]:=by
 cases o with
 |none=>rw[hno rfl];exact C3m
 |some i=>exact O3 (id:=i) A0 rfl hl hu ⟨[],by simp⟩
theorem c_named(s:List UInt8)(hs:s.length<=1000000000):PC Tryz.prog 76 [.str s] (C7 (D6 s)):=by
 refine PC.go A2 ?_;have h1:=c_IsNameR s hs;unfold D6;cases h:D7 s with
 |true =>
  rw[if_neg (by decide)];repeat'((with_reducible first|apply wr|refine cpc h1 ?_)<;>try simp only[go_sem,seval,h])
  exact A3v
 |false =>
  rw[if_pos rfl];repeat'((with_reducible first|apply wr|refine cpc h1 ?_)<;>try simp only[go_sem,seval,h])
  exact A3v
theorem c_number31(n:Int):PC Tryz.prog 77 [I64 n] (C7 (V3 n)):=by
 refine PC.go A2 ?_;unfold V3;by_cases h0:n<0
 ·have hd:decide (n<0)=true:=by simpa using h0
  rw[if_pos (.inl h0)];repeat'(apply wr<;>try simp only[go_sem,seval,hd])
  exact A3v
 ·have hd:decide (n<0)=false:=by simpa using h0
  by_cases h1:2147483647<n
  ·have hd1:decide (n>2147483647)=true:=by simpa using h1
   rw[if_pos (.inr h1)];repeat'(apply wr<;>try simp only[go_sem,seval,hd,hd1])
   exact A3v
  ·have hd1:decide (n>2147483647)=false:=by simpa using h1
   rw[iN];repeat'(apply wr<;>try simp only[go_sem,seval,hd,hd1])
   exact A3v
theorem c_words1(l:List (List UInt8))(hl:l.length<=1000000)(hx:∀x∈l,x.length<=1000000000):PC Tryz.prog 75 [A4s l] (C7 (l.map A3)):=by
 refine PC.ofT A2 rfl (A0H rfl) (by simp[DV.nlL,DV.nl,J6]) (M6 _) ?_;repeat'(apply wr<;>try simp only[go_sem,seval])
 refine A6 (λq:Nat × Option Nat=>[(0,A4s l),(3,todoV q.2 q.1),(4,I64 q.1)]) (λq=>optH Sym.nil q.2 ⟨4,true,cellsL (((l.take q.1).map A3).map Tok.v)⟩)
  (λq c=>q.1<=l.length/\(q.2=none->q.1=0)/\(∀i,q.2=some i->i<c)) (λq=>l.length-q.1) (0,none)
  (by simp[B7,tm,Tm.upd,todoV]) (Sub.nil _) ⟨A0P _,λ_=>rfl,(λi hi=>by cases hi)⟩ ?_
 rintro⟨k,o⟩ c ⟨hk,hno,ho⟩;dsimp only at hk hno ho ⊢;by_cases hlt:k<l.length
 ·have hd:=dtz hlt;have hg:=A0B hlt;have hx1:=hx _ (A0L hlt);have hw:=w64 (n:=(k:Int)+1);have e0:(l.take (k+1)).map A3=(l.take k).map A3++[A3 l[k]]:=by rw[A0R,hg,A0T];rfl
  generalize l[k]=x at hg hx1 e0;have h1:=c_IsWordR x;have h2:=c_IsNameR x (by omega);have ne0:=W9 c (c+1) (by omega);have hln:(cellsL (((l.take k).map A3).map Tok.v)).length=k*4:=(C1 (u:=4) (E9 _)).trans (by rw[A0C,A0C,A0Y,Nat.min_eq_left hk]);cases hw1:I6 x with
  |true =>
   repeat'((with_reducible first|apply wr|refine cpc h1 ?_)<;>try simp only[go_sem,seval,hd,hg,hw1,A0,A4])
   refine F6 (D4 (cs:=cellsL (((l.take k).map A3).map Tok.v)) (λe=>by have:=hno e;subst this;exact⟨rfl,rfl⟩) (λi hi=>by have:=ho i hi;rw[hnO,hnO];exact A2x hi) hln (by omega) (by omega) (by omega)) ?_;simp only[go_sem,seval];repeat'(apply wr<;>try simp only[go_sem,seval,hw])
   refine⟨(k+1,some (c+1+1)),by simp[todoV],?_,inv ⟨by omega,(λh=>by cases h),(λi hi=>by cases hi;omega)⟩,by simp only;omega⟩;dsimp only[optH];rw[e0,A0T,C2];refine A1s ?_;unfold A3;simp only[hw1,if_true];rfl
  |false =>
   cases hn1:D7 x with
   |true =>
    repeat'((with_reducible first|apply wr|refine cpc h1 ?_|refine cpc h2 ?_)<;>try simp only[go_sem,seval,hd,hg,hw1,hn1,A0,A4])
    refine F6 (D4 (cs:=cellsL (((l.take k).map A3).map Tok.v)) (λe=>by have:=hno e;subst this;exact⟨rfl,rfl⟩) (λi hi=>by have:=ho i hi;rw[hnO,hnO];exact A2x hi) hln (by omega) (by omega) (by omega)) ?_;simp only[go_sem,seval];repeat'(apply wr<;>try simp only[go_sem,seval,hw])
    refine⟨(k+1,some (c+1+1)),by simp[todoV],?_,inv ⟨by omega,(λh=>by cases h),(λi hi=>by cases hi;omega)⟩,by simp only;omega⟩;dsimp only[optH];rw[e0,A0T,C2];refine A1s ?_;unfold A3;simp only[hw1,hn1,if_true,if_false,A1R];rfl
   |false =>
    repeat'((with_reducible first|apply wr|refine cpc h1 ?_|refine cpc h2 ?_)<;>try simp only[go_sem,seval,hd,hg,hw1,hn1,A0,A4])
    refine F6 (D4 (cs:=cellsL (((l.take k).map A3).map Tok.v)) (λe=>by have:=hno e;subst this;exact⟨rfl,rfl⟩) (λi hi=>by have:=ho i hi;rw[hnO,hnO];exact A2x hi) hln (by omega) (by omega) (by omega)) ?_;simp only[go_sem,seval];repeat'(apply wr<;>try simp only[go_sem,seval,hw])
    refine⟨(k+1,some (c+1+1)),by simp[todoV],?_,inv ⟨by omega,(λh=>by cases h),(λi hi=>by cases hi;omega)⟩,by simp only;omega⟩;dsimp only[optH];rw[e0,A0T,C2];refine A1s ?_;unfold A3;simp only[hw1,hn1,if_false,A1R];rfl
 ·have hd:=dfz hlt;repeat'(apply wr<;>try simp only[go_sem,seval,hd])
  rw[A0M (by omega)];exact A6c (λe=>by rw[A2A (l:=l) (by have:=hno e;omega)];rfl) (by simp;omega) (E9 _)
theorem c_join1(l:List (List Tok))(hl:l.length<=1000)(hx:∀x∈l,1<=x.length/\x.length<=1000000000):PC Tryz.prog 74 [.lst (l.map C7)] (C7 l.flatten):=by
 refine PC.ofT A2 rfl (A0H rfl) (by simp only[DV.nlL,DV.nl,L3 (f:=C7) (λa=>M6 a),A2H]) (M6 _) ?_;repeat'(apply wr<;>try simp only[go_sem,seval])
 refine A6 (λq:Nat × Option Nat=>[(0,.lst (l.map C7)),(3,todoV q.2 (l.take q.1).flatten.length),(4,I64 q.1)]) (λq=>optH Sym.nil q.2 ⟨4,true,cellsL ((l.take q.1).flatten.map Tok.v)⟩)
  (λq c=>q.1<=l.length/\(q.2=none->q.1=0)/\(∀i,q.2=some i->i<c)/\(l.take q.1).flatten.length<=1000000000*q.1) (λq=>l.length-q.1) (0,none)
  (by simp[B7,tm,Tm.upd,todoV]) (Sub.nil _) ⟨A0P _,λ_=>rfl,(λi hi=>by cases hi),by simp⟩ ?_
 rintro⟨k,o⟩ c ⟨hk,hno,ho,hlen⟩;dsimp only at hk hno ho hlen ⊢;by_cases hlt:k<l.length
 ·have hd:=dtz hlt;have hg:=A0B hlt;obtain⟨hx1,hx2⟩:=hx _ (A0L hlt);have hw:=w64 (n:=(k:Int)+1);have e0:(l.take (k+1)).flatten=(l.take k).flatten++l[k]:=by rw[A0R,hg,A2U];simp
  generalize l[k]=x at hg hx1 hx2 e0;generalize hy:(l.take k).flatten=y at hlen e0 ⊢;have hun:unit 4 (x.map Tok.v)=true:=by unfold unit;rw[A0S];intro d hd;simp[E9 x d hd]
  have hny:o=none->y=[]:=λe=>by rw[<- hy,hno e];rfl
  have hln:(cellsL (y.map Tok.v)).length=y.length*4:=(C1 (u:=4) (E9 _)).trans (by simp);repeat'(apply wr<;>try simp only[go_sem,seval,hd,hg,R7 hun])
  refine F6 (D4 (cs:=cellsL (y.map Tok.v)) (λe=>by rw[hny e];exact⟨rfl,rfl⟩) (λi hi=>A2x hi) hln (by omega) (by omega) (by omega)) ?_;simp only[go_sem,seval];repeat'(apply wr<;>try simp only[go_sem,seval,hw])
  refine⟨(k+1,some c),by simp[todoV,e0],?_,inv ⟨by omega,(λh=>by cases h),(λi hi=>by cases hi;omega),by simp only;rw[e0,A0A];omega⟩,by simp only;omega⟩;dsimp only[optH];rw[e0,A0T,C2];exact A1s rfl
 ·have hd:=dfz hlt;repeat'(apply wr<;>try simp only[go_sem,seval,hd])
  rw[A0M (by omega)];exact A6c (λe=>by rw[A2A (l:=l) (by have:=hno e;omega)];rfl) (by rw[A0C]) (E9 _)
theorem U4{H:Hp}{i j:Nat}:delO H (some i) j=if j=i then none else H j:=_root_.id rfl
theorem D3g{H:Hp}{i:Nat}{b:Blk}:delO (H.upd i b) (some i)=delO H (some i):=by
 funext j;rw[U4,U4];split
 ·rfl
 ·rename_i h;rw[h_ne h]
theorem D6y{H:Hp}{i k:Nat}{b:Blk}(h:¬k=i):delO (H.upd k b) (some i)=(delO H (some i)).upd k b:=by
 funext j;rw[U4]
 by_cases e:j=k
 ·subst e;rw[A0,if_neg h,A0]
 ·rw[h_ne e,h_ne e,U4]
theorem D6z{i:Nat}:delO nil (some i)=nil:=by
 funext j;rw[U4];split<;>rfl
theorem E2b{ks:List Nat}{H:Hp}{i:Nat}(h:ks.all (λk=>k != i)=true):L2 ks H (delO (H6 H ks) (some i))=delO H (some i):=by
 have hi:i ∉ ks:=λhm=>by simpa using A0S.1 h i hm
 funext j
 simp only[L2,U4,H6];by_cases e:j=i
 ·subst e;rw[if_neg hi,if_pos rfl,if_pos rfl]
 ·by_cases e2:j∈ks
  ·rw[if_pos e2,if_neg e]
  ·rw[if_neg e2,if_neg e,if_neg e,if_neg e2]
attribute [go_sem] D3g D6y D6z
theorem D5x{k i:Nat}{H:Hp}(h:¬k=i):L2 [k] H (delO (H6 H [k]) (some i))=delO H (some i):=E2b (by simpa using h)
attribute [go_sem] D5x
theorem A1f{f:Nat}{xs:List DV}{r:DV}{u id n cc:Nat}{H:Hp}{cs:List DV}(h:PC Tryz.prog f [.lst xs] r)(hb:H id=some ⟨u,true,cs⟩)(hcs:cs=cellsL xs)(hl:xs.length=n)(hu:∀x∈xs,x.cells.length=u):
  AC Tryz.prog f [.slc id 0 n] H cc (λv H' c'=>v=r/\H'=delO H (some id)/\c'=cc) :=
 AC.ghost (GL.frzS (id:=id) hb rfl (λj=>by
  by_cases e:j=id
  ·subst e;exact .inl (by rw[U4,if_pos rfl])
  ·exact .inr ⟨e,by rw[U4,if_neg e]⟩) (.cons _ _ _ _ (P6 hl hu ⟨[],by rw[hcs];simp⟩) .nil)) (h.at _ cc)
def wT(x:List UInt8):List Tok:=[A3 x]
theorem A1o(x:List UInt8):1<=(wT x).length/\(wT x).length<=1000000000:=⟨A0E _,by show 1<=_;omega⟩
theorem wd1{x:List UInt8}{id cc:Nat}{H:Hp}(hb:H id=some ⟨1,true,[.str x]⟩)(hx:x.length<=1000000000):
  AC Tryz.prog 75 [.slc id 0 1] H cc (λv H' c'=>v=C7 (wT x)/\H'=delO H (some id)/\c'=cc) :=
 A1f (xs:=[.str x]) (c_words1 [x] (by simp) (by simpa using hx)) hb rfl rfl (P7 [x])
theorem wd2{x y:List UInt8}{id cc:Nat}{H:Hp}(hb:H id=some ⟨1,true,[.str x,.str y]⟩)(hx:x.length<=1000000000)(hy:y.length<=1000000000):
  AC Tryz.prog 75 [.slc id 0 2] H cc (λv H' c'=>v=C7 [A3 x,A3 y]/\H'=delO H (some id)/\c'=cc) :=
 A1f (xs:=[.str x,.str y]) (c_words1 [x,y] (by simp) (by simp[hx,hy])) hb rfl rfl (P7 [x,y])
theorem A5v(l:List (List Tok)):∀x∈l.map C7,x.cells.length=1:=λx hx=>by obtain⟨y, -,rfl⟩:=A1B.1 hx;rfl
theorem jn2{a b:List Tok}{id cc:Nat}{H:Hp}(hH:H id=some ⟨1,true,[C7 a,C7 b]⟩)(ha:1<=a.length/\a.length<=1000000000)(hb:1<=b.length/\b.length<=1000000000):
  AC Tryz.prog 74 [.slc id 0 2] H cc (λv H' c'=>v=C7 (a++b)/\H'=delO H (some id)/\c'=cc):=by
 have:=A1f (id:=id) (cc:=cc) (H:=H) (u:=1) (n:=2) (c_join1 [a,b] (by simp) (by simp[ha,hb])) hH rfl rfl (A5v [a,b])
 rwa [A1M,A1M,A2N,A0X]at this
theorem jn3{a b c:List Tok}{id cc:Nat}{H:Hp}(hH:H id=some ⟨1,true,[C7 a,C7 b,C7 c]⟩)(ha:1<=a.length/\a.length<=1000000000)(hb:1<=b.length/\b.length<=1000000000)(hc:1<=c.length/\c.length<=1000000000):
  AC Tryz.prog 74 [.slc id 0 3] H cc (λv H' c'=>v=C7 (a++b++c)/\H'=delO H (some id)/\c'=cc):=by
 have:=A1f (id:=id) (cc:=cc) (H:=H) (u:=1) (n:=3) (c_join1 [a,b,c] (by simp) (by simp[ha,hb,hc])) hH rfl rfl (A5v [a,b,c])
 rwa [A1M,A1M,A1M,A2N,A0X, <- A0Q]at this
theorem C0m(x:List UInt8):1<=(D6 x).length/\(D6 x).length<=1000000000:=by rw[B6];omega
theorem c_operand(e:Ex)(n:Int)(hT:(exT e).length<=100000000)(h:PC Tryz.prog 228 [e.v] (C7 (exT e))):PC Tryz.prog 249 [e.v,I64 n] (C7 (F0 (e.kind,exT e) n)):=by
 refine PC.ofT A2 rfl (A0H rfl) (by simp[DV.nlL,DV.nl,Ex.nl]) (M6 _) ?_;rw[Ex.v_w]at h ⊢;have hlv:=c_level e.kind;obtain⟨hl1, -⟩:=A4b e;obtain⟨R,hR⟩:∃R,R=C7 (F0 (e.kind,exT e) n):=⟨_,rfl⟩;rw[<- hR];unfold F0 at hR;dsimp only at hR;generalize exT e=T at h hT hl1 hR;by_cases hlt:B0 e.kind<n
 ·have hd:decide (B0 e.kind<n)=true:=by simpa using hlt
  rw[if_pos hlt]at hR;repeat'((first|(with_reducible first|apply wr|refine cpc hlv ?_|refine cpc h ?_)|(with_reducible apply wb2<;>(intro hb;try simp only[hb]))|(refine ca3 (wd1 rfl (by decide)) ?_)|(refine ca3 (jn3 rfl (A1o _) ⟨hl1,by omega⟩ (A1o _)) ?_))<;>try simp only[go_sem,seval,hd])
  exact⟨_,by rw[hR];exact GL.refl _ _⟩
 ·have hd:decide (B0 e.kind<n)=false:=by simpa using hlt
  rw[if_neg hlt]at hR;repeat'((with_reducible first|apply wr|refine cpc hlv ?_|refine cpc h ?_)<;>try simp only[go_sem,seval,hd])
  exact⟨_,by rw[hR];exact GL.refl _ _⟩
theorem C9o{sz:Nat}{xs:List DV}{k:IntKind}:A0i sz (.lst xs) (.int k 1)=C6s sz xs[1]? := C0d (l:=1)
theorem c_exprT:∀(m:Nat) (e:Ex),e.sz<m->e.sz<=10000000->PC Tryz.prog 228 [e.v] (C7 (exT e)):=by
 intro m
 induction m with
 |zero=>intro e h;omega
 |succ m ih =>
 intro e hm hB;have ihx:∀x∈e.args,PC Tryz.prog 228 [x.v] (C7 (exT x)):=λx hx=>ih x (by have:=Ex.sz_arg hx;omega) (by have:=Ex.sz_arg hx;omega);have hop:∀x∈e.args, ∀n,PC Tryz.prog 249 [x.v,I64 n] (C7 (F0 (x.kind,exT x) n)):=λx hx n=>c_operand x n (by have:=(A4b x).2;have:=Ex.sz_arg hx;omega) (ihx x hx);have hle:∀x∈e.args, ∀n,1<=(F0 (x.kind,exT x) n).length/\(F0 (x.kind,exT x) n).length<=1000000000:=λx hx n=>by
  have h1:=A4b x;have h2:=Ex.sz_arg hx;have h3:=A3w (x.kind,exT x) n;dsimp only at h3;omega
 clear ih ihx;obtain⟨R,hR⟩:∃R,R=C7 (exT e):=⟨_,rfl⟩;have hnm:=e.sz_name;refine PC.ofT A2 rfl (A0H rfl) (by simp[DV.nlL,Ex.nl]) (M6 _) ?_;rw[Ex.v_w, <- hR];cases e with|mk k v n a p =>
 rw[exT,A6v]at hR;dsimp only[Ex.w,Ex.kind,Ex.value,Ex.name,Ex.args,Ex.pos]at hop hle hnm ⊢;unfold L7 at hR;dsimp only at hR;have hlv:=c_level k;have hnu:=c_number31 v;have hna:=c_named n (by omega);by_cases h1:k=1
 ·subst h1;rw[if_pos rfl]at hR;repeat'((with_reducible first|apply wr|refine cpc hlv ?_|refine cpc hnu ?_)<;>try simp only[go_sem,seval])
  exact⟨_,by rw[hR];exact GL.refl _ _⟩
 have d1:(k==1)=false:=by simpa using h1
 rw[if_neg h1]at hR;by_cases h2:k=2
 ·subst h2;rw[if_pos rfl]at hR;repeat'((with_reducible first|apply wr|refine cpc hlv ?_|refine cpc hna ?_)<;>try simp only[go_sem,seval])
  exact⟨_,by rw[hR];exact GL.refl _ _⟩
 have d2:(k==2)=false:=by simpa using h2
 rw[if_neg h2]at hR;by_cases h3:k=3
 ·subst h3;rw[if_pos rfl]at hR;repeat'((first|(with_reducible first|apply wr|refine cpc hlv ?_)|(with_reducible apply wb2<;>(intro hb;try simp only[hb]))|(refine ca3 (wd1 rfl (by decide)) ?_))<;>try simp only[go_sem,seval])
  exact⟨_,by rw[hR];exact GL.refl _ _⟩
 have d3:(k==3)=false:=by simpa using h3
 rw[if_neg h3]at hR;by_cases h4:k=4
 ·subst h4;rw[if_pos rfl]at hR;repeat'((first|(with_reducible first|apply wr|refine cpc hlv ?_)|(with_reducible apply wb2<;>(intro hb;try simp only[hb]))|(refine ca3 (wd1 rfl (by decide)) ?_))<;>try simp only[go_sem,seval])
  exact⟨_,by rw[hR];exact GL.refl _ _⟩
 have d4:(k==4)=false:=by simpa using h4
 rw[if_neg h4]at hR;by_cases h8:k=8
 ·subst h8;rw[if_pos rfl]at hR;repeat'((first|(with_reducible first|apply wr|refine cpc hlv ?_)|(with_reducible apply wb2<;>(intro hb;try simp only[hb]))|(refine ca3 (wd1 rfl (by decide)) ?_))<;>try simp only[go_sem,seval])
  exact⟨_,by rw[hR];exact GL.refl _ _⟩
 have d8:(k==8)=false:=by simpa using h8
 rw[if_neg h8]at hR;by_cases h9:k=9
 ·subst h9;rw[if_pos rfl]at hR;repeat'((first|(with_reducible first|apply wr|refine cpc hlv ?_)|(with_reducible apply wb2<;>(intro hb;try simp only[hb]))|(refine ca3 (wd1 rfl (by decide)) ?_))<;>try simp only[go_sem,seval])
  exact⟨_,by rw[hR];exact GL.refl _ _⟩
 have d9:(k==9)=false:=by simpa using h9
 rw[if_neg h9]at hR;by_cases h5:k=5
 ·subst h5;rw[if_pos rfl]at hR;repeat'((first|(with_reducible first|apply wr|refine cpc hlv ?_|refine cpc hna ?_)|(with_reducible apply wb2<;>(intro hb;try simp only[hb]))|(refine ca3 (wd1 rfl (by decide)) ?_)|(refine ca3 (jn2 rfl (A1o _) (C0m _)) ?_))<;>try simp only[go_sem,seval])
  exact⟨_,by rw[hR];exact GL.refl _ _⟩
 have d5:(k==5)=false:=by simpa using h5
 rw[if_neg h5]at hR;by_cases h6:k=6
 ·subst h6;rw[if_pos rfl]at hR;repeat'((first|(with_reducible first|apply wr|refine cpc hlv ?_|refine cpc hna ?_)|(with_reducible apply wb2<;>(intro hb;try simp only[hb]))|(refine ca3 (wd1 rfl (by decide)) ?_)|(refine ca3 (jn2 rfl (A1o _) (C0m _)) ?_))<;>try simp only[go_sem,seval])
  exact⟨_,by rw[hR];exact GL.refl _ _⟩
 have d6:(k==6)=false:=by simpa using h6
 rw[if_neg h6]at hR;by_cases h7:k=7
 ·subst h7;rw[if_pos rfl]at hR;repeat'((first|(with_reducible first|apply wr|refine cpc hlv ?_|refine cpc hna ?_)|(with_reducible apply wb2<;>(intro hb;try simp only[hb]))|(refine ca3 (wd1 rfl (by decide)) ?_)|(refine ca3 (jn2 rfl (A1o _) (C0m _)) ?_))<;>try simp only[go_sem,seval])
  exact⟨_,by rw[hR];exact GL.refl _ _⟩
 have d7:(k==7)=false:=by simpa using h7
 rw[if_neg h7]at hR;have hbad:∀q:List Tok,R=C7 q->q=[Y9]->∃H2,GL ((nil.upd 0 ⟨0,true,[I64 k,I64 v,.str n,H9 a,I64 p]⟩).upd 1 ⟨4,true,[I64 0,.str [],I64 0,I64 0]⟩) [.slc 1 0 1] H2 [R]:=λq h1 h2=>by
  rw[h1,h2];exact O3 (id:=1) A0 rfl rfl (E9 [Y9]) ⟨[],rfl⟩
 have w0:IntKind.i64.wrap 0=0:=by decide
 have w1:IntKind.i64.wrap 1=1:=by decide
 match a with
 |[] =>
  have e1:((0:Int)==1)=false:=rfl;have e2:((0:Int)==2)=false:=rfl;try dsimp only[List.map_nil]at hR
  by_cases l6:B0 k=6
  ·have m6:(B0 k==6)=true:=by simpa using l6
   have m5:decide (B0 k<6)=false:=by simp;omega
   repeat'((with_reducible first|apply wr|refine cpc hlv ?_)<;>try simp only[go_sem,seval,d1,d2,d3,d4,d8,d9,d5,d6,d7,m6,m5,A0O,List.map_nil])
   exact hbad _ hR rfl
  ·have m6:(B0 k==6)=false:=by simpa using l6
   by_cases l5:B0 k<6
   ·have m5:decide (B0 k<6)=true:=by simpa using l5
    repeat'((with_reducible first|apply wr|refine cpc hlv ?_)<;>try simp only[go_sem,seval,d1,d2,d3,d4,d8,d9,d5,d6,d7,m6,m5,A0O,List.map_nil])
    exact hbad _ hR rfl
   ·have m5:decide (B0 k<6)=false:=by simpa using l5
    repeat'((with_reducible first|apply wr|refine cpc hlv ?_)<;>try simp only[go_sem,seval,d1,d2,d3,d4,d8,d9,d5,d6,d7,m6,m5,A0O,List.map_nil])
    exact hbad _ hR rfl
 |[x] =>
  have hx:=λn=>by have:=hop x A0J n;rwa [Ex.v_w]at this
  have hxl:=hle x A0J;simp only[A0W,List.map_nil]at hR;by_cases l6:B0 k=6
  ·have m6:(B0 k==6)=true:=by simpa using l6
   rw[if_pos l6]at hR;have hk:k=10\/k=11:=by
    unfold B0 at l6;repeat' split at l6
    all_goals omega
   rcases hk with rfl|rfl
   ·rw[if_pos rfl]at hR;repeat'((first|(with_reducible first|apply wr|refine cpc hlv ?_|refine cpc (hx 6) ?_)|(with_reducible apply wb2<;>(intro hb;try simp only[hb]))|(refine ca3 (wd1 rfl (by decide)) ?_)|(refine ca3 (jn2 rfl (A1o _) (hxl 6)) ?_))<;>try simp only[go_sem,seval,d1,d2,d3,d4,d8,d9,d5,d6,d7,m6,w0,w1,Ex.v_w])
    exact⟨_,by rw[hR];exact GL.refl _ _⟩
   ·rw[if_neg (by decide)]at hR;repeat'((first|(with_reducible first|apply wr|refine cpc hlv ?_|refine cpc (hx 6) ?_)|(with_reducible apply wb2<;>(intro hb;try simp only[hb]))|(refine ca3 (wd1 rfl (by decide)) ?_)|(refine ca3 (jn2 rfl (A1o _) (hxl 6)) ?_))<;>try simp only[go_sem,seval,d1,d2,d3,d4,d8,d9,d5,d6,d7,m6,w0,w1,Ex.v_w])
    exact⟨_,by rw[hR];exact GL.refl _ _⟩
  ·have m6:(B0 k==6)=false:=by simpa using l6
   rw[if_neg l6]at hR;by_cases l5:B0 k<6
   ·have m5:decide (B0 k<6)=true:=by simpa using l5
    repeat'((with_reducible first|apply wr|refine cpc hlv ?_)<;>try simp only[go_sem,seval,d1,d2,d3,d4,d8,d9,d5,d6,d7,m6,m5])
    exact hbad _ hR rfl
   ·have m5:decide (B0 k<6)=false:=by simpa using l5
    repeat'((with_reducible first|apply wr|refine cpc hlv ?_)<;>try simp only[go_sem,seval,d1,d2,d3,d4,d8,d9,d5,d6,d7,m6,m5])
    exact hbad _ hR rfl
 |[x,y] =>
  have hx:=λn=>by have:=hop x A0J n;rwa [Ex.v_w]at this
  have hxl:=hle x A0J;have hy:=λn=>by have:=hop y (A0G _ A0J) n;rwa [Ex.v_w]at this
  have hyl:=hle y (A0G _ A0J);simp only[A0W,List.map_nil]at hR;by_cases l5:B0 k<6
  ·have m5:decide (B0 k<6)=true:=by simpa using l5
   have m6:(B0 k==6)=false:=by simp;omega
   rw[if_pos l5]at hR;obtain⟨k1,k2⟩:=B5g (k:=k) (by omega);have k3:12<=k:=by
    apply Classical.byContradiction;intro hc;have:k=10\/k=11:=by omega
    rw[A6l this]at l5;omega
   obtain⟨j,hj⟩:∃j:Nat,k=12+(j:Int):=⟨(k-12).toNat,by omega⟩;have hjw:IntKind.i64.wrap (k-12)=(j:Int):=by rw[w6z];omega
   have hjn:(k-12).toNat=j:=by omega
   rw[hjn]at hR;have hj13:j<13:=by omega
   have hgj:E0[j]? = some (E0.getD j []):=by
    rw[A1K,A0B (show j<E0.length from hj13)];rfl
   have hsl:(E0.getD j []).length<=1000000000:=by
    have:∀i:Nat,i<13->(E0.getD i []).length<=1000000000:=by decide
    exact this j hj13
   generalize E0.getD j []=S at hR hgj hsl;have hw1:IntKind.i64.wrap (B0 k+1)=B0 k+1:=w64 (by have:=Y8 k;omega) (by have:=Y8 k;omega);by_cases l3:B0 k=3
   ·have m3:(B0 k==3)=true:=by simpa using l3
    rw[if_pos l3]at hR;repeat'((first|(with_reducible first|apply wr|refine cpc hlv ?_|refine cpc (hx 4) ?_|refine cpc c_signs31 ?_|refine cpc (hy (B0 k+1)) ?_)|(with_reducible apply wb2<;>(intro hb;try simp only[hb]))|(refine ca3 (wd1 rfl hsl) ?_)|(refine ca3 (jn3 rfl (hxl 4) (A1o _) (hyl (B0 k+1))) ?_))<;>try simp only[go_sem,seval,d1,d2,d3,d4,d8,d9,d5,d6,d7,m6,m5,m3,hjw,hgj,hw1,Ex.v_w,C9o,A2J,A3E])
    exact⟨_,by rw[hR];exact GL.refl _ _⟩
   ·have m3:(B0 k==3)=false:=by simpa using l3
    rw[if_neg l3]at hR;repeat'((first|(with_reducible first|apply wr|refine cpc hlv ?_|refine cpc (hx (B0 k)) ?_|refine cpc c_signs31 ?_|refine cpc (hy (B0 k+1)) ?_)|(with_reducible apply wb2<;>(intro hb;try simp only[hb]))|(refine ca3 (wd1 rfl hsl) ?_)|(refine ca3 (jn3 rfl (hxl (B0 k)) (A1o _) (hyl (B0 k+1))) ?_))<;>try simp only[go_sem,seval,d1,d2,d3,d4,d8,d9,d5,d6,d7,m6,m5,m3,hjw,hgj,hw1,Ex.v_w,C9o,A2J,A3E])
    exact⟨_,by rw[hR];exact GL.refl _ _⟩
  ·have m5:decide (B0 k<6)=false:=by simpa using l5
   rw[if_neg l5]at hR;by_cases l6:B0 k=6
   ·have m6:(B0 k==6)=true:=by simpa using l6
    repeat'((with_reducible first|apply wr|refine cpc hlv ?_)<;>try simp only[go_sem,seval,d1,d2,d3,d4,d8,d9,d5,d6,d7,m6,m5])
    exact hbad _ hR rfl
   ·have m6:(B0 k==6)=false:=by simpa using l6
    repeat'((with_reducible first|apply wr|refine cpc hlv ?_)<;>try simp only[go_sem,seval,d1,d2,d3,d4,d8,d9,d5,d6,d7,m6,m5])
    exact hbad _ hR rfl
 |x::y::z::l =>
  simp only[A0W]at hR;obtain⟨A,hA⟩:∃A,A=(x::y::z::l).map Ex.v:=⟨_,rfl⟩;have n1:((A.length:Int)==1)=false:=by rw[hA];simp;omega
  have n2:((A.length:Int)==2)=false:=by rw[hA];simp;omega
  have hex:H9 (x::y::z::l)=.lst A:=by rw[hA]
  rw[hex]at hbad ⊢;by_cases l6:B0 k=6
  ·have m6:(B0 k==6)=true:=by simpa using l6
   have m5:decide (B0 k<6)=false:=by simp;omega
   repeat'((with_reducible first|apply wr|refine cpc hlv ?_)<;>try simp only[go_sem,seval,d1,d2,d3,d4,d8,d9,d5,d6,d7,m6,m5,n1])
   exact hbad _ hR rfl
  ·have m6:(B0 k==6)=false:=by simpa using l6
   by_cases l5:B0 k<6
   ·have m5:decide (B0 k<6)=true:=by simpa using l5
    repeat'((with_reducible first|apply wr|refine cpc hlv ?_)<;>try simp only[go_sem,seval,d1,d2,d3,d4,d8,d9,d5,d6,d7,m6,m5,n2])
    exact hbad _ hR rfl
   ·have m5:decide (B0 k<6)=false:=by simpa using l5
    repeat'((with_reducible first|apply wr|refine cpc hlv ?_)<;>try simp only[go_sem,seval,d1,d2,d3,d4,d8,d9,d5,d6,d7,m6,m5])
    exact hbad _ hR rfl
end Go.Proofs.YtenmhfknbopmeaaGreatDoor
set_option maxHeartbeats 8000000
namespace Go.Proofs.YtenmhfknbopmeaaGreatDoor
open Go.Eng (IC IOper DReg IFn L1)
open Go.Sym Go.Pb
theorem lw(x:List UInt8):(wT x).length=1:=rfl
theorem jn4{a b c d:List Tok}{id cc:Nat}{H:Hp}(hH:H id=some ⟨1,true,[C7 a,C7 b,C7 c,C7 d]⟩)(ha:1<=a.length/\a.length<=1000000000)(hb:1<=b.length/\b.length<=1000000000)(hc:1<=c.length/\c.length<=1000000000)(hd:1<=d.length/\d.length<=1000000000):
  AC Tryz.prog 74 [.slc id 0 4] H cc (λv H' c'=>v=C7 (a++b++c++d)/\H'=delO H (some id)/\c'=cc):=by
 have:=A1f (id:=id) (cc:=cc) (H:=H) (u:=1) (n:=4) (c_join1 [a,b,c,d] (by simp) (by simp[ha,hb,hc,hd])) hH rfl rfl (A5v [a,b,c,d])
 rwa [A1M,A1M,A1M,A1M,A2N,A0X, <- A0Q, <- A0Q]at this
theorem jn5{a b c d e:List Tok}{id cc:Nat}{H:Hp}(hH:H id=some ⟨1,true,[C7 a,C7 b,C7 c,C7 d,C7 e]⟩)(ha:1<=a.length/\a.length<=1000000000)(hb:1<=b.length/\b.length<=1000000000)(hc:1<=c.length/\c.length<=1000000000)(hd:1<=d.length/\d.length<=1000000000)(he:1<=e.length/\e.length<=1000000000):
  AC Tryz.prog 74 [.slc id 0 5] H cc (λv H' c'=>v=C7 (a++b++c++d++e)/\H'=delO H (some id)/\c'=cc):=by
 have:=A1f (id:=id) (cc:=cc) (H:=H) (u:=1) (n:=5) (c_join1 [a,b,c,d,e] (by simp) (by simp[ha,hb,hc,hd,he])) hH rfl rfl (A5v [a,b,c,d,e])
 rwa [A1M,A1M,A1M,A1M,A1M,A2N,A0X, <- A0Q, <- A0Q, <- A0Q]at this
theorem jo2{a b:List Tok}{id cc:Nat}{H:Hp}(hH:H id=some ⟨1,true,[C7 a,C7 b]⟩)(ha:1<=a.length/\a.length<=1000000000:=by constructor<;>(try simp only[A0A,lw,B6,E5,F1])<;>omega)(hb:1<=b.length/\b.length<=1000000000:=by constructor<;>(try simp only[A0A,lw,B6,E5,F1])<;>omega):
  AC Tryz.prog 74 [.slc id 0 2] H cc (λv H' c'=>v=C7 (a++b)/\H'=delO H (some id)/\c'=cc):=jn2 hH ha hb
theorem jo3{a b c:List Tok}{id cc:Nat}{H:Hp}(hH:H id=some ⟨1,true,[C7 a,C7 b,C7 c]⟩)(ha:1<=a.length/\a.length<=1000000000:=by constructor<;>(try simp only[A0A,lw,B6,E5,F1])<;>omega)(hb:1<=b.length/\b.length<=1000000000:=by constructor<;>(try simp only[A0A,lw,B6,E5,F1])<;>omega)(hc:1<=c.length/\c.length<=1000000000:=by constructor<;>(try simp only[A0A,lw,B6,E5,F1])<;>omega):
  AC Tryz.prog 74 [.slc id 0 3] H cc (λv H' c'=>v=C7 (a++b++c)/\H'=delO H (some id)/\c'=cc):=jn3 hH ha hb hc
theorem jo4{a b c d:List Tok}{id cc:Nat}{H:Hp}(hH:H id=some ⟨1,true,[C7 a,C7 b,C7 c,C7 d]⟩)(ha:1<=a.length/\a.length<=1000000000:=by constructor<;>(try simp only[A0A,lw,B6,E5,F1])<;>omega)(hb:1<=b.length/\b.length<=1000000000:=by constructor<;>(try simp only[A0A,lw,B6,E5,F1])<;>omega)(hc:1<=c.length/\c.length<=1000000000:=by constructor<;>(try simp only[A0A,lw,B6,E5,F1])<;>omega)(hd:1<=d.length/\d.length<=1000000000:=by constructor<;>(try simp only[A0A,lw,B6,E5,F1])<;>omega):
  AC Tryz.prog 74 [.slc id 0 4] H cc (λv H' c'=>v=C7 (a++b++c++d)/\H'=delO H (some id)/\c'=cc):=jn4 hH ha hb hc hd
theorem jo5{a b c d e:List Tok}{id cc:Nat}{H:Hp}(hH:H id=some ⟨1,true,[C7 a,C7 b,C7 c,C7 d,C7 e]⟩)(ha:1<=a.length/\a.length<=1000000000:=by constructor<;>(try simp only[A0A,lw,B6,E5,F1])<;>omega)(hb:1<=b.length/\b.length<=1000000000:=by constructor<;>(try simp only[A0A,lw,B6,E5,F1])<;>omega)(hc:1<=c.length/\c.length<=1000000000:=by constructor<;>(try simp only[A0A,lw,B6,E5,F1])<;>omega)(hd:1<=d.length/\d.length<=1000000000:=by constructor<;>(try simp only[A0A,lw,B6,E5,F1])<;>omega)(he:1<=e.length/\e.length<=1000000000:=by constructor<;>(try simp only[A0A,lw,B6,E5,F1])<;>omega):
  AC Tryz.prog 74 [.slc id 0 5] H cc (λv H' c'=>v=C7 (a++b++c++d++e)/\H'=delO H (some id)/\c'=cc):=jn5 hH ha hb hc hd he
theorem wo1{x:List UInt8}{id cc:Nat}{H:Hp}(hb:H id=some ⟨1,true,[.str x]⟩)(hx:x.length<=1000000000:=by first|assumption|decide):
  AC Tryz.prog 75 [.slc id 0 1] H cc (λv H' c'=>v=C7 (wT x)/\H'=delO H (some id)/\c'=cc):=wd1 hb hx
theorem C5i(l:List Ex)(i:Nat)(hl:Ex.szs l<=10000000):1<=(agT l i).length/\(agT l i).length<=100000000:=by
 unfold agT;cases h:l[i]? with
 |none=>exact⟨A0E _,by decide⟩
 |some e =>
  have h1:=A4b e;have h2:=Ex.szs_mem (A0U h);dsimp only;omega
theorem c_arg(l:List Ex)(i:Nat)(hi:i<=5)(hl:Ex.szs l<=10000000):PC Tryz.prog 175 [H9 l,I64 i] (C7 (agT l i)):=by
 refine PC.ofT A2 rfl (A0H rfl) (by simp[DV.nlL,DV.nl,A2b]) (M6 _) ?_;unfold agT;cases h:l[i]? with
 |none =>
  have hlt:l.length<=i:=List.getElem?_eq_none_iff.1 h;have hd:decide ((i:Int)≥(l.length:Int))=true:=by simp;omega
  repeat'(apply wr<;>try simp only[go_sem,seval,hd,A0C])
  exact A3v
 |some e =>
  have hlt:=(A0N.1 h).1;have hd:decide ((i:Int)≥(l.length:Int))=false:=by simp;omega
  have he:=c_exprT (e.sz+1) e (by omega) (by have:=Ex.szs_mem (A0U h);omega);rw[Ex.v_w]at he;repeat'((with_reducible first|apply wr|refine cpc he ?_)<;>try simp only[go_sem,seval,hd,h,Ex.v_w,A0C])
  exact⟨_,GL.refl _ _⟩
theorem B4v{c:Nat}{k v p:Int}{x:List UInt8}:∃H2,GL (nil.upd c ⟨4,true,[I64 k,.str x,I64 v,I64 p]⟩) [.slc c 0 1] H2 [C7 [⟨k,x,v,p⟩]] :=
 O3 A0 rfl rfl (E9 _) ⟨[],rfl⟩
theorem c_text31(s:List UInt8)(hs:s.length<=1000000000):PC Tryz.prog 177 [.str s] (C7 (A2i s)):=by
 refine PC.ofT A2 rfl (A0H rfl) rfl (M6 _) ?_;unfold A2i;repeat'(apply wr<;>try simp only[go_sem,seval])
 refine A6 (λk:Nat=>[(0,.str s),(3,I64 k)]) (λ_=>Sym.nil) (λk c=>k<=s.length/\(s.take k).all txB=true) (λk=>s.length-k) 0 (by simp[B7,tm,Tm.upd]) (Sub.nil _) ⟨A0P _,rfl⟩ ?_;rintro k c ⟨hk,ha⟩;by_cases hlt:k<s.length
 ·have hd:=dtz hlt;have hg:=A0B hlt;have hw:=w64 (n:=(k:Int)+1);have e0:(s.take (k+1)).all txB=((s.take k).all txB&&txB s[k]):=by rw[A0R,hg,A3T];simp
  have e1:txB s[k]=false->s.all txB=false:=λh=>by
   cases hz:s.all txB with
   |false=>rfl
   |true=>rw[A0S]at hz;rw[hz _ (A0L hlt)]at h;cases h
  generalize s[k]=x at hg e0 e1;by_cases h1:x.toNat<32
  ·have hd1:decide ((x.toNat:Int)<32)=true:=by simp;omega
   rw[if_pos (.inl (e1 (by simp[txB];omega)))];repeat'(apply wr<;>try simp only[go_sem,seval,hd,hg,hd1])
   exact B4v
  ·have hd1:decide ((x.toNat:Int)<32)=false:=by simp;omega
   by_cases h2:126<x.toNat
   ·have hd2:decide ((x.toNat:Int)>126)=true:=by simp;omega
    rw[if_pos (.inl (e1 (by simp[txB];omega)))];repeat'(apply wr<;>try simp only[go_sem,seval,hd,hg,hd1,hd2])
    exact B4v
   ·have hd2:decide ((x.toNat:Int)>126)=false:=by simp;omega
    have e2:txB x=true:=by simp[txB];omega
    repeat'(apply wr<;>try simp only[go_sem,seval,hd,hg,hw,hd1,hd2])
    exact⟨k+1,by simp[],Sub.nil _,inv ⟨by omega,by rw[e0,ha,e2];rfl⟩,by omega⟩
 ·have hd:=dfz hlt;rw[A0M (by omega)]at ha;by_cases h3:32<s.length
  ·have hd3:decide ((s.length:Int)>32)=true:=by simp;omega
   rw[if_pos (.inr h3)];repeat'(apply wr<;>try simp only[go_sem,seval,hd,hd3])
   exact B4v
  ·have hd3:decide ((s.length:Int)>32)=false:=by simp;omega
   rw[if_neg (by rw[ha];simp;omega)];repeat'(apply wr<;>try simp only[go_sem,seval,hd,hd3])
   exact B4v
theorem D4n(x:Pb.St):Pb.St.szs [x]=x.sz:=by rw[Pb.St.szs,Pb.St.szs];omega
theorem c_stmtT(m:Nat)(ihs:∀x:Pb.St,x.sz<m->PC Tryz.prog 122 [x.v] (C7 (stT x)))(ihb:∀l:List Pb.St,Pb.St.szs l<m->PC Tryz.prog 79 [D5 l] (C7 (blT l)))
  (hlb:∀l:List Pb.St,Pb.St.szs l<m->1<=(blT l).length/\(blT l).length<=100000000) (hls:∀x:Pb.St,x.sz<m->1<=(stT x).length/\(stT x).length<=100000000)
  (s:Pb.St) (hm:s.sz<=m) (hB:s.sz<=10000000):PC Tryz.prog 122 [s.v] (C7 (stT s)):=by
 obtain⟨R,hR⟩:∃R,R=C7 (stT s):=⟨_,rfl⟩;have hnm:=s.sz_name;have htx:=s.sz_text;have hax:Ex.szs s.args<=10000000:=by cases s with|mk k n t a x y p=>rw[Pb.St.sz]at hB;show Ex.szs a<=_;omega
 have hxx:=s.sz_thn;have hyy:=s.sz_els;refine PC.ofT A2 rfl (A0H rfl) (by simp[DV.nlL,Pb.St.nl]) (M6 _) ?_;rw[Pb.St.v_w, <- hR];cases s with|mk k n t a x y p =>
 unfold stT at hR;dsimp only[Pb.St.w,Pb.St.kind,Pb.St.name,Pb.St.text,Pb.St.args,Pb.St.thn,Pb.St.els,Pb.St.pos]at hnm htx hax hxx hyy ⊢;have hna:=c_named n (by omega);have hte:=c_text31 t (by omega);have ha0:=c_arg a 0 (by decide) hax;have ha1:=c_arg a 1 (by decide) hax;have la0:=C5i a 0 hax;have la1:=C5i a 1 hax;rw[show((0:Nat):Int)=0 from rfl]at ha0;rw[show((1:Nat):Int)=1 from rfl]at ha1;have hbx:=ihb x (by omega);have hby:=ihb y (by omega);have lbx:=hlb x (by omega);have lby:=hlb y (by omega);by_cases h1:k=1
 ·subst h1;rw[if_pos rfl]at hR;repeat'((first|(with_reducible first|apply wr|refine cpc hna ?_|refine cpc ha0 ?_)|(with_reducible apply wb2<;>(intro hb;try simp only[hb]))|(refine ca3 (wo1 rfl) ?_)|(refine ca3 (jo2 rfl) ?_)|(refine ca3 (jo3 rfl) ?_)|(refine ca3 (jo4 rfl) ?_)|(refine ca3 (jo5 rfl) ?_))<;>try simp only[go_sem,seval])
  exact⟨_,by rw[hR];exact GL.refl _ _⟩
 rw[if_neg h1]at hR;have d1:(k==1)=false:=by simpa using h1
 by_cases hbk:k<2\/19<k
 ·rw[if_pos hbk]at hR;by_cases h2:k<2
  ·have d2:decide (k<2)=true:=by simpa using h2
   repeat'(apply wr<;>try simp only[go_sem,seval,d1,d2])
   rw[hR];exact O3 (id:=1) A0 rfl rfl (E9 [Y9]) ⟨[],rfl⟩
  ·have d2:decide (k<2)=false:=by simpa using h2
   have d3:decide (k>19)=true:=by simp;omega
   repeat'(apply wr<;>try simp only[go_sem,seval,d1,d2,d3])
   rw[hR];exact O3 (id:=1) A0 rfl rfl (E9 [Y9]) ⟨[],rfl⟩
 rw[if_neg hbk]at hR;have e2:decide (k<2)=false:=by simp;omega
 have e3:decide (k>19)=false:=by simp;omega
 dsimp only at hR;obtain⟨j,hj⟩:∃j:Nat,k=2+(j:Int):=⟨(k-2).toNat,by omega⟩;have hjw:IntKind.i64.wrap (k-2)=(j:Int):=by rw[w6z];omega
 have hjn:(k-2).toNat=j:=by omega
 rw[hjn]at hR;have hj18:j<18:=by omega
 have hgj:B9[j]? = some (B9.getD j []):=by
  rw[A1K,A0B (show j<B9.length from hj18)];rfl
 have hsl:(B9.getD j []).length<=1000000000:=by
  have:∀i:Nat,i<18->(B9.getD i []).length<=1000000000:=by decide
  exact this j hj18
 generalize B9.getD j []=S at hR hgj hsl;have dk:∀q:Int,¬k=q->(k==q)=false:=λq h=>by simpa using h
 repeat'((first|(with_reducible first|refine I4 (p:=IW _ _ (pz Tryz.prog 122 (.i (.o (.i (.o .h))))) _ _) ?_|refine wr ?_|refine cpc c_stmts31 ?_)|(with_reducible apply wb2<;>(intro hb;try simp only[hb]))|(refine ca3 (wo1 rfl) ?_))<;>try simp only[go_sem,seval,d1,e2,e3,hjw,hgj])
 unfold B2o;by_cases h2:k=2\/k=3
 ·rw[if_pos h2]at hR;have dd:(k==2)=true\/(k==2)=false/\(k==3)=true:=by
   rcases h2 with rfl|rfl
   ·exact .inl rfl
   ·exact .inr ⟨rfl,rfl⟩
  clear h2 hj hjn h1 hbk
  match y with
  |[] =>
   dsimp only at hR;rcases dd with d2|⟨d2,d3⟩
   ·repeat'((first|(with_reducible first|apply wr|refine cpc ha0 ?_|refine cpc hbx ?_)|(with_reducible apply wb2<;>(intro hb;try simp only[hb]))|(refine ca3 (wo1 rfl) ?_)|(refine ca3 (jo2 rfl) ?_)|(refine ca3 (jo3 rfl) ?_)|(refine ca3 (jo4 rfl) ?_)|(refine ca3 (jo5 rfl) ?_))<;>try simp only[go_sem,seval,d2,List.map_nil,A0O])
    exact⟨_,by rw[hR];exact GL.refl _ _⟩
   ·repeat'((first|(with_reducible first|apply wr|refine cpc ha0 ?_|refine cpc hbx ?_)|(with_reducible apply wb2<;>(intro hb;try simp only[hb]))|(refine ca3 (wo1 rfl) ?_)|(refine ca3 (jo2 rfl) ?_)|(refine ca3 (jo3 rfl) ?_)|(refine ca3 (jo4 rfl) ?_)|(refine ca3 (jo5 rfl) ?_))<;>try simp only[go_sem,seval,d2,d3,List.map_nil,A0O])
    exact⟨_,by rw[hR];exact GL.refl _ _⟩
  |[q] =>
   rw[D4n]at hyy;have hq:=ihs q (by omega);have lq:=hls q (by omega);rw[Pb.St.v_w]at hq;dsimp only at hR;have hone:blT [q]=wT [123]++stT q++wT [125]:=by unfold blT;rw[Q1,Q1,A0X];rfl
   have hby':=hby;rw[hone]at hby lby;by_cases hk2:q.kind=2
   ·rw[if_pos hk2]at hR;have m2:(q.kind==2)=true:=by simpa using hk2
    rcases dd with d2|⟨d2,d3⟩
    ·repeat'((first|(with_reducible first|apply wr|refine cpc ha0 ?_|refine cpc hbx ?_|refine cpc hq ?_)|(with_reducible apply wb2<;>(intro hb;try simp only[hb]))|(refine ca3 (wo1 rfl) ?_)|(refine ca3 (jo2 rfl) ?_)|(refine ca3 (jo3 rfl) ?_)|(refine ca3 (jo4 rfl) ?_)|(refine ca3 (jo5 rfl) ?_))<;>try simp only[go_sem,seval,d2,m2,Pb.St.v_w])
     exact⟨_,by rw[hR];exact GL.refl _ _⟩
    ·repeat'((first|(with_reducible first|apply wr|refine cpc ha0 ?_|refine cpc hbx ?_|refine cpc hq ?_)|(with_reducible apply wb2<;>(intro hb;try simp only[hb]))|(refine ca3 (wo1 rfl) ?_)|(refine ca3 (jo2 rfl) ?_)|(refine ca3 (jo3 rfl) ?_)|(refine ca3 (jo4 rfl) ?_)|(refine ca3 (jo5 rfl) ?_))<;>try simp only[go_sem,seval,d2,d3,m2,Pb.St.v_w])
     exact⟨_,by rw[hR];exact GL.refl _ _⟩
   ·rw[if_neg hk2]at hR;have m2:(q.kind==2)=false:=by simpa using hk2
    rcases dd with d2|⟨d2,d3⟩
    ·repeat'((first|(with_reducible first|apply wr|refine cpc ha0 ?_|refine cpc hbx ?_|refine cpc hby ?_)|(with_reducible apply wb2<;>(intro hb;try simp only[hb]))|(refine ca3 (wo1 rfl) ?_)|(refine ca3 (jo2 rfl) ?_)|(refine ca3 (jo3 rfl) ?_)|(refine ca3 (jo4 rfl) ?_)|(refine ca3 (jo5 rfl) ?_))<;>try simp only[go_sem,seval,d2,m2,Pb.St.v_w])
     exact⟨_,by rw[hR];exact GL.refl _ _⟩
    ·repeat'((first|(with_reducible first|apply wr|refine cpc ha0 ?_|refine cpc hbx ?_|refine cpc hby ?_)|(with_reducible apply wb2<;>(intro hb;try simp only[hb]))|(refine ca3 (wo1 rfl) ?_)|(refine ca3 (jo2 rfl) ?_)|(refine ca3 (jo3 rfl) ?_)|(refine ca3 (jo4 rfl) ?_)|(refine ca3 (jo5 rfl) ?_))<;>try simp only[go_sem,seval,d2,d3,m2,Pb.St.v_w])
     exact⟨_,by rw[hR];exact GL.refl _ _⟩
  |q::q2::l =>
   dsimp only at hR;obtain⟨A,hA⟩:∃A,A=(q::q2::l).map Pb.St.v:=⟨_,rfl⟩;have n1:((A.length:Int)==1)=false:=by rw[hA];simp;omega
   have n2:decide ((A.length:Int)>0)=true:=by rw[hA];simp;omega
   have hex:D5 (q::q2::l)=.lst A:=by rw[hA]
   rw[hex]at hby ⊢;rcases dd with d2|⟨d2,d3⟩
   ·repeat'((first|(with_reducible first|apply wr|refine cpc ha0 ?_|refine cpc hbx ?_|refine cpc hby ?_)|(with_reducible apply wb2<;>(intro hb;try simp only[hb]))|(refine ca3 (wo1 rfl) ?_)|(refine ca3 (jo2 rfl) ?_)|(refine ca3 (jo3 rfl) ?_)|(refine ca3 (jo4 rfl) ?_)|(refine ca3 (jo5 rfl) ?_))<;>try simp only[go_sem,seval,d2,n1,n2])
    exact⟨_,by rw[hR];exact GL.refl _ _⟩
   ·repeat'((first|(with_reducible first|apply wr|refine cpc ha0 ?_|refine cpc hbx ?_|refine cpc hby ?_)|(with_reducible apply wb2<;>(intro hb;try simp only[hb]))|(refine ca3 (wo1 rfl) ?_)|(refine ca3 (jo2 rfl) ?_)|(refine ca3 (jo3 rfl) ?_)|(refine ca3 (jo4 rfl) ?_)|(refine ca3 (jo5 rfl) ?_))<;>try simp only[go_sem,seval,d2,d3,n1,n2])
    exact⟨_,by rw[hR];exact GL.refl _ _⟩
 rw[if_neg h2]at hR;have d2:=dk 2 (λh=>h2 (.inl h));have d3:=dk 3 (λh=>h2 (.inr h));by_cases h4:k=4
 ·subst h4;rw[if_pos rfl]at hR;repeat'((first|(with_reducible first|apply wr|refine cpc ha0 ?_)|(with_reducible apply wb2<;>(intro hb;try simp only[hb]))|(refine ca3 (wo1 rfl) ?_)|(refine ca3 (jo2 rfl) ?_)|(refine ca3 (jo3 rfl) ?_)|(refine ca3 (jo4 rfl) ?_)|(refine ca3 (jo5 rfl) ?_))<;>try simp only[go_sem,seval,d2,d3])
  exact⟨_,by rw[hR];exact GL.refl _ _⟩
 rw[if_neg h4]at hR;have d4:=dk 4 h4;by_cases h18:k=18
 ·subst h18;rw[if_pos rfl]at hR;repeat'((first|(with_reducible first|apply wr|refine cpc ha0 ?_|refine cpc hte ?_)|(with_reducible apply wb2<;>(intro hb;try simp only[hb]))|(refine ca3 (wo1 rfl) ?_)|(refine ca3 (jo2 rfl) ?_)|(refine ca3 (jo3 rfl) ?_)|(refine ca3 (jo4 rfl) ?_)|(refine ca3 (jo5 rfl) ?_))<;>try simp only[go_sem,seval,d2,d3,d4])
  exact⟨_,by rw[hR];exact GL.refl _ _⟩
 rw[if_neg h18]at hR;have d18:=dk 18 h18;by_cases h8:k=8\/k=10
 ·rw[if_pos h8]at hR;rcases h8 with rfl|rfl
  ·repeat'((first|(with_reducible first|apply wr|refine cpc ha0 ?_|refine cpc hna ?_)|(with_reducible apply wb2<;>(intro hb;try simp only[hb]))|(refine ca3 (wo1 rfl) ?_)|(refine ca3 (jo2 rfl) ?_)|(refine ca3 (jo3 rfl) ?_)|(refine ca3 (jo4 rfl) ?_)|(refine ca3 (jo5 rfl) ?_))<;>try simp only[go_sem,seval,d2,d3,d4,d18])
   exact⟨_,by rw[hR];exact GL.refl _ _⟩
  ·repeat'((first|(with_reducible first|apply wr|refine cpc ha0 ?_|refine cpc hna ?_)|(with_reducible apply wb2<;>(intro hb;try simp only[hb]))|(refine ca3 (wo1 rfl) ?_)|(refine ca3 (jo2 rfl) ?_)|(refine ca3 (jo3 rfl) ?_)|(refine ca3 (jo4 rfl) ?_)|(refine ca3 (jo5 rfl) ?_))<;>try simp only[go_sem,seval,d2,d3,d4,d18])
   exact⟨_,by rw[hR];exact GL.refl _ _⟩
 rw[if_neg h8]at hR;have d8:=dk 8 (λh=>h8 (.inl h));have d10:=dk 10 (λh=>h8 (.inr h));by_cases h9:k=9
 ·subst h9;rw[if_pos rfl]at hR;repeat'((first|(with_reducible first|apply wr|refine cpc ha0 ?_|refine cpc ha1 ?_|refine cpc hna ?_)|(with_reducible apply wb2<;>(intro hb;try simp only[hb]))|(refine ca3 (wo1 rfl) ?_)|(refine ca3 (jo2 rfl) ?_)|(refine ca3 (jo3 rfl) ?_)|(refine ca3 (jo4 rfl) ?_)|(refine ca3 (jo5 rfl) ?_))<;>try simp only[go_sem,seval,d2,d3,d4,d18,d8,d10])
  exact⟨_,by rw[hR];exact GL.refl _ _⟩
 rw[if_neg h9]at hR;have d9:=dk 9 h9;by_cases h19:k=19
 ·subst h19;rw[if_pos rfl]at hR;repeat'((first|(with_reducible first|apply wr)|(with_reducible apply wb2<;>(intro hb;try simp only[hb]))|(refine ca3 (wo1 rfl) ?_)|(refine ca3 (jo2 rfl) ?_)|(refine ca3 (jo3 rfl) ?_)|(refine ca3 (jo4 rfl) ?_)|(refine ca3 (jo5 rfl) ?_))<;>try simp only[go_sem,seval,d2,d3,d4,d18,d8,d10,d9])
  exact⟨_,by rw[hR];exact GL.refl _ _⟩
 rw[if_neg h19]at hR;have d19:=dk 19 h19;repeat'((first|(with_reducible first|apply wr|refine cpc hna ?_)|(with_reducible apply wb2<;>(intro hb;try simp only[hb]))|(refine ca3 (wo1 rfl) ?_)|(refine ca3 (jo2 rfl) ?_)|(refine ca3 (jo3 rfl) ?_)|(refine ca3 (jo4 rfl) ?_)|(refine ca3 (jo5 rfl) ?_))<;>try simp only[go_sem,seval,d2,d3,d4,d18,d8,d10,d9,d19])
 exact⟨_,by rw[hR];exact GL.refl _ _⟩
theorem c_wordsO(x:List UInt8)(hx:x.length<=1000000000)(H:Hp)(cc:Nat):AC Tryz.prog 75 [A4s [x]] H cc (λv H' c' => ∃id,cc<=id/\id<c'/\v=.slc id 0 1/\H'=H.upd id ⟨4,true,(A3 x).v.cells⟩):=by
 refine AC.go A2 λhfr=>?_;have h1:=c_IsWordR x;have h2:=c_IsNameR x (by omega);repeat'(apply wr<;>try simp only[go_sem,seval])
 refine A6 (λq:Option Nat=>[(0,A4s [x]),(3,todoV q 1),(4,I64 (if q=none then 0 else 1))]) (λq=>optH H q ⟨4,true,(A3 x).v.cells⟩)
  (λq c=>cc<=c/\(∀i,q=some i->cc<=i/\i<c)) (λq=>if q=none then 1 else 0) none
  (by simp[B7,tm,Tm.upd,todoV]) (Sub.refl _) ⟨A0E _,(λi hi=>by cases hi)⟩ ?_
 rintro o c ⟨hc,ho⟩;cases o with
 |none =>
  have hd:decide ((0:Int)<1)=true:=by decide
  have hw:IntKind.i64.wrap (0+1)=1:=by decide
  have hw':IntKind.i64.wrap 1=1:=by decide
  have hr0:∀i:Nat,H (c+i)=none:=λi=>hfr _ (by omega);have ne0:=W9 c (c+1) (by omega);cases hw1:I6 x with
  |true =>
   repeat'((with_reducible first|apply wr|refine cpc h1 ?_)<;>try simp only[go_sem,seval,hw1,A0,A4])
   refine F6 (A3t (by decide) (by decide) (by decide)) ?_;simp only[go_sem,seval];repeat'(apply wr<;>try simp only[go_sem,seval,hw'])
   refine⟨some (c+1+1),by simp[todoV],?_,inv ⟨by omega,(λi hi=>by cases hi;omega)⟩,by simp⟩;intro j b hj;simp only[optH]at hj;by_cases e1:j=c+1+1
   ·subst e1;rw[A0]at hj ⊢;rw[<- hj];unfold A3;simp only[hw1,if_true]
   ·rw[h_ne e1]at hj ⊢;have:j<cc:=Classical.byContradiction λh=>by rw[hfr j (by omega)]at hj;cases hj
    rw[hnO,hnO];exact hj
  |false =>
   cases hn1:D7 x with
   |true =>
    repeat'((with_reducible first|apply wr|refine cpc h1 ?_|refine cpc h2 ?_)<;>try simp only[go_sem,seval,hw1,hn1,A0,A4])
    refine F6 (A3t (by decide) (by decide) (by decide)) ?_;simp only[go_sem,seval];repeat'(apply wr<;>try simp only[go_sem,seval,hw'])
    refine⟨some (c+1+1),by simp[todoV],?_,inv ⟨by omega,(λi hi=>by cases hi;omega)⟩,by simp⟩;intro j b hj;simp only[optH]at hj;by_cases e1:j=c+1+1
    ·subst e1;rw[A0]at hj ⊢;rw[<- hj];unfold A3;simp only[hw1,hn1,if_true,if_false,A1R]
    ·rw[h_ne e1]at hj ⊢;have:j<cc:=Classical.byContradiction λh=>by rw[hfr j (by omega)]at hj;cases hj
     rw[hnO,hnO];exact hj
   |false =>
    repeat'((with_reducible first|apply wr|refine cpc h1 ?_|refine cpc h2 ?_)<;>try simp only[go_sem,seval,hw1,hn1,A0,A4])
    refine F6 (A3t (by decide) (by decide) (by decide)) ?_;simp only[go_sem,seval];repeat'(apply wr<;>try simp only[go_sem,seval,hw'])
    refine⟨some (c+1+1),by simp[todoV],?_,inv ⟨by omega,(λi hi=>by cases hi;omega)⟩,by simp⟩;intro j b hj;simp only[optH]at hj;by_cases e1:j=c+1+1
    ·subst e1;rw[A0]at hj ⊢;rw[<- hj];unfold A3;simp only[hw1,hn1,if_false,A1R]
    ·rw[h_ne e1]at hj ⊢;have:j<cc:=Classical.byContradiction λh=>by rw[hfr j (by omega)]at hj;cases hj
     rw[hnO,hnO];exact hj
 |some i =>
  have hd:decide ((1:Int)<1)=false:=by decide
  repeat'(apply wr<;>try simp only[go_sem,seval])
  exact⟨_,_,GL.refl _ _,i,(ho i rfl).1,(ho i rfl).2,rfl,rfl⟩
theorem E8o{x:List UInt8}{id cc:Nat}{H:Hp}(hb:H id=some ⟨1,true,[.str x]⟩)(hx:x.length<=1000000000):
  AC Tryz.prog 75 [.slc id 0 1] H cc (λv H' c' => ∃i,cc<=i/\i<c'/\v=.slc i 0 1/\H'=(delO H (some id)).upd i ⟨4,true,(A3 x).v.cells⟩) :=
 AC.ghost (GL.frzS (id:=id) hb rfl (λj=>by
  by_cases e:j=id
  ·subst e;exact .inl (by rw[U4,if_pos rfl])
  ·exact .inr ⟨e,by rw[U4,if_neg e]⟩) (.cons _ _ _ _ (P6 (xs:=[.str x]) rfl (P7 [x]) ⟨[],rfl⟩) .nil)) (c_wordsO x hx _ cc)
theorem B0g:∀l:List Pb.St,Q1 l=(l.map stT).flatten
 |[]=>rfl
 |e::l=>by rw[Q1,B0g l];rfl
theorem c_blockT(l:List Pb.St)(hl:l.length<=10000000)(hs:∀x∈l,PC Tryz.prog 122 [x.v] (C7 (stT x)))(hx:∀x∈l,1<=(stT x).length/\(stT x).length<=100000000)(hT:(blT l).length<=100000000):PC Tryz.prog 79 [D5 l] (C7 (blT l)):=by
 refine PC.ofT A2 rfl (A0H rfl) (by simp[DV.nlL,DV.nl,X8]) (M6 _) ?_;obtain⟨R,hR⟩:∃R,R=C7 (blT l):=⟨_,rfl⟩;rw[<- hR];unfold blT at hR;rw[B0g]at hR;have hT':(l.map stT).flatten.length<=100000000:=by
  unfold blT at hT;rw[B0g]at hT;simp only[A0A,A0K]at hT;omega
 repeat'(apply wr<;>try simp only[go_sem,seval])
 refine AC.call (E8o rfl (by decide)) ?_;rintro v H' c1 ⟨i,hi1,hi2,rfl,rfl⟩ -;simp only[go_sem,seval];repeat'(apply wr<;>try simp only[go_sem,seval])
 obtain⟨F,hF⟩:∃F:Nat->List Tok, ∀k,F k=wT [123]++((l.take k).map stT).flatten:=⟨_,λ_=>rfl⟩;have hF0:F 0=wT [123]:=by rw[hF];simp
 refine A6 (λq:Nat × Nat=>[(0,D5 l),(3,.slc q.2 0 (F q.1).length),(4,I64 q.1)]) (λq=>Sym.nil.upd q.2 ⟨4,true,cellsL ((F q.1).map Tok.v)⟩)
  (λq c=>q.1<=l.length/\q.2<c) (λq=>l.length-q.1) (0,i)
  (by simp[B7,tm,Tm.upd,hF0,lw]) (by dsimp only;rw[hF0];exact Sub.refl _) ⟨A0P _,hi2⟩ ?_
 clear hi1 hi2;rintro⟨k,i⟩ c ⟨hk,hi⟩;dsimp only at hk hi ⊢;by_cases hlt:k<l.length
 ·have hd:=dtz hlt;have hg:=A0B hlt;have hsx:=hs _ (A0L hlt);obtain⟨hx1,hx2⟩:=hx _ (A0L hlt);have hw:=w64 (n:=(k:Int)+1);have e0:F (k+1)=F k++stT l[k]:=by rw[hF,hF,A0R,hg,A0T,A2U];simp
  have hle:((l.take k).map stT).flatten.length<=100000000:=by
   have h1:(l.map stT).flatten=((l.take k).map stT).flatten++((l.drop k).map stT).flatten:=by rw[<- A2U, <- A0T,A1W]
   rw[h1,A0A]at hT';omega
  have hle2:(F k).length<=200000000:=by rw[hF,A0A,lw];omega
  rw[Pb.St.v_w]at hsx;generalize l[k]=x at hg hx1 hx2 e0 hsx;generalize F k=y at hle2 e0 ⊢;have hln:(cellsL (y.map Tok.v)).length=y.length*4:=(C1 (u:=4) (E9 _)).trans (by simp);have hun:unit 4 ((stT x).map Tok.v)=true:=by unfold unit;rw[A0S];intro d hd;simp[E9 (stT x) d hd]
  repeat'((with_reducible first|apply wr|refine cpc hsx ?_)<;>try simp only[go_sem,seval,hd,hg,Pb.St.v_w,R7 hun])
  refine F6 (A2g hln (by omega) (by omega)) ?_;simp only[go_sem,seval];repeat'(apply wr<;>try simp only[go_sem,seval,hw])
  refine⟨(k+1,c),by simp[e0],?_,inv ⟨by omega,by simp only;omega⟩,by simp only;omega⟩;dsimp only;rw[e0,A0T,C2];intro j b hj;by_cases e1:j=c
  ·subst e1;rw[A0]at hj ⊢;exact hj
  ·rw[h_ne e1]at hj;cases hj
 ·have hd:=dfz hlt;rw[hF,A0M (by omega)];have hun:unit 4 ((wT [125]).map Tok.v)=true:=by unfold unit;rw[A0S];intro d hd;simp[E9 (wT [125]) d hd]
  have hle2:(wT [123]++(l.map stT).flatten).length<=200000000:=by rw[A0A,lw];omega
  have hR':R=C7 ((wT [123]++(l.map stT).flatten)++wT [125]):=hR;generalize wT [123]++(l.map stT).flatten=y at hle2 hR' ⊢;have hln:(cellsL (y.map Tok.v)).length=y.length*4:=(C1 (u:=4) (E9 _)).trans (by simp);have hnic:¬i=c:=by omega
  have hlw:=lw [125];repeat'(apply wr<;>try simp only[go_sem,seval,hd])
  refine AC.call (wd1 A0 (by decide)) ?_;rintro v H' c2 ⟨rfl,rfl,rfl⟩ -;simp only[go_sem,seval,hnic,R7 hun];repeat'(apply wr<;>try simp only[go_sem,seval,hnic,R7 hun])
  refine F6 (A2g hln (by omega) (by omega)) ?_;simp only[go_sem,seval];repeat'(apply wr<;>try simp only[go_sem,seval])
  rw[hR'];exact O3 (id:=c+1) A0 rfl (by simp) (E9 _) ⟨[],by rw[A0T,C2,A0X]⟩
theorem c_stT:∀m:Nat,m<=5000000->(∀x:Pb.St,x.sz<m->PC Tryz.prog 122 [x.v] (C7 (stT x)))/\(∀l:List Pb.St,Pb.St.szs l<m->PC Tryz.prog 79 [D5 l] (C7 (blT l))):=by
 intro m
 induction m with
 |zero=>exact λ_=>⟨λx h=>by omega,λl h=>by omega⟩
 |succ m ih =>
  intro hm;obtain⟨i1,i2⟩:=ih (by omega);have A:∀x:Pb.St,x.sz<m+1->PC Tryz.prog 122 [x.v] (C7 (stT x)):=λx hx =>
   c_stmtT m i1 i2 (λl hl=>by have:=A9y l;omega) (λy hy=>by have:=A9m y;omega) x (by omega) (by omega)
  refine⟨A,λl hl=>?_⟩;have h1:=Pb.St.szs_len l;have h2:=A9y l;exact c_blockT l (by omega) (λx hx=>A x (by have:=Pb.St.szs_mem hx;omega)) (λx hx=>by have:=A9m x;have:=Pb.St.szs_mem hx;omega) (by omega)
theorem c_blkT(l:List Pb.St)(h:Pb.St.szs l<5000000):PC Tryz.prog 79 [D5 l] (C7 (blT l)):=(c_stT 5000000 (A0E _)).2 l h
theorem D4p{X H1:Hp}{o:Option Nat}{c n0:Nat}{b b3 b3':Blk}(hX:∀j q,X j=some q->j<c)(ho:∀i,o=some i->X i=none)(hH:∀j,j<c->H1 j=optH X o b j)(hn:c<=n0)(hb:b3=b3'):
  Sym.Sub (optH X (some n0) b3) ((delO H1 o).upd n0 b3'):=by
 subst hb;intro j q hj;simp only[optH]at hj;by_cases e:j=n0
 ·subst e;rw[A0]at hj ⊢;exact hj
 ·rw[h_ne e]at hj ⊢;have h1:=hX j q hj;have h2:∀i,o=some i->¬j=i:=λi hi e2=>by rw[e2,ho i hi]at hj;cases hj
  rw[A8 h2,hH j h1,B5 h2];exact hj
theorem B1q{H:Hp}{i:Nat}(h:H i=none):delO H (some i)=H:=by
 funext j;rw[U4];split
 ·rename_i e;rw[e,h]
 ·rfl
theorem D0d{X:Hp}{o:Option Nat}{xs:List DV}{u n:Nat}(hno:o=none->xs=[])(hl:xs.length=n)(hu:∀x∈xs,x.cells.length=u):
  ∃H2,GL (optH X o ⟨u,true,cellsL xs⟩) [todoV o n] H2 [.lst xs]:=by
 cases o with
 |none=>rw[hno rfl];exact C3m
 |some i=>exact O3 (id:=i) A0 rfl hl hu ⟨[],by simp⟩
def wT2(x y:List UInt8):List Tok:=[A3 x,A3 y]
theorem E8n{x y:List UInt8}{id cc:Nat}{H:Hp}(hb:H id=some ⟨1,true,[.str x,.str y]⟩)(hx:x.length<=1000000000)(hy:y.length<=1000000000):
  AC Tryz.prog 75 [.slc id 0 2] H cc (λv H' c'=>v=C7 (wT2 x y)/\H'=delO H (some id)/\c'=cc):=wd2 hb hx hy
theorem B5p{X:Hp}{i j:Nat}(h:¬j=i):(X.del i) j=X j:=by rw[show X.del i=delO X (some i) from rfl,U4,if_neg h]
theorem A5w(l:List Tok):unit 4 (l.map Tok.v)=true:=by unfold unit;rw[A0S];intro d hd;simp[E9 l d hd]
theorem R4(l:List Tok):(cellsL (l.map Tok.v)).length=l.length*4:=(C1 (u:=4) (E9 _)).trans (by simp)
theorem c_declT(d:Dc)(hn:d.name.length<=1000000000):PC Tryz.prog 73 [d.v] (C7 (dcT d)):=by
 refine PC.ofT A2 rfl (A0H rfl) rfl (M6 _) ?_;obtain⟨R,hR⟩:∃R,R=C7 (dcT d):=⟨_,rfl⟩;rw[<- hR];obtain⟨k,n,v,p⟩:=d;unfold dcT at hR;dsimp only at hR hn ⊢;have hna:=c_named n hn;have hnu:=c_number31 v;have hnn:=c_number31 (-v);by_cases hbk:k<1\/8<k
 ·rw[if_pos hbk]at hR;by_cases h2:k<1
  ·have d2:decide (k<1)=true:=by simpa using h2
   repeat'(apply wr<;>try simp only[go_sem,seval,d2])
   rw[hR];exact O3 (id:=1) A0 rfl rfl (E9 [Y9]) ⟨[],rfl⟩
  ·have d2:decide (k<1)=false:=by simp;omega
   have d3:decide (k>8)=true:=by simp;omega
   repeat'(apply wr<;>try simp only[go_sem,seval,d2,d3])
   rw[hR];exact O3 (id:=1) A0 rfl rfl (E9 [Y9]) ⟨[],rfl⟩
 rw[if_neg hbk]at hR;have e2:decide (k<1)=false:=by simp;omega
 have e3:decide (k>8)=false:=by simp;omega
 try dsimp only at hR
 obtain⟨j,hj⟩:∃j:Nat,k=1+(j:Int):=⟨(k-1).toNat,by omega⟩;have hjw:IntKind.i64.wrap (k-1)=(j:Int):=by rw[w6z];omega
 have hjn:(k-1).toNat=j:=by omega
 rw[hjn]at hR;have hj8:j<8:=by omega
 have hgj:E8[j]? = some (E8.getD j []):=by
  rw[A1K,A0B (show j<E8.length from hj8)];rfl
 have hsl:(E8.getD j []).length<=1000000000:=by
  have:∀i:Nat,i<8->(E8.getD i []).length<=1000000000:=by decide
  exact this j hj8
 generalize E8.getD j []=S at hR hgj hsl;by_cases h6:6<k
 ·have d6:decide (k>6)=true:=by simpa using h6
  rw[if_pos h6]at hR;repeat'((first|(with_reducible first|apply wr|refine cpc c_decls31 ?_|refine cpc hna ?_)|(with_reducible apply wb2<;>(intro hb;try simp only[hb]))|(refine ca3 (wo1 rfl) ?_)|(refine ca3 (jo2 rfl) ?_)|(refine ca3 (jo3 rfl) ?_))<;>try simp only[go_sem,seval,e2,e3,hjw,hgj,d6])
  exact⟨_,by rw[hR];exact GL.refl _ _⟩
 rw[if_neg h6]at hR;have d6:decide (k>6)=false:=by simp;omega
 by_cases hm:v<0 /\ -2147483647<=v/\k=6
 ·obtain⟨m1,m2,hk6⟩:=hm;have x3:(k==6)=true:=by simpa using hk6
  have x1:decide (v<0)=true:=by simpa using m1
  have x2:decide (v ≥ -2147483647)=true:=by simpa using m2
  have hng:IntKind.i64.wrap (0-v) = -v:=by rw[w6z];omega
  rw[if_pos ⟨m1,m2,hk6⟩]at hR;repeat'((first|(with_reducible first|apply wr|refine cpc c_decls31 ?_|refine cpc hna ?_|refine cpc hnn ?_)|(with_reducible apply wb2<;>(intro hb;try simp only[hb]))|(refine ca3 (wo1 rfl) ?_)|(refine ca3 (jo2 rfl) ?_)|(refine ca3 (jo3 rfl) ?_))<;>try simp only[go_sem,seval,e2,e3,hjw,hgj,d6,x1,x2,x3,hng])
  exact⟨_,by rw[hR];exact GL.refl _ _⟩
 rw[if_neg hm]at hR;by_cases m1:v<0
 ·have x1:decide (v<0)=true:=by simpa using m1
  by_cases m2 : -2147483647<=v
  ·have x2:decide (v ≥ -2147483647)=true:=by simpa using m2
   have x3:(k==6)=false:=by simp;omega
   repeat'((first|(with_reducible first|apply wr|refine cpc c_decls31 ?_|refine cpc hna ?_|refine cpc hnu ?_)|(with_reducible apply wb2<;>(intro hb;try simp only[hb]))|(refine ca3 (wo1 rfl) ?_)|(refine ca3 (jo2 rfl) ?_)|(refine ca3 (jo3 rfl) ?_))<;>try simp only[go_sem,seval,e2,e3,hjw,hgj,d6,x1,x2,x3])
   exact⟨_,by rw[hR];exact GL.refl _ _⟩
  ·have x2:decide (v ≥ -2147483647)=false:=by simp;omega
   repeat'((first|(with_reducible first|apply wr|refine cpc c_decls31 ?_|refine cpc hna ?_|refine cpc hnu ?_)|(with_reducible apply wb2<;>(intro hb;try simp only[hb]))|(refine ca3 (wo1 rfl) ?_)|(refine ca3 (jo2 rfl) ?_)|(refine ca3 (jo3 rfl) ?_))<;>try simp only[go_sem,seval,e2,e3,hjw,hgj,d6,x1,x2])
   exact⟨_,by rw[hR];exact GL.refl _ _⟩
 ·have x1:decide (v<0)=false:=by simp;omega
  repeat'((first|(with_reducible first|apply wr|refine cpc c_decls31 ?_|refine cpc hna ?_|refine cpc hnu ?_)|(with_reducible apply wb2<;>(intro hb;try simp only[hb]))|(refine ca3 (wo1 rfl) ?_)|(refine ca3 (jo2 rfl) ?_)|(refine ca3 (jo3 rfl) ?_))<;>try simp only[go_sem,seval,e2,e3,hjw,hgj,d6,x1])
  exact⟨_,by rw[hR];exact GL.refl _ _⟩
theorem c_rulesT(r:Ru)(hB:r.sz<4000000)(hT:(r.decls.flatMap dcT++r.modes.flatMap mdT).length<=100000000):PC Tryz.prog 33 [r.v] (C7 (ruT r)):=by
 refine PC.ofT A2 rfl (A0H rfl) (by simp[DV.nlL,DV.nl,K7,K6]) (M6 _) ?_;obtain⟨R,hR⟩:∃R,R=C7 (ruT r):=⟨_,rfl⟩;rw[<- hR];obtain⟨D,M⟩:=r;dsimp only at hT;unfold ruT at hR;dsimp only[Ru.v]at hR ⊢;have hDs:(D.map Dc.sz).sum+(M.map Md.sz).sum<4000000:=hB;have hDl:D.length<=(D.map Dc.sz).sum:=I7 λx _=>by show 1<=1+_;omega
 have hMl:M.length<=(M.map Md.sz).sum:=I7 λx _=>by show 1<=1+_+_;omega
 repeat'(apply wr<;>try simp only[go_sem,seval])
 obtain⟨F,hF⟩:∃F:Nat->List Tok, ∀k,F k=(D.take k).flatMap dcT:=⟨_,λ_=>rfl⟩;have hF0:F 0=[]:=by rw[hF];rfl
 have hFl:∀k,(F k).length<=100000000:=λk=>by
  have h1:D.flatMap dcT=F k++(D.drop k).flatMap dcT:=by rw[hF, <- A2P,A1W]
  rw[h1]at hT;simp only[A0A]at hT;omega
 refine A6 (λq:Nat × Option Nat=>[(1,.ptr 0 0),(3,todoV q.2 (F q.1).length),(4,I64 q.1)]) (λq=>optH (Sym.nil.upd 0 ⟨0,true,[C3 D,C6 M]⟩) q.2 ⟨4,true,cellsL ((F q.1).map Tok.v)⟩)
  (λq c=>1<=c/\q.1<=D.length/\(q.2=none->F q.1=[])/\(∀i,q.2=some i->1<=i/\i<c)) (λq=>D.length-q.1) (0,none)
  (by simp[B7,tm,Tm.upd,todoV]) (Sub.refl _) ⟨by omega,A0P _,λ_=>hF0,(λi hi=>by cases hi)⟩ ?_
 rintro⟨k,o⟩ c ⟨hc,hk,hno,ho⟩;dsimp only at hc hk hno ho ⊢;have hbx:optH (Sym.nil.upd 0 ⟨0,true,[C3 D,C6 M]⟩) o ⟨4,true,cellsL ((F k).map Tok.v)⟩ 0=some ⟨0,true,[C3 D,C6 M]⟩:=by rw[B5 (λi hi=>by have:=ho i hi;omega),A0]
 by_cases hlt:k<D.length
 ·have hd:=dtz hlt;have hg:=A0B hlt;have hsz:=K1 (f:=Dc.sz) (A0L hlt);have hdt:=c_declT D[k] (by have h5:D[k].name.length<Dc.sz D[k]:=(by unfold Dc.sz;omega);omega);have hdl:=C4z D[k];have hw:=w64 (n:=(k:Int)+1);have e0:F (k+1)=F k++dcT D[k]:=by rw[hF,hF,A0R,hg,A2P];simp
  have hFk:=hFl k;generalize D[k]=x at hg hdt hdl e0;have hun:unit 4 ((dcT x).map Tok.v)=true:=by unfold unit;rw[A0S];intro d hd;simp[E9 (dcT x) d hd]
  have hln:(cellsL ((F k).map Tok.v)).length=(F k).length*4:=(C1 (u:=4) (E9 _)).trans (by simp);repeat'((with_reducible first|apply wr|refine cpc hdt ?_)<;>try simp only[go_sem,seval,hd,hg,hbx,R7 hun])
  refine F6 (D4 (cs:=cellsL ((F k).map Tok.v)) (λe=>by rw[hno e];exact⟨rfl,rfl⟩) (λi hi=>A2x hi) hln (by omega) (by omega) (by omega)) ?_;simp only[go_sem,seval];repeat'(apply wr<;>try simp only[go_sem,seval,hw])
  refine⟨(k+1,some c),by simp[todoV,e0],?_,inv ⟨by omega,by omega,(λh=>by cases h),(λi hi=>by cases hi;omega)⟩,by simp only;omega⟩;dsimp only;refine D4p (n0:=c) (c:=c) (λj q hq=>?_) (λi hi=>?_) (λj hj=>rfl) (A0E _) (by rw[e0,A0T,C2])
  ·by_cases e:j=0
   ·omega
   ·rw[h_ne e]at hq;cases hq
  ·have:=ho i hi;rw[hnO];rfl
 ·have hd:=dfz hlt;repeat'(apply wr<;>try simp only[go_sem,seval,hd,hbx])
  have hFD:F k=D.flatMap dcT:=by rw[hF,A0M (by omega)]
  have hc0:=hc;obtain⟨G,hG⟩:∃G:Nat->List Tok, ∀k,G k=D.flatMap dcT++(M.take k).flatMap mdT:=⟨_,λ_=>rfl⟩;have hG0:G 0=F k:=by rw[hG,hFD];simp
  have hGl:∀k,(G k).length<=100000000:=λk=>by
   have h1:M.flatMap mdT=(M.take k).flatMap mdT++(M.drop k).flatMap mdT:=by rw[<- A2P,A1W]
   rw[h1]at hT;rw[hG];simp only[A0A]at hT ⊢;omega
  refine A6 (λq:Nat × Option Nat=>[(1,.ptr 0 0),(3,todoV q.2 (G q.1).length),(5,I64 q.1)]) (λq=>optH (Sym.nil.upd 0 ⟨0,true,[C3 D,C6 M]⟩) q.2 ⟨4,true,cellsL ((G q.1).map Tok.v)⟩)
   (λq c=>1<=c/\q.1<=M.length/\(q.2=none->G q.1=[])/\(∀i,q.2=some i->1<=i/\i<c)/\((M.take q.1).any λm=>m.hds.any V9)=false) (λq=>M.length-q.1) (0,o)
   (by simp[B7,tm,Tm.upd,hG0]) (by dsimp only;rw[hG0];exact Sub.refl _) ⟨hc,A0P _,(by dsimp only;rw[hG0];exact hno),ho,rfl⟩ ?_
  clear hbx hno ho hG0 hFD hFl hF0 hF hc hc0 hlt hd hk;rintro⟨k,o⟩ c ⟨hc,hk,hno,ho,hbad⟩;dsimp only at hc hk hno ho hbad ⊢;have hbx:optH (Sym.nil.upd 0 ⟨0,true,[C3 D,C6 M]⟩) o ⟨4,true,cellsL ((G k).map Tok.v)⟩ 0=some ⟨0,true,[C3 D,C6 M]⟩:=by rw[B5 (λi hi=>by have:=ho i hi;omega),A0]
  by_cases hlt:k<M.length
  ·have hd:=dtz hlt;have hg:=A0B hlt;have hsz:=K1 (f:=Md.sz) (A0L hlt);have hw:=w64 (n:=(k:Int)+1);have e0:G (k+1)=G k++mdT M[k]:=by rw[hG,hG,A0R,hg,A2P];simp
   have b0:((M.take (k+1)).any λm=>m.hds.any V9)=(M[k].hds.any V9):=by rw[A0R,hg,List.any_append,hbad];simp
   have b1:(M[k].hds.any V9)=true->R=C7 [Y9]:=λh=>by rw[hR,if_pos (List.any_eq_true.2 ⟨_,A0L hlt,h⟩)]
   have hGk:=hGl k;have hGk1:=hGl (k+1);generalize M[k]=m at hg hsz e0 b0 b1;have hln:(cellsL ((G k).map Tok.v)).length=(G k).length*4:=(C1 (u:=4) (E9 _)).trans (by simp);have hnl:m.name.length<=1000000000:=by
    have h5:m.name.length<Md.sz m:=by unfold Md.sz;omega
    omega
   have hna:=c_named m.name hnl;have hnu:=c_number31 m.prio;have hbo:∀i:Nat,o=some i->optH (Sym.nil.upd 0 ⟨0,true,[C3 D,C6 M]⟩) o ⟨4,true,cellsL ((G k).map Tok.v)⟩ i=some ⟨4,true,cellsL ((G k).map Tok.v)⟩:=λi hi=>by subst hi;exact A0
   have hbn:∀j:Nat,c<=j->optH (Sym.nil.upd 0 ⟨0,true,[C3 D,C6 M]⟩) o ⟨4,true,cellsL ((G k).map Tok.v)⟩ j=none:=λj hj=>by rw[B5 (λi hi=>by have:=ho i hi;omega),hnO];rfl
   generalize hHH:optH (Sym.nil.upd 0 ⟨0,true,[C3 D,C6 M]⟩) o ⟨4,true,cellsL ((G k).map Tok.v)⟩=HH at hbx hbo hbn ⊢;have ne0:=A2y 0 c (c+1+1) (c+1+9) (c+1+11) (by omega);have hd1:delO HH (some (c+1+1))=HH:=B1q (hbn _ (by omega));have hd2:delO HH (some (c+1+9))=HH:=B1q (hbn _ (by omega));have hd3:delO HH (some (c+1+11))=HH:=B1q (hbn _ (by omega));repeat'(apply wr<;>try simp only[go_sem,seval,hd,hg,hbx,ne0,A0,A4])
   refine AC.call (wd1 (x:=[109,111,100,101]) (by simp[H6,Hp.upd]) (by decide)) ?_;rintro v H' c2 ⟨rfl,rfl,rfl⟩ -;simp only[go_sem,seval,ne0,A0,hd1];repeat'(apply wr<;>try simp only[go_sem,seval,ne0,A0,A4,hd1,hd2,hd3])
   refine⟨by and_intros<;>(repeat rw[hnO])<;>exact hbn _ (by omega),?_⟩;repeat'((with_reducible first|apply wr|refine cpc hna ?_)<;>try simp only[go_sem,seval,ne0,A0])
   refine⟨by and_intros<;>(repeat rw[hnO])<;>exact hbn _ (by omega),?_⟩;repeat'((with_reducible first|apply wr|refine cpc hnu ?_)<;>try simp only[go_sem,seval,A0])
   refine⟨by and_intros<;>(repeat rw[hnO])<;>exact hbn _ (by omega),?_⟩;repeat'(apply wr<;>try simp only[go_sem,seval,ne0,A0,A4,hd1,hd2,hd3])
   refine AC.call (wd1 (x:=[123]) (by simp[Hp.upd]) (by decide)) ?_;rintro v H' c2 ⟨rfl,rfl,rfl⟩ -;simp only[go_sem,seval,ne0,hd2];refine⟨by and_intros<;>(repeat rw[hnO])<;>exact hbn _ (by omega),?_⟩;repeat'(apply wr<;>try simp only[go_sem,seval,ne0,A0,A4,hd1,hd2,hd3])
   refine AC.call (jn4 A0 (by constructor<;>(try simp only[A0A,lw,B6,E5,F1])<;>omega) (by constructor<;>(try simp only[A0A,lw,B6,E5,F1])<;>omega) (by constructor<;>(try simp only[A0A,lw,B6,E5,F1])<;>omega) (by constructor<;>(try simp only[A0A,lw,B6,E5,F1])<;>omega)) ?_;rintro v H' c2 ⟨rfl,rfl,rfl⟩ -;have hun4:unit 4 ((wT [109,111,100,101]++D6 m.name++V3 m.prio++wT [123]).map Tok.v)=true:=by unfold unit;rw[A0S];intro d hd;simp[E9 _ d hd]
   have hl4:(wT [109,111,100,101]++D6 m.name++V3 m.prio++wT [123]).length=4:=by simp only[A0A,lw,B6,E5]
   have hsrc:A4t (HH.upd c ⟨0,true,[.str m.name,I64 m.prio,M5 m.hds,I64 m.pos]⟩) 4 (C7 (wT [109,111,100,101]++D6 m.name++V3 m.prio++wT [123]))=some (4,cellsL ((wT [109,111,100,101]++D6 m.name++V3 m.prio++wT [123]).map Tok.v)):=by
    rw[R7 hun4,A0C,hl4]
   obtain⟨Q,hQ⟩:∃Q,Q=wT [109,111,100,101]++D6 m.name++V3 m.prio++wT [123]:=⟨_,rfl⟩;rw[<- hQ]at hsrc ⊢;simp only[go_sem,seval,ne0,hd3,hsrc];repeat'(apply wr<;>try simp only[go_sem,seval,ne0,A0,A4,hd1,hd2,hd3,hsrc])
   refine⟨by rw[hnO];exact hbn _ (by omega),?_⟩;rw[D4 (cs:=cellsL ((G k).map Tok.v)) (λe=>by rw[hno e];exact⟨rfl,rfl⟩) (λi hi=>by have:=ho i hi;rw[hnO];exact hbo i hi) hln (by omega) (by omega) (by omega)];simp only[go_sem,seval];repeat'(apply wr<;>try simp only[go_sem,seval])
   have hQl:Q.length=4:=by rw[hQ];exact hl4
   obtain⟨K,hK⟩:∃K:Nat->List Tok, ∀j,K j=G k++Q++(m.hds.take j).flatMap hdT:=⟨_,λ_=>rfl⟩;have hK0:K 0=G k++Q:=by rw[hK];simp
   have hKl:∀j,(K j).length<=100000000:=λj=>by
    have h1:m.hds.flatMap hdT=(m.hds.take j).flatMap hdT++(m.hds.drop j).flatMap hdT:=by rw[<- A2P,A1W]
    have h2:mdT m=Q++m.hds.flatMap hdT++wT [125]:=by rw[hQ];rfl
    rw[e0,h2,h1]at hGk1;rw[hK];simp only[A0A]at hGk1 ⊢;omega
   have hKe:K m.hds.length++wT [125]=G (k+1):=by
    have h2:mdT m=Q++m.hds.flatMap hdT++wT [125]:=by rw[hQ];rfl
    rw[hK,e0,h2,A1P];simp only[A0Q]
   have hhl:m.hds.length<=4000000:=by
    have h5:m.hds.length<=(m.hds.map Hd.sz).sum:=I7 λx _=>by show 1<=1+_+_;omega
    have h6:(m.hds.map Hd.sz).sum<Md.sz m:=by unfold Md.sz;omega
    omega
   refine A6 (λq:Nat × Nat=>[(1,.ptr 0 0),(3,.slc q.2 0 (K q.1).length),(5,I64 k),(6,.ptr c 0),(7,I64 q.1)]) (λq=>((Sym.nil.upd 0 ⟨0,true,[C3 D,C6 M]⟩).upd c ⟨0,true,[.str m.name,I64 m.prio,M5 m.hds,I64 m.pos]⟩).upd q.2 ⟨4,true,cellsL ((K q.1).map Tok.v)⟩)
    (λq n=>c<q.2/\q.2<n/\q.1<=m.hds.length/\((m.hds.take q.1).any V9)=false) (λq=>m.hds.length-q.1) (0,c+1+15)
    (by simp[B7,tm,Tm.upd,hK0,hQl]) ?_ ⟨by simp only;omega,by simp only;omega,A0P _,rfl⟩ ?_
   ·dsimp only;rw[hK0,A0T,C2];intro j b hj;by_cases e1:j=c+1+15
    ·subst e1;rw[A0]at hj ⊢;exact hj
    rw[h_ne e1]at hj ⊢;rw[A8 (λi hi=>by
     have h1:=ho i hi;intro e;subst e;rw[hnO,hnO]at hj;cases hj)]
    by_cases e2:j=c
    ·subst e2;rw[A0]at hj ⊢;exact hj
    rw[h_ne e2]at hj ⊢;by_cases e3:j=0
    ·subst e3;rw[A0]at hj;rw[hbx];exact hj
    ·rw[h_ne e3]at hj;cases hj
   clear hbo hbn hd1 hd2 hd3 hsrc hl4 hun4 hHH hbx hno ho;rintro⟨j,i⟩ n ⟨hi1,hi2,hj,hbj⟩;dsimp only at hi1 hi2 hj hbj ⊢;by_cases hjl:j<m.hds.length
   ·have hdj:decide ((j:Int)<(m.hds.length:Int))=true:=by simpa using hjl
    have hgj:=A0B hjl;have hwj:=w64 (n:=(j:Int)+1);have k0:K (j+1)=K j++hdT m.hds[j]:=by rw[hK,hK,A0R,hgj,A2P];simp
    have c0:((m.hds.take (j+1)).any V9)=V9 m.hds[j]:=by rw[A0R,hgj,List.any_append,hbj];simp
    have c1:V9 m.hds[j]=true->R=C7 [Y9]:=λh=>b1 (List.any_eq_true.2 ⟨_,A0L hjl,h⟩);have hszj:=K1 (f:=Hd.sz) (A0L hjl);have h6:(m.hds.map Hd.sz).sum<Md.sz m:=by unfold Md.sz;omega
    have hKj:=hKl j;have hKj1:=hKl (j+1);generalize m.hds[j]=h at hgj k0 c0 c1 hszj;have ne0:=X9 0 c i n (by omega);have hb9:V9 h=true->∃H2,GL (((((Sym.nil.upd 0 ⟨0,true,[C3 D,C6 M]⟩).upd c ⟨0,true,[.str m.name,I64 m.prio,M5 m.hds,I64 m.pos]⟩).upd i ⟨4,true,cellsL ((K j).map Tok.v)⟩).upd n ⟨0,true,[I64 h.trig,.str h.name,D5 h.body,I64 h.pos]⟩).upd (n+1) ⟨4,true,[I64 0,.str [],I64 0,I64 0]⟩) [.slc (n+1) 0 1] H2 [R]:=λhb=>by
     rw[c1 hb];exact O3 A0 rfl rfl (E9 [Y9]) ⟨[],rfl⟩
    by_cases t1:h.trig<1
    ·have x1:decide (h.trig<1)=true:=by simpa using t1
     repeat'(apply wr<;>try simp only[go_sem,seval,hdj,hgj,x1,ne0,A0,A4])
     exact hb9 (by unfold V9;rw[x1];rfl)
    have x1:decide (h.trig<1)=false:=by simpa using t1
    by_cases t2:6<h.trig
    ·have x2:decide (h.trig>6)=true:=by simpa using t2
     have x2':decide (6<h.trig)=true:=by simpa using t2
     repeat'(apply wr<;>try simp only[go_sem,seval,hdj,hgj,x1,x2,ne0,A0,A4])
     exact hb9 (by unfold V9;rw[x2',Bool.or_true])
    have x2:decide (h.trig>6)=false:=by simpa using t2
    have x2':decide (6<h.trig)=false:=by simpa using t2
    have c2:V9 h=false:=by unfold V9;rw[x1,x2'];rfl
    clear hb9 c1;obtain⟨y,hy⟩:∃y:Nat,h.trig=1+(y:Int):=⟨(h.trig-1).toNat,by omega⟩;have hyw:IntKind.i64.wrap (h.trig-1)=(y:Int):=by rw[w6z];omega
    have hyn:(h.trig-1).toNat=y:=by omega
    have hy6:y<6:=by omega
    have hgy:F5[y]? = some (F5.getD y []):=by
     rw[A1K,A0B (show y<F5.length from hy6)];rfl
    have hsl:(F5.getD y []).length<=1000000000:=by
     have:∀i:Nat,i<6->(F5.getD i []).length<=1000000000:=by decide
     exact this y hy6
    have hTT:hdT h=wT2 [111,110] (F5.getD y [])++(if 2<h.trig then D6 h.name else [])++blT h.body:=by unfold hdT;rw[hyn];rfl
    generalize F5.getD y []=S at hgy hsl hTT;have hnh:=c_named h.name (by have h5:h.name.length<Hd.sz h:=(by unfold Hd.sz;omega);omega);have hbb:=c_blkT h.body (by have h5:Pb.St.szs h.body<Hd.sz h:=(by unfold Hd.sz;omega);omega);obtain⟨bl1, -⟩:=A9y h.body;rw[k0,hTT]at hKj1;simp only[A0A]at hKj1;have hbn:∀j':Nat,n<=j'->(((Sym.nil.upd 0 ⟨0,true,[C3 D,C6 M]⟩).upd c ⟨0,true,[.str m.name,I64 m.prio,M5 m.hds,I64 m.pos]⟩).upd i ⟨4,true,cellsL ((K j).map Tok.v)⟩) j'=none:=λj' h'=>by rw[hnO,hnO,hnO];rfl
    have ne0:=A2y 0 c i n (n+1+7) (by omega);repeat'((with_reducible first|apply wr|refine cpc c_trigs31 ?_)<;>try simp only[go_sem,seval,hdj,hgj,x1,x2,hyw,hgy,ne0,A0,A4])
    refine⟨by and_intros<;>(repeat rw[hnO])<;>rfl,?_⟩;refine AC.call (E8n A0 (by decide) hsl) ?_;rintro v H' c3 ⟨rfl,rfl,rfl⟩ -;have hw2:(wT2 [111,110] S).length=2:=rfl;have hun:=A5w (wT2 [111,110] S);have hunB:=A5w (blT h.body);have hunN:=A5w (D6 h.name);have hnl1:=B6 h.name;have hlnK:=R4 (K j);simp only[go_sem,seval,ne0,A0,R7 hun];repeat'(apply wr<;>try simp only[go_sem,seval,ne0,A0,A4,R7 hun])
    refine⟨by and_intros<;>(repeat rw[hnO])<;>rfl,?_⟩;rw[A2g hlnK (by omega) (by omega)];have ne0:=A2y 0 c i n (n+1+11) (by omega);simp only[go_sem,seval];by_cases t3:2<h.trig
    ·have x3:decide (h.trig>2)=true:=by simpa using t3
     rw[if_pos t3]at hTT hKj1;try simp only[A0A]at hKj1
     repeat'((with_reducible first|apply wr|refine cpc hnh ?_)<;>try simp only[go_sem,seval,ne0,A0,x3,R7 hunN])
     refine F6 (A2g (by rw[A0A,R4,R4];omega) (by omega) (by omega)) ?_;have ne0:=A6f 0 c i n (n+1+11) (n+1+11+1) (by omega);simp only[go_sem,seval];repeat'((with_reducible first|apply wr|refine cpc hbb ?_)<;>try simp only[go_sem,seval,ne0,A0,R7 hunB])
     refine F6 (A2g (by rw[A0A,A0A,R4,R4,R4];omega) (by omega) (by omega)) ?_;simp only[go_sem,seval];repeat'(apply wr<;>try simp only[go_sem,seval,hwj])
     refine⟨(j+1,n+1+11+1+1),by simp[k0,hTT,A3B],?_,inv ⟨by simp only;omega,by simp only;omega,by simp only;omega,by rw[c0];exact c2⟩,by simp only;omega⟩;dsimp only;intro j' b' hj';by_cases e1:j'=n+1+11+1+1
     ·subst e1;rw[A0]at hj' ⊢;rw[<- hj',k0,hTT];simp only[A0T,C2,A0Q];try rfl
     rw[h_ne e1]at hj' ⊢;by_cases e2:j'=c
     ·subst e2;rw[A0]at hj'
      repeat (first|rw[A0]|rw[hnO]|rw[B5p (by omega)])
      exact hj'
     rw[h_ne e2]at hj';by_cases e3:j'=0
     ·subst e3;rw[A0]at hj'
      repeat (first|rw[A0]|rw[hnO]|rw[B5p (by omega)])
      exact hj'
     ·rw[h_ne e3]at hj';cases hj'
    ·have x3:decide (h.trig>2)=false:=by simpa using t3
     rw[if_neg t3]at hTT hKj1;try simp only[A0O]at hKj1
     repeat'((with_reducible first|apply wr|refine cpc hbb ?_)<;>try simp only[go_sem,seval,ne0,A0,x3,R7 hunB])
     refine F6 (A2g (by rw[A0A,R4,R4];omega) (by omega) (by omega)) ?_;have ne0:=A6f 0 c i n (n+1+11) (n+1+11+1) (by omega);simp only[go_sem,seval];repeat'(apply wr<;>try simp only[go_sem,seval,hwj])
     refine⟨(j+1,n+1+11+1),by simp[k0,hTT,A3B],?_,inv ⟨by simp only;omega,by simp only;omega,by simp only;omega,by rw[c0];exact c2⟩,by simp only;omega⟩;dsimp only;intro j' b' hj';by_cases e1:j'=n+1+11+1
     ·subst e1;rw[A0]at hj' ⊢;rw[<- hj',k0,hTT];simp only[A0T,C2,A0Q,List.nil_append];try rfl
     rw[h_ne e1]at hj' ⊢;by_cases e2:j'=c
     ·subst e2;rw[A0]at hj'
      repeat (first|rw[A0]|rw[hnO]|rw[B5p (by omega)])
      exact hj'
     rw[h_ne e2]at hj';by_cases e3:j'=0
     ·subst e3;rw[A0]at hj'
      repeat (first|rw[A0]|rw[hnO]|rw[B5p (by omega)])
      exact hj'
     ·rw[h_ne e3]at hj';cases hj'
   ·have hdj:decide ((j:Int)<(m.hds.length:Int))=false:=by simpa using hjl
    have ne0:=X9 0 c i n (by omega);have hjE:j=m.hds.length:=by omega
    subst hjE;rw[A1P]at hbj;have hlw:=lw [125];have hun:=A5w (wT [125]);have hln2:=R4 (K m.hds.length);have hKm:=hKl m.hds.length;repeat'(apply wr<;>try simp only[go_sem,seval,hdj,ne0,A0])
    refine AC.call (wd1 A0 (by decide)) ?_;rintro v H' c3 ⟨rfl,rfl,rfl⟩ -;simp only[go_sem,seval,ne0,A0,R7 hun];repeat'(apply wr<;>try simp only[go_sem,seval,ne0,A0,A4,R7 hun])
    refine F6 (A2g hln2 (by omega) (by omega)) ?_;simp only[go_sem,seval];repeat'(apply wr<;>try simp only[go_sem,seval,hw])
    refine⟨(k+1,some (n+1)),by simp[todoV, <- hKe,hlw],?_,inv ⟨by omega,by simp only;omega,(λh=>by cases h),(λi hi=>by cases hi;omega),by rw[b0];exact hbj⟩,by simp only;omega⟩;dsimp only[optH];rw[<- hKe,A0T,C2];intro j b hj;by_cases e1:j=n+1
    ·subst e1;rw[A0]at hj ⊢;exact hj
    rw[h_ne e1]at hj ⊢;by_cases e2:j=0
    ·subst e2;rw[A0]at hj;rw[show ∀X:Hp,X.del i=delO X (some i) from λ_=>rfl,U4,iN,hnO,hnO,A0];exact hj
    ·rw[h_ne e2]at hj;cases hj
  ·have hd:=dfz hlt;rw[A0M (by omega)]at hbad;rw[if_neg (by rw[hbad];decide)]at hR;repeat'(apply wr<;>try simp only[go_sem,seval,hd,hbx])
   rw[hR,hG,A0M (by omega)];rw[hG,A0M (by omega)]at hno;exact D0d (λe=>by rw[hno e];rfl) (by simp) (E9 _)
theorem B8h(p:Bool):∀(l l':List Ex) (k:Nat),l.length=l'.length->(P1 p (l.take k) (l'.take k)=true)->∀x x',l[k]? = some x->l'[k]? = some x'->P1 p (l.take (k+1)) (l'.take (k+1))=B2n p x x'/\(B2n p x x'=false->P1 p l l'=false)
 |[],_,k,_,_,x,x',h,_=>by simp at h
 |_::_,[],k,h,_,_,_,_,_=>by simp at h
 |a::l,a'::l',0,_,_,x,x',h,h'=>by
  cases h;cases h';refine⟨?_,λe=>?_⟩
  ·simp[P1]
  ·rw[P1,e];rfl
 |a::l,a'::l',k+1,hl,he,x,x',h,h'=>by
  rw[A1E,A1E,P1,A0D]at he;have ih:=B8h p l l' k (by simpa using hl) he.2 x x' (by simpa using h) (by simpa using h');refine⟨?_,λe=>?_⟩
  ·rw[A1E,A1E,P1,he.1,A2E];exact ih.1
  ·rw[P1,ih.2 e,A3Z]
theorem B3p(p:Bool):∀(l l':List Ex),¬l.length=l'.length->P1 p l l'=false
 |[],[],h=>absurd rfl h
 |[],_::_,_=>rfl
 |_::_,[],_=>rfl
 |a::l,a'::l',h=>by rw[P1,B3p p l l' (by simpa using h),A3Z]
theorem c_sameEs(p:Bool)(l l':List Ex)(hl:l.length<=100000000000)(h:∀x∈l, ∀y,PC Tryz.prog 227 [x.v,y.v,.bool p] (.bool (B2n p x y))):PC Tryz.prog 173 [H9 l,H9 l',.bool p] (.bool (P1 p l l')):=by
 refine PC.go A2 ?_;by_cases hlen:l.length=l'.length
 ·have hd0:((l.length:Int) != (l'.length:Int))=false:=by simp[hlen]
  repeat'(apply wr<;>try simp only[go_sem,seval,hd0,A0C])
  refine A6 (λk:Nat=>[(0,H9 l),(1,H9 l'),(2,.bool p),(7,I64 k)]) (λ_=>Sym.nil) (λk c=>k<=l.length/\P1 p (l.take k) (l'.take k)=true) (λk=>l.length-k) 0 (by simp[B7,tm,Tm.upd]) (Sub.nil _) ⟨A0P _,rfl⟩ ?_;rintro k c ⟨hk,he⟩;by_cases hlt:k<l.length
  ·have hd:=dtz hlt;have hg:=A0B hlt;have hg':=A0B (l:=l') (i:=k) (by omega);have hw:=w64 (n:=(k:Int)+1);have hc:=h _ (A0L hlt) (l'[k]'(by omega));obtain⟨s1,s2⟩:=B8h p l l' k hlen he _ _ hg hg';generalize l[k]=x at hg hc s1 s2;generalize l'[k]'(by omega)=x' at hg' hc s1 s2;rw[Ex.v_w,Ex.v_w]at hc;cases hx:B2n p x x' with
   |true =>
    repeat'((with_reducible first|apply wr|refine cpc hc ?_)<;>try simp only[go_sem,seval,hd,hg,hg',hw,hx,Ex.v_w,A0C])
    exact⟨k+1,by simp[],Sub.nil _,inv ⟨by omega,by rw[s1];exact hx⟩,by omega⟩
   |false =>
    repeat'((with_reducible first|apply wr|refine cpc hc ?_)<;>try simp only[go_sem,seval,hd,hg,hg',hx,Ex.v_w,A0C])
    exact⟨_,by rw[s2 hx];exact GL.refl _ _⟩
  ·have hd:=dfz hlt;rw[A0M (by omega),A0M (by omega)]at he;repeat'(apply wr<;>try simp only[go_sem,seval,hd,A0C])
   exact⟨_,by rw[he];exact GL.refl _ _⟩
 ·have hd0:((l.length:Int) != (l'.length:Int))=true:=by simp;omega
  repeat'(apply wr<;>try simp only[go_sem,seval,hd0,A0C])
  exact⟨_,by rw[B3p p l l' hlen];exact GL.refl _ _⟩
theorem c_sameE(p:Bool):∀(m:Nat) (a b:Ex),a.sz<m->a.sz<=100000000000->PC Tryz.prog 227 [a.v,b.v,.bool p] (.bool (B2n p a b)):=by
 intro m
 induction m with
 |zero=>intro a b h;omega
 |succ m ih =>
 intro a b hm hB;have hs:=c_sameEs p a.args b.args (by have:=a.sz_args;omega) (λx hx y=>ih x y (by have:=Ex.sz_arg hx;omega) (by have:=Ex.sz_arg hx;omega));have e0:B2n p a b=(a.kind==b.kind&&(a.value==b.value&&(a.name==b.name&&((p||a.pos==b.pos)&&P1 p a.args b.args)))):=by
  cases a with|mk k v n l q=>cases b with|mk k' v' n' l' q'=>rw[B2n];rfl
 refine PC.go A2 ?_;rw[Ex.v_w,Ex.v_w,e0];cases h1:a.kind==b.kind with
 |false =>
  repeat'(apply wr<;>try simp only[go_sem,seval,h1])
  exact⟨_,GL.refl _ _⟩
 |true =>
  cases h2:a.value==b.value with
  |false =>
   repeat'(apply wr<;>try simp only[go_sem,seval,h1,h2])
   exact⟨_,GL.refl _ _⟩
  |true =>
   cases h3:a.name==b.name with
   |false =>
    repeat'(apply wr<;>try simp only[go_sem,seval,h1,h2,h3])
    exact⟨_,GL.refl _ _⟩
   |true =>
    cases hp:p with
    |true =>
     subst hp;repeat'((with_reducible first|apply wr|refine cpc hs ?_)<;>try simp only[go_sem,seval,h1,h2,h3])
     exact⟨_,GL.refl _ _⟩
    |false =>
     subst hp;cases h4:a.pos==b.pos with
     |false =>
      repeat'(apply wr<;>try simp only[go_sem,seval,h1,h2,h3,h4])
      exact⟨_,GL.refl _ _⟩
     |true =>
      repeat'((with_reducible first|apply wr|refine cpc hs ?_)<;>try simp only[go_sem,seval,h1,h2,h3,h4])
      exact⟨_,GL.refl _ _⟩
theorem B6o:∀(l l':List Pb.St) (k:Nat),l.length=l'.length->(N5 (l.take k) (l'.take k)=true)->∀x x',l[k]? = some x->l'[k]? = some x'->N5 (l.take (k+1)) (l'.take (k+1))=B9u x x'/\(B9u x x'=false->N5 l l'=false)
 |[],_,k,_,_,x,x',h,_=>by simp at h
 |_::_,[],k,h,_,_,_,_,_=>by simp at h
 |a::l,a'::l',0,_,_,x,x',h,h'=>by
  cases h;cases h';refine⟨?_,λe=>?_⟩
  ·simp[N5]
  ·rw[N5,e];rfl
 |a::l,a'::l',k+1,hl,he,x,x',h,h'=>by
  rw[A1E,A1E,N5,A0D]at he;have ih:=B6o l l' k (by simpa using hl) he.2 x x' (by simpa using h) (by simpa using h');refine⟨?_,λe=>?_⟩
  ·rw[A1E,A1E,N5,he.1,A2E];exact ih.1
  ·rw[N5,ih.2 e,A3Z]
theorem B2r:∀(l l':List Pb.St),¬l.length=l'.length->N5 l l'=false
 |[],[],h=>absurd rfl h
 |[],_::_,_=>rfl
 |_::_,[],_=>rfl
 |a::l,a'::l',h=>by rw[N5,B2r l l' (by simpa using h),A3Z]
theorem E0c(a b:Pb.St):B9u a b=(a.kind==b.kind&&(a.name==b.name&&(a.text==b.text&&(a.pos==b.pos&&(P1 false a.args b.args&&(N5 a.thn b.thn&&N5 a.els b.els)))))):=by
 cases a with|mk k n t a x y q=>cases b with|mk k' n' t' a' x' y' q'=>rw[B9u];rfl
theorem c_sameS:∀(m:Nat) (l l':List Pb.St),Pb.St.szs l<m->Pb.St.szs l<=100000000000->PC Tryz.prog 119 [D5 l,D5 l'] (.bool (N5 l l')):=by
 intro m
 induction m with
 |zero=>intro a b h;omega
 |succ m ih =>
 intro l l' hm hB;have hl:=Pb.St.szs_len l;refine PC.go A2 ?_;by_cases hlen:l.length=l'.length
 ·have hd0:((l.length:Int) != (l'.length:Int))=false:=by simp[hlen]
  repeat'(apply wr<;>try simp only[go_sem,seval,hd0,A0C])
  refine A6 (λk:Nat=>[(0,D5 l),(1,D5 l'),(5,I64 k)]) (λ_=>Sym.nil) (λk c=>k<=l.length/\N5 (l.take k) (l'.take k)=true) (λk=>l.length-k) 0 (by simp[B7,tm,Tm.upd]) (Sub.nil _) ⟨A0P _,rfl⟩ ?_;rintro k c ⟨hk,he⟩;by_cases hlt:k<l.length
  ·have hd:=dtz hlt;have hg:=A0B hlt;have hg':=A0B (l:=l') (i:=k) (by omega);have hw:=w64 (n:=(k:Int)+1);obtain⟨s1,s2⟩:=B6o l l' k hlen he _ _ hg hg';have hsx:=Pb.St.szs_mem (A0L hlt);generalize l[k]=x at hg hsx s1 s2;generalize l'[k]'(by omega)=x' at hg' s1 s2;have ht:=x.sz_thn;have hy:=x.sz_els;have hargs:∀y∈x.args,y.sz<x.sz:=λy hy=>Pb.St.sz_arg hy;have hal:=x.sz_args;have ca:=c_sameEs false x.args x'.args (by omega) (λy hy z=>c_sameE false (y.sz+1) y z (by omega) (by have:=hargs y hy;omega));have ct:=ih x.thn x'.thn (by omega) (by omega);have cy:=ih x.els x'.els (by omega) (by omega);rw[E0c]at s1 s2;have ne0:=W9 (c+8) (c+9) (by omega);have hn8:∀i:Nat,Sym.nil (c+i)=none:=λ_=>rfl;repeat'(apply wr<;>try simp only[go_sem,seval,hd,hg,hg',Pb.St.v_w,A0C,ne0,A0])
   refine⟨by and_intros<;>(repeat rw[hnO])<;>rfl,?_⟩;repeat'((with_reducible first|refine I4 (p:=IW _ _ (pz Tryz.prog 119 (.o (.i (.o (.i .h))))) _ _) ?_|refine wr ?_)<;>try simp only[go_sem,seval,ne0,A0,A4])
   unfold B2o;clear hd hg hg';cases h1:x.kind==x'.kind with
   |false =>
    have n1:(x.kind != x'.kind)=true:=by rw[bne,h1];rfl
    repeat'(apply wr<;>try simp only[go_sem,seval,ne0,A0,n1])
    exact⟨_,by rw[s2 (by rw[h1];rfl)];exact GL.refl _ _⟩
   |true =>
    have n1:(x.kind != x'.kind)=false:=by rw[bne,h1];rfl
    cases h2:x.name==x'.name with
    |false =>
     repeat'(apply wr<;>try simp only[go_sem,seval,ne0,A0,n1,h2])
     exact⟨_,by rw[s2 (by rw[h1,h2];rfl)];exact GL.refl _ _⟩
    |true =>
     cases h3:x.text==x'.text with
     |false =>
      repeat'(apply wr<;>try simp only[go_sem,seval,ne0,A0,n1,h2,h3])
      exact⟨_,by rw[s2 (by rw[h1,h2,h3];rfl)];exact GL.refl _ _⟩
     |true =>
      cases h4:x.pos==x'.pos with
      |false =>
       have n4:(x.pos != x'.pos)=true:=by rw[bne,h4];rfl
       repeat'(apply wr<;>try simp only[go_sem,seval,ne0,A0,n1,h2,h3,n4])
       exact⟨_,by rw[s2 (by rw[h1,h2,h3,h4];rfl)];exact GL.refl _ _⟩
      |true =>
       have n4:(x.pos != x'.pos)=false:=by rw[bne,h4];rfl
       cases h5:P1 false x.args x'.args with
       |false =>
        repeat'((with_reducible first|apply wr|refine cpc ca ?_)<;>try simp only[go_sem,seval,ne0,A0,n1,h2,h3,n4,h5])
        exact⟨_,by rw[s2 (by rw[h1,h2,h3,h4,h5];rfl)];exact GL.refl _ _⟩
       |true =>
        cases h6:N5 x.thn x'.thn with
        |false =>
         repeat'((with_reducible first|apply wr|refine cpc ca ?_|refine cpc ct ?_)<;>try simp only[go_sem,seval,ne0,A0,n1,h2,h3,n4,h5,h6])
         exact⟨_,by rw[s2 (by rw[h1,h2,h3,h4,h5,h6];rfl)];exact GL.refl _ _⟩
        |true =>
         cases h7:N5 x.els x'.els with
         |false =>
          repeat'((with_reducible first|apply wr|refine cpc ca ?_|refine cpc ct ?_|refine cpc cy ?_)<;>try simp only[go_sem,seval,ne0,A0,n1,h2,h3,n4,h5,h6,h7])
          exact⟨_,by rw[s2 (by rw[h1,h2,h3,h4,h5,h6,h7];rfl)];exact GL.refl _ _⟩
         |true =>
          repeat'((with_reducible first|apply wr|refine cpc ca ?_|refine cpc ct ?_|refine cpc cy ?_)<;>try simp only[go_sem,seval,hw,ne0,A0,n1,h2,h3,n4,h5,h6,h7])
          exact⟨k+1,by simp[],Sub.nil _,inv ⟨by omega,by rw[s1,h1,h2,h3,h4,h5,h6,h7];rfl⟩,by omega⟩
  ·have hd:=dfz hlt;rw[A0M (by omega),A0M (by omega)]at he;repeat'(apply wr<;>try simp only[go_sem,seval,hd,A0C])
   exact⟨_,by rw[he];exact GL.refl _ _⟩
 ·have hd0:((l.length:Int) != (l'.length:Int))=true:=by simp;omega
  repeat'(apply wr<;>try simp only[go_sem,seval,hd0,A0C])
  exact⟨_,by rw[B2r l l' hlen];exact GL.refl _ _⟩
def B9y(a b:Ru):Bool:=@decide (a=b) (Classical.propDecidable _)
theorem E0k{a b:Ru}(h:a=b):B9y a b=true:=by unfold B9y;exact @decide_eq_true _ (_) h
theorem E0l{a b:Ru}(h:¬a=b):B9y a b=false:=by unfold B9y;exact @decide_eq_false _ (_) h
theorem B4m{α:Type}{l l':List α}{k:Nat}{x x' : α}(h:l.take k=l'.take k)(hx:l[k]? = some x)(hx':l'[k]? = some x')(e:x=x'):l.take (k+1)=l'.take (k+1):=by
 rw[A0R,A0R,h,hx,hx',e]
theorem O7{α:Type}{l l':List α}{k:Nat}{x x' : α}(hx:l[k]? = some x)(hx':l'[k]? = some x')(e:¬x=x'):¬l=l':=by
 rintro rfl;rw[hx]at hx';exact e (Option.some.inj hx')
theorem C2l{H H':Hp}{c:Nat}(h1:∀j b,H j=some b->j<c)(h2:∀j,j<c->H' j=H j):Sym.Sub H H':=λj b hj=>by rw[h2 j (h1 j b hj)];exact hj
theorem c_Same31(a b:Ru)(hB:a.sz<=100000000000):PC Tryz.prog 72 [a.v,b.v] (.bool (B9y a b)):=by
 refine PC.go A2 ?_;obtain⟨R,hR⟩:∃R,R=B9y a b:=⟨_,rfl⟩;rw[<- hR];obtain⟨D,M⟩:=a;obtain⟨D',M'⟩:=b;have hF:(¬D=D'\/¬M=M')->R=false:=λh=>by
  rw[hR];exact E0l λe=>by cases e;exact h.elim (· rfl) (· rfl)
 have hT:D=D'->M=M'->R=true:=λh1 h2=>by rw[hR];exact E0k (by rw[h1,h2])
 clear hR;have hDs:(D.map Dc.sz).sum+(M.map Md.sz).sum<=100000000000:=hB;have hDl:D.length<=(D.map Dc.sz).sum:=I7 λx _=>by show 1<=1+_;omega
 have hMl:M.length<=(M.map Md.sz).sum:=I7 λx _=>by show 1<=1+_+_;omega
 dsimp only[Ru.v];by_cases l1:D.length=D'.length
 case neg =>
  have f1:((D.length:Int) != (D'.length:Int))=true:=by simp;omega
  repeat'(apply wr<;>try simp only[go_sem,seval,f1,A0C])
  exact⟨_,by rw[hF (.inl λe=>l1 (by rw[e]))];exact GL.refl _ _⟩
 have f1:((D.length:Int) != (D'.length:Int))=false:=by simp[l1]
 by_cases l2:M.length=M'.length
 case neg =>
  have f2:((M.length:Int) != (M'.length:Int))=true:=by simp;omega
  repeat'(apply wr<;>try simp only[go_sem,seval,f1,f2,A0C])
  exact⟨_,by rw[hF (.inr λe=>l2 (by rw[e]))];exact GL.refl _ _⟩
 have f2:((M.length:Int) != (M'.length:Int))=false:=by simp[l2]
 repeat'(apply wr<;>try simp only[go_sem,seval,f1,f2,A0C])
 refine A6 (λk:Nat=>[(2,.ptr 0 0),(3,.ptr 1 0),(5,I64 k)]) (λ_=>(Sym.nil.upd 0 ⟨0,true,[C3 D,C6 M]⟩).upd 1 ⟨0,true,[C3 D',C6 M']⟩) (λk c=>2<=c/\k<=D.length/\D.take k=D'.take k) (λk=>D.length-k) 0 (by simp[B7,tm,Tm.upd]) (Sub.refl _) ⟨by omega,A0P _,rfl⟩ ?_;rintro k c ⟨hc,hk,he⟩;by_cases hlt:k<D.length
 ·have hd:=dtz hlt;have hg:=A0B hlt;have hg':=A0B (l:=D') (i:=k) (by omega);have hw:=w64 (n:=(k:Int)+1);generalize D[k]=x at hg;generalize D'[k]'(by omega)=x' at hg';have hq:(x.kind==x'.kind&&(x.name==x'.name&&(x.value==x'.value&&x.pos==x'.pos)))=true↔x=x':=by
   cases x;cases x';simp only[A0D,A1T,Dc.mk.injEq]
  by_cases hx:x=x'
  ·have hqt:(true != (x.kind==x'.kind&&(x.name==x'.name&&(x.value==x'.value&&x.pos==x'.pos))))=false:=by rw[hq.2 hx];rfl
   repeat'(apply wr<;>try simp only[go_sem,seval,hd,hg,hg',hw,D8r,hqt,A0C])
   exact⟨k+1,by simp[],Sub.refl _,inv ⟨by omega,by omega,B4m he hg hg' hx⟩,by omega⟩
  ·have hqf:(true != (x.kind==x'.kind&&(x.name==x'.name&&(x.value==x'.value&&x.pos==x'.pos))))=true:=by
    rw[show(x.kind==x'.kind&&(x.name==x'.name&&(x.value==x'.value&&x.pos==x'.pos)))=false from by
     cases hz:(x.kind==x'.kind&&(x.name==x'.name&&(x.value==x'.value&&x.pos==x'.pos))) with
     |false=>rfl
     |true=>exact absurd (hq.1 hz) hx]
    rfl
   repeat'(apply wr<;>try simp only[go_sem,seval,hd,hg,hg',D8r,hqf,A0C])
   exact⟨_,by rw[hF (.inl (O7 hg hg' hx))];exact GL.refl _ _⟩
 ·have hd:=dfz hlt;rw[A0M (by omega),A0M (by omega)]at he;repeat'(apply wr<;>try simp only[go_sem,seval,hd,A0C])
  have hDD:=he;clear hd hlt he hk;refine A6 (λk:Nat=>[(2,.ptr 0 0),(3,.ptr 1 0),(6,I64 k)]) (λ_=>(Sym.nil.upd 0 ⟨0,true,[C3 D,C6 M]⟩).upd 1 ⟨0,true,[C3 D',C6 M']⟩) (λk c=>2<=c/\k<=M.length/\M.take k=M'.take k) (λk=>M.length-k) 0 (by simp[B7,tm,Tm.upd]) (Sub.refl _) ⟨hc,A0P _,rfl⟩ ?_;clear hc k c;rintro k c ⟨hc,hk,he⟩;by_cases hlt:k<M.length
  ·have hd:=dtz hlt;have hg:=A0B hlt;have hg':=A0B (l:=M') (i:=k) (by omega);have hw:=w64 (n:=(k:Int)+1);have hsx:=K1 (f:=Md.sz) (A0L hlt);generalize M[k]=x at hg hsx;generalize M'[k]'(by omega)=x' at hg';have hxs:(x.hds.map Hd.sz).sum<Md.sz x:=by unfold Md.sz;omega
   have hxl:x.hds.length<=(x.hds.map Hd.sz).sum:=I7 λx _=>by show 1<=1+_+_;omega
   have ne0:=X9 0 1 (c+10) (c+11) (by omega);repeat'(apply wr<;>try simp only[go_sem,seval,hd,hg,hg',ne0,A0,A0C])
   refine⟨by and_intros<;>(repeat rw[hnO])<;>rfl,?_⟩;repeat'((with_reducible first|refine I4 (p:=IW _ _ (pz Tryz.prog 72 (.i (.i (.i (.i (.o .h)))))) _ _) ?_|refine wr ?_)<;>try simp only[go_sem,seval,ne0,A0,A4])
   unfold B2o;clear hd;by_cases h1:x.name=x'.name
   case neg =>
    have nh1:(x.name==x'.name)=false:=by simpa using h1
    repeat'(apply wr<;>try simp only[go_sem,seval,ne0,A0,nh1])
    exact⟨_,by rw[hF (.inr (O7 hg hg' λe=>h1 (by rw[e])))];exact GL.refl _ _⟩
   case pos =>
    have nh1:(x.name==x'.name)=true:=by simpa using h1
    by_cases h2:x.prio=x'.prio
    case neg =>
     have nh2:(x.prio != x'.prio)=true:=by simpa using h2
     repeat'(apply wr<;>try simp only[go_sem,seval,ne0,A0,nh1,nh2])
     exact⟨_,by rw[hF (.inr (O7 hg hg' λe=>h2 (by rw[e])))];exact GL.refl _ _⟩
    case pos =>
     have nh2:(x.prio != x'.prio)=false:=by simpa using h2
     by_cases h3:x.pos=x'.pos
     case neg =>
      have nh3:(x.pos != x'.pos)=true:=by simpa using h3
      repeat'(apply wr<;>try simp only[go_sem,seval,ne0,A0,nh1,nh2,nh3])
      exact⟨_,by rw[hF (.inr (O7 hg hg' λe=>h3 (by rw[e])))];exact GL.refl _ _⟩
     case pos =>
      have nh3:(x.pos != x'.pos)=false:=by simpa using h3
      by_cases h4:x.hds.length=x'.hds.length
      case neg =>
       have nh4:((x.hds.length:Int) != (x'.hds.length:Int))=true:=by simp;omega
       repeat'(apply wr<;>try simp only[go_sem,seval,ne0,A0,A0C,nh1,nh2,nh3,nh4])
       exact⟨_,by rw[hF (.inr (O7 hg hg' λe=>h4 (by rw[e])))];exact GL.refl _ _⟩
      case pos =>
       have nh4:((x.hds.length:Int) != (x'.hds.length:Int))=false:=by simp[h4]
       repeat'(apply wr<;>try simp only[go_sem,seval,ne0,A0,A0C,nh1,nh2,nh3,nh4])
       refine A6 (λj:Nat=>[(2,.ptr 0 0),(3,.ptr 1 0),(6,I64 k),(7,.ptr (c+10) 0),(8,.ptr (c+11) 0),(9,I64 j)]) (λ_=>(((Sym.nil.upd 0 ⟨0,true,[C3 D,C6 M]⟩).upd 1 ⟨0,true,[C3 D',C6 M']⟩).upd (c+10) ⟨0,true,[.str x.name,I64 x.prio,M5 x.hds,I64 x.pos]⟩).upd (c+11) ⟨0,true,[.str x'.name,I64 x'.prio,M5 x'.hds,I64 x'.pos]⟩) (λj n=>c+12<=n/\j<=x.hds.length/\x.hds.take j=x'.hds.take j) (λj=>x.hds.length-j) 0 (by simp[B7,tm,Tm.upd]) ?_ ⟨by omega,A0P _,rfl⟩ ?_
       ·intro j b hj;by_cases e1:j=c+11
        ·subst e1;rw[A0]at hj ⊢;exact hj
        rw[h_ne e1]at hj ⊢;by_cases e2:j=c+10
        ·subst e2;rw[A0]at hj ⊢;exact hj
        rw[h_ne e2]at hj ⊢
        repeat rw[hnO]
        exact hj
       rintro j n ⟨hn,hj,hej⟩;by_cases hjl:j<x.hds.length
       ·have hdj:decide ((j:Int)<(x.hds.length:Int))=true:=by simpa using hjl
        have gj:=A0B hjl;have gj':=A0B (l:=x'.hds) (i:=j) (by omega);have hwj:=w64 (n:=(j:Int)+1);have hsj:=K1 (f:=Hd.sz) (A0L hjl);generalize x.hds[j]=y at gj hsj;generalize x'.hds[j]'(by omega)=y' at gj';have hbs:Pb.St.szs y.body<Hd.sz y:=by unfold Hd.sz;omega
        have cs:=c_sameS (Pb.St.szs y.body+1) y.body y'.body (by omega) (by omega);have ne0:=A6f 0 1 (c+10) (c+11) (n+10) (n+11) (by omega);repeat'(apply wr<;>try simp only[go_sem,seval,hdj,gj,gj',ne0,A0,A0C])
        refine⟨by and_intros<;>(repeat rw[hnO])<;>rfl,?_⟩;repeat'((with_reducible first|refine I4 (p:=IW _ _ (pz Tryz.prog 72 (.i (.o (.i (.o (.o (.o .h))))))) _ _) ?_|refine wr ?_)<;>try simp only[go_sem,seval,ne0,A0,A4])
        unfold B2o;clear hdj;by_cases q1:y.trig=y'.trig
        case neg =>
         have nq1:(y.trig != y'.trig)=true:=by simpa using q1
         repeat'(apply wr<;>try simp only[go_sem,seval,ne0,A0,nq1])
         exact⟨_,by rw[hF (.inr (O7 hg hg' λe=>O7 gj gj' (λe2=>by exact q1 (by rw[e2])) (by rw[e])))];exact GL.refl _ _⟩
        case pos =>
         have nq1:(y.trig != y'.trig)=false:=by simpa using q1
         by_cases q2:y.name=y'.name
         case neg =>
          have nq2:(y.name==y'.name)=false:=by simpa using q2
          repeat'(apply wr<;>try simp only[go_sem,seval,ne0,A0,nq1,nq2])
          exact⟨_,by rw[hF (.inr (O7 hg hg' λe=>O7 gj gj' (λe2=>by exact q2 (by rw[e2])) (by rw[e])))];exact GL.refl _ _⟩
         case pos =>
          have nq2:(y.name==y'.name)=true:=by simpa using q2
          by_cases q3:y.pos=y'.pos
          case neg =>
           have nq3:(y.pos != y'.pos)=true:=by simpa using q3
           repeat'(apply wr<;>try simp only[go_sem,seval,ne0,A0,nq1,nq2,nq3])
           exact⟨_,by rw[hF (.inr (O7 hg hg' λe=>O7 gj gj' (λe2=>by exact q3 (by rw[e2])) (by rw[e])))];exact GL.refl _ _⟩
          case pos =>
           have nq3:(y.pos != y'.pos)=false:=by simpa using q3
           cases q4:N5 y.body y'.body with
           |false =>
            repeat'((with_reducible first|apply wr|refine cpc cs ?_)<;>try simp only[go_sem,seval,ne0,A0,nq1,nq2,nq3,q4])
            exact⟨_,by rw[hF (.inr (O7 hg hg' λe=>O7 gj gj' (λe2=>by rw[e2,(A1e _ _).2 rfl]at q4;cases q4) (by rw[e])))];exact GL.refl _ _⟩
           |true =>
            repeat'((with_reducible first|apply wr|refine cpc cs ?_)<;>try simp only[go_sem,seval,hwj,ne0,A0,nq1,nq2,nq3,q4])
            exact⟨j+1,by simp[],(C2l (c:=n) (λj0 b0 h0=>by by_cases a1:j0=c+11;omega;rw[h_ne a1]at h0;by_cases a2:j0=c+10;omega;rw[h_ne a2]at h0;by_cases a3:j0=1;omega;rw[h_ne a3]at h0;by_cases a4:j0=0;omega;rw[h_ne a4]at h0;cases h0) (λj0 h0=>by repeat rw[hnO])),inv ⟨by omega,by omega,B4m hej gj gj' (by cases y;cases y';simp only[Hd.mk.injEq]at *;exact⟨q1,q2,(A1e _ _).1 q4,q3⟩)⟩,by omega⟩
       ·have hdj:decide ((j:Int)<(x.hds.length:Int))=false:=by simpa using hjl
        rw[A0M (by omega),A0M (by omega)]at hej;have ne0:=X9 0 1 (c+10) (c+11) (by omega);repeat'(apply wr<;>try simp only[go_sem,seval,hdj,hw,ne0,A0,A0C])
        exact⟨k+1,by simp[],(C2l (c:=c) (λj0 b0 h0=>by by_cases a3:j0=1;omega;rw[h_ne a3]at h0;by_cases a4:j0=0;omega;rw[h_ne a4]at h0;cases h0) (λj0 h0=>by repeat rw[hnO])),inv ⟨by omega,by omega,B4m he hg hg' (by cases x;cases x';simp only[Md.mk.injEq]at *;exact⟨h1,h2,hej,h3⟩)⟩,by omega⟩
  ·have hd:=dfz hlt;rw[A0M (by omega),A0M (by omega)]at he;repeat'(apply wr<;>try simp only[go_sem,seval,hd,A0C])
   exact⟨_,by rw[hT hDD he];exact GL.refl _ _⟩
theorem c_plainE:∀(m:Nat) (l:List Ex),Ex.szs l<m->Ex.szs l<=100000000000->PC Tryz.prog 71 [H9 l] (H9 (l.map Ex.plain)):=by
 intro m
 induction m with
 |zero=>intro l h;omega
 |succ m ih =>
 intro l hm hB;have hl:=Ex.szs_len l;refine PC.ofT A2 rfl (A0H rfl) (by simp[DV.nlL,DV.nl,A2b]) (A2b _) ?_;repeat'(apply wr<;>try simp only[go_sem,seval])
 obtain⟨F,hF⟩:∃F:Nat->List Ex, ∀k,F k=(l.take k).map Ex.plain:=⟨_,λ_=>rfl⟩;have hF0:F 0=[]:=by rw[hF];rfl
 have hFl:∀k,(F k).length<=l.length:=λk=>by rw[hF,A0C,A0Y];omega
 refine A6 (λq:Nat × Option Nat=>[(0,H9 l),(3,todoV q.2 (F q.1).length),(4,I64 q.1)]) (λq=>optH Sym.nil q.2 ⟨5,true,cellsL ((F q.1).map Ex.v)⟩)
  (λq c=>q.1<=l.length/\(q.2=none->F q.1=[])/\(∀i,q.2=some i->i<c)) (λq=>l.length-q.1) (0,none)
  (by simp[B7,tm,Tm.upd,todoV]) (Sub.nil _) ⟨A0P _,λ_=>hF0,(λi hi=>by cases hi)⟩ ?_
 rintro⟨k,o⟩ c ⟨hk,hno,ho⟩;dsimp only at hk hno ho ⊢;by_cases hlt:k<l.length
 ·have hd:=dtz hlt;have hg:=A0B hlt;have hsx:=Ex.szs_mem (A0L hlt);have hw:=w64 (n:=(k:Int)+1);have e0:F (k+1)=F k++[l[k].plain]:=by rw[hF,hF,A0R,hg,A0T];rfl
  have hFk:=hFl k;generalize l[k]=x at hg hsx e0;have hax:Ex.szs x.args<x.sz:=by cases x with|mk k v n a p=>rw[Ex.sz];show Ex.szs a<_;omega
  have hc:=ih x.args (by omega) (by omega);have hln:(cellsL ((F k).map Ex.v)).length=(F k).length*5:=(C1 (u:=5) (A6t _)).trans (by simp);have ne0:=P5 c (c+1) (c+2) (by omega);repeat'((with_reducible first|apply wr|refine cpc hc ?_)<;>try simp only[go_sem,seval,hd,hg,Ex.v_w,A0,A4])
  refine F6 (D4 (cs:=cellsL ((F k).map Ex.v)) (λe=>by rw[hno e];exact⟨rfl,rfl⟩) (λi hi=>by have:=ho i hi;rw[hnO,hnO];exact A2x hi) hln (by omega) (by omega) (by omega)) ?_;simp only[go_sem,seval];repeat'(apply wr<;>try simp only[go_sem,seval,hw])
  refine⟨(k+1,some (c+1+1)),by simp[todoV,e0],?_,inv ⟨by omega,(λh=>by cases h),(λi hi=>by cases hi;omega)⟩,by simp only;omega⟩;dsimp only[optH];rw[e0,A0T,C2];refine A1s ?_;cases x with|mk kk v n a p=>simp only[Ex.plain,Ex.plains_map,Ex.kind,Ex.value,Ex.name,Ex.args,Ex.pos,A6u]
 ·have hd:=dfz hlt;repeat'(apply wr<;>try simp only[go_sem,seval,hd])
  rw[hF,A0M (by omega)];exact A6c (λe=>by have:=hno e;rw[hF,A0M (by omega)]at this;rw[this];rfl) (by simp) (A6t _)
theorem c_plainS:∀(m:Nat) (l:List Pb.St),Pb.St.szs l<m->Pb.St.szs l<=100000000000->PC Tryz.prog 30 [D5 l] (D5 (l.map Pb.St.plain)):=by
 intro m
 induction m with
 |zero=>intro l h;omega
 |succ m ih =>
 intro l hm hB;have hl:=Pb.St.szs_len l;refine PC.ofT A2 rfl (A0H rfl) (by simp[DV.nlL,DV.nl,X8]) (X8 _) ?_;repeat'(apply wr<;>try simp only[go_sem,seval])
 obtain⟨F,hF⟩:∃F:Nat->List Pb.St, ∀k,F k=(l.take k).map Pb.St.plain:=⟨_,λ_=>rfl⟩;have hF0:F 0=[]:=by rw[hF];rfl
 have hFl:∀k,(F k).length<=l.length:=λk=>by rw[hF,A0C,A0Y];omega
 refine A6 (λq:Nat × Option Nat=>[(0,D5 l),(3,todoV q.2 (F q.1).length),(4,I64 q.1)]) (λq=>optH Sym.nil q.2 ⟨7,true,cellsL ((F q.1).map Pb.St.v)⟩)
  (λq c=>q.1<=l.length/\(q.2=none->F q.1=[])/\(∀i,q.2=some i->i<c)) (λq=>l.length-q.1) (0,none)
  (by simp[B7,tm,Tm.upd,todoV]) (Sub.nil _) ⟨A0P _,λ_=>hF0,(λi hi=>by cases hi)⟩ ?_
 rintro⟨k,o⟩ c ⟨hk,hno,ho⟩;dsimp only at hk hno ho ⊢;by_cases hlt:k<l.length
 ·have hd:=dtz hlt;have hg:=A0B hlt;have hsx:=Pb.St.szs_mem (A0L hlt);have hw:=w64 (n:=(k:Int)+1);have e0:F (k+1)=F k++[l[k].plain]:=by rw[hF,hF,A0R,hg,A0T];rfl
  have hFk:=hFl k;generalize l[k]=x at hg hsx e0;have hax:Ex.szs x.args<x.sz:=by cases x with|mk k n t a x y p=>rw[Pb.St.sz];show Ex.szs a<_;omega
  have htx:=x.sz_thn;have hyx:=x.sz_els;have hc:=c_plainE (Ex.szs x.args+1) x.args (by omega) (by omega);have hct:=ih x.thn (by omega) (by omega);have hcy:=ih x.els (by omega) (by omega);have hln:(cellsL ((F k).map Pb.St.v)).length=(F k).length*7:=(C1 (u:=7) (A9l _)).trans (by simp);have hbn:∀j:Nat,c<=j->optH Sym.nil o ⟨7,true,cellsL ((F k).map Pb.St.v)⟩ j=none:=λj hj=>by rw[B5 (λi hi=>by have:=ho i hi;omega)];rfl
  have ne0:=P5 c (c+1) (c+2) (by omega);repeat'((with_reducible first|apply wr|refine cpc hc ?_)<;>try simp only[go_sem,seval,hd,hg,Pb.St.v_w,A0,A4])
  refine⟨by and_intros<;>(repeat rw[hnO])<;>exact hbn _ (by omega),?_⟩;repeat'((with_reducible first|apply wr|refine cpc hct ?_)<;>try simp only[go_sem,seval,A0])
  refine⟨by and_intros<;>(repeat rw[hnO])<;>exact hbn _ (by omega),?_⟩;repeat'((with_reducible first|apply wr|refine cpc hcy ?_)<;>try simp only[go_sem,seval,A0,A4])
  refine⟨by and_intros<;>(repeat rw[hnO])<;>exact hbn _ (by omega),?_⟩;repeat'(apply wr<;>try simp only[go_sem,seval,A0])
  refine F6 (D4 (cs:=cellsL ((F k).map Pb.St.v)) (λe=>by rw[hno e];exact⟨rfl,rfl⟩) (λi hi=>by have:=ho i hi;rw[hnO,hnO];exact A2x hi) hln (by omega) (by omega) (by omega)) ?_;simp only[go_sem,seval];repeat'(apply wr<;>try simp only[go_sem,seval,hw])
  refine⟨(k+1,some (c+1+17+1)),by simp[todoV,e0],?_,inv ⟨by omega,(λh=>by cases h),(λi hi=>by cases hi;omega)⟩,by simp only;omega⟩;dsimp only[optH];rw[e0,A0T,C2];refine A1s ?_;cases x with|mk kk n t a x y p=>simp only[Pb.St.plain,Ex.plains_map,Pb.St.plains_map,Pb.St.kind,Pb.St.name,Pb.St.text,Pb.St.args,Pb.St.thn,Pb.St.els,Pb.St.pos,C8t]
 ·have hd:=dfz hlt;repeat'(apply wr<;>try simp only[go_sem,seval,hd])
  rw[hF,A0M (by omega)];exact A6c (λe=>by have:=hno e;rw[hF,A0M (by omega)]at this;rw[this];rfl) (by simp) (A9l _)
theorem c_Plain31(r:Ru)(hB:r.sz<=100000000000):PC Tryz.prog 9 [r.v] r.plain.v:=by
 refine PC.ofT A2 rfl (A0H rfl) (by simp[DV.nlL,DV.nl,K7,K6]) (Ru.nl _) ?_;obtain⟨D,M⟩:=r;have hDs:(D.map Dc.sz).sum+(M.map Md.sz).sum<=100000000000:=hB;have hDl:D.length<=(D.map Dc.sz).sum:=I7 λx _=>by show 1<=1+_;omega
 have hMl:M.length<=(M.map Md.sz).sum:=I7 λx _=>by show 1<=1+_+_;omega
 dsimp only[Ru.v,Ru.plain];repeat'(apply wr<;>try simp only[go_sem,seval])
 obtain⟨F,hF⟩:∃F:Nat->List Dc, ∀k,F k=(D.take k).map Dc.plain:=⟨_,λ_=>rfl⟩;have hF0:F 0=[]:=by rw[hF];rfl
 have hFl:∀k,(F k).length<=D.length:=λk=>by rw[hF,A0C,A0Y];omega
 refine A6 (λq:Nat × Option Nat=>[(1,.ptr 0 0),(2,.ptr 1 0),(3,.ptr 2 0),(4,I64 q.1)]) (λq=>optH (((Sym.nil.upd 0 ⟨0,true,[C3 D,C6 M]⟩).upd 1 ⟨0,true,[.snil,.snil]⟩).upd 2 ⟨0,true,[todoV q.2 (F q.1).length,.snil]⟩) q.2 ⟨4,true,cellsL ((F q.1).map Dc.v)⟩)
  (λq c=>3<=c/\q.1<=D.length/\(q.2=none->F q.1=[])/\(∀i,q.2=some i->3<=i/\i<c)) (λq=>D.length-q.1) (0,none)
  (by simp[B7,tm,Tm.upd]) (Sub.refl _) ⟨by omega,A0P _,λ_=>hF0,(λi hi=>by cases hi)⟩ ?_
 rintro⟨k,o⟩ c ⟨hc,hk,hno,ho⟩;dsimp only at hc hk hno ho ⊢;have hbr:optH (((Sym.nil.upd 0 ⟨0,true,[C3 D,C6 M]⟩).upd 1 ⟨0,true,[.snil,.snil]⟩).upd 2 ⟨0,true,[todoV o (F k).length,.snil]⟩) o ⟨4,true,cellsL ((F k).map Dc.v)⟩ 0=some ⟨0,true,[C3 D,C6 M]⟩:=by rw[B5 (λi hi=>by have:=ho i hi;omega),hnO,hnO,A0]
 by_cases hlt:k<D.length
 ·have hd:=dtz hlt;have hg:=A0B hlt;have hw:=w64 (n:=(k:Int)+1);have e0:F (k+1)=F k++[D[k].plain]:=by rw[hF,hF,A0R,hg,A0T];rfl
  have hFk:=hFl k;generalize D[k]=x at hg e0;have hln:(cellsL ((F k).map Dc.v)).length=(F k).length*4:=(C1 (u:=4) (A4e _)).trans (by simp);have hbx:optH (((Sym.nil.upd 0 ⟨0,true,[C3 D,C6 M]⟩).upd 1 ⟨0,true,[.snil,.snil]⟩).upd 2 ⟨0,true,[todoV o (F k).length,.snil]⟩) o ⟨4,true,cellsL ((F k).map Dc.v)⟩ 2=some ⟨0,true,[todoV o (F k).length,.snil]⟩:=by rw[B5 (λi hi=>by have:=ho i hi;omega),A0]
  have hb1:optH (((Sym.nil.upd 0 ⟨0,true,[C3 D,C6 M]⟩).upd 1 ⟨0,true,[.snil,.snil]⟩).upd 2 ⟨0,true,[todoV o (F k).length,.snil]⟩) o ⟨4,true,cellsL ((F k).map Dc.v)⟩ 1=some ⟨0,true,[.snil,.snil]⟩:=by rw[B5 (λi hi=>by have:=ho i hi;omega),hnO,A0]
  have hbo:∀i:Nat,o=some i->optH (((Sym.nil.upd 0 ⟨0,true,[C3 D,C6 M]⟩).upd 1 ⟨0,true,[.snil,.snil]⟩).upd 2 ⟨0,true,[todoV o (F k).length,.snil]⟩) o ⟨4,true,cellsL ((F k).map Dc.v)⟩ i=some ⟨4,true,cellsL ((F k).map Dc.v)⟩:=λi hi=>by subst hi;exact A0
  have hdx:∀X:Hp,delO X o 2=X 2:=λX=>A8 (λi hi=>by have:=ho i hi;omega);generalize hHH:optH (((Sym.nil.upd 0 ⟨0,true,[C3 D,C6 M]⟩).upd 1 ⟨0,true,[.snil,.snil]⟩).upd 2 ⟨0,true,[todoV o (F k).length,.snil]⟩) o ⟨4,true,cellsL ((F k).map Dc.v)⟩=HH at hbr hbx hbo hb1 ⊢;have ne0:=A6f 0 1 2 c (c+1) (c+1+1) (by omega);repeat'(apply wr<;>try simp only[go_sem,seval,hd,hg,hbr,hbx,ne0,A0,A4])
  refine F6 (D4 (cs:=cellsL ((F k).map Dc.v)) (λe=>by rw[hno e];exact⟨rfl,rfl⟩) (λi hi=>by have:=ho i hi;rw[hnO,hnO];exact hbo i hi) hln (by omega) (by omega) (by omega)) ?_;simp only[go_sem,seval,ne0,hdx,hbx];repeat'(apply wr<;>try simp only[go_sem,seval,hw,ne0])
  refine⟨(k+1,some (c+1+1)),by simp[],?_,inv ⟨by omega,by omega,(λh=>by cases h),(λi hi=>by cases hi;omega)⟩,by simp only;omega⟩;dsimp only[optH,todoV];rw[e0,A0T,C2,A0A,A0K];intro j b hj;by_cases e1:j=c+1+1
  ·subst e1;rw[A0]at hj;rw[hnO,A0, <- hj];rfl
  rw[h_ne e1]at hj;by_cases e2:j=2
  ·subst e2;rw[A0]at hj ⊢;exact hj
  rw[h_ne e2]at hj ⊢;rw[h_ne e1];by_cases e3:j=1
  ·subst e3;rw[A0]at hj;rw[A8 (λi hi=>by have:=ho i hi;omega),hnO,hnO,hb1];exact hj
  rw[h_ne e3]at hj;by_cases e4:j=0
  ·subst e4;rw[A0]at hj;rw[A8 (λi hi=>by have:=ho i hi;omega),hnO,hnO,hbr];exact hj
  ·rw[h_ne e4]at hj;cases hj
 ·have hd:=dfz hlt;repeat'(apply wr<;>try simp only[go_sem,seval,hd,hbr])
  refine IW.keep [1,2,3,6] [.ptr 0 0,.ptr 1 0,.ptr 2 0,I64 0] (g_fin (Hb:=((Sym.nil.upd 0 ⟨0,true,[C3 D,C6 M]⟩).upd 1 ⟨0,true,[.snil,.snil]⟩)) (ci:=2) (u:=4) (pre:=[]) (suf:=[.snil]) (xs:=(F k).map Dc.v) (by simp[DV.one]) (λh=>by rw[hno h];rfl) (λi hi=>by have:=ho i hi;exact⟨by omega,by rw[hnO,hnO];rfl⟩) (by simp) (A4e _)) ?_;have hFD:F k=D.map Dc.plain:=by rw[hF,A0M (by omega)]
  rw[hFD];clear hno ho hbr hFD hlt hd hFl hF0 hF hk;obtain⟨G,hG⟩:∃G:Nat->List Md, ∀k,G k=(M.take k).map Md.plain:=⟨_,λ_=>rfl⟩;have hG0:G 0=[]:=by rw[hG];rfl
  have hGl:∀k,(G k).length<=M.length:=λk=>by rw[hG,A0C,A0Y];omega
  refine A6 (λq:Nat × Option Nat=>[(1,.ptr 0 0),(2,.ptr 1 0),(3,.ptr 2 0),(6,I64 q.1)]) (λq=>optH (((Sym.nil.upd 0 ⟨0,true,[C3 D,C6 M]⟩).upd 1 ⟨0,true,[.snil,.snil]⟩).upd 2 ⟨0,true,[C3 (D.map Dc.plain),todoV q.2 (G q.1).length]⟩) q.2 ⟨4,true,cellsL ((G q.1).map Md.v)⟩)
   (λq c=>3<=c/\q.1<=M.length/\(q.2=none->G q.1=[])/\(∀i,q.2=some i->3<=i/\i<c)) (λq=>M.length-q.1) (0,none)
   (by simp[B7,tm,Tm.upd]) (by rw[hG0];exact Sub.refl _) ⟨hc,A0P _,λ_=>hG0,(λi hi=>by cases hi)⟩ ?_
  clear hc k c o;rintro⟨k,o⟩ c ⟨hc,hk,hno,ho⟩;dsimp only at hc hk hno ho ⊢;have hGk:=hGl k;have hbr:optH (((Sym.nil.upd 0 ⟨0,true,[C3 D,C6 M]⟩).upd 1 ⟨0,true,[.snil,.snil]⟩).upd 2 ⟨0,true,[C3 (D.map Dc.plain),todoV o (G k).length]⟩) o ⟨4,true,cellsL ((G k).map Md.v)⟩ 0=some ⟨0,true,[C3 D,C6 M]⟩:=by rw[B5 (λi hi=>by have:=ho i hi;omega),hnO,hnO,A0]
  have hbx:optH (((Sym.nil.upd 0 ⟨0,true,[C3 D,C6 M]⟩).upd 1 ⟨0,true,[.snil,.snil]⟩).upd 2 ⟨0,true,[C3 (D.map Dc.plain),todoV o (G k).length]⟩) o ⟨4,true,cellsL ((G k).map Md.v)⟩ 2=some ⟨0,true,[C3 (D.map Dc.plain),todoV o (G k).length]⟩:=by rw[B5 (λi hi=>by have:=ho i hi;omega),A0]
  have hb1:optH (((Sym.nil.upd 0 ⟨0,true,[C3 D,C6 M]⟩).upd 1 ⟨0,true,[.snil,.snil]⟩).upd 2 ⟨0,true,[C3 (D.map Dc.plain),todoV o (G k).length]⟩) o ⟨4,true,cellsL ((G k).map Md.v)⟩ 1=some ⟨0,true,[.snil,.snil]⟩:=by rw[B5 (λi hi=>by have:=ho i hi;omega),hnO,A0]
  have hbo:∀i:Nat,o=some i->optH (((Sym.nil.upd 0 ⟨0,true,[C3 D,C6 M]⟩).upd 1 ⟨0,true,[.snil,.snil]⟩).upd 2 ⟨0,true,[C3 (D.map Dc.plain),todoV o (G k).length]⟩) o ⟨4,true,cellsL ((G k).map Md.v)⟩ i=some ⟨4,true,cellsL ((G k).map Md.v)⟩:=λi hi=>by subst hi;exact A0
  have hbn:∀j:Nat,c<=j->optH (((Sym.nil.upd 0 ⟨0,true,[C3 D,C6 M]⟩).upd 1 ⟨0,true,[.snil,.snil]⟩).upd 2 ⟨0,true,[C3 (D.map Dc.plain),todoV o (G k).length]⟩) o ⟨4,true,cellsL ((G k).map Md.v)⟩ j=none:=λj hj=>by rw[B5 (λi hi=>by have:=ho i hi;omega),hnO,hnO,hnO];rfl
  have hT:(todoV o (G k).length).one=true:=by cases o<;>rfl
  have hdx:∀X:Hp,delO X o 2=X 2:=λX=>A8 (λi hi=>by have:=ho i hi;omega);by_cases hlt:k<M.length
  ·have hd:=dtz hlt;have hg:=A0B hlt;have hw:=w64 (n:=(k:Int)+1);have e0:G (k+1)=G k++[M[k].plain]:=by rw[hG,hG,A0R,hg,A0T];rfl
   have hsx:=K1 (f:=Md.sz) (A0L hlt);generalize M[k]=x at hg hsx e0;have hxs:(x.hds.map Hd.sz).sum<Md.sz x:=by unfold Md.sz;omega
   have hxl:x.hds.length<=(x.hds.map Hd.sz).sum:=I7 λx _=>by show 1<=1+_+_;omega
   have hln:(cellsL ((G k).map Md.v)).length=(G k).length*4:=(C1 (u:=4) (A9q _)).trans (by simp);generalize hHH:optH (((Sym.nil.upd 0 ⟨0,true,[C3 D,C6 M]⟩).upd 1 ⟨0,true,[.snil,.snil]⟩).upd 2 ⟨0,true,[C3 (D.map Dc.plain),todoV o (G k).length]⟩) o ⟨4,true,cellsL ((G k).map Md.v)⟩=HH at hbr hbx hbo hb1 hbn ⊢;have ne0:=X9 0 1 2 (c+13) (by omega);repeat'(apply wr<;>try simp only[go_sem,seval,hd,hg,hbr,ne0,A0,A4])
   obtain⟨K,hK⟩:∃K:Nat->List Hd, ∀j,K j=(x.hds.take j).map Hd.plain:=⟨_,λ_=>rfl⟩;have hK0:K 0=[]:=by rw[hK];rfl
   have hKl:∀j,(K j).length<=x.hds.length:=λj=>by rw[hK,A0C,A0Y];omega
   refine A6 (λq:Nat × Option Nat=>[(1,.ptr 0 0),(2,.ptr 1 0),(3,.ptr 2 0),(6,I64 k),(7,.ptr (c+13) 0),(8,I64 q.1)]) (λq=>optH (HH.upd (c+13) ⟨0,true,[.str x.name,I64 x.prio,todoV q.2 (K q.1).length,I64 0]⟩) q.2 ⟨4,true,cellsL ((K q.1).map Hd.v)⟩)
    (λq n=>c+15<=n/\q.1<=x.hds.length/\(q.2=none->K q.1=[])/\(∀i,q.2=some i->c+15<=i/\i<n)) (λq=>x.hds.length-q.1) (0,none)
    (by simp[B7,tm,Tm.upd]) (by rw[hK0];exact Sub.refl _) ⟨A0E _,A0P _,λ_=>hK0,(λi hi=>by cases hi)⟩ ?_
   rintro⟨j,o2⟩ n ⟨hn,hj,hno2,ho2⟩;dsimp only at hn hj hno2 ho2 ⊢;have hKj:=hKl j;have h2r:optH (HH.upd (c+13) ⟨0,true,[.str x.name,I64 x.prio,todoV o2 (K j).length,I64 0]⟩) o2 ⟨4,true,cellsL ((K j).map Hd.v)⟩ 0=some ⟨0,true,[C3 D,C6 M]⟩:=by rw[B5 (λi hi=>by have:=ho2 i hi;omega),hnO,hbr]
   have h2b:optH (HH.upd (c+13) ⟨0,true,[.str x.name,I64 x.prio,todoV o2 (K j).length,I64 0]⟩) o2 ⟨4,true,cellsL ((K j).map Hd.v)⟩ (c+13)=some ⟨0,true,[.str x.name,I64 x.prio,todoV o2 (K j).length,I64 0]⟩:=by rw[B5 (λi hi=>by have:=ho2 i hi;omega),A0]
   have h2o:∀i:Nat,o2=some i->optH (HH.upd (c+13) ⟨0,true,[.str x.name,I64 x.prio,todoV o2 (K j).length,I64 0]⟩) o2 ⟨4,true,cellsL ((K j).map Hd.v)⟩ i=some ⟨4,true,cellsL ((K j).map Hd.v)⟩:=λi hi=>by subst hi;exact A0
   have h2n:∀i:Nat,n<=i->optH (HH.upd (c+13) ⟨0,true,[.str x.name,I64 x.prio,todoV o2 (K j).length,I64 0]⟩) o2 ⟨4,true,cellsL ((K j).map Hd.v)⟩ i=none:=λi hi=>by rw[B5 (λi hi=>by have:=ho2 i hi;omega),hnO];exact hbn _ (by omega)
   have h2j:∀i:Nat,i<c+13->optH (HH.upd (c+13) ⟨0,true,[.str x.name,I64 x.prio,todoV o2 (K j).length,I64 0]⟩) o2 ⟨4,true,cellsL ((K j).map Hd.v)⟩ i=HH i:=λi hi=>by rw[B5 (λi hi=>by have:=ho2 i hi;omega),hnO]
   have hT2:(todoV o2 (K j).length).one=true:=by cases o2<;>rfl
   have hdx2:∀X:Hp,delO X o2 (c+13)=X (c+13):=λX=>A8 (λi hi=>by have:=ho2 i hi;omega);by_cases hjl:j<x.hds.length
   ·have hdj:decide ((j:Int)<(x.hds.length:Int))=true:=by simpa using hjl
    have hgj:=A0B hjl;have hwj:=w64 (n:=(j:Int)+1);have k0:K (j+1)=K j++[x.hds[j].plain]:=by rw[hK,hK,A0R,hgj,A0T];rfl
    have hsj:=K1 (f:=Hd.sz) (A0L hjl);generalize x.hds[j]=y at hgj hsj k0;have hbs:Pb.St.szs y.body<Hd.sz y:=by unfold Hd.sz;omega
    have cb:=c_plainS (Pb.St.szs y.body+1) y.body (by omega) (by omega);have hlj:(cellsL ((K j).map Hd.v)).length=(K j).length*4:=(C1 (u:=4) (A3z _)).trans (by simp);generalize hH2:optH (HH.upd (c+13) ⟨0,true,[.str x.name,I64 x.prio,todoV o2 (K j).length,I64 0]⟩) o2 ⟨4,true,cellsL ((K j).map Hd.v)⟩=H2 at h2r h2b h2o h2n h2j ⊢;have ne0:=A2y 0 1 2 (c+13) n (by omega);repeat'((with_reducible first|apply wr|refine cpc cb ?_)<;>try simp only[go_sem,seval,hdj,hg,hgj,h2r,h2b,ne0,A0,A4])
    refine⟨by and_intros<;>(repeat rw[hnO])<;>exact h2n _ (by omega),?_⟩;rw[D4 (cs:=cellsL ((K j).map Hd.v)) (λe=>by rw[hno2 e];exact⟨rfl,rfl⟩) (λi hi=>by have:=ho2 i hi;rw[hnO,hnO];exact h2o i hi) hlj (by omega) (by omega) (by omega)];have ne0:=E1v 0 1 2 (c+13) n (n+1+10) (n+1+14) (by omega);simp only[go_sem,seval,ne0,hdx2,h2b];repeat'(apply wr<;>try simp only[go_sem,seval,ne0,hwj])
    refine⟨(j+1,some (n+1+14)),by simp,?_,inv ⟨by omega,by omega,(λh=>by cases h),(λi hi=>by cases hi;omega)⟩,by simp only;omega⟩;dsimp only[optH,todoV];rw[k0,A0T,C2,A0A,A0K];intro i b hi;by_cases e1:i=n+1+14
    ·subst e1;rw[A0]at hi;rw[hnO,A0, <- hi];simp only[Hd.plain,Pb.St.plains_map];rfl
    rw[h_ne e1]at hi;by_cases e2:i=c+13
    ·subst e2;rw[A0]at hi ⊢;exact hi
    rw[h_ne e2]at hi ⊢;rw[h_ne e1];have hic:i<c:=Classical.byContradiction λh=>by rw[hbn i (by omega)]at hi;cases hi
    rw[A8 (λi' hi'=>by have:=ho2 i' hi';omega),hnO,hnO,h2j i (by omega)];exact hi
   ·have hdj:decide ((j:Int)<(x.hds.length:Int))=false:=by simpa using hjl
    have ne0:=A2y 0 1 2 (c+13) n (by omega);repeat'((with_reducible first|refine I4 (p:=IW _ _ (pz Tryz.prog 9 (.o (.o (.o (.i (.i .h)))))) _ _) ?_|refine wr ?_)<;>try simp only[go_sem,seval,hdj,hg,h2r,ne0])
    unfold B2o;have hKM:K j=x.hds.map Hd.plain:=by rw[hK,A0M (by omega)]
    refine IW.keep [1,2,3,6,7] [.ptr 0 0,.ptr 1 0,.ptr 2 0,I64 k,.ptr (c+13) 0] (g_fin (Hb:=HH) (ci:=c+13) (u:=4) (pre:=[.str x.name,I64 x.prio]) (suf:=[I64 0]) (xs:=(K j).map Hd.v) (by simp[DV.one]) (λh=>by rw[hno2 h];rfl) (λi hi=>by have:=ho2 i hi;exact⟨by omega,hbn _ (by omega)⟩) (by simp) (A3z _)) ?_;rw[hKM];dsimp only[List.cons_append,List.nil_append];show IW Tryz.prog _ _ ⟨tm [(1,.ptr 0 0),(2,.ptr 1 0),(3,.ptr 2 0),(6,I64 k),(7,.ptr (c+13) 0)],_,_⟩ _;have ne0:=A6f 0 1 2 (c+13) n (n+1) (by omega);repeat'(apply wr<;>try simp only[go_sem,seval,hbx,ne0,A0])
    refine F6 (D4 (cs:=cellsL ((G k).map Md.v)) (λe=>by rw[hno e];exact⟨rfl,rfl⟩) (λi hi=>by have:=ho i hi;rw[hnO,hnO];exact hbo i hi) hln (by omega) (by omega) (by omega)) ?_;simp only[go_sem,seval,ne0,hdx,hbx];repeat'(apply wr<;>try simp only[go_sem,seval,hw,ne0])
    refine⟨(k+1,some (n+1)),by simp[],?_,inv ⟨by omega,by omega,(λh=>by cases h),(λi hi=>by cases hi;omega)⟩,by simp only;omega⟩;dsimp only[optH,todoV];rw[e0,A0T,C2,A0A,A0K];intro i b hi;by_cases e1:i=n+1
    ·subst e1;rw[A0]at hi;rw[hnO,A0, <- hi];rfl
    rw[h_ne e1]at hi;by_cases e2:i=2
    ·subst e2;rw[A0]at hi ⊢;exact hi
    rw[h_ne e2]at hi ⊢;rw[h_ne e1];by_cases e3:i=1
    ·subst e3;rw[A0]at hi;rw[A8 (λi hi=>by have:=ho i hi;omega),hnO,hnO,hb1];exact hi
    rw[h_ne e3]at hi;by_cases e4:i=0
    ·subst e4;rw[A0]at hi;rw[A8 (λi hi=>by have:=ho i hi;omega),hnO,hnO,hbr];exact hi
    ·rw[h_ne e4]at hi;cases hi
  ·have hd:=dfz hlt;generalize hHH:optH (((Sym.nil.upd 0 ⟨0,true,[C3 D,C6 M]⟩).upd 1 ⟨0,true,[.snil,.snil]⟩).upd 2 ⟨0,true,[C3 (D.map Dc.plain),todoV o (G k).length]⟩) o ⟨4,true,cellsL ((G k).map Md.v)⟩=HH at hbr hbx hbo hb1 hbn ⊢;have ne0:=P5 0 1 2 (by omega);repeat'(apply wr<;>try simp only[go_sem,seval,hd,hbr,hbx,hb1,ne0])
   refine F6 (A7a (by rfl) (by decide) (by cases o<;>rfl)) ?_;simp only[go_sem,seval];repeat'(apply wr<;>try simp only[go_sem,seval])
   rw[E6 (rv2 rfl rfl)];have hGM:M.map Md.plain=G k:=by rw[hG,A0M (by omega)]
   rw[hGM];exact⟨Sym.nil,D8l (cc:=0) (G k) (λ_ _=>rfl) (λ_ _=>A0P _) hno (λi hi=>by have:=ho i hi;show(HH.upd 1 _) i=_;rw[hnO];exact hbo i hi) (λj hj=>by omega)⟩
theorem c_ValidR31(r:Ru)(hB:r.sz<4000000):PC Tryz.prog 32 [r.v] (.bool (C5o r)):=by
 refine PC.go A2 ?_;have hg:=D2a r;have hGT:∀t∈ruT r,I8 t:=λt ht=>(hg t ht).1;have hval:∀t∈ruT r,0<=t.value/\t.value<=9223372036854775807:=λt ht=>by have:=(hg t ht).2;omega
 obtain⟨l1,l2⟩:=D4v r;have hsz:=C2t (E:=0) hGT;have ht:=c_rulesT r hB (by omega);have hp:=c_Plain31 r (by omega);obtain⟨f,hf⟩:=(B0l (ruT r) 0).get;have hr:=c_rules (ruT r) 0 (by omega) hval f rd0 _ hf (A0P _);have hv:C5o r=(okR (A0y (ruT r) 0).2&&B9y (A0y (ruT r) 0).1.plain r.plain):=rfl;rw[hv];have hpo:=c_Plain31 (A0y (ruT r) 0).1 (by omega);have hps:(A0y (ruT r) 0).1.plain.sz<=100000000000:=by rw[Ru.plain_sz];omega
 have hsm:=c_Same31 (A0y (ruT r) 0).1.plain r.plain hps;generalize A0y (ruT r) 0=w at hr hpo hsm hsz ⊢;generalize hL:ruT r=L at ht hr;repeat'((with_reducible first|apply wr|refine cpc ht ?_)<;>try simp only[go_sem,seval])
 refine AC.call (hr _ _ 1 rfl (by decide)) ?_;rintro v H' c2 ⟨rfl,rfl⟩ hc2;dsimp only at hc2 ⊢;have ne0:=P5 0 1 c2 (by omega);simp only[go_sem,seval,A0,A4];repeat'(apply wr<;>try simp only[go_sem,seval])
 refine AC.call (c_rdok L 0 w.2 _ _ 1 (by rw[hnO];exact A0) (by omega)) ?_;rintro v H' c3 ⟨rfl,rfl⟩ hc3;cases hok:okR w.2 with
 |false =>
  simp only[go_sem,seval];repeat'(apply wr<;>try simp only[go_sem,seval,hok,ne0,A0,A4])
  refine⟨by repeat rw[hnO]<;>rfl,?_⟩;repeat'(apply wr<;>try simp only[go_sem,seval])
  exact⟨_,GL.refl _ _⟩
 |true =>
  simp only[go_sem,seval,ne0,A0];repeat'((with_reducible first|apply wr|refine cpc hpo ?_)<;>try simp only[go_sem,seval,ne0,A0])
  refine⟨by and_intros<;>(repeat rw[hnO])<;>rfl,?_⟩;repeat'((with_reducible first|apply wr|refine cpc hp ?_|refine cpc hsm ?_)<;>try simp only[go_sem,seval])
  exact⟨_,GL.refl _ _⟩
end Go.Proofs.YtenmhfknbopmeaaGreatDoor
set_option maxHeartbeats 4000000
namespace Go.Proofs.YtenmhfknbopmeaaGreatDoor
open Go.Eng (IC IOper DReg IFn L1)
open Go.Sym
abbrev x144:XT Tryz.prog 144:=mkF
instance t144:FT Tryz.prog 144 x144.d:=x144.ft
abbrev x93:XT Tryz.prog 93:=mkF
instance t93:FT Tryz.prog 93 x93.d:=x93.ft
abbrev x195:XT Tryz.prog 195:=mkF
instance t195:FT Tryz.prog 195 x195.d:=x195.ft
abbrev x194:XT Tryz.prog 194:=mkF
instance t194:FT Tryz.prog 194 x194.d:=x194.ft
abbrev x196:XT Tryz.prog 196:=mkF
instance t196:FT Tryz.prog 196 x196.d:=x196.ft
abbrev x243:XT Tryz.prog 243:=mkF
instance t243:FT Tryz.prog 243 x243.d:=x243.ft
abbrev x246:XT Tryz.prog 246:=mkF
instance t246:FT Tryz.prog 246 x246.d:=x246.ft
abbrev x162:XT Tryz.prog 162:=mkF
instance t162:FT Tryz.prog 162 x162.d:=x162.ft
abbrev x220:XT Tryz.prog 220:=mkF
instance t220:FT Tryz.prog 220 x220.d:=x220.ft
abbrev x221:XT Tryz.prog 221:=mkF
instance t221:FT Tryz.prog 221 x221.d:=x221.ft
abbrev x245:XT Tryz.prog 245:=mkF
instance t245:FT Tryz.prog 245 x245.d:=x245.ft
abbrev x106:XT Tryz.prog 106:=mkF
instance t106:FT Tryz.prog 106 x106.d:=x106.ft
abbrev x109:XT Tryz.prog 109:=mkF
instance t109:FT Tryz.prog 109 x109.d:=x109.ft
abbrev x53:XT Tryz.prog 53:=mkF
instance t53:FT Tryz.prog 53 x53.d:=x53.ft
abbrev x105:XT Tryz.prog 105:=mkF
instance t105:FT Tryz.prog 105 x105.d:=x105.ft
abbrev x108:XT Tryz.prog 108:=mkF
instance t108:FT Tryz.prog 108 x108.d:=x108.ft
abbrev x58:XT Tryz.prog 58:=mkF
instance t58:FT Tryz.prog 58 x58.d:=x58.ft
abbrev x113:XT Tryz.prog 113:=mkF
instance t113:FT Tryz.prog 113 x113.d:=x113.ft
abbrev x104:XT Tryz.prog 104:=mkF
instance t104:FT Tryz.prog 104 x104.d:=x104.ft
abbrev x159:XT Tryz.prog 159:=mkF
instance t159:FT Tryz.prog 159 x159.d:=x159.ft
abbrev x107:XT Tryz.prog 107:=mkF
instance t107:FT Tryz.prog 107 x107.d:=x107.ft
abbrev x161:XT Tryz.prog 161:=mkF
instance t161:FT Tryz.prog 161 x161.d:=x161.ft
abbrev x219:XT Tryz.prog 219:=mkF
instance t219:FT Tryz.prog 219 x219.d:=x219.ft
abbrev x242:XT Tryz.prog 242:=mkF
instance t242:FT Tryz.prog 242 x242.d:=x242.ft
abbrev x244:XT Tryz.prog 244:=mkF
instance t244:FT Tryz.prog 244 x244.d:=x244.ft
abbrev x258:XT Tryz.prog 258:=mkF
instance t258:FT Tryz.prog 258 x258.d:=x258.ft
end Go.Proofs.YtenmhfknbopmeaaGreatDoor
set_option maxHeartbeats 8000000
namespace Go.Proofs.YtenmhfknbopmeaaGreatDoor
open Go.Eng (IC IOper DReg IFn L1)
open Go.Sym Go.Pb
theorem c_IF_hd{g:Hd->Bool}{f:Nat}{a cs:List DV}(xs:List (Hd))(hx:xs.length<=9223372036854775807)(na:DV.nlL a=true)(ncs:DV.nlL cs=true)(hf:∀x∈xs,PC Tryz.prog f (a++[Hd.v x]++cs) (.bool (g x))):
  PC Tryz.prog 113 [M5 xs,.func f a cs] (I64 (P8 g xs 0)):=by
 refine PC.ofT A2 rfl (A0H rfl) (by simp[DV.nlL,DV.nl,B5c,na,ncs]) rfl ?_;repeat'(apply wr<;>try simp only[go_sem,seval,A0C])
 refine A6 (λk:Nat=>[(0,M5 xs),(1,.func f a cs),(7,I64 xs.length),(8,I64 k)]) (λ_=>nil) (λk _=>k<=xs.length/\P8 g xs 0=P8 g (xs.drop k) k) (λk=>xs.length-k) 0 (by simp[B7,tm,Tm.upd]) (Sub.nil _) (by simp) ?_;rintro k c ⟨hk,he⟩;by_cases hlt:k<xs.length
 ·have hd:=dtz hlt;have hg:=A0B hlt;have hw:=w64 (n:=(k:Int)+1);have hst:=Q8 (g:=g) hg;have hc:=hf xs[k] (A0L hlt);repeat'((with_reducible first|apply wr|refine cpc hc ?_|apply wb2<;>(intro hb;try simp only[hb]))<;>try simp only[go_sem,seval,hd,hg,hw])
  ·refine A1 ?_;rw[he,hst,hb];rfl
  ·exact⟨k+1,rfl,Sub.refl _,inv ⟨by omega,by rw[he,hst,hb];rfl⟩,by omega⟩
 ·have hd:=dfz hlt;repeat'(apply wr<;>try simp only[go_sem,seval,hd])
  refine A1 ?_;rw[he,V7 (by omega)]
theorem c_CF_hd{g:Hd->Bool}{f:Nat}{a cs:List DV}(xs:List (Hd))(hx:xs.length<=9223372036854775807)(na:DV.nlL a=true)(ncs:DV.nlL cs=true)(hf:∀x∈xs,PC Tryz.prog f (a++[Hd.v x]++cs) (.bool (g x))):
  PC Tryz.prog 58 [M5 xs,.func f a cs] (.bool (xs.any g)):=by
 refine PC.ofT A2 rfl (A0H rfl) (by simp[DV.nlL,DV.nl,B5c,na,ncs]) rfl ?_;have hc:=c_IF_hd xs hx na ncs hf;repeat'((with_reducible first|apply wr|refine cpc hc ?_)<;>try simp only[go_sem,seval])
 refine A1 ?_;rw[V8]
theorem c_IF_dc{g:Dc->Bool}{f:Nat}{a cs:List DV}(xs:List (Dc))(hx:xs.length<=9223372036854775807)(na:DV.nlL a=true)(ncs:DV.nlL cs=true)(hf:∀x∈xs,PC Tryz.prog f (a++[Dc.v x]++cs) (.bool (g x))):
  PC Tryz.prog 159 [C3 xs,.func f a cs] (I64 (P8 g xs 0)):=by
 refine PC.ofT A2 rfl (A0H rfl) (by simp[DV.nlL,DV.nl,K7,na,ncs]) rfl ?_;repeat'(apply wr<;>try simp only[go_sem,seval,A0C])
 refine A6 (λk:Nat=>[(0,C3 xs),(1,.func f a cs),(7,I64 xs.length),(8,I64 k)]) (λ_=>nil) (λk _=>k<=xs.length/\P8 g xs 0=P8 g (xs.drop k) k) (λk=>xs.length-k) 0 (by simp[B7,tm,Tm.upd]) (Sub.nil _) (by simp) ?_;rintro k c ⟨hk,he⟩;by_cases hlt:k<xs.length
 ·have hd:=dtz hlt;have hg:=A0B hlt;have hw:=w64 (n:=(k:Int)+1);have hst:=Q8 (g:=g) hg;have hc:=hf xs[k] (A0L hlt);repeat'((with_reducible first|apply wr|refine cpc hc ?_|apply wb2<;>(intro hb;try simp only[hb]))<;>try simp only[go_sem,seval,hd,hg,hw])
  ·refine A1 ?_;rw[he,hst,hb];rfl
  ·exact⟨k+1,rfl,Sub.refl _,inv ⟨by omega,by rw[he,hst,hb];rfl⟩,by omega⟩
 ·have hd:=dfz hlt;repeat'(apply wr<;>try simp only[go_sem,seval,hd])
  refine A1 ?_;rw[he,V7 (by omega)]
theorem c_CF_dc{g:Dc->Bool}{f:Nat}{a cs:List DV}(xs:List (Dc))(hx:xs.length<=9223372036854775807)(na:DV.nlL a=true)(ncs:DV.nlL cs=true)(hf:∀x∈xs,PC Tryz.prog f (a++[Dc.v x]++cs) (.bool (g x))):
  PC Tryz.prog 104 [C3 xs,.func f a cs] (.bool (xs.any g)):=by
 refine PC.ofT A2 rfl (A0H rfl) (by simp[DV.nlL,DV.nl,K7,na,ncs]) rfl ?_;have hc:=c_IF_dc xs hx na ncs hf;repeat'((with_reducible first|apply wr|refine cpc hc ?_)<;>try simp only[go_sem,seval])
 refine A1 ?_;rw[V8]
theorem c_IF_md{g:Md->Bool}{f:Nat}{a cs:List DV}(xs:List (Md))(hx:xs.length<=9223372036854775807)(na:DV.nlL a=true)(ncs:DV.nlL cs=true)(hf:∀x∈xs,PC Tryz.prog f (a++[Md.v x]++cs) (.bool (g x))):
  PC Tryz.prog 161 [C6 xs,.func f a cs] (I64 (P8 g xs 0)):=by
 refine PC.ofT A2 rfl (A0H rfl) (by simp[DV.nlL,DV.nl,K6,na,ncs]) rfl ?_;repeat'(apply wr<;>try simp only[go_sem,seval,A0C])
 refine A6 (λk:Nat=>[(0,C6 xs),(1,.func f a cs),(7,I64 xs.length),(8,I64 k)]) (λ_=>nil) (λk _=>k<=xs.length/\P8 g xs 0=P8 g (xs.drop k) k) (λk=>xs.length-k) 0 (by simp[B7,tm,Tm.upd]) (Sub.nil _) (by simp) ?_;rintro k c ⟨hk,he⟩;by_cases hlt:k<xs.length
 ·have hd:=dtz hlt;have hg:=A0B hlt;have hw:=w64 (n:=(k:Int)+1);have hst:=Q8 (g:=g) hg;have hc:=hf xs[k] (A0L hlt);repeat'((with_reducible first|apply wr|refine cpc hc ?_|apply wb2<;>(intro hb;try simp only[hb]))<;>try simp only[go_sem,seval,hd,hg,hw])
  ·refine A1 ?_;rw[he,hst,hb];rfl
  ·exact⟨k+1,rfl,Sub.refl _,inv ⟨by omega,by rw[he,hst,hb];rfl⟩,by omega⟩
 ·have hd:=dfz hlt;repeat'(apply wr<;>try simp only[go_sem,seval,hd])
  refine A1 ?_;rw[he,V7 (by omega)]
theorem c_CF_md{g:Md->Bool}{f:Nat}{a cs:List DV}(xs:List (Md))(hx:xs.length<=9223372036854775807)(na:DV.nlL a=true)(ncs:DV.nlL cs=true)(hf:∀x∈xs,PC Tryz.prog f (a++[Md.v x]++cs) (.bool (g x))):
  PC Tryz.prog 107 [C6 xs,.func f a cs] (.bool (xs.any g)):=by
 refine PC.ofT A2 rfl (A0H rfl) (by simp[DV.nlL,DV.nl,K6,na,ncs]) rfl ?_;have hc:=c_IF_md xs hx na ncs hf;repeat'((with_reducible first|apply wr|refine cpc hc ?_)<;>try simp only[go_sem,seval])
 refine A1 ?_;rw[V8]
theorem c_IF_st{g:Pb.St->Bool}{f:Nat}{a cs:List DV}(xs:List (Pb.St))(hx:xs.length<=9223372036854775807)(na:DV.nlL a=true)(ncs:DV.nlL cs=true)(hf:∀x∈xs,PC Tryz.prog f (a++[Pb.St.v x]++cs) (.bool (g x))):
  PC Tryz.prog 242 [D5 xs,.func f a cs] (I64 (P8 g xs 0)):=by
 refine PC.ofT A2 rfl (A0H rfl) (by simp[DV.nlL,DV.nl,X8,na,ncs]) rfl ?_;repeat'(apply wr<;>try simp only[go_sem,seval,A0C])
 refine A6 (λk:Nat=>[(0,D5 xs),(1,.func f a cs),(7,I64 xs.length),(8,I64 k)]) (λ_=>nil) (λk _=>k<=xs.length/\P8 g xs 0=P8 g (xs.drop k) k) (λk=>xs.length-k) 0 (by simp[B7,tm,Tm.upd]) (Sub.nil _) (by simp) ?_;rintro k c ⟨hk,he⟩;by_cases hlt:k<xs.length
 ·have hd:=dtz hlt;have hg:=A0B hlt;have hw:=w64 (n:=(k:Int)+1);have hst:=Q8 (g:=g) hg;have hc:=hf xs[k] (A0L hlt);rw[Pb.St.v_w]at hc;repeat'((with_reducible first|apply wr|refine cpc hc ?_|apply wb2<;>(intro hb;try simp only[hb]))<;>try simp only[go_sem,seval,hd,hg,hw,Pb.St.v_w])
  ·refine A1 ?_;rw[he,hst,hb];rfl
  ·exact⟨k+1,rfl,Sub.refl _,inv ⟨by omega,by rw[he,hst,hb];rfl⟩,by omega⟩
 ·have hd:=dfz hlt;repeat'(apply wr<;>try simp only[go_sem,seval,hd])
  refine A1 ?_;rw[he,V7 (by omega)]
theorem c_CF_st{g:Pb.St->Bool}{f:Nat}{a cs:List DV}(xs:List (Pb.St))(hx:xs.length<=9223372036854775807)(na:DV.nlL a=true)(ncs:DV.nlL cs=true)(hf:∀x∈xs,PC Tryz.prog f (a++[Pb.St.v x]++cs) (.bool (g x))):
  PC Tryz.prog 219 [D5 xs,.func f a cs] (.bool (xs.any g)):=by
 refine PC.ofT A2 rfl (A0H rfl) (by simp[DV.nlL,DV.nl,X8,na,ncs]) rfl ?_;have hc:=c_IF_st xs hx na ncs hf;repeat'((with_reducible first|apply wr|refine cpc hc ?_)<;>try simp only[go_sem,seval])
 refine A1 ?_;rw[V8]
theorem c_IF_ex{g:Ex->Bool}{f:Nat}{a cs:List DV}(xs:List (Ex))(hx:xs.length<=9223372036854775807)(na:DV.nlL a=true)(ncs:DV.nlL cs=true)(hf:∀x∈xs,PC Tryz.prog f (a++[Ex.v x]++cs) (.bool (g x))):
  PC Tryz.prog 258 [H9 xs,.func f a cs] (I64 (P8 g xs 0)):=by
 refine PC.ofT A2 rfl (A0H rfl) (by simp[DV.nlL,DV.nl,A2b,na,ncs]) rfl ?_;repeat'(apply wr<;>try simp only[go_sem,seval,A0C])
 refine A6 (λk:Nat=>[(0,H9 xs),(1,.func f a cs),(7,I64 xs.length),(8,I64 k)]) (λ_=>nil) (λk _=>k<=xs.length/\P8 g xs 0=P8 g (xs.drop k) k) (λk=>xs.length-k) 0 (by simp[B7,tm,Tm.upd]) (Sub.nil _) (by simp) ?_;rintro k c ⟨hk,he⟩;by_cases hlt:k<xs.length
 ·have hd:=dtz hlt;have hg:=A0B hlt;have hw:=w64 (n:=(k:Int)+1);have hst:=Q8 (g:=g) hg;have hc:=hf xs[k] (A0L hlt);rw[Ex.v_w]at hc;repeat'((with_reducible first|apply wr|refine cpc hc ?_|apply wb2<;>(intro hb;try simp only[hb]))<;>try simp only[go_sem,seval,hd,hg,hw,Ex.v_w])
  ·refine A1 ?_;rw[he,hst,hb];rfl
  ·exact⟨k+1,rfl,Sub.refl _,inv ⟨by omega,by rw[he,hst,hb];rfl⟩,by omega⟩
 ·have hd:=dfz hlt;repeat'(apply wr<;>try simp only[go_sem,seval,hd])
  refine A1 ?_;rw[he,V7 (by omega)]
theorem c_CF_ex{g:Ex->Bool}{f:Nat}{a cs:List DV}(xs:List (Ex))(hx:xs.length<=9223372036854775807)(na:DV.nlL a=true)(ncs:DV.nlL cs=true)(hf:∀x∈xs,PC Tryz.prog f (a++[Ex.v x]++cs) (.bool (g x))):
  PC Tryz.prog 244 [H9 xs,.func f a cs] (.bool (xs.any g)):=by
 refine PC.ofT A2 rfl (A0H rfl) (by simp[DV.nlL,DV.nl,A2b,na,ncs]) rfl ?_;have hc:=c_IF_ex xs hx na ncs hf;repeat'((with_reducible first|apply wr|refine cpc hc ?_)<;>try simp only[go_sem,seval])
 refine A1 ?_;rw[V8]
theorem D5i{H:Hp}{a b:Bool}(h:a=b):∃H2,GL H [.bool a] H2 [.bool b]:=⟨H,by rw[h];exact GL.refl _ _⟩
theorem B6n{b1 b2 b3:Blk}{cc:Nat}(u:Unit)(h:1<=cc):Sym.Sub (Sym.nil.upd 0 b1) (((Sym.nil.upd 0 b1).upd cc b2).upd cc b3):=by
 intro j b hj;simp only[Hp.upd,Sym.nil]at hj ⊢;split at hj
 ·rename_i h0;rw[iN,iN,if_pos h0];exact hj
 ·cases hj
theorem c_levS(k:Int):PC Tryz.prog 194 [I64 k] (I64 (B0 k)):=by
 refine PC.go A2 ?_;repeat'((with_reducible first|apply wr|apply wb2<;>(intro hb;try simp only[hb]))<;>try simp only[go_sem,seval])
 all_goals refine A1 (congrArg I64 ?_)
 all_goals simp_all[B0]
 all_goals omega
theorem c_namedS(k:Int):PC Tryz.prog 195 [I64 k] (.bool (B7p k)):=by
 refine PC.go A2 ?_;repeat'((with_reducible first|apply wr|apply wb2<;>(intro hb;try simp only[hb]))<;>try simp only[go_sem,seval])
 all_goals refine A1 (congrArg DV.bool ?_)
 all_goals(cases h5:k==5<;>cases h6:k==6<;>cases h7:k==7<;>simp_all[B7p])
theorem c_wrapped(e x:Ex)(i:Nat)(h:e.args[i]? = some x)(hi:i<=1):PC Tryz.prog 196 [e.v,I64 i] (.bool (A0x e.kind x.kind i)):=by
 refine PC.go A2 ?_;rw[Ex.v_w];have h1:=c_levS e.kind;have h2:=c_levS x.kind;repeat'((with_reducible first|apply wr|refine cpc h1 ?_|refine cpc h2 ?_|apply wb2<;>(intro hb;try simp only[hb]))<;>try simp only[go_sem,seval,h,Ex.v_w])
 all_goals refine D5i ?_
 all_goals unfold A0x
 all_goals(cases hi1:i==1<;>cases h3:B0 e.kind==3<;>simp_all)
 all_goals omega
theorem c_measure:∀(m:Nat) (e:Ex),e.sz<m->e.sz<=100000000->PC Tryz.prog 144 [e.v] (msV (msM e)):=by
 intro m
 induction m with
 |zero=>intro e h;omega
 |succ m ih =>
 intro e hm hB;have hnl:=e.sz_name;have hx:∀x∈e.args,PC Tryz.prog 144 [x.v] (msV (msM x)):=λx hx=>ih x (by have:=Ex.sz_arg hx;omega) (by have:=Ex.sz_arg hx;omega);have hwr:∀(x:Ex) (i:Nat),e.args[i]? = some x->i<=1->PC Tryz.prog 196 [e.w,I64 i] (.bool (A0x e.kind x.kind i)):=λx i h hi=>by have:=c_wrapped e x i h hi;rwa [Ex.v_w]at this
 refine PC.ofT A2 rfl (A0H rfl) (by simp[DV.nlL,Ex.nl]) (E1y _) ?_;rw[Ex.v_w];obtain⟨R,hR⟩:∃R,R=msV (msM e):=⟨_,rfl⟩;rw[<- hR];have hle:=C0o e.kind 0 e.args;have hal:Ex.szs e.args<e.sz:=by cases e with|mk k v n a p=>rw[Ex.sz];show Ex.szs a<_;omega
 have hargs:∀x∈e.args,x.sz<=Ex.szs e.args:=λx hx=>Ex.szs_mem hx;cases e with|mk k v n a p =>
 rw[msM]at hR;dsimp only[Ex.w,Ex.kind,Ex.value,Ex.name,Ex.args,Ex.pos]at hx hwr hle hal hargs hnl ⊢;have hl:=c_levS k;have hnk:=c_namedS k;have hin:=c_IsName n (by omega);have none0:kOk k=false\/a.length≠J4 k\/A5i k n=false\/A2v k v=false->R=.tup [I64 0,I64 0,.bool false]:=λh=>by rw[hR,if_pos h];rfl
 have ci:((J4 k:Nat):Int)<=2:=by unfold J4;(repeat' split)<;>decide
 have kA:∀nm vl:Bool,A5i k n=nm->A2v k v=vl->kOk k=true->IW Tryz.prog 113 (pz Tryz.prog 144 (.o (.i (.o (.o (.o .h)))))) ⟨tm [(1,.ptr 0 0),(2,I64 0),(3,I64 0),(5,I64 (J4 k)),(7,.bool nm),(8,.bool vl)],Sym.nil.upd 0 ⟨0,true,[I64 k,I64 v,.str n,H9 a,I64 p]⟩,1⟩ (rt [.tmp 2,.tmp 3,.tmp 4] λv H' x => ∃H2,GL H' [v] H2 [R]):=by
  intro nm vl hnm hvl hkk;by_cases hlen:a.length=J4 k
  ·have d0:((a.length:Int) != (J4 k:Int))=false:=by simp[hlen]
   cases nm with
   |false =>
    repeat'(apply wr<;>try simp only[go_sem,seval,d0])
    exact A1 (none0 (.inr (.inr (.inl hnm)))).symm
   |true =>
    cases vl with
    |false =>
     repeat'(apply wr<;>try simp only[go_sem,seval,d0])
     exact A1 (none0 (.inr (.inr (.inr hvl)))).symm
    |true =>
     rw[if_neg (by simp[hkk,hnm,hvl,hlen])]at hR;by_cases hc0:J4 k=0
     ·have d1:((J4 k:Int)==0)=true:=by simp[hc0]
      rw[if_pos hc0]at hR;repeat'(apply wr<;>try simp only[go_sem,seval,d0,d1])
      exact A1 hR.symm
     ·have d1:((J4 k:Int)==0)=false:=by simp[hc0]
      rw[if_neg hc0]at hR;repeat'(apply wr<;>try simp only[go_sem,seval,d0,d1])
      have hl2:a.length<=2:=by omega
      refine A6 (λq:Nat × Nat × Nat=>[(1,.ptr 0 0),(5,I64 (J4 k)),(80,H9 a),(81,I64 a.length),(82,I64 q.1),(2,I64 q.2.1),(3,I64 q.2.2)]) (λ_=>Sym.nil.upd 0 ⟨0,true,[I64 k,I64 v,.str n,H9 a,I64 p]⟩)
       (λq cc=>1<=cc/\q.1<=a.length/\q.2.1<=q.1*1000000000/\q.2.2<=1000000000/\msL k 0 a=(match msL k q.1 (a.drop q.1) with
        |none=>none
        |some (o2,d2)=>some (q.2.1+o2,max q.2.2 d2))) (λq=>a.length-q.1) (0,0,0) (by simp[B7,tm,Tm.upd]) (Sub.refl _)
       ⟨A0E _,A0P _,A0P _,A0P _,by
        rw[A3O];cases msL k 0 a with
        |none=>rfl
        |some q=>obtain⟨o2,d2⟩:=q;simp⟩ ?_
      rintro⟨i,o,d⟩ cc ⟨h1c,hk,ho,hd3,he⟩;dsimp only at hk ho hd3 he ⊢;by_cases hlt:i<a.length
      ·have hd:=dtz hlt;have hg:=A0B hlt;have hw:=w64 (n:=(i:Int)+1);rw[D0z hg]at he;have hmx:=hx _ (A0L hlt);have hax:=hargs _ (A0L hlt);have hwx:=hwr _ i hg (by omega);have hms:=D8c a[i];generalize a[i]=x at hg he hmx hax hwx hms;rw[Ex.v_w]at hmx;have hwx:PC Tryz.prog 196 [DV.agg [I64 k,I64 v,DV.str n,H9 a,I64 p],I64 i] (.bool (A0x k x.kind i)):=hwx;have ne0:=W9 0 cc (by omega);cases hq:msM x with
       |none =>
        rw[hq]at he hmx;dsimp only[msV]at he hmx;rw[he]at hR;repeat'((with_reducible first|apply wr|refine cpc hmx ?_)<;>try simp only[go_sem,seval,hd,hg,Ex.v_w])
        exact A1 hR.symm
       |some qq =>
        obtain⟨o1,d1'⟩:=qq;rw[hq]at he hmx;dsimp only[msV]at he hmx;have:=hms o1 d1' hq;have w1:=w64 (n:=(o:Int)+(o1:Int));have w2:=w64 (n:=(d1':Int)+1);cases hwb:A0x k x.kind i with
        |true =>
         rw[hwb]at he;repeat'((with_reducible first|apply wr|refine cpc hmx ?_|refine cpc hwx ?_)<;>try simp only[go_sem,seval,hd,hg,hw,Ex.v_w,ne0,hwb,w1,w2])
         all_goals(refine⟨(i+1,o+o1,max d (d1'+1)),⟨by simp,by simp,?_⟩,?_,inv ⟨by omega,by simp only;omega,by simp only;omega,by simp only;omega,?_⟩,by simp only;omega⟩)
         all_goals first
          |(refine congrArg I64 ?_;dsimp only;split<;>omega)
          |exact B6n () h1c
          |(rw[he];dsimp only;cases msL k (i+1) (a.drop (i+1)) with
           |none=>rfl
           |some q=>obtain⟨o2,d2⟩:=q;simp[A3B,Nat.max_assoc])
        |false =>
         rw[hwb]at he;repeat'((with_reducible first|apply wr|refine cpc hmx ?_|refine cpc hwx ?_)<;>try simp only[go_sem,seval,hd,hg,hw,Ex.v_w,ne0,hwb,w1])
         all_goals(refine⟨(i+1,o+o1,max d (d1')),⟨by simp,by simp,?_⟩,?_,inv ⟨by omega,by simp only;omega,by simp only;omega,by simp only;omega,?_⟩,by simp only;omega⟩)
         all_goals first
          |(refine congrArg I64 ?_;dsimp only;split<;>omega)
          |exact B6n () h1c
          |(rw[he];dsimp only;cases msL k (i+1) (a.drop (i+1)) with
           |none=>rfl
           |some q=>obtain⟨o2,d2⟩:=q;simp[A3B,Nat.max_assoc])
      ·have hd:=dfz hlt;rw[A1Q (by omega)]at he;have w1:=w64 (n:=(d:Int)+1);by_cases hc1:J4 k=1
       ·have e1:((J4 k:Int)==1)=true:=by simp[hc1]
        rw[he,hc1]at hR;repeat'(apply wr<;>try simp only[go_sem,seval,hd,e1,w1])
        refine A1 ?_;rw[hR];simp[msV,msL]
       ·have e1:((J4 k:Int)==1)=false:=by simp;omega
        rw[he]at hR;simp only[if_neg hc1]at hR;repeat'(apply wr<;>try simp only[go_sem,seval,hd,e1])
        refine A1 ?_;rw[hR];simp[msV,msL]
  ·have d0:((a.length:Int) != (J4 k:Int))=true:=by simp;omega
   repeat'(apply wr<;>try simp only[go_sem,seval,d0])
   exact A1 (none0 (.inr (.inl hlen))).symm
 have kB:∀nm:Bool,A5i k n=nm->kOk k=true->IW Tryz.prog 113 (pz Tryz.prog 144 (.o (.o (.o (.o (.o .h)))))) ⟨tm [(1,.ptr 0 0),(2,I64 0),(3,I64 0),(5,I64 (J4 k)),(7,.bool nm)],Sym.nil.upd 0 ⟨0,true,[I64 k,I64 v,.str n,H9 a,I64 p]⟩,1⟩ (rt [.tmp 2,.tmp 3,.tmp 4] λv H' x => ∃H2,GL H' [v] H2 [R]):=by
  intro nm hnm hkk;repeat'((with_reducible first|refine I4 (p:=IW _ _ (pz Tryz.prog 144 (.o (.i (.o (.o (.o .h)))))) _ _) ?_|refine wr ?_|apply wb2<;>(intro hb;try simp only[hb]))<;>try simp only[go_sem,seval])
  all_goals refine IW.stage (L:=[(1,.ptr 0 0),(2,I64 0),(3,I64 0),(5,I64 (J4 k)),(7,.bool nm),(8,.bool (A2v k v))]) ?_ (kA nm _ hnm rfl hkk)
  all_goals simp_all[B7,tm,Tm.upd,A2v]
  all_goals omega
 have kC:kOk k=true->IW Tryz.prog 113 (pz Tryz.prog 144 (.o (.o (.o (.i .h))))) ⟨tm [(1,.ptr 0 0),(2,I64 0),(3,I64 0),(5,I64 (J4 k))],Sym.nil.upd 0 ⟨0,true,[I64 k,I64 v,.str n,H9 a,I64 p]⟩,1⟩ (rt [.tmp 2,.tmp 3,.tmp 4] λv H' x => ∃H2,GL H' [v] H2 [R]):=by
  intro hkk;repeat'((with_reducible first|refine I4 (p:=IW _ _ (pz Tryz.prog 144 (.o (.o (.o (.o (.o .h)))))) _ _) ?_|refine wr ?_|refine cpc hnk ?_|refine cpc hin ?_|apply wb2<;>(intro hb;try simp only[hb]))<;>try simp only[go_sem,seval])
  all_goals refine IW.stage (L:=[(1,.ptr 0 0),(2,I64 0),(3,I64 0),(5,I64 (J4 k)),(7,.bool (A5i k n))]) ?_ (kB _ rfl hkk)
  all_goals simp_all[B7,tm,Tm.upd,A5i]
 by_cases l6:B0 k=6
 ·have m6:(B0 k==6)=true:=by simpa using l6
  repeat'((with_reducible first|refine I4 (p:=IW _ _ (pz Tryz.prog 144 (.o (.o (.o (.i .h))))) _ _) ?_|refine wr ?_|refine cpc hl ?_)<;>try simp only[go_sem,seval,m6])
  refine IW.stage ?_ (kC (by simp[kOk];left;omega));simp[B7,tm,Tm.upd,J4,l6]
 have m6:(B0 k==6)=false:=by simpa using l6
 by_cases l5:B0 k<6
 ·have m5:decide (B0 k<6)=true:=by simpa using l5
  repeat'((with_reducible first|refine I4 (p:=IW _ _ (pz Tryz.prog 144 (.o (.o (.o (.i .h))))) _ _) ?_|refine wr ?_|refine cpc hl ?_)<;>try simp only[go_sem,seval,m6,m5])
  refine IW.stage ?_ (kC (by simp[kOk];left;omega));simp[B7,tm,Tm.upd,J4,l6,l5]
 have m5:decide (B0 k<6)=false:=by simpa using l5
 repeat'((with_reducible first|refine I4 (p:=IW _ _ (pz Tryz.prog 144 (.o (.o (.o (.i .h))))) _ _) ?_|refine wr ?_|refine cpc hl ?_|apply wb2<;>(intro hb;try simp only[hb]))<;>try simp only[go_sem,seval,m6,m5])
 all_goals first
  |(refine IW.stage ?_ (kC (by simp_all[kOk]<;>omega));simp[B7,tm,Tm.upd,J4,l6,l5];done)
  |(refine A1 (none0 (.inl ?_)).symm;simp_all[kOk]<;>omega)
theorem c_ValidExpr(e:Ex)(hB:e.sz<=100000000):PC Tryz.prog 93 [e.v] (.bool (T7 e)):=by
 refine PC.go A2 ?_;have hm:=c_measure _ e (A1N _) hB;unfold T7;rw[Ex.v_w]at hm ⊢;cases hq:msM e with
 |none =>
  rw[hq]at hm;dsimp only[msV]at hm;repeat'((with_reducible first|apply wr|refine cpc hm ?_)<;>try simp only[go_sem,seval])
  all_goals exact A1 rfl
 |some q =>
  obtain⟨o,d⟩:=q;rw[hq]at hm;dsimp only[msV]at hm;repeat'((with_reducible first|apply wr|refine cpc hm ?_|apply wb2<;>(intro hb;try simp only[hb]))<;>try simp only[go_sem,seval])
  all_goals(refine A1 (congrArg DV.bool ?_);by_cases h1:o<=32<;>by_cases h2:d<=16<;>simp_all<;>omega)
end Go.Proofs.YtenmhfknbopmeaaGreatDoor
namespace Go.Pb
open Go.Sym
def Shp.v(s:Shp):DV:=.agg [.bool s.name,.bool s.text,I64 s.args,.bool s.thn,.bool s.els]
end Go.Pb
namespace Go.Proofs.YtenmhfknbopmeaaGreatDoor
open Go.Eng (IC IOper DReg IFn L1)
open Go.Sym Go.Pb
def D6e(k:Int):Bool:=decide (1<=k)&&decide (k<=19)
theorem c_shapeOf(k:Int):PC Tryz.prog 243 [I64 k] (.tup [(K2 k).v,.bool (D6e k)]):=by
 refine PC.go A2 ?_;repeat'((with_reducible first|apply wr|apply wb2<;>(intro hb;try simp only[hb]))<;>try simp only[go_sem,seval])
 all_goals refine A1 ?_
 all_goals simp_all[K2,D6e,Shp.v,Tm.upd]
 all_goals omega
theorem c_isText(s:List UInt8)(hs:s.length<=1000000000):PC Tryz.prog 246 [.str s] (.bool (S3 s)):=by
 refine PC.go A2 ?_;repeat'(apply wr<;>try simp only[go_sem,seval])
 refine A6 (λk:Nat=>[(0,.str s),(3,I64 k)]) (λ_=>Sym.nil) (λk _=>k<=s.length/\(s.take k).all txB=true) (λk=>s.length-k) 0 (by simp[B7,tm,Tm.upd]) (Sub.refl _) ⟨A0P _,rfl⟩ ?_;rintro k cc ⟨hk,he⟩;by_cases hlt:k<s.length
 ·have hd:=dtz hlt;have hg:=A0B hlt;have hw:=w64 (n:=(k:Int)+1);generalize s[k]=x at hg;have hx:txB x=(decide (32<=x.toNat)&&decide (x.toNat<=126)):=rfl;repeat'((with_reducible first|apply wr|apply wb2<;>(intro hb;try simp only[hb]))<;>try simp only[go_sem,seval,hd,hg,hw])
  ·refine A1 (congrArg DV.bool ?_);have:=A0b txB s k _ hg (by simp_all<;>omega);simp[S3,this]
  ·refine A1 (congrArg DV.bool ?_);have:=A0b txB s k _ hg (by simp_all<;>omega);simp[S3,this]
  ·exact⟨k+1,rfl,Sub.refl _,inv ⟨by omega,by rw[A1n txB s k _ hg,he];simp_all<;>omega⟩,by omega⟩
 have hd:=dfz hlt;have hall:=A3m txB s k (by omega) he;repeat'(apply wr<;>try simp only[go_sem,seval,hd])
 refine A1 (congrArg DV.bool ?_);simp[S3,hall];omega
theorem c_validDecl(d:Dc)(hB:d.name.length<=1000000000):PC Tryz.prog 106 [d.v] (.bool (A0d d)):=by
 refine PC.go A2 ?_;have hn:=c_IsName d.name hB;repeat'((with_reducible first|apply wr|refine cpc hn ?_|apply wb2<;>(intro hb;try simp only[hb]))<;>try simp only[go_sem,seval])
 all_goals(refine A1 (congrArg DV.bool ?_);simp_all[A0d]<;>omega)
theorem c_vS1(e:Ex)(hB:e.sz<=100000000):PC Tryz.prog 245 [e.v] (.bool (!T7 e)):=by
 refine PC.go A2 ?_;have h:=c_ValidExpr e hB;rw[Ex.v_w]at h ⊢;repeat'((with_reducible first|apply wr|refine cpc h ?_)<;>try simp only[go_sem,seval])
 exact A1 rfl
theorem D9h(d:Nat)(s:Pb.St):O6 d s=(D6e s.kind&&(s.args.length==(K2 s.kind).args&&s.args.all T7) &&
   ((if(K2 s.kind).name=true then D7 s.name else s.name == [])&&(if(K2 s.kind).text=true then S3 s.text else s.text == [])) &&
   (((K2 s.kind).thn||s.thn.isEmpty)&&((K2 s.kind).els||s.els.isEmpty))&&(N3 s.thn (d+1)&&N3 s.els (d+1))):=by
 cases s with|mk k n t a x y p=>rw[O6];rfl
theorem A4k{α:Type}(g : α->Bool)(l:List α):l.any (λx => !g x) = !l.all g:=by
 induction l with
 |nil=>rfl
 |cons x l ih=>rw[List.any_cons,A2L,ih,Bool.not_and]
theorem c_vSt(s:Pb.St)(d:Nat)(hd:d<=1000000000)(hB:s.sz<=100000000)(hX:PC Tryz.prog 162 [D5 s.thn,I64 (d+1:Nat)] (.bool (N3 s.thn (d+1))))(hY:PC Tryz.prog 162 [D5 s.els,I64 (d+1:Nat)] (.bool (N3 s.els (d+1)))):
  PC Tryz.prog 221 [s.v,I64 d] (.bool (O6 d s)):=by
 rw[D9h];have hsa:Ex.szs s.args<s.sz:=by cases s with|mk k n t a x y p=>rw[Pb.St.sz];show Ex.szs a<_;omega
 have hal:=Ex.szs_len s.args;have hxl:=Pb.St.szs_len s.thn;have hyl:=Pb.St.szs_len s.els;have hxs:=s.sz_thn;have hys:=s.sz_els;have hnl:=s.sz_name;have htl:=s.sz_text;have hn:=c_IsName s.name (by omega);have ht:=c_isText s.text (by omega);have hsh:=c_shapeOf s.kind;have hca:=c_CF_ex (f:=245) (a:=[]) (cs:=[]) (g:=λe => !T7 e) s.args (by omega) rfl rfl (λx hx=>c_vS1 x (by have:=Ex.szs_mem hx;omega));rw[A4k]at hca;have hw:=w64 (n:=(d:Int)+1);refine PC.ofT A2 rfl (A0H rfl) (by rw[Pb.St.v_w];simp[DV.nlL,DV.nl,A2b,X8]) rfl ?_;cases s with|mk k n t a x y p =>
 dsimp only[Pb.St.kind,Pb.St.name,Pb.St.text,Pb.St.args,Pb.St.thn,Pb.St.els,Pb.St.pos]at *;have hX:PC Tryz.prog 162 [D5 x,I64 ((d:Int)+1)] (.bool (N3 x (d+1))):=hX;have hY:PC Tryz.prog 162 [D5 y,I64 ((d:Int)+1)] (.bool (N3 y (d+1))):=hY;have ev:(Pb.St.mk k n t a x y p).v=.agg [I64 k,.str n,.str t,H9 a,D5 x,D5 y,I64 p]:=Pb.St.v_w _;rw[ev];generalize N3 x (d+1)=bx at *;generalize N3 y (d+1)=bY at *;generalize D6e k=kb at *;obtain⟨nb,tb,ar,xb,yb,hs⟩:∃nb tb ar xb yb,K2 k=⟨nb,tb,ar,xb,yb⟩:=⟨_,_,_,_,_,rfl⟩;simp only[hs,Shp.v]at hsh ⊢;have kA:∀(cc:Nat) (nm tx:Bool),IW Tryz.prog 86 (pz Tryz.prog 221 (.i (.i (.o (.i .h))))) ⟨tm [(1,I64 d),(2,.ptr 0 0),(5,.ptr 1 0),(7,.bool nm),(8,.bool tx)],(Sym.nil.upd 0 ⟨0,true,[I64 k,.str n,.str t,H9 a,D5 x,D5 y,I64 p]⟩).upd 1 ⟨0,true,[.bool nb,.bool tb,I64 ar,.bool xb,.bool yb]⟩,cc⟩ (rt [.tmp 4] λv H' c => ∃H2,GL H' [v] H2 [.bool ((nm&&tx)&&((xb||x.isEmpty)&&(yb||y.isEmpty))&&(bx&&bY))]):=by
  intro cc nm tx;have ex:x.isEmpty = !decide ((x.length:Int)>0):=by cases x<;>simp
  have ey:y.isEmpty = !decide ((y.length:Int)>0):=by cases y<;>simp
  rw[ex,ey];cases nm with
  |false =>
   repeat'(apply wr<;>try simp only[go_sem,seval])
   exact A1 (by simp)
  |true =>
  cases tx with
  |false =>
   repeat'(apply wr<;>try simp only[go_sem,seval])
   exact A1 (by simp)
  |true =>
  generalize hlx:decide ((x.length:Int)>0)=lx at *;generalize hly:decide ((y.length:Int)>0)=ly at *;cases bx<;>cases bY<;>cases xb<;>cases lx<;>cases yb<;>cases ly;all_goals(repeat'((with_reducible first|apply wr|refine cpc hX ?_|refine cpc hY ?_)<;>try simp only[go_sem,seval,hlx,hly,hw,A0C]))
  all_goals exact A1 rfl
 have kB:∀cc:Nat,IW Tryz.prog 86 (pz Tryz.prog 221 (.i (.i (.i .h)))) ⟨tm [(1,I64 d),(2,.ptr 0 0),(5,.ptr 1 0),(7,.bool (n == [])),(8,.bool (t == []))],(Sym.nil.upd 0 ⟨0,true,[I64 k,.str n,.str t,H9 a,D5 x,D5 y,I64 p]⟩).upd 1 ⟨0,true,[.bool nb,.bool tb,I64 ar,.bool xb,.bool yb]⟩,cc⟩ (rt [.tmp 4] λv H' c => ∃H2,GL H' [v] H2 [.bool (((if nb=true then D7 n else n == [])&&(if tb=true then S3 t else t == []))&&((xb||x.isEmpty)&&(yb||y.isEmpty))&&(bx&&bY))]):=by
  intro cc;cases nb<;>cases tb;all_goals(repeat'((with_reducible first|refine I4 (p:=IW _ _ (pz Tryz.prog 221 (.i (.i (.o (.i .h))))) _ _) ?_|refine wr ?_|refine cpc hn ?_|refine cpc ht ?_)<;>try simp only[go_sem,seval]))
  all_goals(refine IW.stage ?_ (kA _ _ _);simp[B7,tm,Tm.upd])
 cases kb with
 |false =>
  repeat'((with_reducible first|apply wr|refine cpc hsh ?_)<;>try simp only[go_sem,seval])
  exact A1 (by simp)
 |true =>
 by_cases hal2:a.length=ar
 ·have d0:((a.length:Int) != (ar:Int))=false:=by simp[hal2]
  cases hall:a.all T7 with
  |false =>
   rw[hall]at hca;repeat'((with_reducible first|apply wr|refine cpc hsh ?_|refine cpc hca ?_)<;>try simp only[go_sem,seval,d0,A0C])
   exact A1 (by simp)
  |true =>
   rw[hall]at hca;have e1:(a.length==ar)=true:=by simpa using hal2
   rw[e1];simp only[A2E];repeat'((with_reducible first|refine I4 (p:=IW _ _ (pz Tryz.prog 221 (.i (.i (.i .h)))) _ _) ?_|refine wr ?_|refine cpc hsh ?_|refine cpc hca ?_)<;>try simp only[go_sem,seval,d0,A0C,A4])
   refine IW.stage (L:=[(1,I64 d),(2,.ptr 0 0),(5,.ptr 1 0),(7,.bool (n == [])),(8,.bool (t == []))]) ?_ (kB _);simp[B7,tm,Tm.upd]
 ·have d0:((a.length:Int) != (ar:Int))=true:=by simp;omega
  repeat'((with_reducible first|apply wr|refine cpc hsh ?_)<;>try simp only[go_sem,seval,d0,A0C])
  exact A1 (by simp;omega)
theorem c_vB1(s:Pb.St)(d:Nat)(h:PC Tryz.prog 221 [s.v,I64 d] (.bool (O6 d s))):PC Tryz.prog 220 [s.v,.fptr [I64 d]] (.bool (!O6 d s)):=by
 rw[Pb.St.v_w]at h ⊢;refine PC.go A2 ?_;repeat'((with_reducible first|apply wr|refine cpc h ?_)<;>try simp only[go_sem,seval])
 exact A1 rfl
theorem B2q(d:Nat):∀l:List Pb.St,G6 d l=l.all (O6 d)
 |[]=>by rw[G6];rfl
 |s::l=>by rw[G6,B2q d l];rfl
theorem c_validBlock:∀(m:Nat) (l:List Pb.St) (d:Nat),Pb.St.szs l<m->Pb.St.szs l<=100000000->d+Pb.St.szs l<=1000000000->PC Tryz.prog 162 [D5 l,I64 d] (.bool (N3 l d)):=by
 intro m
 induction m with
 |zero=>intro l d h;omega
 |succ m ih =>
 intro l d hm hB hd;have hl:=Pb.St.szs_len l;have hcf:=c_CF_st (f:=220) (a:=[]) (cs:=[.fptr [I64 d]]) (g:=λs => !O6 d s) l (by omega) rfl rfl (λs hs=>by
  have h1:=Pb.St.szs_mem hs;have h2:=s.sz_thn;have h3:=s.sz_els;exact c_vB1 s d (c_vSt s d (by omega) (by omega) (ih _ _ (by omega) (by omega) (by omega)) (ih _ _ (by omega) (by omega) (by omega))))
 rw[A4k, <- B2q]at hcf;refine PC.go A2 ?_;have el:l.isEmpty = !decide ((l.length:Int)>0):=by cases l<;>simp
 have e64:decide (l.length<=64) = !decide ((l.length:Int)>64):=by rw[<- decide_not];exact decide_eq_decide.2 (by omega)
 have e8:decide (d<=8) = !decide ((d:Int)>8):=by rw[<- decide_not];exact decide_eq_decide.2 (by omega)
 unfold N3;rw[el,e64,e8];repeat'((first|(with_reducible first|apply wr)|(with_reducible apply wb2<;>(intro hb;try simp only[hb]))|(refine AC.call (hcf.lend rfl (GL.one (id:=0) (b:=⟨0,true,[I64 d]⟩) rfl rfl (.cons _ _ _ _ (.same _) (.cons _ _ _ _ (.func _ _ _ _ _ .nil (.cons _ _ _ _ (.ptr 0 _ (A0P _) rfl) .nil)) .nil)))) ?_<;>rintro v H' c' ⟨rfl,rfl,rfl⟩ hcc))<;>try simp only[go_sem,seval,A0C])
 all_goals(refine A1 (congrArg DV.bool ?_);simp_all)
theorem c_validHd(h:Hd)(hB:Pb.St.szs h.body<=100000000):PC Tryz.prog 162 [D5 h.body,I64 1] (.bool (N3 h.body 1)) :=
 c_validBlock _ h.body 1 (A1N _) hB (by omega)
theorem E2s(h:Hd):h.v=.agg [I64 h.trig,.str h.name,D5 h.body,I64 h.pos]:=rfl
theorem c_validMode(d:Md)(hB:d.sz<=100000000):PC Tryz.prog 109 [d.v] (.bool (R0 d)):=by
 have hsz:d.sz=1+d.name.length+(d.hds.map Hd.sz).sum:=rfl;have hhl:d.hds.length<=(d.hds.map Hd.sz).sum:=I7 λx _=>by show 1<=1+_+_;omega
 have hn:=c_IsName d.name (by omega);refine PC.go A2 ?_;have ev:d.v=.agg [.str d.name,I64 d.prio,M5 d.hds,I64 d.pos]:=rfl;rw[ev];cases hnm:D7 d.name with
 |false =>
  rw[hnm]at hn;repeat'((with_reducible first|apply wr|refine cpc hn ?_)<;>try simp only[go_sem,seval])
  exact A1 (by simp[R0,hnm])
 |true =>
 rw[hnm]at hn;by_cases p0:d.prio<0
 ·have q0:decide (d.prio<0)=true:=by simpa using p0
  repeat'((with_reducible first|apply wr|refine cpc hn ?_)<;>try simp only[go_sem,seval,q0])
  exact A1 (by simp[R0,hnm];omega)
 have q0:decide (d.prio<0)=false:=by simpa using p0
 by_cases p1:d.prio>2147483647
 ·have q1:decide (d.prio>2147483647)=true:=by simpa using p1
  repeat'((with_reducible first|apply wr|refine cpc hn ?_)<;>try simp only[go_sem,seval,q0,q1])
  exact A1 (by simp[R0,hnm];omega)
 have q1:decide (d.prio>2147483647)=false:=by simpa using p1
 by_cases p2:d.hds.length>32
 ·have q2:decide ((d.hds.length:Int)>32)=true:=by simp;omega
  repeat'((with_reducible first|apply wr|refine cpc hn ?_)<;>try simp only[go_sem,seval,q0,q1,q2,A0C])
  exact A1 (by simp[R0,hnm];omega)
 have q2:decide ((d.hds.length:Int)>32)=false:=by simp;omega
 have er:R0 d=d.hds.all A1q:=by
  unfold R0;rw[hnm,show decide (0<=d.prio)=true by simp;omega,show decide (d.prio<=2147483647)=true by simp;omega,show decide (d.hds.length<=32)=true by simp;omega];rfl
 rw[er];repeat'((with_reducible first|apply wr|refine cpc hn ?_)<;>try simp only[go_sem,seval,q0,q1,q2,A0C])
 refine A6 (λk:Nat=>[(27,M5 d.hds),(28,I64 d.hds.length),(29,I64 k)]) (λ_=>Sym.nil) (λk _=>k<=d.hds.length/\(d.hds.take k).all A1q=true) (λk=>d.hds.length-k) 0 (by simp[B7,tm,Tm.upd]) (Sub.nil _) ⟨A0P _,rfl⟩ ?_;rintro k cc ⟨hk,he⟩;by_cases hlt:k<d.hds.length
 ·have hd:=dtz hlt;have hg:=A0B hlt;have hw:=w64 (n:=(k:Int)+1);have hs:d.hds[k].sz<=(d.hds.map Hd.sz).sum:=K1 (A0L hlt);generalize d.hds[k]=h at hg hs;have hhs:h.sz=1+h.name.length+Pb.St.szs h.body:=rfl;have hn2:=c_IsName h.name (by omega);have hb2:=c_validHd h (by omega);have hf:=A0b A1q d.hds k _ hg;have ht:=A1n A1q d.hds k _ hg;have eh:A1q h=(decide (1<=h.trig)&&decide (h.trig<=6)&&(if 3<=h.trig then D7 h.name else h.name == [])&&N3 h.body 1):=rfl;by_cases t3:3<=h.trig
  ·have u3:decide (h.trig≥3)=true:=by simpa using t3
   rw[if_pos t3]at eh;repeat'((with_reducible first|apply wr|refine cpc hn2 ?_|refine cpc hb2 ?_|apply wb2<;>(intro hb;try simp only[hb]))<;>try simp only[go_sem,seval,hd,hg,hw,u3,E2s,A0,A4])
   all_goals first
    |(refine A1 (congrArg DV.bool (hf ?_).symm);rw[eh];clear hf ht eh er;simp_all<;>omega)
    |(refine⟨k+1,rfl,Sub.nil _,inv ⟨by omega,?_⟩,by omega⟩;rw[ht,he,eh];clear hf ht eh er;simp_all<;>omega)
  ·have u3:decide (h.trig≥3)=false:=by simpa using t3
   rw[if_neg t3]at eh;repeat'((with_reducible first|apply wr|refine cpc hb2 ?_|apply wb2<;>(intro hb;try simp only[hb]))<;>try simp only[go_sem,seval,hd,hg,hw,u3,E2s,A0,A4])
   all_goals first
    |(refine A1 (congrArg DV.bool (hf ?_).symm);rw[eh];clear hf ht eh er;simp_all<;>omega)
    |(refine⟨k+1,rfl,Sub.nil _,inv ⟨by omega,?_⟩,by omega⟩;rw[ht,he,eh];clear hf ht eh er;simp_all<;>omega)
 have hd:=dfz hlt;have hall:=A3m A1q d.hds k (by omega) he;repeat'(apply wr<;>try simp only[go_sem,seval,hd])
 exact A1 (by rw[hall])
theorem c_V1(d:Dc)(hB:d.name.length<=1000000000):PC Tryz.prog 105 [d.v] (.bool (!A0d d)):=by
 have h:=c_validDecl d hB;have ev:d.v=.agg [I64 d.kind,.str d.name,I64 d.value,I64 d.pos]:=rfl;rw[ev]at h ⊢;refine PC.go A2 ?_;repeat'((with_reducible first|apply wr|refine cpc h ?_)<;>try simp only[go_sem,seval])
 exact A1 rfl
theorem c_V2(d:Md)(hB:d.sz<=100000000):PC Tryz.prog 108 [d.v] (.bool (!R0 d)):=by
 have h:=c_validMode d hB;have ev:d.v=.agg [.str d.name,I64 d.prio,M5 d.hds,I64 d.pos]:=rfl;rw[ev]at h ⊢;refine PC.go A2 ?_;repeat'((with_reducible first|apply wr|refine cpc h ?_)<;>try simp only[go_sem,seval])
 exact A1 rfl
theorem c_Valid(r:Ru)(hB:r.sz<=100000000):PC Tryz.prog 53 [r.v] (.bool (L9 r)):=by
 obtain⟨D,M⟩:=r;have hDs:(D.map Dc.sz).sum+(M.map Md.sz).sum<=100000000:=hB;have hDl:D.length<=(D.map Dc.sz).sum:=I7 λx _=>by show 1<=1+_;omega
 have hMl:M.length<=(M.map Md.sz).sum:=I7 λx _=>by show 1<=1+_+_;omega
 have h1:=c_CF_dc (f:=105) (a:=[]) (cs:=[]) (g:=λe => !A0d e) D (by omega) rfl rfl (λx hx=>c_V1 x (by
  have:x.sz<=(D.map Dc.sz).sum:=K1 hx;have e:x.sz=1+x.name.length:=rfl;omega))
 have h2:=c_CF_md (f:=108) (a:=[]) (cs:=[]) (g:=λe => !R0 e) M (by omega) rfl rfl (λx hx=>c_V2 x (by
  have:x.sz<=(M.map Md.sz).sum:=K1 hx;omega))
 rw[A4k]at h1 h2;refine PC.go A2 ?_;dsimp only[Ru.v];unfold L9;dsimp only;have e1:decide (D.length<=128) = !decide ((D.length:Int)>128):=by rw[<- decide_not];exact decide_eq_decide.2 (by omega)
 have e2:decide (M.length<=16) = !decide ((M.length:Int)>16):=by rw[<- decide_not];exact decide_eq_decide.2 (by omega)
 rw[e1,e2];generalize D.all A0d=bD at *;generalize M.all R0=bM at *;repeat'((with_reducible first|apply wr|refine cpc h1 ?_|refine cpc h2 ?_|apply wb2<;>(intro hb;try simp only[hb]))<;>try simp only[go_sem,seval,A0C])
 all_goals(refine A1 (congrArg DV.bool ?_);simp_all)
end Go.Proofs.YtenmhfknbopmeaaGreatDoor
set_option maxHeartbeats 4000000
namespace Go.Proofs.YtenmhfknbopmeaaGreatDoor
open Go.Eng (IC IOper DReg IFn L1)
open Go.Sym
abbrev x102:XT Tryz.prog 102:=mkF
instance t102:FT Tryz.prog 102 x102.d:=x102.ft
abbrev x51:XT Tryz.prog 51:=mkF
instance t51:FT Tryz.prog 51 x51.d:=x51.ft
abbrev x148:XT Tryz.prog 148:=mkF
instance t148:FT Tryz.prog 148 x148.d:=x148.ft
abbrev x238:XT Tryz.prog 238:=mkF
instance t238:FT Tryz.prog 238 x238.d:=x238.ft
abbrev x237:XT Tryz.prog 237:=mkF
instance t237:FT Tryz.prog 237 x237.d:=x237.ft
abbrev x199:XT Tryz.prog 199:=mkF
instance t199:FT Tryz.prog 199 x199.d:=x199.ft
abbrev x198:XT Tryz.prog 198:=mkF
instance t198:FT Tryz.prog 198 x198.d:=x198.ft
abbrev x150:XT Tryz.prog 150:=mkF
instance t150:FT Tryz.prog 150 x150.d:=x150.ft
abbrev x149:XT Tryz.prog 149:=mkF
instance t149:FT Tryz.prog 149 x149.d:=x149.ft
abbrev x197:XT Tryz.prog 197:=mkF
instance t197:FT Tryz.prog 197 x197.d:=x197.ft
abbrev x147:XT Tryz.prog 147:=mkF
instance t147:FT Tryz.prog 147 x147.d:=x147.ft
abbrev x96:XT Tryz.prog 96:=mkF
instance t96:FT Tryz.prog 96 x96.d:=x96.ft
abbrev x22:XT Tryz.prog 22:=mkF
instance t22:FT Tryz.prog 22 x22.d:=x22.ft
abbrev x97:XT Tryz.prog 97:=mkF
instance t97:FT Tryz.prog 97 x97.d:=x97.ft
abbrev x54:XT Tryz.prog 54:=mkF
instance t54:FT Tryz.prog 54 x54.d:=x54.ft
abbrev x110:XT Tryz.prog 110:=mkF
instance t110:FT Tryz.prog 110 x110.d:=x110.ft
abbrev x55:XT Tryz.prog 55:=mkF
instance t55:FT Tryz.prog 55 x55.d:=x55.ft
abbrev x111:XT Tryz.prog 111:=mkF
instance t111:FT Tryz.prog 111 x111.d:=x111.ft
abbrev x60:XT Tryz.prog 60:=mkF
instance t60:FT Tryz.prog 60 x60.d:=x60.ft
abbrev x56:XT Tryz.prog 56:=mkF
instance t56:FT Tryz.prog 56 x56.d:=x56.ft
abbrev x94:XT Tryz.prog 94:=mkF
instance t94:FT Tryz.prog 94 x94.d:=x94.ft
abbrev x61:XT Tryz.prog 61:=mkF
instance t61:FT Tryz.prog 61 x61.d:=x61.ft
abbrev x145:XT Tryz.prog 145:=mkF
instance t145:FT Tryz.prog 145 x145.d:=x145.ft
abbrev x114:XT Tryz.prog 114:=mkF
instance t114:FT Tryz.prog 114 x114.d:=x114.ft
abbrev x57:XT Tryz.prog 57:=mkF
instance t57:FT Tryz.prog 57 x57.d:=x57.ft
abbrev x146:XT Tryz.prog 146:=mkF
instance t146:FT Tryz.prog 146 x146.d:=x146.ft
abbrev x95:XT Tryz.prog 95:=mkF
instance t95:FT Tryz.prog 95 x95.d:=x95.ft
abbrev x112:XT Tryz.prog 112:=mkF
instance t112:FT Tryz.prog 112 x112.d:=x112.ft
abbrev x25:XT Tryz.prog 25:=mkF
instance t25:FT Tryz.prog 25 x25.d:=x25.ft
abbrev x59:XT Tryz.prog 59:=mkF
instance t59:FT Tryz.prog 59 x59.d:=x59.ft
end Go.Proofs.YtenmhfknbopmeaaGreatDoor
end
