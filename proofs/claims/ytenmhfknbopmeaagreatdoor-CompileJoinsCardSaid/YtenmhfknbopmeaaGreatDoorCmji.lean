/-
  HELPERS of the claim: part 9 of its texts.
-/
import Derived.Test.YtenmhfknbopmeaaGreatDoorCmjh
import Derived.Shelf.LaysC
import Derived.Shelf.Strconv.ParseIntPublic10
import Derived.Test.YtenmhfknbopmeaaGreatDoorProg
noncomputable section
set_option linter.unusedVariables false
namespace Go.Proofs
open Go.Shelf
def Tryz.laysC174_ren:Go.Shelf.Ren:=⟨fun |174=>231 |247=>252 |245=>253 |287=>261 |279=>262 |280=>263 |281=>264 |282=>265 |321=>271 |322=>272 |316=>273 |171=>275 |205=>274 |243=>278 |246=>281 |283=>284 |284=>285 |285=>286 |286=>287 |129=>172 |317=>289 |318=>290 |319=>291 |320=>292 |337=>293 |338=>294|n=>n,fun |9=>9 |3=>3 |2=>2 |75=>259 |85=>260 |4=>4 |167=>295 |5=>5 |53=>171 |175=>296 |46=>185 |168=>298 |37=>22 |0=>0 |210=>306 |21=>21 |127=>308 |145=>311 |143=>309 |171=>313 |173=>315 |212=>318 |51=>221 |20=>20 |213=>319 |232=>320 |233=>321 |80=>80|n=>n,fun |15=>2 |16=>3 |17=>5 |18=>6 |19=>7|n=>n⟩
theorem Tryz.laysC174:Go.Proofs.LaysC.n174 Tryz.prog Tryz.laysC174_ren:={
 mixed:=by kernel_rfl
 f129:=Tryz.func172.trans (congrArg some (by kernel_rfl))
 f171:=Tryz.func275.trans (congrArg some (by kernel_rfl))
 f174:=Tryz.func231.trans (congrArg some (by kernel_rfl))
 f205:=Tryz.func274.trans (congrArg some (by kernel_rfl))
 f243:=Tryz.func278.trans (congrArg some (by kernel_rfl))
 f245:=Tryz.func253.trans (congrArg some (by kernel_rfl))
 f246:=Tryz.func281.trans (congrArg some (by kernel_rfl))
 f247:=Tryz.func252.trans (congrArg some (by kernel_rfl))
 f279:=Tryz.func262.trans (congrArg some (by kernel_rfl))
 f280:=Tryz.func263.trans (congrArg some (by kernel_rfl))
 f281:=Tryz.func264.trans (congrArg some (by kernel_rfl))
 f282:=Tryz.func265.trans (congrArg some (by kernel_rfl))
 f283:=Tryz.func284.trans (congrArg some (by kernel_rfl))
 f284:=Tryz.func285.trans (congrArg some (by kernel_rfl))
 f285:=Tryz.func286.trans (congrArg some (by kernel_rfl))
 f286:=Tryz.func287.trans (congrArg some (by kernel_rfl))
 f287:=Tryz.func261.trans (congrArg some (by kernel_rfl))
 f316:=Tryz.func273.trans (congrArg some (by kernel_rfl))
 f317:=Tryz.func289.trans (congrArg some (by kernel_rfl))
 f318:=Tryz.func290.trans (congrArg some (by kernel_rfl))
 f319:=Tryz.func291.trans (congrArg some (by kernel_rfl))
 f320:=Tryz.func292.trans (congrArg some (by kernel_rfl))
 f321:=Tryz.func271.trans (congrArg some (by kernel_rfl))
 f322:=Tryz.func272.trans (congrArg some (by kernel_rfl))
 f337:=Tryz.func293.trans (congrArg some (by kernel_rfl))
 f338:=Tryz.func294.trans (congrArg some (by kernel_rfl))
 t0:=Tryz.underlying0
 a0:=Tryz.isAgg0
 z0:=Tryz.sizeOf0
 v0:=Tryz.zeroValue0
 t2:=Tryz.underlying2
 a2:=Tryz.isAgg2
 z2:=Tryz.sizeOf2
 v2:=Tryz.zeroValue2
 t3:=Tryz.underlying3
 a3:=Tryz.isAgg3
 z3:=Tryz.sizeOf3
 v3:=Tryz.zeroValue3
 t4:=Tryz.underlying4
 a4:=Tryz.isAgg4
 z4:=Tryz.sizeOf4
 v4:=Tryz.zeroValue4
 t5:=Tryz.underlying5
 a5:=Tryz.isAgg5
 z5:=Tryz.sizeOf5
 v5:=Tryz.zeroValue5
 t9:=Tryz.underlying9
 a9:=Tryz.isAgg9
 z9:=Tryz.sizeOf9
 v9:=Tryz.zeroValue9
 t20:=Tryz.underlying20
 a20:=Tryz.isAgg20
 z20:=Tryz.sizeOf20
 v20:=Tryz.zeroValue20
 t21:=Tryz.underlying21
 a21:=Tryz.isAgg21
 z21:=Tryz.sizeOf21
 v21:=Tryz.zeroValue21
 t37:=Tryz.underlying22
 a37:=Tryz.isAgg22
 z37:=Tryz.sizeOf22
 v37:=Tryz.zeroValue22
 t46:=Tryz.underlying185
 a46:=Tryz.isAgg185
 z46:=Tryz.sizeOf185
 v46:=Tryz.zeroValue185
 t51:=Tryz.underlying221
 a51:=Tryz.isAgg221
 z51:=Tryz.sizeOf221
 v51:=Tryz.zeroValue221
 t53:=Tryz.underlying171
 a53:=Tryz.isAgg171
 z53:=Tryz.sizeOf171
 v53:=Tryz.zeroValue171
 t75:=Tryz.underlying259
 a75:=Tryz.isAgg259
 z75:=Tryz.sizeOf259
 v75:=Tryz.zeroValue259
 t85:=Tryz.underlying260
 a85:=Tryz.isAgg260
 z85:=Tryz.sizeOf260
 v85:=Tryz.zeroValue260
 t127:=Tryz.underlying308
 a127:=Tryz.isAgg308
 z127:=Tryz.sizeOf308
 v127:=Tryz.zeroValue308
 t143:=Tryz.underlying309
 a143:=Tryz.isAgg309
 z143:=Tryz.sizeOf309
 v143:=Tryz.zeroValue309
 t145:=Tryz.underlying311
 a145:=Tryz.isAgg311
 z145:=Tryz.sizeOf311
 v145:=Tryz.zeroValue311
 t167:=Tryz.underlying295
 a167:=Tryz.isAgg295
 z167:=Tryz.sizeOf295
 v167:=Tryz.zeroValue295
 t168:=Tryz.underlying298
 a168:=Tryz.isAgg298
 z168:=Tryz.sizeOf298
 v168:=Tryz.zeroValue298
 t171:=Tryz.underlying313
 a171:=Tryz.isAgg313
 z171:=Tryz.sizeOf313
 v171:=Tryz.zeroValue313
 t173:=Tryz.underlying315
 a173:=Tryz.isAgg315
 z173:=Tryz.sizeOf315
 v173:=Tryz.zeroValue315
 t175:=Tryz.underlying296
 a175:=Tryz.isAgg296
 z175:=Tryz.sizeOf296
 v175:=Tryz.zeroValue296
 t210:=Tryz.underlying306
 a210:=Tryz.isAgg306
 z210:=Tryz.sizeOf306
 v210:=Tryz.zeroValue306
 t212:=Tryz.underlying318
 a212:=Tryz.isAgg318
 z212:=Tryz.sizeOf318
 v212:=Tryz.zeroValue318
 t213:=Tryz.underlying319
 a213:=Tryz.isAgg319
 z213:=Tryz.sizeOf319
 t232:=Tryz.underlying320
 a232:=Tryz.isAgg320
 z232:=Tryz.sizeOf320
 v232:=Tryz.zeroValue320
 t233:=Tryz.underlying321
 a233:=Tryz.isAgg321
 z233:=Tryz.sizeOf321
 v233:=Tryz.zeroValue321
 g15:=by kernel_rfl
 g16:=by kernel_rfl
 g17:=by kernel_rfl
 g18:=by kernel_rfl
 g19:=by kernel_rfl
 t80:=Tryz.underlying80
 a80:=Tryz.isAgg80
 z80:=Tryz.sizeOf80
 v80:=Tryz.zeroValue80
 i0:=by kernel_rfl
 i2:=by kernel_rfl
 i3:=by kernel_rfl
 i4:=by kernel_rfl
 i5:=by kernel_rfl
 i9:=by kernel_rfl
 i20:=by kernel_rfl
 i21:=by kernel_rfl
 i37:=by kernel_rfl
 i46:=by kernel_rfl
 i51:=by kernel_rfl
 i53:=by kernel_rfl
 i75:=by kernel_rfl
 i80:=by kernel_rfl
 i85:=by kernel_rfl
 i127:=by kernel_rfl
 i143:=by kernel_rfl
 i145:=by kernel_rfl
 i167:=by kernel_rfl
 i168:=by kernel_rfl
 i171:=by kernel_rfl
 i173:=by kernel_rfl
 i175:=by kernel_rfl
 i210:=by kernel_rfl
 i212:=by kernel_rfl
 i232:=by kernel_rfl
 i233:=by kernel_rfl
 m15:=by kernel_rfl
 m16:=by kernel_rfl
 m17:=by kernel_rfl
 m18:=by kernel_rfl
 m19:=by kernel_rfl
 c0:=by kernel_rfl
 c2:=by kernel_rfl
 c3:=by kernel_rfl
 c4:=by kernel_rfl
 c5:=by kernel_rfl
 c9:=by kernel_rfl
 c20:=by kernel_rfl
 c21:=by kernel_rfl
 c37:=by kernel_rfl
 c46:=by kernel_rfl
 c51:=by kernel_rfl
 c53:=by kernel_rfl
 c75:=by kernel_rfl
 c80:=by kernel_rfl
 c85:=by kernel_rfl
 c127:=by kernel_rfl
 c143:=by kernel_rfl
 c145:=by kernel_rfl
 c167:=by kernel_rfl
 c168:=by kernel_rfl
 c171:=by kernel_rfl
 c173:=by kernel_rfl
 c175:=by kernel_rfl
 c210:=by kernel_rfl
 c212:=by kernel_rfl
 c213:=by kernel_rfl
 c232:=by kernel_rfl
 c233:=by kernel_rfl }
open Go.RowKit in
theorem Tryz.strconv_ParseInt_10_at64_ok(s:ByteArray)(hmax:s.size<=9223372036854775806)(v:Int)(h:Lib.parseIntB 64 s.data.toList=.ok v)(w:World):
  Calls Tryz.prog 231 #[.string s,.int .i64 10,.int .i64 64] w fun e w'=>e=.returned (.tuple #[.int .i64 v,.nilIface])/\(w'=w\/∃ t,w'=Lib.bytesWorld w 5 t):=Any.strconv_ParseInt_10_at64_ok Tryz.laysC174 s hmax v h w
end Go.Proofs
set_option maxHeartbeats 4000000
set_option maxRecDepth 100000
set_option linter.unusedSimpArgs false
namespace Go.Proofs.YtenmhfknbopmeaaGreatDoor
open Go.Eng (IC IOper DReg IFn I5 E6)
open Go.Sym Go.Pb Go.RowKit
theorem E3a{ρ : Ren}{x:DV}{u:Value}{vs:Array Value}(hA:D4 ρ [x] vs)(h:∀ y,VRel ρ x y->y=u):vs = #[u]:=by
 obtain⟨y,h1,h2⟩:=hA.get (i:=0) rfl;have hs:vs.size=1:=hA.1.symm;obtain rfl:=h y h2;cases vs with|mk l=>match l,hs,h1 with
  |[a],_,h1=>simp at h1;subst h1;rfl
theorem E2z{ρ : Ren}{x x2:DV}{u u2:Value}{vs:Array Value}(hA:D4 ρ [x,x2] vs)(h:∀ y,VRel ρ x y->y=u)(h2:∀ y,VRel ρ x2 y->y=u2):vs = #[u,u2]:=by
 obtain⟨y,g1,g2⟩:=hA.get (i:=0) rfl;obtain⟨z,g3,g4⟩:=hA.get (i:=1) rfl;obtain rfl:=h y g2;obtain rfl:=h2 z g4;have hs:vs.size=2:=hA.1.symm;cases vs with|mk r=>match r,hs,g1,g3 with
  |[a,b],_,h1,h3=>simp at h1 h3;subst h1 h3;rfl
theorem E2y{ρ : Ren}{x x2 x3:DV}{u u2 u3:Value}{vs:Array Value}(hA:D4 ρ [x,x2,x3] vs)(h:∀ y,VRel ρ x y->y=u)(h2:∀ y,VRel ρ x2 y->y=u2)(h3:∀ y,VRel ρ x3 y->y=u3):vs = #[u,u2,u3]:=by
 obtain⟨y,g1,g2⟩:=hA.get (i:=0) rfl;obtain⟨z,g3,g4⟩:=hA.get (i:=1) rfl;obtain⟨q,g5,g6⟩:=hA.get (i:=2) rfl;obtain rfl:=h y g2;obtain rfl:=h2 z g4;obtain rfl:=h3 q g6;have hs:vs.size=3:=hA.1.symm;cases vs with|mk r=>match r,hs,g1,g3,g5 with
  |[a,b,c],_,h1,h3,h5=>simp at h1 h3 h5;subst h1 h3 h5;rfl
theorem c_IndexByte(s:List UInt8)(c:UInt8):PC Tryz.prog 232 [.str s,.int .u8 c.toNat] (I64 (Lib.indexByte s c)):=by
 refine PC.of_calls (by kernel_rfl) rfl rfl fun ρ w vs hf hA=>?_;rw[E2z hA (fun y h=>h.str_inv) (fun y h=>h.int_inv)];refine (Tryz.strings_IndexByte _ _ w).mono ?_;rintro e w' ⟨rfl,rfl⟩;refine⟨_,rfl,fun ρ'=>?_,Below.refl _ _⟩;have:((c.toNat:Int).toNat.toUInt8)=c:=by rw[A2M];exact UInt8.ofNat_toNat
 rw[this];exact .int _ _
theorem c_ParseOk(s:List UInt8)(hs:s.length<=281474976710656)(h:∀ c∈s,dgB c=true)(h0:s≠[])(hv:L7 s<=9223372036854775807):PC Tryz.prog 231 [.str s,I64 10,I64 64] (.tup [I64 (L7 s),.inil]):=by
 refine PC.of_calls (by kernel_rfl) rfl rfl fun ρ w vs hf hA=>?_;rw[E2y hA (fun y h=>h.str_inv) (fun y h=>h.int_inv) (fun y h=>h.int_inv)];refine (Tryz.strconv_ParseInt_10_at64_ok _ (by show s.toArray.size<=_;rw[A3L];omega) (L7 s:Int) (by have:=pib h h0;rw[if_pos hv]at this;exact this) w).mono ?_;rintro e w' ⟨rfl,hw⟩;refine⟨_,rfl,fun ρ'=>.tup _ _ rfl (fun i x y hx hy=>?_),?_⟩
 ·match i with
  |0=>simp at hx hy;subst hx hy;exact .int _ _
  |1=>simp at hx hy;subst hx hy;exact .inil
  |_+2=>simp at hx
 ·rcases hw with rfl|⟨t,rfl⟩
  ·exact Below.refl _ _
  ·exact⟨rfl,rfl,rfl,by rw[Lib.bytesWorld_size];omega,fun j hj=>Lib.bytesWorld_at_old _ _ _ _ hj⟩
def C0d:List UInt8:=w8 [115,119,105,116,99,104,32,99,111,105,108,32,108,97,109,112,32,115,111,117,110,100,32,115,104,111,119,32,118,97,114,32,116,105,109,101,114,32,101,118,101,110,116,32,109,111,100,101,32,111,110,32,115,116,97,114,116,32,115,116,111,112,32,99,108,111,115,101,32,111,112,101,110,32,105,102,32,101,108,115,101,32,114,101,112,101,97,116,32,115,99,111,114,101,32,102,105,114,101,32,104,111,108,100,32,114,101,108,101,97,115,101,32,108,105,103,104,116,32,98,108,105,110,107,32,98,101,103,105,110,32,101,110,100,32,112,111,115,116,32,112,108,97,121,32,114,117,110,32,104,97,108,116,32,116,101,120,116,32,99,111,110,115,117,109,101,32,99,108,111,115,101,100,32,97,99,116,105,118,101,32,108,101,102,116,32,112,108,97,121,101,114,32,98,97,108,108,32,116,114,117,101,32,102,97,108,115,101]
theorem D0f:Lib.fields C0d=C9:=by kernel_rfl
theorem D0g:C0d.all (fun b=>decide (b.toNat<128))=true:=by kernel_rfl
theorem c_Fields:PC Tryz.prog 178 [.str C0d] (.lst (C9.map DV.str)):=by
 refine PC.of_callsF (by kernel_rfl) rfl (L8 _) fun ρ w vs hf hA=>?_;rw[E3a hA (fun y h=>h.str_inv)];obtain⟨r,hr,rfl⟩ := ρ.tab _ (A0F _ A0I);obtain⟨e,fr,hb⟩:=hf _ _ hr;have ht : Lib.TabIs Tryz.prog w "strings.asciiSpace" .u8 Lib.asciiSpaceTab := by
  unfold Lib.TabIs World.var?;rw [show Tryz.prog.globalNamed "strings.asciiSpace" = some 0 by kernel_rfl]
  show (match w.heap[0]? with|some (.cells cs _ _)=>some cs|_=>none)=_;have hb':w.heap[0]? = _:=hb;rw[hb']
 refine (Tryz.strings_Fields _ w (by decide) ?_ ht).mono ?_
 ·intro j b hj;have:=A0Q.1 D0g b (A0O hj);simpa using this
 ·rintro e w' ⟨rfl,rfl⟩;have hl:Lib.fields (⟨C0d.toArray⟩:ByteArray).data.toList=C9:=D0f;rw[hl];refine⟨_,w.heap.size,_,9,_,rfl,A0C _,(by show (w.heap.push _)[w.heap.size]? = _;rw[Array.getElem?_push_size]),fun ρ' hρ => VRel.strs hρ rfl (A0C _) (by decide),Below.alloc (Below.refl _ _) (A0C _) _⟩
open Go.Eng (IC IOper DReg IFn I5)
open Go.Sym Go.Pb
theorem c_Fields':PC Tryz.prog 178 [.str [115,119,105,116,99,104,32,99,111,105,108,32,108,97,109,112,32,115,111,117,110,100,32,115,104,111,119,32,118,97,114,32,116,105,109,101,114,32,101,118,101,110,116,32,109,111,100,101,32,111,110,32,115,116,97,114,116,32,115,116,111,112,32,99,108,111,115,101,32,111,112,101,110,32,105,102,32,101,108,115,101,32,114,101,112,101,97,116,32,115,99,111,114,101,32,102,105,114,101,32,104,111,108,100,32,114,101,108,101,97,115,101,32,108,105,103,104,116,32,98,108,105,110,107,32,98,101,103,105,110,32,101,110,100,32,112,111,115,116,32,112,108,97,121,32,114,117,110,32,104,97,108,116,32,116,101,120,116,32,99,111,110,115,117,109,101,32,99,108,111,115,101,100,32,97,99,116,105,118,101,32,108,101,102,116,32,112,108,97,121,101,114,32,98,97,108,108,32,116,114,117,101,32,102,97,108,115,101]] (.lst (C9.map DV.str)):=c_Fields
theorem B8a:∀ k:Nat,k<38->(C9.take k).contains (C9.getD k [])=false:=by decide +kernel
theorem c_words:PC Tryz.prog 123 [] (.mp .s (C9.map DV.str) (C9.map fun _=>DV.bool true)):=by
 refine PC.ofT A2 rfl (A0A rfl) rfl (by simp only[DV.nl];rw[L8,I2 (fun _=>rfl)];rfl) ?_;have hf:=c_Fields';repeat' ((with_reducible first|apply wr|refine cpc hf ?_|fail)<;>try simp only[go_sem,seval])
 clear hf;refine B6 (fun k:Nat=>[(1,.mid 0),(5,.lst (C9.map DV.str)),(6,I64 C9.length),(7,I64 k)]) (fun k=>Sym.nil.upd 0 ⟨0,true,[.mpc .s ((C9.take k).map DV.str) ((C9.take k).map fun _=>DV.bool true)]⟩) (fun k _=>k<=C9.length) (fun k=>C9.length-k) 0 (by simp[B9,tm,Tm.upd]) (Sub.refl _) (by simp) ?_;rintro k c hk;have hlen:C9.length=38:=rfl;by_cases hlt:k<C9.length
 ·have hd:=dtz hlt;have hg:=A0B hlt;have hw:IntKind.i64.wrap ((k:Int)+1)=((k+1:Nat):Int):=by rw[w6z (by omega)];omega
  have hn:(C9.take k).contains C9[k]=false:=by
   have:=B8a k (by omega)
   rwa [A1E,hg,A3N]at this
  have hm:=A5g hn 0;have e1:C9.take (k+1)=C9.take k++[C9[k]]:=by rw[A1F,hg];rfl
  repeat' (apply wr<;>try simp only[go_sem,seval,hd,hg,hw,hm])
  refine⟨k+1,rfl,?_,inv hlt,by omega⟩;rw[e1,A1K,A1K];intro j b hj;by_cases e:j=0
  ·subst e;rw[h_same]at hj ⊢;exact hj
  ·rw[h_ne e]at hj;cases hj
 ·have hd:=dfz hlt;repeat' (apply wr<;>try simp only[go_sem,seval,hd])
  rw[A0U (by omega)];exact C2f h_same
abbrev resV:DV:=.mp .s (C9.map DV.str) (C9.map fun _=>DV.bool true)
theorem D3a(w:List UInt8):lkV (.bool false) false (C9.map fun _=>DV.bool true) (C3 (.str w) (C9.map DV.str) 0)=some (.bool (G9 w)):=by
 cases h:G9 w with
 |false=>rw[A5g h 0];rfl
 |true =>
  obtain⟨j,hj⟩:=B4a h 0;have hlt:=(A5h hj).2;rw[A0J]at hlt;rw[hj,C2z,A1P,A0B (by omega)];rfl
theorem c_IsWord(s:List UInt8):PC Tryz.prog 218 [.str s] (.bool (G9 s)):=by
 refine PC.go A2 ?_;have hw:=c_words;have hlk:=D3a s;repeat' ((with_reducible first|apply wr|refine cpc hw ?_|fail)<;>try simp only[go_sem,seval,hlk])
 exact A1 rfl
theorem c_IsName(s:List UInt8)(hs:s.length<=1000000000):PC Tryz.prog 160 [.str s] (.bool (F1 s)):=by
 refine PC.go A2 ?_;have hw:=c_IsWord s;have hsp:=c_spanPt s (by omega);cases s with
 |nil =>
  repeat' (apply wr<;>try simp only[go_sem,seval])
  exact A1 rfl
 |cons c r =>
  have hx:B9c (DV.str (c :: r)) (.int .i64 0)=some (.int .u8 (c.toNat:Int)):=rfl;have hlt:=c_letter c;have hd1:decide (((r.length+1:Nat):Int)≥1)=true:=by simp;omega
  repeat' ((with_reducible first|refine wr ?_|refine cpc hw ?_|refine cpc hsp ?_|refine cpc hlt ?_|refine wb2 ?_ ?_<;>(intro hb;try simp only[hb])|fail)<;>try simp only[go_sem,seval,hx,hd1])
  all_goals (refine A1 (congrArg DV.bool ?_);simp_all[F1]<;>omega)
theorem c_wordsR:PC Tryz.prog 174 [] (.lst (C9.map DV.str)):=by
 refine PC.ofT A2 rfl (A0A rfl) rfl (L8 _) ?_;repeat' (apply wr<;>try simp only[go_sem,seval])
 exact A2i (xs:=C9.map DV.str) (u:=1) h_same rfl rfl (Q8 _) ⟨[],rfl⟩
theorem c_signsR:PC Tryz.prog 137 [] (.lst (L4.map DV.str)):=by
 refine PC.ofT A2 rfl (A0A rfl) rfl (L8 _) ?_;repeat' (apply wr<;>try simp only[go_sem,seval])
 exact A2i (xs:=L4.map DV.str) (u:=1) h_same rfl rfl (Q8 _) ⟨[],rfl⟩
theorem c_IsWordR(s:List UInt8):PC Tryz.prog 120 [.str s] (.bool (G9 s)):=by
 refine PC.go A2 ?_;have hw:=c_wordsR;repeat' ((with_reducible first|apply wr|refine cpc hw ?_|fail)<;>try simp only[go_sem,seval])
 refine B6 (fun k:Nat=>[(0,.str s),(3,.lst (C9.map DV.str)),(4,I64 k)]) (fun _=>nil) (fun k _=>k<=C9.length/\(C9.take k).contains s=false) (fun k=>C9.length-k) 0 (by simp[B9,tm,Tm.upd]) (Sub.nil _) (by simp) ?_;rintro k c ⟨hk,he⟩;have hlen:C9.length=38:=rfl;by_cases hlt:k<C9.length
 ·have hd:=dtz hlt;have hg:=A0B hlt;have hw:IntKind.i64.wrap ((k:Int)+1)=((k+1:Nat):Int):=by rw[w6z (by omega)];omega
  repeat' ((with_reducible first|refine wr ?_|refine wb2 ?_ ?_<;>(intro hb;try simp only[hb])|fail)<;>try simp only[go_sem,seval,hd,hg,hw])
  ·refine A1 (congrArg DV.bool ?_);have:s=C9[k]:=(A1R.1 hb).symm;unfold G9;rw[List.contains_iff_mem.2 (by rw[this];exact A0S hlt)]
  ·refine⟨k+1,rfl,Sub.refl _,inv ⟨hlt,?_⟩,by omega⟩;rw[A1F,hg,List.contains_append,he];have:¬ s=C9[k]:=fun e=>by rw[e]at hb;simp at hb
   simpa using this
 ·have hd:=dfz hlt;repeat' (apply wr<;>try simp only[go_sem,seval,hd])
  refine A1 (congrArg DV.bool ?_);rw[A0U (by omega)]at he;exact he.symm
theorem c_skipR(s:List UInt8)(hs:s.length<=1000000000)(i:Nat)(hi:i<=s.length):PC Tryz.prog 84 [.str s,I64 i] (I64 ((i+skM false (s.drop i):Nat):Int)):=by
 refine PC.go A2 ?_;repeat' (apply wr<;>try simp only[go_sem,seval])
 refine B6 (fun k:Nat=>[(0,.str s),(1,I64 k)]) (fun _=>nil) (fun k _=>k<=s.length/\i+skM false (s.drop i)=k+skM false (s.drop k)) (fun k=>s.length-k) i (by simp[B9,tm,Tm.upd]) (Sub.nil _) ⟨hi,rfl⟩ ?_;rintro k c ⟨hk,he⟩;by_cases hlt:k<s.length
 ·have hd:=dtz hlt;have hg:=A0B hlt;have hw:=w64 (n:=(k:Int)+1);have hsep:W7 s[k]=true->∃ b,DV.int IntKind.i64 ((k:Int)+1)=I64 ((b:Nat):Int)/\Sym.Sub Sym.nil Sym.nil/\B5h (fun k _=>k<=s.length/\i+skM false (s.drop i)=k+skM false (s.drop k)) b c/\s.length-b<s.length-k :=
   fun h=>⟨k+1,rfl,Sub.refl _,inv ⟨by omega,by rw[he,D1c hg h];omega⟩,by omega⟩
  repeat' ((with_reducible first|refine wr ?_|refine wb2 ?_ ?_<;>(intro hb;try simp only[hb])|fail)<;>try simp only[go_sem,seval,hd,hg,hw])
  ·have h35:=B2s (b:=35) hb;have h1:=C6e hg h35;have h2:=D1e hg h35;refine B6 (fun j:Nat=>[(0,.str s),(1,I64 ((k+j:Nat):Int))]) (fun _=>nil) (fun j _=>k+j<=s.length/\j<=B0 (fun c=>decide (c.toNat≠10)) (s.drop k)) (fun j=>s.length-(k+j)) 0 (by simp[B9,tm,Tm.upd]) (Sub.nil _) (by simp;omega) ?_;rintro j c ⟨hkj,hej⟩;have hend:B0 (fun c=>decide (c.toNat≠10)) (s.drop k)=j->∃ b,I64 ((k+j:Nat):Int)=I64 ((b:Nat):Int)/\Sym.Sub Sym.nil Sym.nil/\B5h (fun k _=>k<=s.length/\i+skM false (s.drop i)=k+skM false (s.drop k)) b c/\s.length-b<s.length-k:=by
    intro e;rw[e]at h1 h2;exact⟨k+j,rfl,Sub.refl _,inv ⟨hkj,by rw[he,h2];omega⟩,by omega⟩
   by_cases hlt2:k+j<s.length
   ·have hd2:decide (((k+j:Nat):Int)<s.length)=true:=by simp;omega
    have hg2:=A0B hlt2;have hw2:IntKind.i64.wrap (((k+j:Nat):Int)+1)=((k+(j+1):Nat):Int):=by rw[w6z (by omega)];omega
    have hst:=A4t hg2 hej;repeat' ((with_reducible first|refine wr ?_|refine wb2 ?_ ?_<;>(intro hb;try simp only[hb])|fail)<;>try simp only[go_sem,seval,hd2,hg2,hw2])
    ·exact⟨j+1,rfl,Sub.refl _,inv ⟨hlt2,hst.1 (by simpa using D4v (b:=10) hb)⟩,by omega⟩
    ·exact hend (hst.2 (by simpa using D4w (b:=10) hb))
   ·have hd2:decide (((k+j:Nat):Int)<s.length)=false:=by simp;omega
    repeat' (apply wr<;>try simp only[go_sem,seval,hd2])
    exact hend (A2b (by omega) hej)
  ·exact hsep (by simp[W7,B2s (b:=9) hb])
  ·exact hsep (by simp[W7,B2s (b:=10) hb])
  ·exact hsep (by simp[W7,B2s (b:=13) hb])
  ·exact hsep (by simp[W7,B2s (b:=32) hb])
  ·refine A1 ?_;have h9:=A3r (a:=s[k].toNat) (b:=9) (by assumption);have h10:=A3r (a:=s[k].toNat) (b:=10) (by assumption);have h13:=A3r (a:=s[k].toNat) (b:=13) (by assumption);have h32:=A3r (a:=s[k].toNat) (b:=32) (by assumption);have h35:=A3r (a:=s[k].toNat) (b:=35) (by assumption);rw[he,C6d hg (by simp[W7,h9,h10,h13,h32]) h35];simp
 ·have hd:=dfz hlt;repeat' (apply wr<;>try simp only[go_sem,seval,hd])
  refine A1 ?_;rw[he,D1d (by omega)];simp
theorem c_wordR(s:List UInt8)(hs:s.length<=1000000000)(i:Nat)(hi:i<s.length)(hl:ltB s[i]=true):PC Tryz.prog 133 [.str s,I64 i] (nxR (A3 (s.drop i)) i):=by
 have hM:A3 (s.drop i)=if 12<B0 ptB (s.drop i) then nxE 9 else ⟨if G9 ((s.drop i).take (B0 ptB (s.drop i)))=true then 2 else 1,(s.drop i).take (B0 ptB (s.drop i)),0,B0 ptB (s.drop i),0⟩:=by
  rw[J3 (A0B hi),A3,if_pos hl]
 rw[hM];have hle:=W5 ptB (s.drop i);rw[A2A]at hle;refine PC.ofT A2 rfl (A0A rfl) rfl (B3v _ _) ?_;repeat' (apply wr<;>try simp only[go_sem,seval])
 refine B6 (fun j:Nat=>[(0,.str s),(1,I64 i),(4,.ptr 0 0),(7,I64 ((i+j:Nat):Int))]) (fun _=>Sym.nil.upd 0 ⟨0,true,[I64 0,.str [],I64 0,I64 0]⟩) (fun j cc=>1<=cc/\i+j<=s.length/\j<=B0 ptB (s.drop i)) (fun j=>s.length-(i+j)) 0 (by simp[B9,tm,Tm.upd]) (Sub.refl _) (by simp;omega) ?_;rintro j c ⟨h1c,hk,he⟩;have hw2:IntKind.i64.wrap (((i+j:Nat):Int)-i)=(j:Int):=by rw[w6z (by omega)];omega
 have hsx:=B0i hk;have hiw:=c_IsWordR ((s.drop i).take j);have hR9:B0 ptB (s.drop i)=j->12<j->O2 9 i=nxR (if 12<B0 ptB (s.drop i) then nxE 9 else ⟨if G9 ((s.drop i).take (B0 ptB (s.drop i)))=true then 2 else 1,(s.drop i).take (B0 ptB (s.drop i)),0,B0 ptB (s.drop i),0⟩) i:=by
  intro e h;rw[e,if_pos h,A4d (by decide)]
 have hRw:B0 ptB (s.drop i)=j->¬ 12<j->G9 ((s.drop i).take j)=true->okN 2 ((s.drop i).take j) 0 i j=nxR (if 12<B0 ptB (s.drop i) then nxE 9 else ⟨if G9 ((s.drop i).take (B0 ptB (s.drop i)))=true then 2 else 1,(s.drop i).take (B0 ptB (s.drop i)),0,B0 ptB (s.drop i),0⟩) i:=by
  intro e h h2;rw[e,if_neg h,A4z,if_pos h2]
 have hRn:B0 ptB (s.drop i)=j->¬ 12<j->G9 ((s.drop i).take j)=false->okN 1 ((s.drop i).take j) 0 i j=nxR (if 12<B0 ptB (s.drop i) then nxE 9 else ⟨if G9 ((s.drop i).take (B0 ptB (s.drop i)))=true then 2 else 1,(s.drop i).take (B0 ptB (s.drop i)),0,B0 ptB (s.drop i),0⟩) i:=by
  intro e h h2;rw[e,if_neg h,A4z,if_neg (by rw[h2];simp)]
 by_cases hlt:i+j<s.length
 ·have hd:decide (((i+j:Nat):Int)<s.length)=true:=by simp;omega
  have hg:=A0B hlt;have hw:IntKind.i64.wrap (((i+j:Nat):Int)+1)=((i+(j+1):Nat):Int):=by rw[w6z (by omega)];omega
  have h1:=c_letterR s[i+j];have h2:=c_digitR s[i+j];have hst:=A4t hg he;have hlp:ptB s[i+j]=true->∃ b,DV.int IntKind.i64 ((i+(j+1):Nat):Int)=I64 ((i+b:Nat):Int)/\Sym.Sub (Sym.nil.upd 0 ⟨0,true,[I64 0,.str [],I64 0,I64 0]⟩) (Sym.nil.upd 0 ⟨0,true,[I64 0,.str [],I64 0,I64 0]⟩) /\
    B5h (fun j cc=>1<=cc/\i+j<=s.length/\j<=B0 ptB (s.drop i)) b c/\s.length-(i+b)<s.length-(i+j) :=
   fun h=>⟨j+1,rfl,Sub.refl _,inv ⟨h1c,hlt,hst.1 h⟩,by omega⟩
  have ne0:=X4 c 0 (by omega);repeat' ((with_reducible first|refine wr ?_|refine cpc h1 ?_|refine cpc h2 ?_|refine cpc hiw ?_|refine wb2 ?_ ?_<;>(intro hb;try simp only[hb])|fail)<;>try simp only[go_sem,seval,hd,hg,hw,hw2,hsx,ne0])
  ·exact hlp (by simp[ptB,hb])
  ·exact hlp (by simp[ptB,hb])
  ·exact hlp (by simp[ptB,B2s (b:=95) hb])
  ·have hj:=hst.2 (by simp only[ptB];rw[‹ltB s[i+j]=false›, ‹dgB s[i+j]=false›];simpa using A3r (a:=s[i+j].toNat) (b:=95) (by assumption));rw[C7 (v:=O2 9 i) rfl];exact A1 (hR9 hj (B9d hb))
  ·have hj:=hst.2 (by simp only[ptB];rw[‹ltB s[i+j]=false›, ‹dgB s[i+j]=false›];simpa using A3r (a:=s[i+j].toNat) (b:=95) (by assumption));rw[C7 (v:=okN 2 ((s.drop i).take j) 0 i j) rfl];exact A1 (hRw hj (A6r (a:=j) (b:=12) (by assumption)) hb)
  ·have hj:=hst.2 (by simp only[ptB];rw[‹ltB s[i+j]=false›, ‹dgB s[i+j]=false›];simpa using A3r (a:=s[i+j].toNat) (b:=95) (by assumption));rw[C7 (v:=okN 1 ((s.drop i).take j) 0 i j) rfl];exact A1 (hRn hj (A6r (a:=j) (b:=12) (by assumption)) hb)
 ·have hd:decide (((i+j:Nat):Int)<s.length)=false:=by simp;omega
  have hj:=A2b (p:=ptB) (s:=s) (by omega) he;have ne0:=X4 c 0 (by omega);repeat' ((with_reducible first|refine wr ?_|refine cpc hiw ?_|refine wb2 ?_ ?_<;>(intro hb;try simp only[hb])|fail)<;>try simp only[go_sem,seval,hd,hw2,hsx,ne0])
  ·rw[C7 (v:=O2 9 i) rfl];exact A1 (hR9 hj (B9d hb))
  ·rw[C7 (v:=okN 2 ((s.drop i).take j) 0 i j) rfl];exact A1 (hRw hj (A6r (a:=j) (b:=12) (by assumption)) hb)
  ·rw[C7 (v:=okN 1 ((s.drop i).take j) 0 i j) rfl];exact A1 (hRn hj (A6r (a:=j) (b:=12) (by assumption)) hb)
theorem c_numberR(s:List UInt8)(hs:s.length<=1000000000)(i:Nat)(hi:i<s.length)(hl:ltB s[i]=false)(hg0:dgB s[i]=true):PC Tryz.prog 135 [.str s,I64 i] (nxR (A3 (s.drop i)) i):=by
 have hM:A3 (s.drop i)=if 1<B0 dgB (s.drop i)/\s[i].toNat=48 then nxE 47
   else if 2147483647<L7 ((s.drop i).take (B0 dgB (s.drop i))) then nxE 5
   else ⟨3,[],(L7 ((s.drop i).take (B0 dgB (s.drop i))):Int),B0 dgB (s.drop i),0⟩:=by
  have hdr:=J3 (A0B hi);have:∀ r,s.drop i=s[i] :: r->A3 (s.drop i)=if 1<B0 dgB (s.drop i)/\s[i].toNat=48 then nxE 47
   else if 2147483647<L7 ((s.drop i).take (B0 dgB (s.drop i))) then nxE 5
   else ⟨3,[],(L7 ((s.drop i).take (B0 dgB (s.drop i))):Int),B0 dgB (s.drop i),0⟩:=by
   intro r e;rw[e,A3,if_neg (by rw[hl];simp),if_pos hg0]
  exact this _ hdr
 have hle:=W5 dgB (s.drop i);rw[A2A]at hle;obtain⟨D,hD⟩:∃ D,D=s.drop i:=⟨_,rfl⟩;refine PC.ofT A2 rfl (A0A rfl) rfl (B3v _ _) ?_;repeat' (apply wr<;>try simp only[go_sem,seval])
 refine B6 (fun j:Nat=>[(0,.str s),(1,I64 i),(4,.ptr 0 0),(7,I64 ((i+j:Nat):Int)),(8,I64 (smV (D.take j))),(9,.bool (A9p (D.take j)))]) (fun _=>Sym.nil.upd 0 ⟨0,true,[I64 0,.str [],I64 0,I64 0]⟩) (fun j _=>i+j<=s.length/\j<=B0 dgB (s.drop i)) (fun j=>s.length-(i+j)) 0 (by simp[B9,tm,Tm.upd,smV,A9p,L7]) (Sub.refl _) (by simp;omega) ?_;rintro j c ⟨hk,he⟩;have hw2:IntKind.i64.wrap (((i+j:Nat):Int)-i)=(j:Int):=by rw[w6z (by omega)];omega
 have hgi:=A0B hi;have hRz:B0 dgB (s.drop i)=j->1<j->s[i].toNat=48->O2 47 i=nxR (A3 (s.drop i)) i:=by
  intro e h h2;rw[hM,e,if_pos ⟨h,h2⟩,A4d (by decide)]
 have hRb:B0 dgB (s.drop i)=j->¬ (1<j/\s[i].toNat=48)->A9p (D.take j)=true->O2 5 i=nxR (A3 (s.drop i)) i:=by
  intro e h h2;rw[hM,e,if_neg h, <- hD,if_pos (of_decide_eq_true h2),A4d (by decide)]
 have hRk:B0 dgB (s.drop i)=j->¬ (1<j/\s[i].toNat=48)->A9p (D.take j)=false->okN 3 [] (smV (D.take j)) i j=nxR (A3 (s.drop i)) i:=by
  intro e h h2;have h3:=of_decide_eq_false h2;rw[hM,e,if_neg h, <- hD,if_neg h3,A4z,C1d h3]
 by_cases hlt:i+j<s.length
 ·have hd:decide (((i+j:Nat):Int)<s.length)=true:=by simp;omega
  have hg:=A0B hlt;have hw:IntKind.i64.wrap (((i+j:Nat):Int)+1)=((i+(j+1):Nat):Int):=by rw[w6z (by omega)];omega
  have h2:=c_digitR s[i+j];have hst:=A4t hg he;by_cases hdg:dgB s[i+j]=true
  ·rw[hdg]at h2;have hgD:D[j]? = some s[i+j]:=by rw[hD,A1U];exact hg
   have hn:=B8p hgD;have hdd:48<=s[i+j].toNat/\s[i+j].toNat<=57:=by simpa[dgB] using hdg
   obtain⟨z,hz⟩:∃ z:Nat,z=s[i+j].toNat-48:=⟨_,rfl⟩;rw[<- hz]at hn;have w1:IntKind.i64.wrap (10 * (smV (D.take j):Int))=((10 * smV (D.take j):Nat):Int):=by have:=C1c (D.take j);rw[w6z (by omega)];omega
   have w2:IntKind.u8.wrap ((s[i+j].toNat:Int)-48)=(z:Int):=by rw[wu8 (by omega) (by omega)];omega
   have w3:IntKind.i64.wrap (z:Int)=(z:Int):=w6z (by omega);have w4:IntKind.i64.wrap (((10 * smV (D.take j):Nat):Int)+z)=((10 * smV (D.take j)+z:Nat):Int):=by have:=C1c (D.take j);rw[w6z (by omega)];omega
   by_cases hbg:2147483647<L7 (D.take j)
   ·have hb1:A9p (D.take j)=true:=decide_eq_true hbg;have e1:A9p (D.take (j+1))=true:=decide_eq_true (by omega);have e2:smV (D.take (j+1))=0:=C9f (by omega);rw[hb1];repeat' ((with_reducible first|apply wr|refine cpc h2 ?_|fail)<;>try simp only[go_sem,seval,hd,hg,hw,w1,w2,w3,w4])
    exact⟨j+1,⟨rfl,by rw[e2];rfl,by rw[e1]⟩,Sub.refl _,inv ⟨hlt,hst.1 hdg⟩,by omega⟩
   ·have hb1:A9p (D.take j)=false:=decide_eq_false hbg;have hs1:=C1d hbg;rw[hb1];by_cases hbn:2147483647<L7 (D.take (j+1))
    ·have e1:A9p (D.take (j+1))=true:=decide_eq_true hbn;have e2:smV (D.take (j+1))=0:=C9f hbn;have hd5:decide (((10 * smV (D.take j)+z:Nat):Int)>2147483647)=true:=by simp only[A0G];omega
     repeat' ((with_reducible first|apply wr|refine cpc h2 ?_|fail)<;>try simp only[go_sem,seval,hd,hg,hw,w1,w2,w3,w4,hd5])
     exact⟨j+1,⟨rfl,by rw[e2];rfl,by rw[e1]⟩,Sub.refl _,inv ⟨hlt,hst.1 hdg⟩,by omega⟩
    ·have e1:A9p (D.take (j+1))=false:=decide_eq_false hbn;have e2:smV (D.take (j+1))=10 * smV (D.take j)+z:=by rw[C1d hbn,hn,hs1]
     have hd5:decide (((10 * smV (D.take j)+z:Nat):Int)>2147483647)=false:=by simp only[A1O];omega
     repeat' ((with_reducible first|apply wr|refine cpc h2 ?_|fail)<;>try simp only[go_sem,seval,hd,hg,hw,w1,w2,w3,w4,hd5])
     exact⟨j+1,⟨rfl,by rw[e2],by rw[e1]⟩,Sub.refl _,inv ⟨hlt,hst.1 hdg⟩,by omega⟩
  ·have hdg0:dgB s[i+j]=false:=by simpa using hdg
   rw[hdg0]at h2;have hj:=hst.2 hdg0;repeat' ((with_reducible first|refine wr ?_|refine cpc h2 ?_|refine wb2 ?_ ?_<;>(intro hb;try simp only[hb])|fail)<;>try simp only[go_sem,seval,hd,hg,hw2,hgi])
   ·rw[C7 (v:=O2 47 i) rfl];exact A1 (hRz hj (B9d hb) (B2s (b:=48) (by assumption)))
   ·rw[C7 (v:=O2 5 i) rfl];exact A1 (hRb hj (fun h=>A6r (a:=j) (b:=1) (by assumption) h.1) hb)
   ·rw[C7 (v:=okN 3 [] (smV (D.take j)) i j) rfl];exact A1 (hRk hj (fun h=>A6r (a:=j) (b:=1) (by assumption) h.1) hb)
   ·rw[C7 (v:=O2 5 i) rfl];exact A1 (hRb hj (fun h=>A3r (b:=48) (by assumption) h.2) hb)
   ·rw[C7 (v:=okN 3 [] (smV (D.take j)) i j) rfl];exact A1 (hRk hj (fun h=>A3r (b:=48) (by assumption) h.2) hb)
 ·have hd:decide (((i+j:Nat):Int)<s.length)=false:=by simp;omega
  have hj:=A2b (p:=dgB) (s:=s) (by omega) he;repeat' ((with_reducible first|refine wr ?_|refine wb2 ?_ ?_<;>(intro hb;try simp only[hb])|fail)<;>try simp only[go_sem,seval,hd,hw2,hgi])
  ·rw[C7 (v:=O2 47 i) rfl];exact A1 (hRz hj (B9d hb) (B2s (b:=48) (by assumption)))
  ·rw[C7 (v:=O2 5 i) rfl];exact A1 (hRb hj (fun h=>A6r (a:=j) (b:=1) (by assumption) h.1) hb)
  ·rw[C7 (v:=okN 3 [] (smV (D.take j)) i j) rfl];exact A1 (hRk hj (fun h=>A6r (a:=j) (b:=1) (by assumption) h.1) hb)
  ·rw[C7 (v:=O2 5 i) rfl];exact A1 (hRb hj (fun h=>A3r (b:=48) (by assumption) h.2) hb)
  ·rw[C7 (v:=okN 3 [] (smV (D.take j)) i j) rfl];exact A1 (hRk hj (fun h=>A3r (b:=48) (by assumption) h.2) hb)
theorem c_quotedR(s:List UInt8)(hs:s.length<=100000)(i:Nat)(hi:i<s.length):PC Tryz.prog 136 [.str s,I64 i] (quR i (quA [] (i+1) (quM (s.drop (i+1))))):=by
 refine PC.ofT A2 rfl (A0A rfl) rfl (D2b _ _) ?_;have hw0:IntKind.i64.wrap ((i:Int)+1)=((i+1:Nat):Int):=by rw[w6z (by omega)];omega
 repeat' (apply wr<;>try simp only[go_sem,seval,hw0])
 refine B6 (fun q:Nat × Option Nat × List UInt8=>[(0,.str s),(1,I64 i),(4,.ptr 0 0),(7,todoV q.2.1 q.2.2.length),(8,I64 q.1)]) (fun q=>optH (Sym.nil.upd 0 C5a) q.2.1 ⟨1,true,bytesC q.2.2⟩)
  (fun q c=>1<=c/\i+1<=q.1/\q.2.2.length<=q.1/\q.1<=s.length+1/\(q.2.1=none->q.2.2=[])/\(∀ i,q.2.1=some i->1<=i/\i<c)/\quA [] (i+1) (quM (s.drop (i+1)))=quA q.2.2 q.1 (quM (s.drop q.1))) (fun q=>s.length+1-q.1) (i+1,none,[])
  (by simp[B9,tm,Tm.upd,todoV]) (Sub.refl _) ⟨by simp,by simp,by simp,by simp only;omega,fun _=>rfl,(fun i hi=>by cases hi),rfl⟩ ?_
 rintro⟨k,o,acc⟩ c ⟨h1c,h1,hal,hk,hno,ho,he⟩;simp only at h1 hal hk hno ho he;simp only;rw[he];have hH0:optH (Sym.nil.upd 0 C5a) o ⟨1,true,bytesC acc⟩ 0=some ⟨0,true,[I64 0,.str [],I64 0,I64 0]⟩:=by rw[B1 (fun i hi=>by have:=ho i hi;omega),h_same];rfl
 have hlt0:=Q7 (o:=o) (n:=acc.length) (fun e=>by rw[hno e];rfl);by_cases hlt:k<s.length
 ·have hd:=dtz hlt;have hg:=A0B hlt;have hw:IntKind.i64.wrap ((k:Int)+1)=((k+1:Nat):Int):=by rw[w6z (by omega)];omega
  have hw2:IntKind.i64.wrap (((k+1:Nat):Int)+1)=((k+2:Nat):Int):=by rw[w6z (by omega)];omega
  have hcv:=C1t (H:=optH (Sym.nil.upd 0 C5a) o ⟨1,true,bytesC acc⟩) (u:=1) hno (fun i hi=>by subst hi;exact h_same);have hc0:∀ n:Nat,((s[k].toNat:Int) == (n:Int))=true->s[k].toNat=n:=fun n h=>by have:=A1R.1 h;omega
  have hc1:∀ n:Nat,((s[k].toNat:Int) == (n:Int))=false->s[k].toNat≠n:=fun n h h2=>by rw[h2]at h;simp at h
  by_cases hlt2:k+1<s.length
  ·have hd2:decide (((k+1:Nat):Int)≥s.length)=false:=by simp;omega
   have hg2:=A0B hlt2;have hc2:∀ n:Nat,((s[k+1].toNat:Int) == (n:Int))=true->s[k+1].toNat=n:=fun n h=>by have:=A1R.1 h;omega
   have hc3:∀ n:Nat,((s[k+1].toNat:Int) == (n:Int))=false->s[k+1].toNat≠n:=fun n h h2=>by rw[h2]at h;simp at h
   have ne0:=U6 c (c+1) 0 (by omega);have hap:=B0u (X:=Sym.nil.upd 0 C5a) hno (fun i hi=>(ho i hi).2) (by omega);repeat' ((with_reducible first|refine wr ?_|refine wb2 ?_ ?_<;>(intro hb;try simp only[hb])|fail)<;>try simp only[go_sem,seval,hd,hg,hw,hcv,hlt0,hd2,hg2,hw2,hap,hH0])
   ·rw[C7 (v:=O2 9 i) rfl];refine A1 ?_;rw[A1k hg (hc0 34 (by assumption)),quR,if_pos (B9d hb)]
   ·rw[C7 (v:=.tup [.agg [I64 4,.str acc,I64 0,I64 i],I64 ((k+1:Nat):Int),I64 0]) rfl];refine A1 ?_;rw[A1k hg (hc0 34 (by assumption)),quR,if_neg (A6r hb)]
   ·rw[C7 (v:=O2 48 i) rfl];refine A1 ?_;rw[A8j hg (hc1 34 (by assumption)) (.inl (by have:=of_decide_eq_true hb;omega))];rfl
   ·rw[C7 (v:=O2 48 i) rfl];refine A1 ?_;rw[A8j hg (hc1 34 (by assumption)) (.inr (by have:=of_decide_eq_true hb;omega))];rfl
   ·rw[C7 (v:=O2 48 i) rfl];refine A1 ?_;rw[B6a hg (hc0 92 (by assumption)) (fun d hd=>by
     rw[hg2]at hd;cases hd;exact⟨D4v (b:=34) (by assumption),D4v (b:=92) hb⟩)];rfl
   ·have hq:=C1w (acc:=acc) hg (hc0 92 (by assumption)) hg2 (.inr (D4w (b:=92) hb));exact⟨(k+2,some (c+1),acc++[s[k+1]]),⟨by simp only[A0D,A0K];rfl,rfl⟩,A3z (fun j q=>A3x h1c) (fun i hi=>A3w (by have:=ho i hi;omega)) rfl,inv ⟨by omega,by simp only;omega,by simp;omega,by simp only;omega,(fun h=>by cases h),(fun i hi=>by cases hi;omega),hq⟩,by simp only;omega⟩
   ·have hq:=C1w (acc:=acc) hg (hc0 92 (by assumption)) hg2 (.inl (D4w (b:=34) hb));exact⟨(k+2,some (c+1),acc++[s[k+1]]),⟨by simp only[A0D,A0K];rfl,rfl⟩,A3z (fun j q=>A3x h1c) (fun i hi=>A3w (by have:=ho i hi;omega)) rfl,inv ⟨by omega,by simp only;omega,by simp;omega,by simp only;omega,(fun h=>by cases h),(fun i hi=>by cases hi;omega),hq⟩,by simp only;omega⟩
   ·have hq:=B6b (acc:=acc) hg (hc1 34 (by assumption)) (by have:=of_decide_eq_false (by assumption:decide (((s[k].toNat:Int))<32)=false);omega) (by have:=of_decide_eq_false (by assumption:decide (((s[k].toNat:Int))>126)=false);omega) (hc1 92 (by assumption));exact⟨(k+1,some (c+1),acc++[s[k]]),⟨by simp only[A0D,A0K];rfl,rfl⟩,A3z (fun j q=>A3x h1c) (fun i hi=>A3w (by have:=ho i hi;omega)) rfl,inv ⟨by omega,by simp only;omega,by simp;omega,by simp only;omega,(fun h=>by cases h),(fun i hi=>by cases hi;omega),hq⟩,by simp only;omega⟩
  ·have hd2:decide (((k+1:Nat):Int)≥s.length)=true:=by simp;omega
   have ne0:=U6 c (c+1) 0 (by omega);have hap:=B0u (X:=Sym.nil.upd 0 C5a) hno (fun i hi=>(ho i hi).2) (by omega);repeat' ((with_reducible first|refine wr ?_|refine wb2 ?_ ?_<;>(intro hb;try simp only[hb])|fail)<;>try simp only[go_sem,seval,hd,hg,hw,hcv,hlt0,hd2,hap,hH0])
   ·rw[C7 (v:=O2 9 i) rfl];refine A1 ?_;rw[A1k hg (hc0 34 (by assumption)),quR,if_pos (B9d hb)]
   ·rw[C7 (v:=.tup [.agg [I64 4,.str acc,I64 0,I64 i],I64 ((k+1:Nat):Int),I64 0]) rfl];refine A1 ?_;rw[A1k hg (hc0 34 (by assumption)),quR,if_neg (A6r hb)]
   ·rw[C7 (v:=O2 48 i) rfl];refine A1 ?_;rw[A8j hg (hc1 34 (by assumption)) (.inl (by have:=of_decide_eq_true hb;omega))];rfl
   ·rw[C7 (v:=O2 48 i) rfl];refine A1 ?_;rw[A8j hg (hc1 34 (by assumption)) (.inr (by have:=of_decide_eq_true hb;omega))];rfl
   ·rw[C7 (v:=O2 48 i) rfl];refine A1 ?_;rw[B6a hg (hc0 92 (by assumption)) (fun d hd=>by rw[A2J (by omega)]at hd;cases hd)];rfl
   ·have hq:=B6b (acc:=acc) hg (hc1 34 (by assumption)) (by have:=of_decide_eq_false (by assumption:decide (((s[k].toNat:Int))<32)=false);omega) (by have:=of_decide_eq_false (by assumption:decide (((s[k].toNat:Int))>126)=false);omega) (hc1 92 (by assumption));exact⟨(k+1,some (c+1),acc++[s[k]]),⟨by simp only[A0D,A0K];rfl,rfl⟩,A3z (fun j q=>A3x h1c) (fun i hi=>A3w (by have:=ho i hi;omega)) rfl,inv ⟨by omega,by simp only;omega,by simp;omega,by simp only;omega,(fun h=>by cases h),(fun i hi=>by cases hi;omega),hq⟩,by simp only;omega⟩
 ·have hd:=dfz hlt;have ne0:=X4 c 0 (by omega);repeat' (apply wr<;>try simp only[go_sem,seval,hd,hH0])
  rw[C7 (v:=O2 48 i) rfl];refine A1 ?_;rw[D2a (by omega)];rfl
theorem c_oneR(s:List UInt8)(hs:s.length<=100000)(i:Nat)(hi:i<s.length):PC Tryz.prog 85 [.str s,I64 i] (nxR (A3 (s.drop i)) i):=by
 refine PC.ofT A2 rfl (A0A rfl) rfl (B3v _ _) ?_;have hg:=A0B hi;have hlt:=c_letterR s[i];have hdg:=c_digitR s[i];obtain⟨k,t,v,p,n,e,hsh⟩:=B8o (A3 (s.drop i)) i;by_cases hl:ltB s[i]=true
 ·have hw:=c_wordR s (by omega) i hi hl;rw[hsh]at hw ⊢;repeat' ((with_reducible first|apply wr|refine cpc hlt ?_|refine cpc hw ?_|fail)<;>try simp only[go_sem,seval,hl,hg])
  rw[C7 (v:=.tup [.agg [I64 k,.str t,I64 v,I64 p],I64 n,I64 e]) rfl];exact A1 rfl
 have hl0:ltB s[i]=false:=by simpa using hl
 by_cases hd:dgB s[i]=true
 ·have hw:=c_numberR s (by omega) i hi hl0 hd;rw[hsh]at hw ⊢;repeat' ((with_reducible first|apply wr|refine cpc hlt ?_|refine cpc hdg ?_|refine cpc hw ?_|fail)<;>try simp only[go_sem,seval,hl0,hd,hg])
  rw[C7 (v:=.tup [.agg [I64 k,.str t,I64 v,I64 p],I64 n,I64 e]) rfl];exact A1 rfl
 have hd0:dgB s[i]=false:=by simpa using hd
 by_cases hq:s[i].toNat=34
 ·have hw:=c_quotedR s hs i hi;rw[C1x hg hl0 hd0 hq,hsh]at hw;rw[hsh];have hb34:((s[i].toNat:Int) == 34)=true:=by rw[hq];rfl
  repeat' ((with_reducible first|apply wr|refine cpc hlt ?_|refine cpc hdg ?_|refine cpc hw ?_|fail)<;>try simp only[go_sem,seval,hl0,hd0,hg,hb34])
  rw[C7 (v:=.tup [.agg [I64 k,.str t,I64 v,I64 p],I64 n,I64 e]) rfl];exact A1 rfl
 clear hsh;have hb34:((s[i].toNat:Int) == 34)=false:=by simpa using (fun h=>hq (by omega))
 have hM:A3 (s.drop i)=if D0 (s.drop i)=0 then nxE 47 else ⟨5,(s.drop i).take (D0 (s.drop i)),0,D0 (s.drop i),0⟩:=by
  have hdr:=J3 hg;have:∀ r,s.drop i=s[i] :: r->A3 (s.drop i)=if D0 (s.drop i)=0 then nxE 47 else ⟨5,(s.drop i).take (D0 (s.drop i)),0,D0 (s.drop i),0⟩:=by
   intro r e;rw[e,A3,if_neg hl,if_neg hd,if_neg hq]
  exact this _ hdr
 rw[hM];have hsg:=c_signsR;repeat' ((with_reducible first|apply wr|refine cpc hlt ?_|refine cpc hdg ?_|refine cpc hsg ?_|fail)<;>try simp only[go_sem,seval,hl0,hd0,hg,hb34])
 have hlen:L4.length=21:=rfl;refine B6 (fun k:Nat=>[(0,.str s),(1,I64 i),(4,.ptr 0 0),(8,.lst (L4.map DV.str)),(9,I64 k)]) (fun _=>Sym.nil.upd 0 ⟨0,true,[I64 0,.str [],I64 0,I64 0]⟩) (fun k _=>k<=L4.length/\∀ j,j<k->A2h (L4.getD j []) (s.drop i)=false) (fun k=>L4.length-k) 0 (by simp[B9,tm,Tm.upd]) (Sub.refl _) (by simp) ?_;rintro k c ⟨hk,he⟩;by_cases hkl:k<L4.length
 ·have hd:decide ((k:Int)<L4.length)=true:=by simpa using hkl
  have hgk:=A0B hkl;have hget:L4.getD k []=L4[k]:=by rw[A1E,hgk];rfl
  have hw:IntKind.i64.wrap ((k:Int)+1)=((k+1:Nat):Int):=by rw[w6z (by omega)];omega
  obtain⟨L,hL⟩:∃ L,L=L4[k]:=⟨_,rfl⟩;rw[<- hL]at hgk hget;have hLl:1<=L.length/\L.length<=2:=by
   have:∀ x∈L4,1<=x.length/\x.length<=2:=by decide
   rw[hL];exact this _ (A0S hkl)
  have hw1:IntKind.i64.wrap ((s.length:Int)-i)=((s.length-i:Nat):Int):=by rw[w6z (by omega)];omega
  have hw2:IntKind.i64.wrap ((i:Int)+L.length)=((i+L.length:Nat):Int):=by rw[w6z (by omega)];omega
  have hnext:A2h L (s.drop i)=false->B5h (fun k _=>k<=L4.length/\∀ j,j<k->A2h (L4.getD j []) (s.drop i)=false) (k+1) c:=fun h=>inv ⟨hkl,fun j hj=>by
   by_cases e:j=k
   ·rw[e,hget];exact h
   ·exact he j (by omega)⟩
  by_cases hln:L.length<=s.length-i
  ·have hd2:decide (((s.length-i:Nat):Int)≥L.length)=true:=by simp only[A0G];omega
   have hsx:=B0i (s:=s) (i:=i) (n:=L.length) (by omega);have hpr:A2h L (s.drop i)=((s.drop i).take L.length == L):=by
    unfold A2h;rw[decide_eq_true (by rw[A2A];exact hln),A2W]
   repeat' ((with_reducible first|refine wr ?_|refine wb2 ?_ ?_<;>(intro hb;try simp only[hb])|fail)<;>try simp only[go_sem,seval,hd,hgk,hw,hw1,hw2,hd2,hsx])
   ·have hp:=hpr.trans hb;have:=B8f (s:=s.drop i) (k:=k) (by omega) he (by rw[hget];exact hp);rw[hget]at this;rw[C7 (v:=okN 5 L 0 i L.length) rfl];refine A1 ?_;rw[this.1,if_neg (by omega),A4z, <- this.2]
   ·exact⟨k+1,rfl,Sub.refl _,hnext (hpr.trans hb),by omega⟩
  ·have hd2:decide (((s.length-i:Nat):Int)≥L.length)=false:=by simp only[A1O];omega
   repeat' (apply wr<;>try simp only[go_sem,seval,hd,hgk,hw,hw1,hd2])
   exact⟨k+1,rfl,Sub.refl _,hnext (by unfold A2h;rw[decide_eq_false (by rw[A2A];exact hln),Bool.false_and]),by omega⟩
 ·have hd:decide ((k:Int)<L4.length)=false:=by simpa using hkl
  repeat' (apply wr<;>try simp only[go_sem,seval,hd])
  rw[C7 (v:=O2 47 i) rfl];refine A1 ?_;rw[if_pos (C1f fun j hj=>he j (by omega)),A4d (by decide)]
theorem c_ScanR(s:List UInt8)(hs:s.length<=1000000000):PC Tryz.prog 40 [.str s] (C1k (E7 s)):=by
 refine PC.ofT A2 rfl (A0A rfl) rfl (C1j _) ?_;have hsk:=c_skipR s hs 0 (by omega);rw[A2X,A0Z]at hsk;by_cases h20:20000<s.length
 ·have hd0:decide ((s.length:Int)>20000)=true:=by simp;omega
  have hM:E7 s=([],0,9):=if_pos h20;rw[hM];repeat' (apply wr<;>try simp only[go_sem,seval,hd0])
  exact B0l
 have hd0:decide ((s.length:Int)>20000)=false:=by simp;omega
 have hM:E7 s=J4 (s.length+1) s (skM false s) []:=if_neg h20;rw[hM];have hle0:=W6 false s;repeat' ((with_reducible first|apply wr|refine cpc hsk ?_|fail)<;>try simp only[go_sem,seval,hd0])
 refine B6 (fun q:Nat × Nat × Option Nat × List Tok=>[(0,.str s),(5,todoV q.2.2.1 q.2.2.2.length),(6,I64 q.2.1)]) (fun q=>optH Sym.nil q.2.2.1 ⟨4,true,cellsL (q.2.2.2.map Tok.v)⟩)
  (fun q c=>q.2.1<=s.length/\s.length<q.1+q.2.1/\q.2.2.2.length<=q.2.1/\(q.2.2.1=none->q.2.2.2=[])/\(∀ i,q.2.2.1=some i->i<c)/\J4 (s.length+1) s (skM false s) []=J4 q.1 s q.2.1 q.2.2.2) (fun q=>q.1) (s.length+1,skM false s,none,[])
  (by simp[B9,tm,Tm.upd,todoV]) (Sub.nil _) ⟨by simp only;omega,by simp only;omega,by simp,fun _=>rfl,(fun i hi=>by cases hi),rfl⟩ ?_
 rintro⟨f,at_,o,acc⟩ c ⟨h1,hf,hal,hno,ho,he⟩;simp only at h1 hf hal hno ho he;simp only;rw[he];by_cases hlt:at_<s.length
 ·have hd:=dtz hlt;have hnx:=c_oneR s (by omega) at_ hlt;obtain⟨f,rfl⟩:∃ g,f=g+1:=⟨f-1,by omega⟩;by_cases hz:(A3 (s.drop at_)).err=0
  ·have hn:=A1o hz;rw[A2A]at hn;have hst:J4 (f+1) s at_ acc=J4 f s (at_+(A3 (s.drop at_)).n+skM false (s.drop (at_+(A3 (s.drop at_)).n))) (acc++[⟨(A3 (s.drop at_)).kind,(A3 (s.drop at_)).text,(A3 (s.drop at_)).value,(at_:Int)⟩]):=by
    rw[J4,if_neg (by omega),if_neg (by simpa using hz)]
   rw[hst];obtain⟨x,hx⟩:∃ x,x=A3 (s.drop at_):=⟨_,rfl⟩;rw[<- hx]at hnx hz hn ⊢;rw[nxR,if_pos hz,okN]at hnx;have hsk2:=c_skipR s hs (at_+x.n) (by omega);have hkl:=W6 false (s.drop (at_+x.n));rw[A2A]at hkl;obtain⟨z,hzz⟩:∃ z,z=skM false (s.drop (at_+x.n)):=⟨_,rfl⟩;rw[<- hzz]at hsk2 hkl ⊢;have ne0:=U6 c (c+1) (c+2) (by omega);repeat' ((with_reducible first|apply wr|refine cpc hnx ?_|fail)<;>try simp only[go_sem,seval,hd])
   refine O7 (E8 (cs:=cellsL (acc.map Tok.v)) (fun e=>by rw[hno e];exact⟨rfl,rfl⟩) (fun i hi=>?_) (by rw[C4 (u:=4) (B0c _)];simp) (by omega) (by omega) (by omega)) ?_
   ·have:=ho i hi;rw[hnO,hnO,hnO];exact D2f hi
   simp only[go_sem,seval];repeat' ((with_reducible first|apply wr|refine cpc hsk2 ?_|fail)<;>try simp only[go_sem,seval])
   exact⟨(f,at_+x.n+z,some (c+1+1),acc++[⟨x.kind,x.text,x.value,(at_:Int)⟩]),⟨by simp only[A0D,A0K];rfl,rfl⟩,
    C6a (by simp only[A1K,F3];rfl),inv ⟨by simp only;omega,by simp only;omega,by simp only[A0D,A0K];omega,(fun h=>by cases h),(fun i hi=>by cases hi;omega),rfl⟩,by simp only;omega⟩
  ·have hst:J4 (f+1) s at_ acc=([],(at_:Int),(A3 (s.drop at_)).err):=by
    rw[J4,if_neg (by omega),if_pos hz]
   rw[hst];obtain⟨x,hx⟩:∃ x,x=A3 (s.drop at_):=⟨_,rfl⟩;rw[<- hx]at hnx hz ⊢;rw[nxR,if_neg hz,O2]at hnx;have hz':(x.err != 0)=true:=by simpa using hz
   have ne0:=X4 c (c+1) (by omega);repeat' ((with_reducible first|apply wr|refine cpc hnx ?_|fail)<;>try simp only[go_sem,seval,hd,hz'])
   exact B0l
 ·have hd:=dfz hlt;repeat' (apply wr<;>try simp only[go_sem,seval,hd])
  have hM2:J4 f s at_ acc=(acc,0,0):=by
   cases f with
   |zero=>rfl
   |succ f=>rw[J4,if_pos (by omega)]
  rw[hM2];exact C2e (fun e=>by rw[hno e];rfl) (by simp) (B0c acc)
theorem c_Dec:∀ (m:Nat) (n:Int),n.natAbs<m -> -9223372036854775808<=n->n<=9223372036854775807->PC Tryz.prog 39 [I64 n] (.str (O9 n)):=by
 intro m
 induction m with
 |zero=>intro n h;omega
 |succ m ih =>
  intro n h h1 h2;have b:=D4m (d:=M5 n) (B6z n);have hl:=B6z n;by_cases h0:n<0
  ·have hd:decide (n<0)=true:=by simpa using h0
   have e1:=C6x h0;have e2:=C6w h0;have hh:=B7h (n:=n) (by omega);have w1:=w64 (n := -((Q3 n:Nat):Int));have w2:=w64 (n:=0 - -((M5 n:Nat):Int));have w3:0 - -((M5 n:Nat):Int)=(M5 n:Int):=by omega
   rw[w3]at w2;have hlen:=O1 (n := -((Q3 n:Nat):Int)) (by omega) (by omega);have a0:=L5 (s:=O9 (-((Q3 n:Nat):Int))) (t:=[X6 (M5 n)]) (by simp;omega);have a2:Y3 (nil.upd 5 ⟨1,true,[DV.int .u8 ((X6 (M5 n)).toNat:Int)]⟩) (.slc 5 0 1)=some (.str [X6 (M5 n)]):=A5y h_same rfl rfl;have a1:=L5 (s:=[45]) (t:=[X6 (M5 n)]) (by simp);refine PC.go A2 ?_;repeat' ((first|(with_reducible first|refine wr ?_|refine cpc (ih (-((Q3 n:Nat):Int)) (by omega) (by omega) (by omega)) ?_)|(with_reducible refine wb2 ?_ ?_<;>(intro hb;try simp only[hb]))|((with_reducible refine C3b (A5y (l:=[X6 (M5 n)]) h_same rfl rfl) ?_))|fail)<;>try simp only[go_sem,seval,hd,B0t,C9h,e1,e2,w1,w3,w2,b,a0,a1,a2])
   ·rw[B9o h0 (by simpa using hb)];exact A1 rfl
   ·rw[C4j h0 (by simpa using hb)];exact A1 rfl
  ·have hd:decide (n<0)=false:=by simpa using h0
   have e1:=C6q (n:=n) (by omega);have e2:=C6p (n:=n) (by omega);have hh:Q3 n<=n.natAbs:=by unfold Q3;omega
   have w1:=w64 (n:=((Q3 n:Nat):Int));have hlen:=O1 (n:=((Q3 n:Nat):Int)) (by omega) (by omega);have a0:=L5 (s:=O9 ((Q3 n:Nat):Int)) (t:=[X6 (M5 n)]) (by simp;omega);by_cases h9:n<10
   ·have hd9:decide (n<10)=true:=by simpa using h9
    refine PC.go A2 ?_;repeat' ((first|(with_reducible first|refine wr ?_)|(with_reducible refine wb2 ?_ ?_<;>(intro hb;try simp only[hb]))|((with_reducible refine C3b (A5y (l:=[X6 (M5 n)]) h_same rfl rfl) ?_))|fail)<;>try simp only[go_sem,seval,hd,hd9,B0t,e2,b])
    rw[A4k (by omega) h9];exact A1 rfl
   ·have hd9:decide (n<10)=false:=by simpa using h9
    have hh:=B7h (n:=n) (by omega);refine PC.go A2 ?_;repeat' ((first|(with_reducible first|refine wr ?_|refine cpc (ih ((Q3 n:Nat):Int) (by omega) (by omega) (by omega)) ?_)|(with_reducible refine wb2 ?_ ?_<;>(intro hb;try simp only[hb]))|((with_reducible refine C3b (A5y (l:=[X6 (M5 n)]) h_same rfl rfl) ?_))|fail)<;>try simp only[go_sem,seval,hd,hd9,B0t,C9h,e1,e2,w1,b,a0])
    rw[B7p h9];exact A1 rfl
theorem c_Dec'(n:Int)(h1 : -9223372036854775808<=n)(h2:n<=9223372036854775807):PC Tryz.prog 39 [I64 n] (.str (O9 n)):=c_Dec (n.natAbs+1) n (by omega) h1 h2
open Go.Sym
abbrev x9:XT Tryz.prog 9:=mkF
theorem A9h{H:Hp}{i j:Nat}:delO H (some i) j=if j=i then none else H j:=_root_.id rfl
theorem C1s{sz:Nat}{xs:List DV}{k:IntKind}:T9 sz (.lst xs) (.int k 1)=B4j sz xs[1]? := A8i (l:=1)
end Go.Proofs.YtenmhfknbopmeaaGreatDoor
set_option maxHeartbeats 8000000
namespace Go.Proofs.YtenmhfknbopmeaaGreatDoor
open Go.Eng (IC IOper DReg IFn I5)
open Go.Sym Go.Pb
theorem B4q{X:Hp}{i j:Nat}(h:¬ j=i):(X.del i) j=X j:=by rw[show X.del i=delO X (some i) from rfl,A9h,if_neg h]
end Go.Proofs.YtenmhfknbopmeaaGreatDoor
set_option maxHeartbeats 4000000
namespace Go.Proofs.YtenmhfknbopmeaaGreatDoor
open Go.Eng (IC IOper DReg IFn I5)
open Go.Sym
abbrev x144:XT Tryz.prog 144:=mkF
instance t144:FT Tryz.prog 144 x144.d:=x144.ft
abbrev x93:XT Tryz.prog 93:=mkF
instance t93:FT Tryz.prog 93 x93.d:=x93.ft
abbrev x195:XT Tryz.prog 195:=mkF
instance t195:FT Tryz.prog 195 x195.d:=x195.ft
abbrev x194:XT Tryz.prog 194:=mkF
instance t194:FT Tryz.prog 194 x194.d:=x194.ft
abbrev x196:XT Tryz.prog 196:=mkF
instance t196:FT Tryz.prog 196 x196.d:=x196.ft
abbrev x243:XT Tryz.prog 243:=mkF
instance t243:FT Tryz.prog 243 x243.d:=x243.ft
abbrev x246:XT Tryz.prog 246:=mkF
instance t246:FT Tryz.prog 246 x246.d:=x246.ft
abbrev x162:XT Tryz.prog 162:=mkF
instance t162:FT Tryz.prog 162 x162.d:=x162.ft
abbrev x220:XT Tryz.prog 220:=mkF
instance t220:FT Tryz.prog 220 x220.d:=x220.ft
abbrev x221:XT Tryz.prog 221:=mkF
instance t221:FT Tryz.prog 221 x221.d:=x221.ft
abbrev x245:XT Tryz.prog 245:=mkF
instance t245:FT Tryz.prog 245 x245.d:=x245.ft
abbrev x106:XT Tryz.prog 106:=mkF
instance t106:FT Tryz.prog 106 x106.d:=x106.ft
abbrev x109:XT Tryz.prog 109:=mkF
instance t109:FT Tryz.prog 109 x109.d:=x109.ft
abbrev x53:XT Tryz.prog 53:=mkF
instance t53:FT Tryz.prog 53 x53.d:=x53.ft
abbrev x105:XT Tryz.prog 105:=mkF
instance t105:FT Tryz.prog 105 x105.d:=x105.ft
abbrev x108:XT Tryz.prog 108:=mkF
instance t108:FT Tryz.prog 108 x108.d:=x108.ft
abbrev x58:XT Tryz.prog 58:=mkF
instance t58:FT Tryz.prog 58 x58.d:=x58.ft
abbrev x113:XT Tryz.prog 113:=mkF
instance t113:FT Tryz.prog 113 x113.d:=x113.ft
abbrev x104:XT Tryz.prog 104:=mkF
instance t104:FT Tryz.prog 104 x104.d:=x104.ft
abbrev x159:XT Tryz.prog 159:=mkF
instance t159:FT Tryz.prog 159 x159.d:=x159.ft
abbrev x107:XT Tryz.prog 107:=mkF
instance t107:FT Tryz.prog 107 x107.d:=x107.ft
abbrev x161:XT Tryz.prog 161:=mkF
instance t161:FT Tryz.prog 161 x161.d:=x161.ft
abbrev x219:XT Tryz.prog 219:=mkF
instance t219:FT Tryz.prog 219 x219.d:=x219.ft
abbrev x242:XT Tryz.prog 242:=mkF
instance t242:FT Tryz.prog 242 x242.d:=x242.ft
abbrev x244:XT Tryz.prog 244:=mkF
instance t244:FT Tryz.prog 244 x244.d:=x244.ft
abbrev x258:XT Tryz.prog 258:=mkF
instance t258:FT Tryz.prog 258 x258.d:=x258.ft
end Go.Proofs.YtenmhfknbopmeaaGreatDoor
set_option maxHeartbeats 8000000
namespace Go.Proofs.YtenmhfknbopmeaaGreatDoor
open Go.Eng (IC IOper DReg IFn I5)
open Go.Sym Go.Pb
theorem c_IF_hd{g:Hd->Bool}{f:Nat}{a cs:List DV}(xs:List (Hd))(hx:xs.length<=9223372036854775807)(na:DV.nlL a=true)(ncs:DV.nlL cs=true)(hf:∀ x∈xs,PC Tryz.prog f (a++[Hd.v x]++cs) (.bool (g x))):
  PC Tryz.prog 113 [N8 xs,.func f a cs] (I64 (R4 g xs 0)):=by
 refine PC.ofT A2 rfl (A0A rfl) (by simp[DV.nlL,DV.nl,A8t,na,ncs]) rfl ?_;repeat' (apply wr<;>try simp only[go_sem,seval,A0J])
 refine B6 (fun k:Nat=>[(0,N8 xs),(1,.func f a cs),(7,I64 xs.length),(8,I64 k)]) (fun _=>nil) (fun k _=>k<=xs.length/\R4 g xs 0=R4 g (xs.drop k) k) (fun k=>xs.length-k) 0 (by simp[B9,tm,Tm.upd]) (Sub.nil _) (by simp) ?_;rintro k c ⟨hk,he⟩;by_cases hlt:k<xs.length
 ·have hd:=dtz hlt;have hg:=A0B hlt;have hw:=w64 (n:=(k:Int)+1);have hst:=U9 (g:=g) hg;have hc:=hf xs[k] (A0S hlt);repeat' ((with_reducible first|refine wr ?_|refine cpc hc ?_|refine wb2 ?_ ?_<;>(intro hb;try simp only[hb])|fail)<;>try simp only[go_sem,seval,hd,hg,hw])
  ·refine A1 ?_;rw[he,hst,hb];rfl
  ·exact⟨k+1,rfl,Sub.refl _,inv ⟨by omega,by rw[he,hst,hb];rfl⟩,by omega⟩
 ·have hd:=dfz hlt;repeat' (apply wr<;>try simp only[go_sem,seval,hd])
  refine A1 ?_;rw[he,Z1 (by omega)]
theorem c_CF_hd{g:Hd->Bool}{f:Nat}{a cs:List DV}(xs:List (Hd))(hx:xs.length<=9223372036854775807)(na:DV.nlL a=true)(ncs:DV.nlL cs=true)(hf:∀ x∈xs,PC Tryz.prog f (a++[Hd.v x]++cs) (.bool (g x))):
  PC Tryz.prog 58 [N8 xs,.func f a cs] (.bool (xs.any g)):=by
 refine PC.ofT A2 rfl (A0A rfl) (by simp[DV.nlL,DV.nl,A8t,na,ncs]) rfl ?_;have hc:=c_IF_hd xs hx na ncs hf;repeat' ((with_reducible first|apply wr|refine cpc hc ?_|fail)<;>try simp only[go_sem,seval])
 refine A1 ?_;rw[Z2]
theorem c_IF_dc{g:Dc->Bool}{f:Nat}{a cs:List DV}(xs:List (Dc))(hx:xs.length<=9223372036854775807)(na:DV.nlL a=true)(ncs:DV.nlL cs=true)(hf:∀ x∈xs,PC Tryz.prog f (a++[Dc.v x]++cs) (.bool (g x))):
  PC Tryz.prog 159 [F7 xs,.func f a cs] (I64 (R4 g xs 0)):=by
 refine PC.ofT A2 rfl (A0A rfl) (by simp[DV.nlL,DV.nl,S7,na,ncs]) rfl ?_;repeat' (apply wr<;>try simp only[go_sem,seval,A0J])
 refine B6 (fun k:Nat=>[(0,F7 xs),(1,.func f a cs),(7,I64 xs.length),(8,I64 k)]) (fun _=>nil) (fun k _=>k<=xs.length/\R4 g xs 0=R4 g (xs.drop k) k) (fun k=>xs.length-k) 0 (by simp[B9,tm,Tm.upd]) (Sub.nil _) (by simp) ?_;rintro k c ⟨hk,he⟩;by_cases hlt:k<xs.length
 ·have hd:=dtz hlt;have hg:=A0B hlt;have hw:=w64 (n:=(k:Int)+1);have hst:=U9 (g:=g) hg;have hc:=hf xs[k] (A0S hlt);repeat' ((with_reducible first|refine wr ?_|refine cpc hc ?_|refine wb2 ?_ ?_<;>(intro hb;try simp only[hb])|fail)<;>try simp only[go_sem,seval,hd,hg,hw])
  ·refine A1 ?_;rw[he,hst,hb];rfl
  ·exact⟨k+1,rfl,Sub.refl _,inv ⟨by omega,by rw[he,hst,hb];rfl⟩,by omega⟩
 ·have hd:=dfz hlt;repeat' (apply wr<;>try simp only[go_sem,seval,hd])
  refine A1 ?_;rw[he,Z1 (by omega)]
theorem c_CF_dc{g:Dc->Bool}{f:Nat}{a cs:List DV}(xs:List (Dc))(hx:xs.length<=9223372036854775807)(na:DV.nlL a=true)(ncs:DV.nlL cs=true)(hf:∀ x∈xs,PC Tryz.prog f (a++[Dc.v x]++cs) (.bool (g x))):
  PC Tryz.prog 104 [F7 xs,.func f a cs] (.bool (xs.any g)):=by
 refine PC.ofT A2 rfl (A0A rfl) (by simp[DV.nlL,DV.nl,S7,na,ncs]) rfl ?_;have hc:=c_IF_dc xs hx na ncs hf;repeat' ((with_reducible first|apply wr|refine cpc hc ?_|fail)<;>try simp only[go_sem,seval])
 refine A1 ?_;rw[Z2]
theorem c_IF_md{g:Md->Bool}{f:Nat}{a cs:List DV}(xs:List (Md))(hx:xs.length<=9223372036854775807)(na:DV.nlL a=true)(ncs:DV.nlL cs=true)(hf:∀ x∈xs,PC Tryz.prog f (a++[Md.v x]++cs) (.bool (g x))):
  PC Tryz.prog 161 [E4 xs,.func f a cs] (I64 (R4 g xs 0)):=by
 refine PC.ofT A2 rfl (A0A rfl) (by simp[DV.nlL,DV.nl,S6,na,ncs]) rfl ?_;repeat' (apply wr<;>try simp only[go_sem,seval,A0J])
 refine B6 (fun k:Nat=>[(0,E4 xs),(1,.func f a cs),(7,I64 xs.length),(8,I64 k)]) (fun _=>nil) (fun k _=>k<=xs.length/\R4 g xs 0=R4 g (xs.drop k) k) (fun k=>xs.length-k) 0 (by simp[B9,tm,Tm.upd]) (Sub.nil _) (by simp) ?_;rintro k c ⟨hk,he⟩;by_cases hlt:k<xs.length
 ·have hd:=dtz hlt;have hg:=A0B hlt;have hw:=w64 (n:=(k:Int)+1);have hst:=U9 (g:=g) hg;have hc:=hf xs[k] (A0S hlt);repeat' ((with_reducible first|refine wr ?_|refine cpc hc ?_|refine wb2 ?_ ?_<;>(intro hb;try simp only[hb])|fail)<;>try simp only[go_sem,seval,hd,hg,hw])
  ·refine A1 ?_;rw[he,hst,hb];rfl
  ·exact⟨k+1,rfl,Sub.refl _,inv ⟨by omega,by rw[he,hst,hb];rfl⟩,by omega⟩
 ·have hd:=dfz hlt;repeat' (apply wr<;>try simp only[go_sem,seval,hd])
  refine A1 ?_;rw[he,Z1 (by omega)]
theorem c_CF_md{g:Md->Bool}{f:Nat}{a cs:List DV}(xs:List (Md))(hx:xs.length<=9223372036854775807)(na:DV.nlL a=true)(ncs:DV.nlL cs=true)(hf:∀ x∈xs,PC Tryz.prog f (a++[Md.v x]++cs) (.bool (g x))):
  PC Tryz.prog 107 [E4 xs,.func f a cs] (.bool (xs.any g)):=by
 refine PC.ofT A2 rfl (A0A rfl) (by simp[DV.nlL,DV.nl,S6,na,ncs]) rfl ?_;have hc:=c_IF_md xs hx na ncs hf;repeat' ((with_reducible first|apply wr|refine cpc hc ?_|fail)<;>try simp only[go_sem,seval])
 refine A1 ?_;rw[Z2]
theorem c_IF_st{g:Pb.St->Bool}{f:Nat}{a cs:List DV}(xs:List (Pb.St))(hx:xs.length<=9223372036854775807)(na:DV.nlL a=true)(ncs:DV.nlL cs=true)(hf:∀ x∈xs,PC Tryz.prog f (a++[Pb.St.v x]++cs) (.bool (g x))):
  PC Tryz.prog 242 [D2 xs,.func f a cs] (I64 (R4 g xs 0)):=by
 refine PC.ofT A2 rfl (A0A rfl) (by simp[DV.nlL,DV.nl,A1n,na,ncs]) rfl ?_;repeat' (apply wr<;>try simp only[go_sem,seval,A0J])
 refine B6 (fun k:Nat=>[(0,D2 xs),(1,.func f a cs),(7,I64 xs.length),(8,I64 k)]) (fun _=>nil) (fun k _=>k<=xs.length/\R4 g xs 0=R4 g (xs.drop k) k) (fun k=>xs.length-k) 0 (by simp[B9,tm,Tm.upd]) (Sub.nil _) (by simp) ?_;rintro k c ⟨hk,he⟩;by_cases hlt:k<xs.length
 ·have hd:=dtz hlt;have hg:=A0B hlt;have hw:=w64 (n:=(k:Int)+1);have hst:=U9 (g:=g) hg;have hc:=hf xs[k] (A0S hlt);rw[Pb.St.v_w]at hc;repeat' ((with_reducible first|refine wr ?_|refine cpc hc ?_|refine wb2 ?_ ?_<;>(intro hb;try simp only[hb])|fail)<;>try simp only[go_sem,seval,hd,hg,hw,Pb.St.v_w])
  ·refine A1 ?_;rw[he,hst,hb];rfl
  ·exact⟨k+1,rfl,Sub.refl _,inv ⟨by omega,by rw[he,hst,hb];rfl⟩,by omega⟩
 ·have hd:=dfz hlt;repeat' (apply wr<;>try simp only[go_sem,seval,hd])
  refine A1 ?_;rw[he,Z1 (by omega)]
theorem c_CF_st{g:Pb.St->Bool}{f:Nat}{a cs:List DV}(xs:List (Pb.St))(hx:xs.length<=9223372036854775807)(na:DV.nlL a=true)(ncs:DV.nlL cs=true)(hf:∀ x∈xs,PC Tryz.prog f (a++[Pb.St.v x]++cs) (.bool (g x))):
  PC Tryz.prog 219 [D2 xs,.func f a cs] (.bool (xs.any g)):=by
 refine PC.ofT A2 rfl (A0A rfl) (by simp[DV.nlL,DV.nl,A1n,na,ncs]) rfl ?_;have hc:=c_IF_st xs hx na ncs hf;repeat' ((with_reducible first|apply wr|refine cpc hc ?_|fail)<;>try simp only[go_sem,seval])
 refine A1 ?_;rw[Z2]
theorem c_IF_ex{g:Ex->Bool}{f:Nat}{a cs:List DV}(xs:List (Ex))(hx:xs.length<=9223372036854775807)(na:DV.nlL a=true)(ncs:DV.nlL cs=true)(hf:∀ x∈xs,PC Tryz.prog f (a++[Ex.v x]++cs) (.bool (g x))):
  PC Tryz.prog 258 [G7 xs,.func f a cs] (I64 (R4 g xs 0)):=by
 refine PC.ofT A2 rfl (A0A rfl) (by simp[DV.nlL,DV.nl,A4f,na,ncs]) rfl ?_;repeat' (apply wr<;>try simp only[go_sem,seval,A0J])
 refine B6 (fun k:Nat=>[(0,G7 xs),(1,.func f a cs),(7,I64 xs.length),(8,I64 k)]) (fun _=>nil) (fun k _=>k<=xs.length/\R4 g xs 0=R4 g (xs.drop k) k) (fun k=>xs.length-k) 0 (by simp[B9,tm,Tm.upd]) (Sub.nil _) (by simp) ?_;rintro k c ⟨hk,he⟩;by_cases hlt:k<xs.length
 ·have hd:=dtz hlt;have hg:=A0B hlt;have hw:=w64 (n:=(k:Int)+1);have hst:=U9 (g:=g) hg;have hc:=hf xs[k] (A0S hlt);rw[Ex.v_w]at hc;repeat' ((with_reducible first|refine wr ?_|refine cpc hc ?_|refine wb2 ?_ ?_<;>(intro hb;try simp only[hb])|fail)<;>try simp only[go_sem,seval,hd,hg,hw,Ex.v_w])
  ·refine A1 ?_;rw[he,hst,hb];rfl
  ·exact⟨k+1,rfl,Sub.refl _,inv ⟨by omega,by rw[he,hst,hb];rfl⟩,by omega⟩
 ·have hd:=dfz hlt;repeat' (apply wr<;>try simp only[go_sem,seval,hd])
  refine A1 ?_;rw[he,Z1 (by omega)]
theorem c_CF_ex{g:Ex->Bool}{f:Nat}{a cs:List DV}(xs:List (Ex))(hx:xs.length<=9223372036854775807)(na:DV.nlL a=true)(ncs:DV.nlL cs=true)(hf:∀ x∈xs,PC Tryz.prog f (a++[Ex.v x]++cs) (.bool (g x))):
  PC Tryz.prog 244 [G7 xs,.func f a cs] (.bool (xs.any g)):=by
 refine PC.ofT A2 rfl (A0A rfl) (by simp[DV.nlL,DV.nl,A4f,na,ncs]) rfl ?_;have hc:=c_IF_ex xs hx na ncs hf;repeat' ((with_reducible first|apply wr|refine cpc hc ?_|fail)<;>try simp only[go_sem,seval])
 refine A1 ?_;rw[Z2]
theorem C6r{H:Hp}{a b:Bool}(h:a=b):∃ H2,GL H [.bool a] H2 [.bool b]:=⟨H,by rw[h];exact GL.refl _ _⟩
theorem B0g{b1 b2 b3:Blk}{cc:Nat}(u:Unit)(h:1<=cc):Sym.Sub (Sym.nil.upd 0 b1) (((Sym.nil.upd 0 b1).upd cc b2).upd cc b3):=by
 intro j b hj;simp only[Hp.upd,Sym.nil]at hj ⊢;split at hj
 ·rename_i h0;rw[if_neg (by omega),if_neg (by omega),if_pos h0];exact hj
 ·cases hj
theorem c_levS(k:Int):PC Tryz.prog 194 [I64 k] (I64 (E5 k)):=by
 refine PC.go A2 ?_;repeat' ((with_reducible first|refine wr ?_|refine wb2 ?_ ?_<;>(intro hb;try simp only[hb])|fail)<;>try simp only[go_sem,seval])
 all_goals refine A1 (congrArg I64 ?_)
 all_goals simp_all[E5]
 all_goals omega
theorem c_namedS(k:Int):PC Tryz.prog 195 [I64 k] (.bool (C2s k)):=by
 refine PC.go A2 ?_;repeat' ((with_reducible first|refine wr ?_|refine wb2 ?_ ?_<;>(intro hb;try simp only[hb])|fail)<;>try simp only[go_sem,seval])
 all_goals refine A1 (congrArg DV.bool ?_)
 all_goals (cases h5:k == 5<;>cases h6:k == 6<;>cases h7:k == 7<;>simp_all[C2s])
theorem c_wrapped(e x:Ex)(i:Nat)(h:e.args[i]? = some x)(hi:i<=1):PC Tryz.prog 196 [e.v,I64 i] (.bool (A0o e.kind x.kind i)):=by
 refine PC.go A2 ?_;rw[Ex.v_w];have h1:=c_levS e.kind;have h2:=c_levS x.kind;repeat' ((with_reducible first|refine wr ?_|refine cpc h1 ?_|refine cpc h2 ?_|refine wb2 ?_ ?_<;>(intro hb;try simp only[hb])|fail)<;>try simp only[go_sem,seval,h,Ex.v_w])
 all_goals refine C6r ?_
 all_goals unfold A0o
 all_goals (cases hi1:i == 1<;>cases h3:E5 e.kind == 3<;>simp_all)
 all_goals omega
theorem c_measure:∀ (m:Nat) (e:Ex),e.sz<m->e.sz<=100000000->PC Tryz.prog 144 [e.v] (msV (msM e)):=by
 intro m
 induction m with
 |zero=>intro e h;omega
 |succ m ih =>
 intro e hm hB;have hnl:=e.sz_name;have hx:∀ x∈e.args,PC Tryz.prog 144 [x.v] (msV (msM x)):=fun x hx=>ih x (by have:=Ex.sz_arg hx;omega) (by have:=Ex.sz_arg hx;omega);have hwr:∀ (x:Ex) (i:Nat),e.args[i]? = some x->i<=1->PC Tryz.prog 196 [e.w,I64 i] (.bool (A0o e.kind x.kind i)):=fun x i h hi=>by have:=c_wrapped e x i h hi;rwa [Ex.v_w]at this
 refine PC.ofT A2 rfl (A0A rfl) (by simp[DV.nlL,Ex.nl]) (D2v _) ?_;rw[Ex.v_w];obtain⟨R,hR⟩:∃ R,R=msV (msM e):=⟨_,rfl⟩;rw[<- hR];have hle:=B3y e.kind 0 e.args;have hal:Ex.szs e.args<e.sz:=by cases e with|mk k v n a p=>rw[Ex.sz];show Ex.szs a<_;omega
 have hargs:∀ x∈e.args,x.sz<=Ex.szs e.args:=fun x hx=>Ex.szs_mem hx;cases e with|mk k v n a p =>
 rw[msM]at hR;dsimp only[Ex.w,Ex.kind,Ex.value,Ex.name,Ex.args,Ex.pos]at hx hwr hle hal hargs hnl ⊢;have hl:=c_levS k;have hnk:=c_namedS k;have hin:=c_IsName n (by omega);have none0:kOk k=false\/a.length≠I3 k\/A2l k n=false\/A4o k v=false->R=.tup [I64 0,I64 0,.bool false]:=fun h=>by rw[hR,if_pos h];rfl
 have ci:((I3 k:Nat):Int)<=2:=by unfold I3;(repeat' split)<;>decide
 have kA:∀ nm vl:Bool,A2l k n=nm->A4o k v=vl->kOk k=true->IW Tryz.prog 113 (pz Tryz.prog 144 (.o (.i (.o (.o (.o .h)))))) ⟨tm [(1,.ptr 0 0),(2,I64 0),(3,I64 0),(5,I64 (I3 k)),(7,.bool nm),(8,.bool vl)],Sym.nil.upd 0 ⟨0,true,[I64 k,I64 v,.str n,G7 a,I64 p]⟩,1⟩ (rt [.tmp 2,.tmp 3,.tmp 4] fun v H' x => ∃ H2,GL H' [v] H2 [R]):=by
  intro nm vl hnm hvl hkk;by_cases hlen:a.length=I3 k
  ·have d0:((a.length:Int) != (I3 k:Int))=false:=by simp[hlen]
   cases nm with
   |false =>
    repeat' (apply wr<;>try simp only[go_sem,seval,d0])
    exact A1 (none0 (.inr (.inr (.inl hnm)))).symm
   |true =>
    cases vl with
    |false =>
     repeat' (apply wr<;>try simp only[go_sem,seval,d0])
     exact A1 (none0 (.inr (.inr (.inr hvl)))).symm
    |true =>
     rw[if_neg (by simp[hkk,hnm,hvl,hlen])]at hR;by_cases hc0:I3 k=0
     ·have d1:((I3 k:Int) == 0)=true:=by simp[hc0]
      rw[if_pos hc0]at hR;repeat' (apply wr<;>try simp only[go_sem,seval,d0,d1])
      exact A1 hR.symm
     ·have d1:((I3 k:Int) == 0)=false:=by simp[hc0]
      rw[if_neg hc0]at hR;repeat' (apply wr<;>try simp only[go_sem,seval,d0,d1])
      have hl2:a.length<=2:=by omega
      refine B6 (fun q:Nat × Nat × Nat=>[(1,.ptr 0 0),(5,I64 (I3 k)),(80,G7 a),(81,I64 a.length),(82,I64 q.1),(2,I64 q.2.1),(3,I64 q.2.2)]) (fun _=>Sym.nil.upd 0 ⟨0,true,[I64 k,I64 v,.str n,G7 a,I64 p]⟩)
       (fun q cc=>1<=cc/\q.1<=a.length/\q.2.1<=q.1 * 1000000000/\q.2.2<=1000000000/\msL k 0 a=(match msL k q.1 (a.drop q.1) with
        |none=>none
        |some (o2,d2)=>some (q.2.1+o2,max q.2.2 d2))) (fun q=>a.length-q.1) (0,0,0) (by simp[B9,tm,Tm.upd]) (Sub.refl _)
       ⟨A0C _,A0V _,A0V _,A0V _,by
        rw[A2X];cases msL k 0 a with
        |none=>rfl
        |some q=>obtain⟨o2,d2⟩:=q;simp⟩ ?_
      rintro⟨i,o,d⟩ cc ⟨h1c,hk,ho,hd3,he⟩;dsimp only at hk ho hd3 he ⊢;by_cases hlt:i<a.length
      ·have hd:=dtz hlt;have hg:=A0B hlt;have hw:=w64 (n:=(i:Int)+1);rw[C2t hg]at he;have hmx:=hx _ (A0S hlt);have hax:=hargs _ (A0S hlt);have hwx:=hwr _ i hg (by omega);have hms:=C9k a[i];generalize a[i]=x at hg he hmx hax hwx hms;rw[Ex.v_w]at hmx;have hwx:PC Tryz.prog 196 [DV.agg [I64 k,I64 v,DV.str n,G7 a,I64 p],I64 i] (.bool (A0o k x.kind i)):=hwx;have ne0:=X4 0 cc (by omega);cases hq:msM x with
       |none =>
        rw[hq]at he hmx;dsimp only[msV]at he hmx;rw[he]at hR;repeat' ((with_reducible first|apply wr|refine cpc hmx ?_|fail)<;>try simp only[go_sem,seval,hd,hg,Ex.v_w])
        exact A1 hR.symm
       |some qq =>
        obtain⟨o1,d1'⟩:=qq;rw[hq]at he hmx;dsimp only[msV]at he hmx;have:=hms o1 d1' hq;have w1:=w64 (n:=(o:Int)+(o1:Int));have w2:=w64 (n:=(d1':Int)+1);cases hwb:A0o k x.kind i with
        |true =>
         rw[hwb]at he;repeat' ((with_reducible first|apply wr|refine cpc hmx ?_|refine cpc hwx ?_|fail)<;>try simp only[go_sem,seval,hd,hg,hw,Ex.v_w,ne0,hwb,w1,w2])
         all_goals (refine⟨(i+1,o+o1,max d (d1'+1)),⟨by simp,by simp,?_⟩,?_,inv ⟨by omega,by simp only;omega,by simp only;omega,by simp only;omega,?_⟩,by simp only;omega⟩)
         all_goals first
          |(refine congrArg I64 ?_;dsimp only;split<;>omega)
          |exact B0g () h1c
          |(rw[he];dsimp only;cases msL k (i+1) (a.drop (i+1)) with
           |none=>rfl
           |some q=>obtain⟨o2,d2⟩:=q;simp[A3Q,Nat.max_assoc])
        |false =>
         rw[hwb]at he;repeat' ((with_reducible first|apply wr|refine cpc hmx ?_|refine cpc hwx ?_|fail)<;>try simp only[go_sem,seval,hd,hg,hw,Ex.v_w,ne0,hwb,w1])
         all_goals (refine⟨(i+1,o+o1,max d (d1')),⟨by simp,by simp,?_⟩,?_,inv ⟨by omega,by simp only;omega,by simp only;omega,by simp only;omega,?_⟩,by simp only;omega⟩)
         all_goals first
          |(refine congrArg I64 ?_;dsimp only;split<;>omega)
          |exact B0g () h1c
          |(rw[he];dsimp only;cases msL k (i+1) (a.drop (i+1)) with
           |none=>rfl
           |some q=>obtain⟨o2,d2⟩:=q;simp[A3Q,Nat.max_assoc])
      ·have hd:=dfz hlt;rw[A2Y (by omega)]at he;have w1:=w64 (n:=(d:Int)+1);by_cases hc1:I3 k=1
       ·have e1:((I3 k:Int) == 1)=true:=by simp[hc1]
        rw[he,hc1]at hR;repeat' (apply wr<;>try simp only[go_sem,seval,hd,e1,w1])
        refine A1 ?_;rw[hR];simp[msV,msL]
       ·have e1:((I3 k:Int) == 1)=false:=by simp;omega
        rw[he]at hR;simp only[if_neg hc1]at hR;repeat' (apply wr<;>try simp only[go_sem,seval,hd,e1])
        refine A1 ?_;rw[hR];simp[msV,msL]
  ·have d0:((a.length:Int) != (I3 k:Int))=true:=by simp;omega
   repeat' (apply wr<;>try simp only[go_sem,seval,d0])
   exact A1 (none0 (.inr (.inl hlen))).symm
 have kB:∀ nm:Bool,A2l k n=nm->kOk k=true->IW Tryz.prog 113 (pz Tryz.prog 144 (.o (.o (.o (.o (.o .h)))))) ⟨tm [(1,.ptr 0 0),(2,I64 0),(3,I64 0),(5,I64 (I3 k)),(7,.bool nm)],Sym.nil.upd 0 ⟨0,true,[I64 k,I64 v,.str n,G7 a,I64 p]⟩,1⟩ (rt [.tmp 2,.tmp 3,.tmp 4] fun v H' x => ∃ H2,GL H' [v] H2 [R]):=by
  intro nm hnm hkk;repeat' ((with_reducible first|refine F6 (p:=IW _ _ (pz Tryz.prog 144 (.o (.i (.o (.o (.o .h)))))) _ _) ?_|refine wr ?_|refine wb2 ?_ ?_<;>(intro hb;try simp only[hb])|fail)<;>try simp only[go_sem,seval])
  all_goals refine IW.stage (L:=[(1,.ptr 0 0),(2,I64 0),(3,I64 0),(5,I64 (I3 k)),(7,.bool nm),(8,.bool (A4o k v))]) ?_ (kA nm _ hnm rfl hkk)
  all_goals simp_all[B9,tm,Tm.upd,A4o]
  all_goals omega
 have kC:kOk k=true->IW Tryz.prog 113 (pz Tryz.prog 144 (.o (.o (.o (.i .h))))) ⟨tm [(1,.ptr 0 0),(2,I64 0),(3,I64 0),(5,I64 (I3 k))],Sym.nil.upd 0 ⟨0,true,[I64 k,I64 v,.str n,G7 a,I64 p]⟩,1⟩ (rt [.tmp 2,.tmp 3,.tmp 4] fun v H' x => ∃ H2,GL H' [v] H2 [R]):=by
  intro hkk;repeat' ((with_reducible first|refine F6 (p:=IW _ _ (pz Tryz.prog 144 (.o (.o (.o (.o (.o .h)))))) _ _) ?_|refine wr ?_|refine cpc hnk ?_|refine cpc hin ?_|refine wb2 ?_ ?_<;>(intro hb;try simp only[hb])|fail)<;>try simp only[go_sem,seval])
  all_goals refine IW.stage (L:=[(1,.ptr 0 0),(2,I64 0),(3,I64 0),(5,I64 (I3 k)),(7,.bool (A2l k n))]) ?_ (kB _ rfl hkk)
  all_goals simp_all[B9,tm,Tm.upd,A2l]
 by_cases l6:E5 k=6
 ·have m6:(E5 k == 6)=true:=by simpa using l6
  repeat' ((with_reducible first|refine F6 (p:=IW _ _ (pz Tryz.prog 144 (.o (.o (.o (.i .h))))) _ _) ?_|refine wr ?_|refine cpc hl ?_|fail)<;>try simp only[go_sem,seval,m6])
  refine IW.stage ?_ (kC (by simp[kOk];left;omega));simp[B9,tm,Tm.upd,I3,l6]
 have m6:(E5 k == 6)=false:=by simpa using l6
 by_cases l5:E5 k<6
 ·have m5:decide (E5 k<6)=true:=by simpa using l5
  repeat' ((with_reducible first|refine F6 (p:=IW _ _ (pz Tryz.prog 144 (.o (.o (.o (.i .h))))) _ _) ?_|refine wr ?_|refine cpc hl ?_|fail)<;>try simp only[go_sem,seval,m6,m5])
  refine IW.stage ?_ (kC (by simp[kOk];left;omega));simp[B9,tm,Tm.upd,I3,l6,l5]
 have m5:decide (E5 k<6)=false:=by simpa using l5
 repeat' ((with_reducible first|refine F6 (p:=IW _ _ (pz Tryz.prog 144 (.o (.o (.o (.i .h))))) _ _) ?_|refine wr ?_|refine cpc hl ?_|refine wb2 ?_ ?_<;>(intro hb;try simp only[hb])|fail)<;>try simp only[go_sem,seval,m6,m5])
 all_goals first
  |(refine IW.stage ?_ (kC (by simp_all[kOk]<;>omega));simp[B9,tm,Tm.upd,I3,l6,l5];done)
  |(refine A1 (none0 (.inl ?_)).symm;simp_all[kOk]<;>omega)
theorem c_ValidExpr(e:Ex)(hB:e.sz<=100000000):PC Tryz.prog 93 [e.v] (.bool (R8 e)):=by
 refine PC.go A2 ?_;have hm:=c_measure _ e (A1I _) hB;unfold R8;rw[Ex.v_w]at hm ⊢;cases hq:msM e with
 |none =>
  rw[hq]at hm;dsimp only[msV]at hm;repeat' ((with_reducible first|apply wr|refine cpc hm ?_|fail)<;>try simp only[go_sem,seval])
  all_goals exact A1 rfl
 |some q =>
  obtain⟨o,d⟩:=q;rw[hq]at hm;dsimp only[msV]at hm;repeat' ((with_reducible first|refine wr ?_|refine cpc hm ?_|refine wb2 ?_ ?_<;>(intro hb;try simp only[hb])|fail)<;>try simp only[go_sem,seval])
  all_goals (refine A1 (congrArg DV.bool ?_);by_cases h1:o<=32<;>by_cases h2:d<=16<;>simp_all<;>omega)
end Go.Proofs.YtenmhfknbopmeaaGreatDoor
namespace Go.Pb
open Go.Sym
def Shp.v(s:Shp):DV:=.agg [.bool s.name,.bool s.text,I64 s.args,.bool s.thn,.bool s.els]
end Go.Pb
namespace Go.Proofs.YtenmhfknbopmeaaGreatDoor
open Go.Eng (IC IOper DReg IFn I5)
open Go.Sym Go.Pb
def C7m(k:Int):Bool:=decide (1<=k) && decide (k<=19)
theorem c_shapeOf(k:Int):PC Tryz.prog 243 [I64 k] (.tup [(U5 k).v,.bool (C7m k)]):=by
 refine PC.go A2 ?_;repeat' ((with_reducible first|refine wr ?_|refine wb2 ?_ ?_<;>(intro hb;try simp only[hb])|fail)<;>try simp only[go_sem,seval])
 all_goals refine A1 ?_
 all_goals simp_all[U5,C7m,Shp.v,Tm.upd]
 all_goals omega
theorem c_isText(s:List UInt8)(hs:s.length<=1000000000):PC Tryz.prog 246 [.str s] (.bool (X8 s)):=by
 refine PC.go A2 ?_;repeat' (apply wr<;>try simp only[go_sem,seval])
 refine B6 (fun k:Nat=>[(0,.str s),(3,I64 k)]) (fun _=>Sym.nil) (fun k _=>k<=s.length/\(s.take k).all txB=true) (fun k=>s.length-k) 0 (by simp[B9,tm,Tm.upd]) (Sub.refl _) ⟨A0V _,rfl⟩ ?_;rintro k cc ⟨hk,he⟩;by_cases hlt:k<s.length
 ·have hd:=dtz hlt;have hg:=A0B hlt;have hw:=w64 (n:=(k:Int)+1);generalize s[k]=x at hg;have hx:txB x=(decide (32<=x.toNat) && decide (x.toNat<=126)):=rfl;repeat' ((with_reducible first|refine wr ?_|refine wb2 ?_ ?_<;>(intro hb;try simp only[hb])|fail)<;>try simp only[go_sem,seval,hd,hg,hw])
  ·refine A1 (congrArg DV.bool ?_);have:=A6h txB s k _ hg (by simp_all<;>omega);simp[X8,this]
  ·refine A1 (congrArg DV.bool ?_);have:=A6h txB s k _ hg (by simp_all<;>omega);simp[X8,this]
  ·exact⟨k+1,rfl,Sub.refl _,inv ⟨by omega,by rw[A2w txB s k _ hg,he];simp_all<;>omega⟩,by omega⟩
 have hd:=dfz hlt;have hall:=B2w txB s k (by omega) he;repeat' (apply wr<;>try simp only[go_sem,seval,hd])
 refine A1 (congrArg DV.bool ?_);simp[X8,hall];omega
theorem c_validDecl(d:Dc)(hB:d.name.length<=1000000000):PC Tryz.prog 106 [d.v] (.bool (R9 d)):=by
 refine PC.go A2 ?_;have hn:=c_IsName d.name hB;repeat' ((with_reducible first|refine wr ?_|refine cpc hn ?_|refine wb2 ?_ ?_<;>(intro hb;try simp only[hb])|fail)<;>try simp only[go_sem,seval])
 all_goals (refine A1 (congrArg DV.bool ?_);simp_all[R9]<;>omega)
theorem c_vS1(e:Ex)(hB:e.sz<=100000000):PC Tryz.prog 245 [e.v] (.bool (!R8 e)):=by
 refine PC.go A2 ?_;have h:=c_ValidExpr e hB;rw[Ex.v_w]at h ⊢;repeat' ((with_reducible first|apply wr|refine cpc h ?_|fail)<;>try simp only[go_sem,seval])
 exact A1 rfl
theorem D0i(d:Nat)(s:Pb.St):V9 d s=(C7m s.kind && (s.args.length == (U5 s.kind).args && s.args.all R8) &&
   ((if (U5 s.kind).name=true then F1 s.name else s.name == []) && (if (U5 s.kind).text=true then X8 s.text else s.text == [])) &&
   (((U5 s.kind).thn || s.thn.isEmpty) && ((U5 s.kind).els || s.els.isEmpty)) && (P6 s.thn (d+1) && P6 s.els (d+1))):=by
 cases s with|mk k n t a x y p=>rw[V9];rfl
theorem A9r{α : Type}(g : α -> Bool)(l:List α):l.any (fun x => !g x) = !l.all g:=by
 induction l with
 |nil=>rfl
 |cons x l ih=>rw[List.any_cons,A2F,ih,Bool.not_and]
theorem c_vSt(s:Pb.St)(d:Nat)(hd:d<=1000000000)(hB:s.sz<=100000000)(hX:PC Tryz.prog 162 [D2 s.thn,I64 (d+1:Nat)] (.bool (P6 s.thn (d+1))))(hY:PC Tryz.prog 162 [D2 s.els,I64 (d+1:Nat)] (.bool (P6 s.els (d+1)))):
  PC Tryz.prog 221 [s.v,I64 d] (.bool (V9 d s)):=by
 rw[D0i];have hsa:Ex.szs s.args<s.sz:=by cases s with|mk k n t a x y p=>rw[Pb.St.sz];show Ex.szs a<_;omega
 have hal:=Ex.szs_len s.args;have hxl:=Pb.St.szs_len s.thn;have hyl:=Pb.St.szs_len s.els;have hxs:=s.sz_thn;have hys:=s.sz_els;have hnl:=s.sz_name;have htl:=s.sz_text;have hn:=c_IsName s.name (by omega);have ht:=c_isText s.text (by omega);have hsh:=c_shapeOf s.kind;have hca:=c_CF_ex (f:=245) (a:=[]) (cs:=[]) (g:=fun e => !R8 e) s.args (by omega) rfl rfl (fun x hx=>c_vS1 x (by have:=Ex.szs_mem hx;omega));rw[A9r]at hca;have hw:=w64 (n:=(d:Int)+1);refine PC.ofT A2 rfl (A0A rfl) (by rw[Pb.St.v_w];simp[DV.nlL,DV.nl,A4f,A1n]) rfl ?_;cases s with|mk k n t a x y p =>
 dsimp only[Pb.St.kind,Pb.St.name,Pb.St.text,Pb.St.args,Pb.St.thn,Pb.St.els,Pb.St.pos]at *;have hX:PC Tryz.prog 162 [D2 x,I64 ((d:Int)+1)] (.bool (P6 x (d+1))):=hX;have hY:PC Tryz.prog 162 [D2 y,I64 ((d:Int)+1)] (.bool (P6 y (d+1))):=hY;have ev:(Pb.St.mk k n t a x y p).v=.agg [I64 k,.str n,.str t,G7 a,D2 x,D2 y,I64 p]:=Pb.St.v_w _;rw[ev];generalize P6 x (d+1)=bx at *;generalize P6 y (d+1)=bY at *;generalize C7m k=kb at *;obtain⟨nb,tb,ar,xb,yb,hs⟩:∃ nb tb ar xb yb,U5 k=⟨nb,tb,ar,xb,yb⟩:=⟨_,_,_,_,_,rfl⟩;simp only[hs,Shp.v]at hsh ⊢;have kA:∀ (cc:Nat) (nm tx:Bool),IW Tryz.prog 86 (pz Tryz.prog 221 (.i (.i (.o (.i .h))))) ⟨tm [(1,I64 d),(2,.ptr 0 0),(5,.ptr 1 0),(7,.bool nm),(8,.bool tx)],(Sym.nil.upd 0 ⟨0,true,[I64 k,.str n,.str t,G7 a,D2 x,D2 y,I64 p]⟩).upd 1 ⟨0,true,[.bool nb,.bool tb,I64 ar,.bool xb,.bool yb]⟩,cc⟩ (rt [.tmp 4] fun v H' c => ∃ H2,GL H' [v] H2 [.bool ((nm && tx) && ((xb || x.isEmpty) && (yb || y.isEmpty)) && (bx && bY))]):=by
  intro cc nm tx;have ex:x.isEmpty = !decide ((x.length:Int)>0):=by cases x<;>simp
  have ey:y.isEmpty = !decide ((y.length:Int)>0):=by cases y<;>simp
  rw[ex,ey];cases nm with
  |false =>
   repeat' (apply wr<;>try simp only[go_sem,seval])
   exact A1 (by simp)
  |true =>
  cases tx with
  |false =>
   repeat' (apply wr<;>try simp only[go_sem,seval])
   exact A1 (by simp)
  |true =>
  generalize hlx:decide ((x.length:Int)>0)=lx at *;generalize hly:decide ((y.length:Int)>0)=ly at *;cases bx<;>cases bY<;>cases xb<;>cases lx<;>cases yb<;>cases ly;all_goals (repeat' ((with_reducible first|apply wr|refine cpc hX ?_|refine cpc hY ?_|fail)<;>try simp only[go_sem,seval,hlx,hly,hw,A0J]))
  all_goals exact A1 rfl
 have kB:∀ cc:Nat,IW Tryz.prog 86 (pz Tryz.prog 221 (.i (.i (.i .h)))) ⟨tm [(1,I64 d),(2,.ptr 0 0),(5,.ptr 1 0),(7,.bool (n == [])),(8,.bool (t == []))],(Sym.nil.upd 0 ⟨0,true,[I64 k,.str n,.str t,G7 a,D2 x,D2 y,I64 p]⟩).upd 1 ⟨0,true,[.bool nb,.bool tb,I64 ar,.bool xb,.bool yb]⟩,cc⟩ (rt [.tmp 4] fun v H' c => ∃ H2,GL H' [v] H2 [.bool (((if nb=true then F1 n else n == []) && (if tb=true then X8 t else t == [])) && ((xb || x.isEmpty) && (yb || y.isEmpty)) && (bx && bY))]):=by
  intro cc;cases nb<;>cases tb;all_goals (repeat' ((with_reducible first|refine F6 (p:=IW _ _ (pz Tryz.prog 221 (.i (.i (.o (.i .h))))) _ _) ?_|refine wr ?_|refine cpc hn ?_|refine cpc ht ?_|fail)<;>try simp only[go_sem,seval]))
  all_goals (refine IW.stage ?_ (kA _ _ _);simp[B9,tm,Tm.upd])
 cases kb with
 |false =>
  repeat' ((with_reducible first|apply wr|refine cpc hsh ?_|fail)<;>try simp only[go_sem,seval])
  exact A1 (by simp)
 |true =>
 by_cases hal2:a.length=ar
 ·have d0:((a.length:Int) != (ar:Int))=false:=by simp[hal2]
  cases hall:a.all R8 with
  |false =>
   rw[hall]at hca;repeat' ((with_reducible first|apply wr|refine cpc hsh ?_|refine cpc hca ?_|fail)<;>try simp only[go_sem,seval,d0,A0J])
   exact A1 (by simp)
  |true =>
   rw[hall]at hca;have e1:(a.length == ar)=true:=by simpa using hal2
   rw[e1];simp only[A2W];repeat' ((with_reducible first|refine F6 (p:=IW _ _ (pz Tryz.prog 221 (.i (.i (.i .h)))) _ _) ?_|refine wr ?_|refine cpc hsh ?_|refine cpc hca ?_|fail)<;>try simp only[go_sem,seval,d0,A0J,A0])
   refine IW.stage (L:=[(1,I64 d),(2,.ptr 0 0),(5,.ptr 1 0),(7,.bool (n == [])),(8,.bool (t == []))]) ?_ (kB _);simp[B9,tm,Tm.upd]
 ·have d0:((a.length:Int) != (ar:Int))=true:=by simp;omega
  repeat' ((with_reducible first|apply wr|refine cpc hsh ?_|fail)<;>try simp only[go_sem,seval,d0,A0J])
  exact A1 (by simp;omega)
theorem c_vB1(s:Pb.St)(d:Nat)(h:PC Tryz.prog 221 [s.v,I64 d] (.bool (V9 d s))):PC Tryz.prog 220 [s.v,.fptr [I64 d]] (.bool (!V9 d s)):=by
 rw[Pb.St.v_w]at h ⊢;refine PC.go A2 ?_;repeat' ((with_reducible first|apply wr|refine cpc h ?_|fail)<;>try simp only[go_sem,seval])
 exact A1 rfl
theorem A6x(d:Nat):∀ l:List Pb.St,K2 d l=l.all (V9 d)
 |[]=>by rw[K2];rfl
 |s :: l=>by rw[K2,A6x d l];rfl
theorem c_validBlock:∀ (m:Nat) (l:List Pb.St) (d:Nat),Pb.St.szs l<m->Pb.St.szs l<=100000000->d+Pb.St.szs l<=1000000000->PC Tryz.prog 162 [D2 l,I64 d] (.bool (P6 l d)):=by
 intro m
 induction m with
 |zero=>intro l d h;omega
 |succ m ih =>
 intro l d hm hB hd;have hl:=Pb.St.szs_len l;have hcf:=c_CF_st (f:=220) (a:=[]) (cs:=[.fptr [I64 d]]) (g:=fun s => !V9 d s) l (by omega) rfl rfl (fun s hs=>by
  have h1:=Pb.St.szs_mem hs;have h2:=s.sz_thn;have h3:=s.sz_els;exact c_vB1 s d (c_vSt s d (by omega) (by omega) (ih _ _ (by omega) (by omega) (by omega)) (ih _ _ (by omega) (by omega) (by omega))))
 rw[A9r, <- A6x]at hcf;refine PC.go A2 ?_;have el:l.isEmpty = !decide ((l.length:Int)>0):=by cases l<;>simp
 have e64:decide (l.length<=64) = !decide ((l.length:Int)>64):=by rw[<- decide_not];exact decide_eq_decide.2 (by omega)
 have e8:decide (d<=8) = !decide ((d:Int)>8):=by rw[<- decide_not];exact decide_eq_decide.2 (by omega)
 unfold P6;rw[el,e64,e8];repeat' ((first|(with_reducible first|refine wr ?_)|(with_reducible refine wb2 ?_ ?_<;>(intro hb;try simp only[hb]))|(refine AC.call (hcf.lend rfl (GL.one (id:=0) (b:=⟨0,true,[I64 d]⟩) rfl rfl (.cons _ _ _ _ (.same _) (.cons _ _ _ _ (.func _ _ _ _ _ .nil (.cons _ _ _ _ (.ptr 0 _ (A0V _) rfl) .nil)) .nil)))) ?_<;>rintro v H' c' ⟨rfl,rfl,rfl⟩ hcc)|fail)<;>try simp only[go_sem,seval,A0J])
 all_goals (refine A1 (congrArg DV.bool ?_);simp_all)
theorem c_validHd(h:Hd)(hB:Pb.St.szs h.body<=100000000):PC Tryz.prog 162 [D2 h.body,I64 1] (.bool (P6 h.body 1)) :=
 c_validBlock _ h.body 1 (A1I _) hB (by omega)
theorem D3s(h:Hd):h.v=.agg [I64 h.trig,.str h.name,D2 h.body,I64 h.pos]:=rfl
theorem c_validMode(d:Md)(hB:d.sz<=100000000):PC Tryz.prog 109 [d.v] (.bool (T6 d)):=by
 have hsz:d.sz=1+d.name.length+(d.hds.map Hd.sz).sum:=rfl;have hhl:d.hds.length<=(d.hds.map Hd.sz).sum:=P8 fun x _=>by show 1<=1+_+_;omega
 have hn:=c_IsName d.name (by omega);refine PC.go A2 ?_;have ev:d.v=.agg [.str d.name,I64 d.prio,N8 d.hds,I64 d.pos]:=rfl;rw[ev];cases hnm:F1 d.name with
 |false =>
  rw[hnm]at hn;repeat' ((with_reducible first|apply wr|refine cpc hn ?_|fail)<;>try simp only[go_sem,seval])
  exact A1 (by simp[T6,hnm])
 |true =>
 rw[hnm]at hn;by_cases p0:d.prio<0
 ·have q0:decide (d.prio<0)=true:=by simpa using p0
  repeat' ((with_reducible first|apply wr|refine cpc hn ?_|fail)<;>try simp only[go_sem,seval,q0])
  exact A1 (by simp[T6,hnm];omega)
 have q0:decide (d.prio<0)=false:=by simpa using p0
 by_cases p1:d.prio>2147483647
 ·have q1:decide (d.prio>2147483647)=true:=by simpa using p1
  repeat' ((with_reducible first|apply wr|refine cpc hn ?_|fail)<;>try simp only[go_sem,seval,q0,q1])
  exact A1 (by simp[T6,hnm];omega)
 have q1:decide (d.prio>2147483647)=false:=by simpa using p1
 by_cases p2:d.hds.length>32
 ·have q2:decide ((d.hds.length:Int)>32)=true:=by simp;omega
  repeat' ((with_reducible first|apply wr|refine cpc hn ?_|fail)<;>try simp only[go_sem,seval,q0,q1,q2,A0J])
  exact A1 (by simp[T6,hnm];omega)
 have q2:decide ((d.hds.length:Int)>32)=false:=by simp;omega
 have er:T6 d=d.hds.all A2a:=by
  unfold T6;rw[hnm,show decide (0<=d.prio)=true by simp;omega,show decide (d.prio<=2147483647)=true by simp;omega,show decide (d.hds.length<=32)=true by simp;omega];rfl
 rw[er];repeat' ((with_reducible first|apply wr|refine cpc hn ?_|fail)<;>try simp only[go_sem,seval,q0,q1,q2,A0J])
 refine B6 (fun k:Nat=>[(27,N8 d.hds),(28,I64 d.hds.length),(29,I64 k)]) (fun _=>Sym.nil) (fun k _=>k<=d.hds.length/\(d.hds.take k).all A2a=true) (fun k=>d.hds.length-k) 0 (by simp[B9,tm,Tm.upd]) (Sub.nil _) ⟨A0V _,rfl⟩ ?_;rintro k cc ⟨hk,he⟩;by_cases hlt:k<d.hds.length
 ·have hd:=dtz hlt;have hg:=A0B hlt;have hw:=w64 (n:=(k:Int)+1);have hs:d.hds[k].sz<=(d.hds.map Hd.sz).sum:=P7 (A0S hlt);generalize d.hds[k]=h at hg hs;have hhs:h.sz=1+h.name.length+Pb.St.szs h.body:=rfl;have hn2:=c_IsName h.name (by omega);have hb2:=c_validHd h (by omega);have hf:=A6h A2a d.hds k _ hg;have ht:=A2w A2a d.hds k _ hg;have eh:A2a h=(decide (1<=h.trig) && decide (h.trig<=6) && (if 3<=h.trig then F1 h.name else h.name == []) && P6 h.body 1):=rfl;by_cases t3:3<=h.trig
  ·have u3:decide (h.trig≥3)=true:=by simpa using t3
   rw[if_pos t3]at eh;repeat' ((with_reducible first|refine wr ?_|refine cpc hn2 ?_|refine cpc hb2 ?_|refine wb2 ?_ ?_<;>(intro hb;try simp only[hb])|fail)<;>try simp only[go_sem,seval,hd,hg,hw,u3,D3s,h_same,A0])
   all_goals first
    |(refine A1 (congrArg DV.bool (hf ?_).symm);rw[eh];clear hf ht eh er;simp_all<;>omega)
    |(refine⟨k+1,rfl,Sub.nil _,inv ⟨by omega,?_⟩,by omega⟩;rw[ht,he,eh];clear hf ht eh er;simp_all<;>omega)
  ·have u3:decide (h.trig≥3)=false:=by simpa using t3
   rw[if_neg t3]at eh;repeat' ((with_reducible first|refine wr ?_|refine cpc hb2 ?_|refine wb2 ?_ ?_<;>(intro hb;try simp only[hb])|fail)<;>try simp only[go_sem,seval,hd,hg,hw,u3,D3s,h_same,A0])
   all_goals first
    |(refine A1 (congrArg DV.bool (hf ?_).symm);rw[eh];clear hf ht eh er;simp_all<;>omega)
    |(refine⟨k+1,rfl,Sub.nil _,inv ⟨by omega,?_⟩,by omega⟩;rw[ht,he,eh];clear hf ht eh er;simp_all<;>omega)
 have hd:=dfz hlt;have hall:=B2w A2a d.hds k (by omega) he;repeat' (apply wr<;>try simp only[go_sem,seval,hd])
 exact A1 (by rw[hall])
theorem c_V1(d:Dc)(hB:d.name.length<=1000000000):PC Tryz.prog 105 [d.v] (.bool (!R9 d)):=by
 have h:=c_validDecl d hB;have ev:d.v=.agg [I64 d.kind,.str d.name,I64 d.value,I64 d.pos]:=rfl;rw[ev]at h ⊢;refine PC.go A2 ?_;repeat' ((with_reducible first|apply wr|refine cpc h ?_|fail)<;>try simp only[go_sem,seval])
 exact A1 rfl
theorem c_V2(d:Md)(hB:d.sz<=100000000):PC Tryz.prog 108 [d.v] (.bool (!T6 d)):=by
 have h:=c_validMode d hB;have ev:d.v=.agg [.str d.name,I64 d.prio,N8 d.hds,I64 d.pos]:=rfl;rw[ev]at h ⊢;refine PC.go A2 ?_;repeat' ((with_reducible first|apply wr|refine cpc h ?_|fail)<;>try simp only[go_sem,seval])
 exact A1 rfl
theorem c_Valid(r:Ru)(hB:r.sz<=100000000):PC Tryz.prog 53 [r.v] (.bool (L1 r)):=by
 obtain⟨D,M⟩:=r;have hDs:(D.map Dc.sz).sum+(M.map Md.sz).sum<=100000000:=hB;have hDl:D.length<=(D.map Dc.sz).sum:=P8 fun x _=>by show 1<=1+_;omega
 have hMl:M.length<=(M.map Md.sz).sum:=P8 fun x _=>by show 1<=1+_+_;omega
 have h1:=c_CF_dc (f:=105) (a:=[]) (cs:=[]) (g:=fun e => !R9 e) D (by omega) rfl rfl (fun x hx=>c_V1 x (by
  have:x.sz<=(D.map Dc.sz).sum:=P7 hx;have e:x.sz=1+x.name.length:=rfl;omega))
 have h2:=c_CF_md (f:=108) (a:=[]) (cs:=[]) (g:=fun e => !T6 e) M (by omega) rfl rfl (fun x hx=>c_V2 x (by
  have:x.sz<=(M.map Md.sz).sum:=P7 hx;omega))
 rw[A9r]at h1 h2;refine PC.go A2 ?_;dsimp only[Ru.v];unfold L1;dsimp only;have e1:decide (D.length<=128) = !decide ((D.length:Int)>128):=by rw[<- decide_not];exact decide_eq_decide.2 (by omega)
 have e2:decide (M.length<=16) = !decide ((M.length:Int)>16):=by rw[<- decide_not];exact decide_eq_decide.2 (by omega)
 rw[e1,e2];generalize D.all R9=bD at *;generalize M.all T6=bM at *;repeat' ((with_reducible first|refine wr ?_|refine cpc h1 ?_|refine cpc h2 ?_|refine wb2 ?_ ?_<;>(intro hb;try simp only[hb])|fail)<;>try simp only[go_sem,seval,A0J])
 all_goals (refine A1 (congrArg DV.bool ?_);simp_all)
end Go.Proofs.YtenmhfknbopmeaaGreatDoor
set_option maxHeartbeats 4000000
namespace Go.Proofs.YtenmhfknbopmeaaGreatDoor
open Go.Eng (IC IOper DReg IFn I5)
open Go.Sym
abbrev x54:XT Tryz.prog 54:=mkF
instance t54:FT Tryz.prog 54 x54.d:=x54.ft
abbrev x110:XT Tryz.prog 110:=mkF
instance t110:FT Tryz.prog 110 x110.d:=x110.ft
abbrev x55:XT Tryz.prog 55:=mkF
instance t55:FT Tryz.prog 55 x55.d:=x55.ft
abbrev x111:XT Tryz.prog 111:=mkF
instance t111:FT Tryz.prog 111 x111.d:=x111.ft
abbrev x60:XT Tryz.prog 60:=mkF
instance t60:FT Tryz.prog 60 x60.d:=x60.ft
abbrev x56:XT Tryz.prog 56:=mkF
instance t56:FT Tryz.prog 56 x56.d:=x56.ft
abbrev x94:XT Tryz.prog 94:=mkF
instance t94:FT Tryz.prog 94 x94.d:=x94.ft
abbrev x61:XT Tryz.prog 61:=mkF
instance t61:FT Tryz.prog 61 x61.d:=x61.ft
abbrev x145:XT Tryz.prog 145:=mkF
instance t145:FT Tryz.prog 145 x145.d:=x145.ft
abbrev x114:XT Tryz.prog 114:=mkF
instance t114:FT Tryz.prog 114 x114.d:=x114.ft
abbrev x57:XT Tryz.prog 57:=mkF
instance t57:FT Tryz.prog 57 x57.d:=x57.ft
abbrev x146:XT Tryz.prog 146:=mkF
instance t146:FT Tryz.prog 146 x146.d:=x146.ft
abbrev x95:XT Tryz.prog 95:=mkF
instance t95:FT Tryz.prog 95 x95.d:=x95.ft
abbrev x112:XT Tryz.prog 112:=mkF
instance t112:FT Tryz.prog 112 x112.d:=x112.ft
abbrev x25:XT Tryz.prog 25:=mkF
instance t25:FT Tryz.prog 25 x25.d:=x25.ft
abbrev x59:XT Tryz.prog 59:=mkF
instance t59:FT Tryz.prog 59 x59.d:=x59.ft
abbrev x43:XT Tryz.prog 43:=mkF
instance t43:FT Tryz.prog 43 x43.d:=x43.ft
end Go.Proofs.YtenmhfknbopmeaaGreatDoor
set_option maxHeartbeats 8000000
namespace Go.Proofs.YtenmhfknbopmeaaGreatDoor
open Go.Eng (IC IOper DReg IFn I5)
open Go.Sym Go.Pb
theorem A9k(d:Dc):d.v=.agg [I64 d.kind,.str d.name,I64 d.value,I64 d.pos]:=rfl
theorem C2v(d:Md):d.v=.agg [.str d.name,I64 d.prio,N8 d.hds,I64 d.pos]:=rfl
theorem D1l{xs:List DV}{h sz:Nat}(hh:h<=xs.length)(hu:∀ x∈xs,x.cells.length=sz)(H:Hp):A2c H sz (.lst xs) none (some (I64 (h:Int)))=some (.lst (xs.take h)):=by
 have e:unit sz xs=true:=A0Q.2 fun x hx=>by simpa using hu x hx
 simp only[A2c,boundOf,A3Y,if_true,A2M,hh,A0V,and_self,e,Nat.sub_zero,A2X]
theorem C9s(h:Hd):h.v=.agg [I64 h.trig,.str h.name,D2 h.body,I64 h.pos]:=rfl
theorem C8i(r:Ru):(C4q r).nl=true:=by unfold C4q;split;exact D4b _;rfl
theorem C5t(r:Ru)(e:Ex):(C0n r e).nl=true:=by unfold C0n;split;exact D0n _ _;rfl
theorem C5r{e:Ex}(h:R8 e=true):∃ q,msM e=some q:=by
 unfold R8 at h;cases hm:msM e with
 |none=>rw[hm]at h;cases h
 |some q=>exact⟨q,rfl⟩
theorem B2t:B4y (inj (Value.map none))=some (none,⟨0,true,[.mnil]⟩):=rfl
abbrev beC(r:Ru):List DV:=[.snil,.snil,.snil,H8 (r.modes.map Md.prio),H8 ((r.decls.filter fun d=>d.kind=6).map Dc.value),I64 (cnD r.decls 7:Int),I64 (cnD r.decls 8:Int),.mp .s (mkK (inL (nmL r))) (mvV (inL (nmL r)))]
theorem c_begin0(r:Ru)(h1:r.decls.length<=1000000)(h2:r.modes.length<=1000000):
  AC Tryz.prog 26 [r.v] Sym.nil 0 (fun v H' _ => ∃ id,v=.ptr id 0/\H'=Sym.nil.upd id ⟨0,true,beC r⟩):=by
 obtain⟨R,hR⟩:∃ R,R=nmL r:=⟨_,rfl⟩;unfold beC;rw[<- hR];unfold nmL at hR;obtain⟨D,M⟩:=r;dsimp only at h1 h2 hR ⊢;dsimp only[Ru.v];refine AC.bodyT A2 rfl (A0A rfl) fun hfr=>?_;repeat' (apply wr<;>try simp only[go_sem,seval])
 refine B6 (fun q:Nat × NmL × Option Nat × List Int=>[(1,.ptr 0 0),(3,.ptr 2 0),(4,.mid 3),(19,F7 D),(20,I64 D.length),(21,I64 q.1)]) (fun q=>bgM D M q.2.1 (ahM (D.take q.1)) none [] q.2.2.1 q.2.2.2)
  (fun q c=>q.1<=D.length/\BN none [] q.2.2.1 q.2.2.2 c/\nmD [] [] D=nmD (D.take q.1) q.2.1 (D.drop q.1)/\q.2.2.2=((D.take q.1).filter fun d=>d.kind=6).map Dc.value) (fun q=>D.length-q.1) (0,[],none,[])
  (by simp[B9,tm,Tm.upd]) (A6e rfl rfl rfl rfl (fun i h=>by cases h) (fun i h=>by cases h)) ⟨A0V _,⟨by omega,fun i h=>(by cases h),fun i h=>(by cases h),fun i j h=>(by cases h),fun _=>rfl,fun _=>rfl⟩,rfl,rfl⟩ ?_
 rintro⟨i,l,o,vs⟩ c ⟨hk,hN,he,hvs⟩;dsimp only at hk hN he hvs ⊢;have h4c:=hN.c4;by_cases hlt:i<D.length
 ·have hd:=dtz hlt;have hg:=A0B hlt;have hw:=w64 (n:=(i:Int)+1);rw[B1g hg]at he;have hah:ahM (D.take (i+1))=ahS (ahM (D.take i)) D[i].kind:=by rw[A1F,hg];exact A6i _ _
  have hvn:((D.take (i+1)).filter fun d=>d.kind=6).map Dc.value=vs++(if D[i].kind=6 then [D[i].value] else []):=by
   rw[A1F,hg,List.filter_append,A1K, <- hvs]
   congr 1
   by_cases h:D[i].kind=6<;>simp[h]
  have hvl:vs.length<=D.length:=by
   rw[hvs,A0J];exact A0X (List.length_filter_le _ _) (by rw[A1D];omega)
  have hlk:=B7z D[i].kind (ahM (D.take i));have hmu:=C9z D[i].kind (ahM (D.take i));have hcn:=B5d (D.take i) D[i].kind;have hcl:=B4t (D.take i) D[i].kind;rw[A1D]at hcl;generalize D[i]=d at hg he hah hlk hmu hcn hcl hvn;rw[hcn]at hlk hmu;have hw2:=w64 (n:=(cnD (D.take i) d.kind:Int)+1);have hb0:=bg0 (D:=D) (M:=M) (l:=l) (a:=ahM (D.take i)) hN;have hb1:=bg1 (D:=D) (M:=M) (l:=l) (a:=ahM (D.take i)) hN;have hb2:=bg2 (D:=D) (M:=M) (l:=l) (a:=ahM (D.take i)) hN;have hb3:=bg3 (D:=D) (M:=M) (l:=l) (a:=ahM (D.take i)) hN;have hbV:=fun q (hi:o=some q)=>bgV (D:=D) (M:=M) (l:=l) (a:=ahM (D.take i)) (o2:=none) (ps:=[]) (vs:=vs) hi;have hbn:=fun j (hj:c<=j)=>bgN (D:=D) (M:=M) (l:=l) (a:=ahM (D.take i)) hN hj;have hno:=hN.no;have hho:=hN.ho;generalize hHH:bgM D M l (ahM (D.take i)) none [] o vs=HH at hb0 hb1 hb2 hb3 hbn hbV ⊢;have ne0:=B3x 0 1 2 3 c (c+1) (by omega);generalize hQ:lp _ _ _ _ _ _=Q;have tail:∀ (X:Hp) (c1:Nat) (o':Option Nat),c<c1->BN none [] o' (vs++(if d.kind=6 then [d.value] else [])) c1->(∀ i,o'=some i->i≠c)->X 0=some ⟨0,true,[F7 D,E4 M]⟩->X 1=some (A5a l) ->
    X 2=some ⟨0,true,bgC none [] o' (vs++(if d.kind=6 then [d.value] else [])) 0 0 (.mid 1)⟩->X 3=some ⟨0,true,[.mpc (.i .i64) (ahK (ahS (ahM (D.take i)) d.kind)) (ahV (ahS (ahM (D.take i)) d.kind))]⟩ ->
    X c=some ⟨0,true,[I64 d.kind,.str d.name,I64 d.value,I64 d.pos]⟩->(∀ i,o'=some i->X i=some ⟨1,true,(vs++(if d.kind=6 then [d.value] else [])).map I64⟩)->(∀ j,c1<=j->X j=none) ->
    IW Tryz.prog 139 (pz Tryz.prog 26 (.o (.i (.i (.o (.o .h)))))) ⟨tm [(1,.ptr 0 0),(3,.ptr 2 0),(4,.mid 3),(6,.ptr c 0),(7,I64 (M7 (D.take i) d)),(19,F7 D),(20,I64 D.length),(21,I64 i)],X,c1⟩ (bk 1 (sq Tryz.prog 139 (pz Tryz.prog 26 (.i (.o (.i (.i (.o .h)))))) Q)):=by
   intro X c1 o' hc1 hN' hoc x0 x1 x2 x3 xc xo xf;rw[<- hvn]at hN' x2 xo;subst hQ;cases hl:l.lookup d.name with
   |some y =>
    obtain⟨e1,e2⟩:=B1c (q:=(d.kind,M7 (D.take i) d)) hl;repeat' (apply wr<;>try simp only[go_sem,seval,x1,x2,xc,e2])
    refine⟨xf _ (by omega),?_⟩;repeat' (apply wr<;>try simp only[go_sem,seval,hw])
    refine⟨(i+1,Q0 l d.name (d.kind,M7 (D.take i) d),o',((D.take (i+1)).filter fun d=>d.kind=6).map Dc.value),by simp[],?_,inv ⟨hlt,hN'.le (by omega),he,rfl⟩,by simp only;omega⟩;dsimp only;rw[hah,e1];exact A6e x0 x1 x2 x3 (fun i h=>by cases h) xo
   |none =>
    obtain⟨e1,e2,e3⟩:=B1d (q:=(d.kind,M7 (D.take i) d)) hl;repeat' (apply wr<;>try simp only[go_sem,seval,x1,x2,xc,e3])
    refine⟨xf _ (by omega),?_⟩;repeat' (apply wr<;>try simp only[go_sem,seval,x1,x2,xc,e3,hw])
    refine⟨(i+1,Q0 l d.name (d.kind,M7 (D.take i) d),o',((D.take (i+1)).filter fun d=>d.kind=6).map Dc.value),by simp[],?_,inv ⟨hlt,hN'.le (by omega),he,rfl⟩,by simp only;omega⟩;dsimp only;rw[hah];exact A6e (by rw[hnO];exact x0) (by rw[h_same,e1]) (by rw[hnO];exact x2) (by rw[hnO];exact x3) (fun i h=>by cases h) (fun i h=>by have:=hN'.ho i h;rw[hnO];exact xo i h)
  have LL:∀ z:Int,z=M7 (D.take i) d->B9 [(1,DV.ptr 0 0),(3,.ptr 2 0),(4,.mid 3),(6,.ptr c 0),(7,I64 (M7 (D.take i) d)),(19,F7 D),(20,I64 D.length),(21,I64 i)] (tm [(1,DV.ptr 0 0),(3,.ptr 2 0),(4,.mid 3),(6,.ptr c 0),(7,I64 z),(19,F7 D),(20,I64 D.length),(21,I64 i)]):=fun z h=>by rw[h];simp[B9,tm,Tm.upd]
  by_cases k6:d.kind=6
  ·have d6:(d.kind == 6)=true:=by simpa using k6
   have hnum:M7 (D.take i) d=(cnD (D.take i) d.kind:Int):=by rw[M7,if_pos (.inl k6)]
   repeat' ((with_reducible first|refine F6 (p:=IW _ _ (pz Tryz.prog 26 (.o (.i (.i (.o (.o .h)))))) _ _) ?_|refine wr ?_|fail)<;>try simp only[go_sem,seval,hb2,hb3,hd,hg,hw2,hlk,hmu,d6,A9k,ne0,h_same,A0])
   refine A1z (E8 (cs:=vs.map I64) (fun e=>⟨S9 (hno e),by rw[hno e];rfl⟩) (fun i hi=>?_) (by rw[A0J,Nat.mul_one]) (by omega) (by omega) (by omega)) ?_
   ·have:=hho i hi;rw[hnO,hnO,hnO];exact hbV i hi
   have dm2:∀ X:Hp,delO X o 2=X 2:=fun X=>B4 (fun q hq e=>by have:=hho q hq;omega);simp only[go_sem,seval,dm2,hb2,ne0];generalize hY:Hp.upd (delO _ _) (c+1+14) _=Y;have yo:∀ j,j≠c+1+14->j≠c+1+8->(∀ q,o=some q->j≠q)->Y j=((HH.upd c ⟨0,true,[I64 d.kind,.str d.name,I64 d.value,I64 d.pos]⟩).upd 3 ⟨0,true,[.mpc (.i .i64) (ahK (ahS (ahM (D.take i)) d.kind)) (ahV (ahS (ahM (D.take i)) d.kind))]⟩) j:=fun j e1 e2 e3=>by
    rw[<- hY,h_ne e1,B4 e3,h_ne e2]
   have yl:∀ j,j<=c->(∀ q,o=some q->j≠q)->Y j=((HH.upd c ⟨0,true,[I64 d.kind,.str d.name,I64 d.value,I64 d.pos]⟩).upd 3 ⟨0,true,[.mpc (.i .i64) (ahK (ahS (ahM (D.take i)) d.kind)) (ahV (ahS (ahM (D.take i)) d.kind))]⟩) j:=fun j e1 e3=>yo j (by omega) (by omega) e3;have y0:Y 0=some ⟨0,true,[F7 D,E4 M]⟩:=by rw[yl 0 (by omega) (fun q hq=>by have:=hho q hq;omega),hnO,hnO];exact hb0
   have y1:Y 1=some (A5a l):=by rw[yl 1 (by omega) (fun q hq=>by have:=hho q hq;omega),hnO,hnO];exact hb1
   have y2:Y 2=some ⟨0,true,bgC none [] o vs 0 0 (.mid 1)⟩:=by rw[yl 2 (by omega) (fun q hq=>by have:=hho q hq;omega),hnO,hnO];exact hb2
   have y3:Y 3=some ⟨0,true,[.mpc (.i .i64) (ahK (ahS (ahM (D.take i)) d.kind)) (ahV (ahS (ahM (D.take i)) d.kind))]⟩:=by rw[yl 3 (by omega) (fun q hq=>by have:=hho q hq;omega),h_same]
   have yc:Y c=some ⟨0,true,[I64 d.kind,.str d.name,I64 d.value,I64 d.pos]⟩:=by rw[yl c (by omega) (fun q hq=>by have:=hho q hq;omega),hnO,h_same]
   have yn:∀ j,c+1<=j->j≠c+1+14->j≠c+1+8->Y j=none:=fun j hj e1 e2=>by rw[yo j e1 e2 (fun q hq=>by have:=hho q hq;omega),hnO,hnO];exact hbn _ (by omega)
   have ya:Y (c+1+14)=some ⟨1,true,vs.map I64++[I64 d.value]⟩:=by rw[<- hY,h_same]
   refine⟨yn _ (by omega) (by omega) (by omega),?_⟩;simp only[if_pos k6]at tail;have hN1:BN none [] (some (c+1+14)) (vs++[d.value]) (c+1+14+1):=hN.newV (by omega) (by omega);refine IW.stage (L:=[(1,.ptr 0 0),(3,.ptr 2 0),(4,.mid 3),(6,.ptr c 0),(7,I64 (M7 (D.take i) d)),(19,F7 D),(20,I64 D.length),(21,I64 i)]) (by rw[hnum];simp[B9,tm,Tm.upd]) (tail _ _ (some (c+1+14)) (by omega) hN1 (fun q hq=>by cases hq;omega) ?_ ?_ ?_ ?_ ?_ (fun q hq=>?_) (fun q hq=>?_))
   ·rw[hnO];exact y0
   ·rw[hnO];exact y1
   ·rw[h_same];simp[todoV]
   ·rw[hnO];exact y3
   ·rw[hnO];exact yc
   ·cases hq;rw[hnO,ya];simp
   ·rw[hnO];exact yn q (by omega) (by omega) (by omega)
  have d6:(d.kind == 6)=false:=by simpa using k6
  simp only[if_neg k6,A1B]at tail;by_cases k7:d.kind=7
  ·have d7:(d.kind == 7)=true:=by simpa using k7
   have hnum:M7 (D.take i) d=(cnD (D.take i) d.kind:Int):=by rw[M7,if_pos (.inr (.inl k7))]
   repeat' ((with_reducible first|refine F6 (p:=IW _ _ (pz Tryz.prog 26 (.o (.i (.i (.o (.o .h)))))) _ _) ?_|refine wr ?_|fail)<;>try simp only[go_sem,seval,hb3,hd,hg,hw2,hlk,hmu,d6,d7,A9k,ne0,h_same,A0])
   refine IW.stage (L:=[(1,.ptr 0 0),(3,.ptr 2 0),(4,.mid 3),(6,.ptr c 0),(7,I64 (M7 (D.take i) d)),(19,F7 D),(20,I64 D.length),(21,I64 i)]) (by rw[hnum];simp[B9,tm,Tm.upd]) (tail _ _ o (by omega) (hN.le (by omega)) (fun q hq=>by have:=hho q hq;omega) ?_ ?_ ?_ ?_ ?_ (fun q hq=>?_) (fun q hq=>?_))
   ·rw[hnO,hnO];exact hb0
   ·rw[hnO,hnO];exact hb1
   ·rw[hnO,hnO];exact hb2
   ·rw[h_same]
   ·rw[hnO,h_same]
   ·have:=hho q hq;rw[hnO,hnO];exact hbV q hq
   ·rw[hnO,hnO];exact hbn q (by omega)
  have d7:(d.kind == 7)=false:=by simpa using k7
  by_cases k8:d.kind=8
  ·have d8:(d.kind == 8)=true:=by simpa using k8
   have hnum:M7 (D.take i) d=(cnD (D.take i) d.kind:Int):=by rw[M7,if_pos (.inr (.inr k8))]
   repeat' ((with_reducible first|refine F6 (p:=IW _ _ (pz Tryz.prog 26 (.o (.i (.i (.o (.o .h)))))) _ _) ?_|refine wr ?_|fail)<;>try simp only[go_sem,seval,hb3,hd,hg,hw2,hlk,hmu,d6,d7,d8,A9k,ne0,h_same,A0])
   refine IW.stage (L:=[(1,.ptr 0 0),(3,.ptr 2 0),(4,.mid 3),(6,.ptr c 0),(7,I64 (M7 (D.take i) d)),(19,F7 D),(20,I64 D.length),(21,I64 i)]) (by rw[hnum];simp[B9,tm,Tm.upd]) (tail _ _ o (by omega) (hN.le (by omega)) (fun q hq=>by have:=hho q hq;omega) ?_ ?_ ?_ ?_ ?_ (fun q hq=>?_) (fun q hq=>?_))
   ·rw[hnO,hnO];exact hb0
   ·rw[hnO,hnO];exact hb1
   ·rw[hnO,hnO];exact hb2
   ·rw[h_same]
   ·rw[hnO,h_same]
   ·have:=hho q hq;rw[hnO,hnO];exact hbV q hq
   ·rw[hnO,hnO];exact hbn q (by omega)
  ·have d8:(d.kind == 8)=false:=by simpa using k8
   have hnum:M7 (D.take i) d=d.value:=by rw[M7,if_neg (by omega)]
   repeat' ((with_reducible first|refine F6 (p:=IW _ _ (pz Tryz.prog 26 (.o (.i (.i (.o (.o .h)))))) _ _) ?_|refine wr ?_|fail)<;>try simp only[go_sem,seval,hb3,hd,hg,hw2,hlk,hmu,d6,d7,d8,A9k,ne0,h_same,A0])
   refine IW.stage (L:=[(1,.ptr 0 0),(3,.ptr 2 0),(4,.mid 3),(6,.ptr c 0),(7,I64 (M7 (D.take i) d)),(19,F7 D),(20,I64 D.length),(21,I64 i)]) (by rw[hnum];simp[B9,tm,Tm.upd]) (tail _ _ o (by omega) (hN.le (by omega)) (fun q hq=>by have:=hho q hq;omega) ?_ ?_ ?_ ?_ ?_ (fun q hq=>?_) (fun q hq=>?_))
   ·rw[hnO,hnO];exact hb0
   ·rw[hnO,hnO];exact hb1
   ·rw[hnO,hnO];exact hb2
   ·rw[h_same]
   ·rw[hnO,h_same]
   ·have:=hho q hq;rw[hnO,hnO];exact hbV q hq
   ·rw[hnO,hnO];exact hbn q (by omega)
 have hd:=dfz hlt;have hi:i=D.length:=by omega
 subst hi;rw[A3P,nmD]at he;rw[he]at hR;rw[A1S]at hvs ⊢;clear he hlt hk;have hvl:vs.length<=D.length:=by
  rw[hvs,A0J];exact List.length_filter_le _ _
 have hb0:=bg0 (D:=D) (M:=M) (l:=l) (a:=ahM D) hN;repeat' (apply wr<;>try simp only[go_sem,seval,hd,A0J,hb0])
 obtain⟨A,hA⟩:∃ A,A=ahM D:=⟨_,rfl⟩;have hA7:=B7z 7 A;have hA8:=B7z 8 A;rw[hA,B5d]at hA7 hA8;rw[<- hA]at hb0 hA7 hA8 ⊢;clear hb0 h4c hd;refine B6 (fun q:Nat × NmL × Option Nat × List Int=>[(3,.ptr 2 0),(4,.mid 3),(86,E4 M),(87,I64 M.length),(88,I64 q.1)]) (fun q=>bgM D M q.2.1 A q.2.2.1 q.2.2.2 o vs)
  (fun q c=>q.1<=M.length/\BN q.2.2.1 q.2.2.2 o vs c/\R=nmX q.1 q.2.1 (M.drop q.1)/\q.2.2.2=(M.take q.1).map Md.prio) (fun q=>M.length-q.1) (0,l,none,[])
  (by simp[B9,tm,Tm.upd]) (Sub.refl _) ⟨A0V _,hN,hR,rfl⟩ ?_
 clear hN hR;rintro⟨i,l,o2,ps⟩ c ⟨hk,hN,he,hps⟩;dsimp only at hk hN he hps ⊢;have h4c:=hN.c4;have hb0:=bg0 (D:=D) (M:=M) (l:=l) (a:=A) hN;have hb1:=bg1 (D:=D) (M:=M) (l:=l) (a:=A) hN;have hb2:=bg2 (D:=D) (M:=M) (l:=l) (a:=A) hN;have hb3:=bg3 (D:=D) (M:=M) (l:=l) (a:=A) hN;have hbV:=fun q (hi:o=some q)=>bgV (D:=D) (M:=M) (l:=l) (a:=A) (o2:=o2) (ps:=ps) (vs:=vs) hi;have hbP:=fun q (hi:o2=some q)=>bgP (D:=D) (M:=M) (l:=l) (a:=A) hN hi;have hbn:=fun j (hj:c<=j)=>bgN (D:=D) (M:=M) (l:=l) (a:=A) hN hj;have hno:=hN.n2;have hho:=hN.h2;have hho1:=hN.ho;have hne12:=hN.ne;by_cases hlt:i<M.length
 ·have hd:=dtz hlt;have hg:=A0B hlt;have hw:=w64 (n:=(i:Int)+1);rw[B1f hg]at he;have hpn:(M.take (i+1)).map Md.prio=ps++[M[i].prio]:=by rw[A1F,hg,A1K, <- hps];rfl
  have hpl:ps.length<=M.length:=by rw[hps,A0J,A1D];omega
  generalize M[i]=d at hg he hpn;generalize hHH:bgM D M l A o2 ps o vs=HH at hb0 hb1 hb2 hb3 hbn hbV hbP ⊢;have ne0:=B3x 0 1 2 3 c (c+1) (by omega);repeat' ((with_reducible first|refine F6 (p:=IW _ _ (pz Tryz.prog 26 (.i (.i (.i (.i (.i .h)))))) _ _) ?_|refine wr ?_|fail)<;>try simp only[go_sem,seval,hb2,hd,hg,C2v,ne0,h_same,A0])
  refine A1z (E8 (cs:=ps.map I64) (fun e=>⟨S9 (hno e),by rw[hno e];rfl⟩) (fun i hi=>?_) (by rw[A0J,Nat.mul_one]) (by omega) (by omega) (by omega)) ?_
  ·have:=hho i hi
   repeat rw[hnO]
   exact hbP i hi
  have dm2:∀ X:Hp,delO X o2 2=X 2:=fun X=>B4 (fun q hq e=>by have:=hho q hq;omega);simp only[go_sem,seval,dm2,hb2,ne0];generalize hY:Hp.upd (delO _ _) (c+1+14) _=Y;have yo:∀ j,j≠c+1+14->j≠c+1+8->(∀ q,o2=some q->j≠q)->Y j=(HH.upd c ⟨0,true,[.str d.name,I64 d.prio,N8 d.hds,I64 d.pos]⟩) j:=fun j e1 e2 e3=>by
   rw[<- hY,h_ne e1,B4 e3,h_ne e2]
  have yl:∀ j,j<c->(∀ q,o2=some q->j≠q)->Y j=HH j:=fun j e1 e3=>by rw[yo j (by omega) (by omega) e3,hnO]
  have y0:Y 0=some ⟨0,true,[F7 D,E4 M]⟩:=by rw[yl 0 (by omega) (fun q hq=>by have:=hho q hq;omega)];exact hb0
  have y1:Y 1=some (A5a l):=by rw[yl 1 (by omega) (fun q hq=>by have:=hho q hq;omega)];exact hb1
  have y3:Y 3=some ⟨0,true,[.mpc (.i .i64) (ahK A) (ahV A)]⟩:=by rw[yl 3 (by omega) (fun q hq=>by have:=hho q hq;omega)];exact hb3
  have yc:Y c=some ⟨0,true,[.str d.name,I64 d.prio,N8 d.hds,I64 d.pos]⟩:=by rw[yo c (by omega) (by omega) (fun q hq=>by have:=hho q hq;omega),h_same]
  have yn:∀ j,c+1<=j->j≠c+1+14->j≠c+1+8->Y j=none:=fun j hj e1 e2=>by rw[yo j e1 e2 (fun q hq=>by have:=hho q hq;omega),hnO];exact hbn _ (by omega)
  have ya:Y (c+1+14)=some ⟨1,true,ps.map I64++[I64 d.prio]⟩:=by rw[<- hY,h_same]
  have yV:∀ q,o=some q->Y q=some ⟨1,true,vs.map I64⟩:=fun q hq=>by
   have:=hho1 q hq;rw[yl q (by omega) (fun z hz e=>hne12 z q hz hq e.symm)];exact hbV q hq
  refine⟨yn _ (by omega) (by omega) (by omega),?_⟩;obtain⟨Z,hZ⟩:∃ Z:Hp,Z=Y.upd 2 ⟨0,true,[.snil,.snil,.snil,.slc (c+1+14) 0 (ps.length+1),todoV o vs.length,I64 0,I64 0,.mid 1]⟩:=⟨_,rfl⟩;rw[<- hZ];have z0:Z 0=some ⟨0,true,[F7 D,E4 M]⟩:=by rw[hZ,hnO];exact y0
  have z1:Z 1=some (A5a l):=by rw[hZ,hnO];exact y1
  have z2:Z 2=some ⟨0,true,bgC (some (c+1+14)) (ps++[d.prio]) o vs 0 0 (.mid 1)⟩:=by rw[hZ,h_same];simp[todoV]
  have z3:Z 3=some ⟨0,true,[.mpc (.i .i64) (ahK A) (ahV A)]⟩:=by rw[hZ,hnO];exact y3
  have zc:Z c=some ⟨0,true,[.str d.name,I64 d.prio,N8 d.hds,I64 d.pos]⟩:=by rw[hZ,hnO];exact yc
  have zp:∀ q,some (c+1+14)=some q->Z q=some ⟨1,true,(ps++[d.prio]).map I64⟩:=fun q hq=>by cases hq;rw[hZ,hnO,ya];simp
  have zV:∀ q,o=some q->Z q=some ⟨1,true,vs.map I64⟩:=fun q hq=>by have:=hho1 q hq;rw[hZ,hnO];exact yV q hq
  have zn:∀ j,c+1+14+1<=j->Z j=none:=fun j hj=>by rw[hZ,hnO];exact yn j (by omega) (by omega) (by omega)
  have hN1:BN (some (c+1+14)) (ps++[d.prio]) o vs (c+1+14+1):=hN.newP (by omega) (by omega);clear hZ ya yn yV yc y0 y1 y3 yl yo hY;rw[<- hpn]at hN1 z2 zp;cases hl:l.lookup d.name with
  |some y =>
   obtain⟨e1,e2⟩:=B1c (q:=((9:Int),(i:Int))) hl;repeat' (apply wr<;>try simp only[go_sem,seval,z1,z2,zc,e2])
   refine⟨zn _ (by omega),?_⟩;repeat' (apply wr<;>try simp only[go_sem,seval,hw])
   refine⟨(i+1,Q0 l d.name (9,(i:Int)),some (c+1+14),(M.take (i+1)).map Md.prio),by simp[],?_,inv ⟨hlt,hN1.le (by omega),he,rfl⟩,by simp only;omega⟩;dsimp only;rw[e1];exact A6e z0 z1 z2 z3 zp zV
  |none =>
   obtain⟨e1,e2,e3⟩:=B1d (q:=((9:Int),(i:Int))) hl;repeat' (apply wr<;>try simp only[go_sem,seval,z1,z2,zc,e3])
   refine⟨zn _ (by omega),?_⟩;repeat' (apply wr<;>try simp only[go_sem,seval,z1,z2,zc,e3,hw])
   refine⟨(i+1,Q0 l d.name (9,(i:Int)),some (c+1+14),(M.take (i+1)).map Md.prio),by simp[],?_,inv ⟨hlt,hN1.le (by omega),he,rfl⟩,by simp only;omega⟩;dsimp only;exact A6e (by rw[hnO];exact z0) (by rw[h_same,e1]) (by rw[hnO];exact z2) (by rw[hnO];exact z3) (fun q h=>by have:=hN1.h2 q h;rw[hnO];exact zp q h) (fun q h=>by have:=hho1 q h;rw[hnO];exact zV q h)
 have hd:=dfz hlt;have hi:i=M.length:=by omega
 subst hi;rw[A3P,nmX]at he;rw[A1S]at hps;subst he;repeat' (apply wr<;>try simp only[go_sem,seval,hd,hb2,hb3,hA7,hA8])
 rw[A0, <- hps, <- hvs];have hno':=hN.no;obtain⟨Z,hZ⟩:∃ Z:Hp,Z=((Sym.nil.upd 0 ⟨0,true,[F7 D,E4 M]⟩).upd 1 (A5a R)).upd 3 ⟨0,true,[.mpc (.i .i64) (ahK A) (ahV A)]⟩:=⟨_,rfl⟩;have hz:∀ j,4<=j->Z j=none:=fun j hj=>by rw[hZ,hnO,hnO,hnO];rfl
 have e:(bgM D M R A o2 ps o vs).upd 2 ⟨0,true,[.snil,.snil,.snil,todoV o2 ps.length,todoV o vs.length,I64 (cnD D 7),I64 (cnD D 8),.mid 1]⟩ =
   optH (optH (Z.upd 2 ⟨0,true,[.snil,.snil,.snil]++[todoV o2 ps.length]++[todoV o vs.length,I64 (cnD D 7),I64 (cnD D 8),.mid 1]⟩) o2 ⟨1,true,cellsL (ps.map I64)⟩) o ⟨1,true,cellsL (vs.map I64)⟩:=by
  rw[A6c,A6c,hZ]
  funext j
  unfold bgM;cases o2<;>cases o<;>simp only[optH,Hp.upd]<;>(repeat' split)<;>first|rfl|(subst_vars;simp_all;done)|simp_all
 rw[e];have com:∀ (B P:Blk),optH (Z.upd 2 B) o2 P=(optH Z o2 P).upd 2 B:=fun B P=>by
  cases o2 with
  |none=>rfl
  |some i =>
   have:=hho i rfl
   funext j
   simp only[optH,Hp.upd]
   (repeat' split)<;>first|rfl|omega
 have one2:(todoV o2 ps.length).one=true:=by cases o2<;>rfl
 rw[com];have g1:GL (optH ((optH Z o2 ⟨1,true,cellsL (ps.map I64)⟩).upd 2 ⟨0,true,[.snil,.snil,.snil,todoV o2 ps.length]++[todoV o vs.length]++[I64 (cnD D 7),I64 (cnD D 8),.mid 1]⟩) o ⟨1,true,cellsL (vs.map I64)⟩) [.ptr 2 0]
   ((optH Z o2 ⟨1,true,cellsL (ps.map I64)⟩).upd 2 ⟨0,true,[.snil,.snil,.snil,todoV o2 ps.length]++[.lst (vs.map I64)]++[I64 (cnD D 7),I64 (cnD D 8),.mid 1]⟩) [.ptr 2 0] :=
  g_fin (fun d hd=>by simp at hd;rcases hd with rfl|rfl|rfl|rfl|rfl<;>first|rfl|exact one2) (fun e=>by rw[hno' e];rfl) (fun i hi=>⟨by have:=hho1 i hi;omega,by rw[B1 (fun q hq e=>hne12 q i hq hi e.symm)];exact hz i (hho1 i hi).1⟩) (by simp) (fun x hx=>by obtain⟨y, -,rfl⟩:=A1C.1 hx;rfl)
 have g2:GL (optH (Z.upd 2 ⟨0,true,[.snil,.snil,.snil]++[todoV o2 ps.length]++[.lst (vs.map I64),I64 (cnD D 7),I64 (cnD D 8),.mid 1]⟩) o2 ⟨1,true,cellsL (ps.map I64)⟩) [.ptr 2 0]
   (Z.upd 2 ⟨0,true,[.snil,.snil,.snil]++[.lst (ps.map I64)]++[.lst (vs.map I64),I64 (cnD D 7),I64 (cnD D 8),.mid 1]⟩) [.ptr 2 0] :=
  g_fin (fun d hd=>by simp at hd;rcases hd with rfl|rfl|rfl|rfl|rfl<;>rfl) (fun e=>by rw[hno e];rfl) (fun i hi=>⟨by have:=hho i hi;omega,hz i (hho i hi).1⟩) (by simp) (fun x hx=>by obtain⟨y, -,rfl⟩:=A1C.1 hx;rfl)
 have g3:GL (Z.upd 2 ⟨0,true,[.snil,.snil,.snil,.lst (ps.map I64),.lst (vs.map I64),I64 (cnD D 7),I64 (cnD D 8)]++[.mid 1]++[]⟩) [.ptr 2 0]
   (Sym.nil.upd 2 ⟨0,true,[.snil,.snil,.snil,.lst (ps.map I64),.lst (vs.map I64),I64 (cnD D 7),I64 (cnD D 8)]++[.mp .s (mkK (inL R)) (mvV (inL R))]++[]⟩) [.ptr 2 0] :=
  GL.frzmC (id:=1) (k:=2) (u:=0) (by rw[hnO,hZ];rfl) h_same (by omega) h_same (fun j hj=>.inl (by rw[h_ne hj];rfl))
 rw[com]at g2;exact⟨_,_,(g1.trans g2).trans g3,2,rfl,rfl⟩
theorem D4z(r:Ru):∀ d∈beC r,d.nl=true:=by
 intro d hd;simp only[beC,A1A,A1Y,or_false]at hd;rcases hd with rfl|rfl|rfl|rfl|rfl|rfl|rfl|rfl
 ·rfl
 ·rfl
 ·rfl
 ·exact A5d _
 ·exact A5d _
 ·rfl
 ·rfl
 ·unfold mkK mvV inL;simp only[DV.nl];rw[List.map_map,List.map_map];rw[show ((fun p:List UInt8 × DV=>DV.str p.1)∘fun p:List UInt8 × (Int × Int)=>(p.1,I64 p.2.2))=fun p=>DV.str p.1 from rfl,show ((fun p:List UInt8 × DV=>p.2)∘fun p:List UInt8 × (Int × Int)=>(p.1,I64 p.2.2))=fun p=>I64 p.2.2 from rfl];rw[I2 (fun _=>rfl),I2 (fun _=>rfl)];rfl
theorem c_begin(r:Ru)(h1:r.decls.length<=1000000)(h2:r.modes.length<=1000000)(H:Hp)(c:Nat):
  AC Tryz.prog 26 [r.v] H c (fun v H' c'=>v=.ptr c 0/\H'=H.upd c ⟨0,true,beC r⟩/\c'=c+1) :=
 AC.own (V:=fun id=>.ptr id 0) (c_begin0 r h1 h2) (by simp[DV.nlL,DV.nl,S7,S6]) (D4z r) (fun ρ ρ' id id' v h1 h2 h3=>by
  cases h3 with
  |ptr _ _ t q hm=>exact .ptr id' 0 t (h1▸q) hm) H c
theorem c_gather(gs:List DV)(ks vs:List DV)(nm:List UInt8->Int)(hm:∀ s,Sym.lkV (I64 0) false vs (C3 (.str s) ks 0)=some (I64 (nm s)))(hgs:gs[7]? = some (.mp .s ks vs))(D:List Dc)(M:List Md)(hs:(M.map fun m=>m.hds.length).sum+M.length<=1000000)
  (H:Hp) (c t:Nat) (ht:H t=some ⟨0,true,gs⟩) (htc:t<c) (Post:DV->Hp->Nat->Prop)
  (hend:∀ (o:Option Nat) (is:List Nat) (c1:Nat),c<=c1->PN (H.upd c ⟨0,true,[F7 D,E4 M]⟩) o is (D9 [] (hkM nm 0 M)) c1 ->
   IW Tryz.prog 68 (pz Tryz.prog 27 (.i (.o (.o (.o (.i .h)))))) ⟨tm [(5,todoV o (D9 [] (hkM nm 0 M)).length)],PM (H.upd c ⟨0,true,[F7 D,E4 M]⟩) o is (D9 [] (hkM nm 0 M)),c1⟩ (rt [.tmp 4] fun v H' c' => ∃ v2 H2,GL H' [v] H2 [v2]/\Post v2 H2 c')) :
  AC Tryz.prog 27 [.ptr t 0,.agg [F7 D,E4 M]] H c Post:=by
 refine AC.bodyT A2 rfl (A0A rfl) fun hfr=>?_;repeat' (apply wr<;>try simp only[go_sem,seval])
 obtain⟨G,hG⟩:∃ G:Hp,G=H.upd c ⟨0,true,[F7 D,E4 M]⟩:=⟨_,rfl⟩;rw[<- hG]at hend ⊢;have hGn:∀ j,c+1<=j->G j=none:=fun j hj=>by rw[hG,hnO];exact hfr j (by omega)
 have hGt:G t=some ⟨0,true,gs⟩:=by rw[hG,hnO];exact ht
 have hGc:G c=some ⟨0,true,[F7 D,E4 M]⟩:=by rw[hG,h_same]
 refine B6 (fun q:Nat × Option Nat × List Nat=>[(0,.ptr t 0),(5,todoV q.2.1 (D9 [] (hkM nm 0 (M.take q.1))).length),(13,E4 M),(14,I64 M.length),(15,I64 q.1)]) (fun q=>PM G q.2.1 q.2.2 (D9 [] (hkM nm 0 (M.take q.1))))
  (fun q cc=>c+1<=cc/\q.1<=M.length/\PN G q.2.1 q.2.2 (D9 [] (hkM nm 0 (M.take q.1))) cc) (fun q=>M.length-q.1) (0,none,[])
  (by simp[B9,tm,Tm.upd,todoV]) (Sub.refl _) ⟨A0C _,A0V _,⟨rfl,.nil,fun i hi=>(by cases hi),fun i hi=>(by cases hi),fun _=>rfl,hGn⟩⟩ ?_
 rintro⟨i,o,is⟩ cc ⟨hcc,hk,hN⟩;dsimp only at hk hN ⊢;have htl:∀ k:Nat,((M.take k).map fun m=>m.hds.length).sum<=(M.map fun m=>m.hds.length).sum:=fun k=>by
  have h:=congrArg (fun l:List Md=>(l.map fun m=>m.hds.length).sum) (A1V k M);simp only[A1K,List.sum_append]at h;omega
 have hlen:∀ (k z:Nat) (l:List Md),(hkM nm k l).length=(l.map fun m=>m.hds.length).sum:=fun k z l=>by
  induction l generalizing k with
  |nil=>rfl
  |cons m l ih=>rw[hkM,A0D,A0J,ih];simp
 have hpb:∀ q:List KB,PB q.length (D9 [] q):=fun q=>by
  have key:∀ (q:List KB) (n:Nat) (l:List B8),PB n l->PB (n+q.length) (D9 l q):=by
   intro q
   induction q with
   |nil=>intro n l h;exact h
   |cons x q ih =>
    intro n l h;have:=ih (n+1) _ (PB.add (k:=x.1) (b:=x.2) h);exact this.le (by simp only[A0N];omega)
  have:=key q 0 [] ⟨by simp,fun p hp=>by cases hp⟩
  rwa [A0Z]at this
 by_cases hlt:i<M.length
 rotate_left
 ·have hd:=dfz hlt;have hi:i=M.length:=by omega
  subst hi;rw[A1S]at hN ⊢;repeat' ((with_reducible first|refine F6 (p:=IW _ _ (pz Tryz.prog 27 (.i (.o (.o (.o (.i .h)))))) _ _) ?_|refine wr ?_|fail)<;>try simp only[go_sem,seval,hd])
  exact IW.stage (L:=[(5,todoV o (D9 [] (hkM nm 0 M)).length)]) (by simp[B9,tm,Tm.upd]) (hend o is cc (by omega) hN)
 have hd:=dtz hlt;have hg:=A0B hlt;have hw:=w64 (n:=(i:Int)+1);have hsn:=B1s nm (k:=0) hg;have hsum:=htl (i+1);rw[A1F,hg]at hsum;simp only[Option.toList_some,A1K,A0R,A1Z,List.sum_append,List.sum_cons,List.sum_nil,A2O]at hsum;generalize M[i]=x at hg hsn hsum;rw[A0Z]at hsn;have hfr0:=fun j (hj:cc<=j)=>D5g hN hj;have hz0:=hN.fr cc (A0C _);repeat' (apply wr<;>try simp only[go_sem,seval,hd,hg,C2v,A0J,h_same,A0])
 obtain⟨G1,hG1⟩:∃ G1:Hp,G1=G.upd cc ⟨0,true,[.str x.name,I64 x.prio,N8 x.hds,I64 x.pos]⟩:=⟨_,rfl⟩;have hN1:PN G1 o is (D9 [] (hkM nm 0 (M.take i))) (cc+1):=by rw[hG1];exact hN.box (A0C _) (A1I _)
 rw[hN.com (A0C _), <- hG1];have h1cc:PM G1 o is (D9 [] (hkM nm 0 (M.take i))) cc=some ⟨0,true,[.str x.name,I64 x.prio,N8 x.hds,I64 x.pos]⟩:=A9u hN1 (by rw[hG1,h_same]);have hG1t:G1 t=some ⟨0,true,gs⟩:=by rw[hG1,hnO];exact hGt
 repeat' (apply wr<;>try simp only[go_sem,seval,h1cc])
 clear h1cc;refine B6 (fun q:Nat × Option Nat × List Nat=>[(0,.ptr t 0),(5,todoV q.2.1 (D9 (D9 [] (hkM nm 0 (M.take i))) ((x.hds.take q.1).map (hdK nm i))).length),(6,I64 i),(13,E4 M),(14,I64 M.length),(15,I64 i),(21,N8 x.hds),(22,I64 x.hds.length),(23,I64 q.1)])
  (fun q=>PM G1 q.2.1 q.2.2 (D9 (D9 [] (hkM nm 0 (M.take i))) ((x.hds.take q.1).map (hdK nm i))))
  (fun q c2=>cc+1<=c2/\q.1<=x.hds.length/\PN G1 q.2.1 q.2.2 (D9 (D9 [] (hkM nm 0 (M.take i))) ((x.hds.take q.1).map (hdK nm i))) c2) (fun q=>x.hds.length-q.1) (0,o,is)
  (by simp[B9,tm,Tm.upd,D9]) (by simp only[A0Y,A1Z,D9,List.foldl_nil];exact Sub.refl _) ⟨A0C _,A0V _,by simp only[A0Y,A1Z];exact hN1⟩ ?_
 have hGN:=hN.fr;clear hN hN1 hfr0 is o;rintro⟨j,o,is⟩ c2 ⟨hc2,hkj,hN⟩;dsimp only at hkj hN ⊢;by_cases hltj:j<x.hds.length
 rotate_left
 ·have hdj:=dfz hltj;have hj:j=x.hds.length:=by omega
  subst hj;rw[A1S, <- B2y, <- hsn]at hN ⊢;repeat' (apply wr<;>try simp only[go_sem,seval,hdj,hw])
  rw[hG1]at hN ⊢;exact⟨(i+1,o,is),by simp[],A9v hz0 hN,inv ⟨by omega,hlt,hN.unbox hz0 (by omega) hGN⟩,by simp only;omega⟩
 have hdj:=dtz hltj;have hgj:=A0B hltj;have hwj:=w64 (n:=(j:Int)+1);have hsj:D9 (D9 [] (hkM nm 0 (M.take i))) ((x.hds.take (j+1)).map (hdK nm i))=G8 (hdK nm i x.hds[j]).1 (hdK nm i x.hds[j]).2 (D9 (D9 [] (hkM nm 0 (M.take i))) ((x.hds.take j).map (hdK nm i))):=by
  rw[A1F,hgj,A1K, <- C0a];rfl
 have hPB:PB 1000000 (D9 (D9 [] (hkM nm 0 (M.take i))) ((x.hds.take j).map (hdK nm i))):=by
  rw[<- B2y];refine (hpb _).le ?_;rw[A0D,A0J,hlen _ 0,A1D];omega
 generalize x.hds[j]=y at hgj hsj;generalize D9 (D9 [] (hkM nm 0 (M.take i))) ((x.hds.take j).map (hdK nm i))=l at hN hPB hsj ⊢;have hfr2:=fun j (hj:c2<=j)=>D5g hN hj;have hgt:PM G1 o is l t=some ⟨0,true,gs⟩:=A9u hN hG1t;have hlk:=hm y.name;have ne0:=U6 t c2 (c2+1+11) (by omega);repeat' (apply wr<;>try simp only[go_sem,seval,hdj,hgj,D3s,h_same,A0,ne0,hgt,hgs,hlk])
 refine⟨by and_intros<;>(repeat rw[hnO])<;>exact hfr2 _ (by omega),?_⟩;obtain⟨K,hK⟩:∃ K:Ky,K=⟨i,y.trig,nm y.name⟩:=⟨_,rfl⟩;have hKx:(hdK nm i y).1=K:=by rw[hK];rfl
 have hKb:(hdK nm i y).2=y.body:=rfl;rw[hKx,hKb]at hsj;obtain⟨G2,hG2⟩:∃ G2:Hp,G2=G1.upd c2 ⟨0,true,[I64 y.trig,.str y.name,D2 y.body,I64 y.pos]⟩:=⟨_,rfl⟩;have hz2:G1 c2=none:=hN.fr c2 (A0C _);have hN2:PN G2 o is l (c2+1):=by rw[hG2];exact hN.box (A0C _) (A1I _)
 obtain⟨G3,hG3⟩:∃ G3:Hp,G3=G2.upd (c2+1+11) (keB K):=⟨_,rfl⟩;have hz3:G2 (c2+1+11)=none:=hN2.fr _ (by omega);have hN3:PN G3 o is l (c2+1+13):=by rw[hG3];exact hN2.box (by omega) (by omega)
 have hmem:((PM G1 o is l).upd c2 ⟨0,true,[I64 y.trig,.str y.name,D2 y.body,I64 y.pos]⟩).upd (c2+1+11) ⟨0,true,[I64 (i:Int),I64 y.trig,I64 (nm y.name),I64 0]⟩=PM G3 o is l:=by
  rw[hN.com (A0C _), <- hG2,hN2.com (by omega),hG3,hK]
 rw[hmem];have hGf:∀ j,c2<=j->G1 j=none:=hN.fr;clear hmem hfr2 hgt hN hN2;have hG3e:G3 (c2+1+11)=some (keB K):=by rw[hG3,h_same]
 have hG3h:G3 c2=some ⟨0,true,[I64 y.trig,.str y.name,D2 y.body,I64 y.pos]⟩:=by rw[hG3,hnO,hG2,h_same]
 have hl6:=hPB.1;have fin:∀ (o':Option Nat) (is':List Nat) (X:Hp) (c3:Nat),c2+1+13<=c3->PN G3 o' is' (G8 K y.body l) c3->Sub (PM G3 o' is' (G8 K y.body l)) X ->
   IW Tryz.prog 68 (pz Tryz.prog 27 (.i (.i (.i (.i (.o .h)))))) ⟨tm [(0,.ptr t 0),(5,todoV o' (G8 K y.body l).length),(6,I64 i),(13,E4 M),(14,I64 M.length),(15,I64 i),(21,N8 x.hds),(22,I64 x.hds.length),(23,I64 j)],X,c3⟩
    (lp (fun q:Nat × Option Nat × List Nat=>[(0,.ptr t 0),(5,todoV q.2.1 (D9 (D9 [] (hkM nm 0 (M.take i))) ((x.hds.take q.1).map (hdK nm i))).length),(6,I64 i),(13,E4 M),(14,I64 M.length),(15,I64 i),(21,N8 x.hds),(22,I64 x.hds.length),(23,I64 q.1)])
     (fun q=>PM G1 q.2.1 q.2.2 (D9 (D9 [] (hkM nm 0 (M.take i))) ((x.hds.take q.1).map (hdK nm i))))
     (fun q c2=>cc+1<=c2/\q.1<=x.hds.length/\PN G1 q.2.1 q.2.2 (D9 (D9 [] (hkM nm 0 (M.take i))) ((x.hds.take q.1).map (hdK nm i))) c2) (fun q=>x.hds.length-q.1) (x.hds.length-j)
     (bk 2 (bk 1 (sq Tryz.prog 68 (pz Tryz.prog 27 (.o (.o (.o (.o (.i .h)))))) (lp (fun q:Nat × Option Nat × List Nat=>[(0,.ptr t 0),(5,todoV q.2.1 (D9 [] (hkM nm 0 (M.take q.1))).length),(13,E4 M),(14,I64 M.length),(15,I64 q.1)]) (fun q=>PM G q.2.1 q.2.2 (D9 [] (hkM nm 0 (M.take q.1))))
      (fun q cc=>c+1<=cc/\q.1<=M.length/\PN G q.2.1 q.2.2 (D9 [] (hkM nm 0 (M.take q.1))) cc) (fun q=>M.length-q.1) (M.length-i) (bk 0 (sq Tryz.prog 68 (pz Tryz.prog 27 (.i (.o (.o (.o (.i .h)))))) (rt [.tmp 4] fun v H' c' => ∃ v2 H2,GL H' [v] H2 [v2]/\Post v2 H2 c')))))))):=by
  intro o' is' X c3 hc3 hN' hX;repeat' (apply wr<;>try simp only[go_sem,seval,hwj])
  have hN4:PN G2 o' is' (G8 K y.body l) c3:=by
   rw[hG3]at hN';exact hN'.unbox hz3 (show c2+1<=c3 by omega) (fun q hq=>by rw[hG2,hnO];exact hGf q (by omega))
  have hS4:Sub (PM G2 o' is' (G8 K y.body l)) (PM G3 o' is' (G8 K y.body l)):=by
   rw[hG3]at hN' ⊢;exact A9v hz3 hN'
  have hS5:Sub (PM G1 o' is' (G8 K y.body l)) (PM G2 o' is' (G8 K y.body l)):=by
   rw[hG2]at hN4 ⊢;exact A9v hz2 hN4
  have hN5:PN G1 o' is' (G8 K y.body l) c3:=by
   rw[hG2]at hN4;exact hN4.unbox hz2 (show c2<=c3 by omega) hGf
  rw[<- hsj]at hN5 hS5 hS4 hX;exact⟨(j+1,o',is'),by rw[<- hsj];simp[],(fun k B hk=>hX _ _ (hS4 _ _ (hS5 _ _ hk))),inv ⟨by omega,hltj,hN5⟩,by simp only;omega⟩
 repeat' (apply wr<;>try simp only[go_sem,seval])
 refine AC.call (c_IxP K l is hl6 hN3.len _ _ (c2+1+11) o (fun i hi=>C8v hi) hN3.no (A9u hN3 hG3e) (by omega)) ?_;rintro _ _ c3 ⟨rfl,rfl⟩ hc3;have hN3':=hN3.le hc3;have hfr3:=fun j (hj:c3<=j)=>D5g hN3' hj;by_cases hx:ixP K l 0 = -1
 ·have hadd:=B1o hx y.body;have q0:decide (ixP K l 0<0)=true:=by rw[hx];rfl
  rw[hx];have hE:PM G3 o is l (c2+1+11)=some (keB K):=A9u hN3 hG3e;have hHd:PM G3 o is l c2=some ⟨0,true,[I64 y.trig,.str y.name,D2 y.body,I64 y.pos]⟩:=A9u hN3 hG3h;have hln:=Q7 (o:=o) (n:=l.length) (fun e=>by rw[hN3.no e];rfl);have ne0:=T8 c2 (c2+1+11) c3 (c3+1) (by omega);simp only[go_sem,seval];repeat' (apply wr<;>try simp only[go_sem,seval,hln,hE])
  refine O7 (E8 (cs:=ptC is l) (fun e=>⟨by rw[hN3.no e];rfl,by rw[hN3.no e];unfold ptC;cases is<;>rfl⟩) (fun q hq=>?_) (S5 hN3.len) (by omega) (by omega) (by omega)) ?_
  ·have:=hN3.fo q hq;rw[hnO];exact C8v hq
  have dm:∀ (X:Hp) (j:Nat),c3<=j\/G3 j≠none->delO X o j=X j:=fun X j hj=>B4 (fun q hq e=>by
   have:=hN3.fo q hq;rcases hj with hj|hj
   ·omega
   ·exact hj (by rw[e];exact this.2))
  simp only[go_sem,seval];obtain⟨Y,hY⟩:∃ Y:Hp,Y=(delO ((PM G3 o is l).upd c3 ⟨5,true,[I64 K.mode,I64 K.trig,I64 K.ix,I64 0,.snil]⟩) o).upd (c3+1) ⟨5,true,ptC is l++[I64 K.mode,I64 K.trig,I64 K.ix,I64 0,.snil]⟩:=⟨_,rfl⟩;rw[<- hY];have yl:Y (c3+1)=some ⟨5,true,ptC is l++[I64 K.mode,I64 K.trig,I64 K.ix,I64 0,.snil]⟩:=by rw[hY,h_same]
  have yf:∀ q B,G3 q=some B->Y q=some B:=fun q B hq=>by
   have hqc:q<c3:=A1X fun hc=>by rw[hN3'.fr q hc]at hq;cases hq
   rw[hY,hnO,dm _ _ (.inr (by rw[hq];simp)),hnO];exact A9u hN3 hq
  have yi:∀ (k q:Nat) (p:B8),is[k]? = some q->l[k]? = some p->Y q=some (bdB p.2):=fun k q p h1 h2=>by
   have h3:=hN3.fi q (A0O h1);rw[hY,hnO,B4 (fun z hz e=>h3.2.2 (by rw[e];exact hz)),hnO];exact C8w hN3 h1 h2
  have yn:∀ q,c3+1+1<=q->Y q=none:=fun q hq=>by rw[hY,hnO,dm _ _ (.inl (by omega)),hnO];exact hfr3 q (by omega)
  have yh:Y c2=some ⟨0,true,[I64 y.trig,.str y.name,D2 y.body,I64 y.pos]⟩:=yf _ _ hG3h;clear hY;have hcl:(ptC is l++[I64 K.mode,I64 K.trig,I64 K.ix,I64 0,.snil])[l.length * 5+4]? = some .snil:=by
   rw[A1W (by rw[S5 hN3.len];omega),S5 hN3.len,show l.length * 5+4-l.length * 5=4 by omega];rfl
  have hlt':l.length<l.length+1:=A1I _;have ne0:=T8 c2 (c3+1) (c3+1+1+9) (c3+1+1+14) (by omega);repeat' (apply wr<;>try simp only[go_sem,seval,yl,yh,hcl,hlt'])
  refine A1z (B5z (by omega) (by omega) (by omega)) ?_;obtain⟨D1,hD1⟩:∃ D1,D1=c3+1+1+14:=⟨_,rfl⟩;rw[<- hD1]at ne0 ⊢;have hst:∀ (X:Hp) (d:Nat),Sym.stB X d (c3+1) 1 (l.length * 5+4) (.slc D1 0 1) (some ⟨5,true,ptC is l++[I64 K.mode,I64 K.trig,I64 K.ix,I64 0,.snil]⟩)=some (.tup [],X.upd (c3+1) ⟨5,true,ptC (is++[D1]) (l++[(K,[y.body])])⟩,d):=fun X d =>
   (A9q (i:=1) rfl (by rw[A0D,S5 hN3.len];simp) rfl).trans (by rw[<- C6n hN3.len];rfl)
  simp only[go_sem,seval];refine⟨by and_intros<;>(repeat rw[hnO])<;>exact yn _ (by omega),?_⟩;simp only[go_sem,seval,hlt',yl,ne0,hst];have hnd:D1 ∉ is:=fun hm=>by have:=hN3.fi D1 hm;omega
  refine IW.stage (L:=[(0,.ptr t 0),(5,todoV (some (c3+1)) (G8 K y.body l).length),(6,I64 i),(13,E4 M),(14,I64 M.length),(15,I64 i),(21,N8 x.hds),(22,I64 x.hds.length),(23,I64 j)]) (by rw[hadd];simp[B9,tm,Tm.upd,todoV]) (fin (some (c3+1)) (is++[D1]) _ _ (by omega) ?_ ?_)
  ·rw[hadd];refine⟨by simp[hN3.len],List.nodup_append.2 ⟨hN3.nd,by simp,fun q hq z hz e=>hnd (by simp at hz;rw[<- hz, <- e];exact hq)⟩,fun q hq=>?_,fun q hq=>?_,fun e=>(by cases e),fun q hq=>hN3'.fr q (by omega)⟩
   ·rcases A1G.1 hq with hq|hq
    ·have:=hN3.fi q hq;exact⟨by omega,this.2.1,fun e=>by cases e;omega⟩
    ·simp at hq;subst hq;exact⟨by omega,hN3'.fr _ (by omega),fun e=>by cases e;omega⟩
   ·cases hq;exact⟨by omega,hN3'.fr _ (by omega)⟩
  ·rw[hadd];refine B5f (fun k q p h1 h2=>?_) (fun q hq=>?_) (fun q B hq=>?_)
   ·by_cases hkl:k<is.length
    ·rw[A2H hkl]at h1;rw[A2H (by rw[<- hN3.len];exact hkl)]at h2;have:=hN3.fi q (A0O h1);rw[hnO,hnO,hnO];exact yi k q p h1 h2
    ·have hl2:=hN3.len;rw[A1W (by omega)]at h1 h2;rw[hl2]at h1;cases hz:k-l.length with
     |zero =>
      rw[hz]at h1 h2;cases h1;cases h2;rw[hnO,h_same];rfl
     |succ z=>rw[hz]at h1;cases h1
   ·cases hq;rw[h_same]
   ·have hqc:q<c3:=A1X fun hc=>by rw[hN3'.fr q hc]at hq;cases hq
    rw[hnO,hnO,hnO];exact yf q B hq
 ·obtain⟨n,a0,b0,q,hl,hn,hix,hadd0⟩:=B1n (rfl:ixP K l 0=ixP K l 0) hx;rw[A0Z]at hix;have hadd:G8 K y.body l=l.set n (K,q++[y.body]):=by
   rw[hadd0,hl,hn,List.set_append_right _ _ (A0C _),Nat.sub_self];rfl
  have hln:l[n]? = some (K,q):=by rw[hl,hn,A1W (A0C _),Nat.sub_self];rfl
  have hnl:n<l.length:=(A0P.1 hln).1;have hni:n<is.length:=by rw[hN3.len];exact hnl
  obtain⟨i0,hi0⟩:∃ i0,is[n]? = some i0:=⟨_,A0B hni⟩;obtain⟨io,rfl⟩:∃ io,o=some io:=by
   cases o with
   |none=>have:=hN3.no rfl;rw[this]at hnl;cases hnl
   |some io=>exact⟨io,rfl⟩
  have hio:=hN3.fo io rfl;have hii:=hN3.fi i0 (A0O hi0);have hne0:i0≠io:=fun e=>hii.2.2 (by rw[e]);clear hl hadd0 hn;have q0:decide (ixP K l 0<0)=false:=by rw[hix];simp
  rw[hix]at q0 ⊢;have hql:q.length<=1000000:=hPB.2 _ (A0O hln);have hHd:PM G3 (some io) is l c2=some ⟨0,true,[I64 y.trig,.str y.name,D2 y.body,I64 y.pos]⟩:=A9u hN3 hG3h;have hLl:PM G3 (some io) is l io=some ⟨5,true,ptC is l⟩:=C8v rfl;have hcl:=C2c hN3.len hi0 hln;dsimp only at hcl;have hBd:=C8w hN3 hi0 hln;have hc2io:¬ c2=io:=fun e=>by have h:=hio.2;rw[<- e,hG3h]at h;cases h
  have ne0:=A2m c2 io c3 (c3+9) (c3+14) (by omega);simp only[go_sem,seval];repeat' (apply wr<;>try simp only[go_sem,seval,q0,hLl,hHd,hcl,hnl])
  refine A1z (E8 (o:=some i0) (cs:=q.map D2) (n:=q.length) (fun e=>by cases e) (fun z hz=>?_) (by rw[A0J,Nat.mul_one]) (by omega) (by omega) (by omega)) ?_
  ·cases hz;rw[hnO];exact hBd
  obtain⟨D1,hD1⟩:∃ D1,D1=c3+14:=⟨_,rfl⟩;rw[<- hD1]at ne0 ⊢;have hst:∀ (X:Hp) (d:Nat),Sym.stB X d io 1 (n * 5+4) (.slc D1 0 (q.length+1)) (some ⟨5,true,ptC is l⟩)=some (.tup [],X.upd io ⟨5,true,ptC (is.set n D1) (l.set n (K,q++[y.body]))⟩,d):=fun X d =>
   (A9q (i:=1) rfl (by rw[S5 hN3.len];omega) rfl).trans (by rw[<- B6g hN3.len hi0 hln (q:=(K,q++[y.body])) rfl D1];simp[DV.cells])
  have dmo:∀ X:Hp,delO X (some i0) io=X io:=fun X=>B4 (fun z hz=>by cases hz;exact fun e=>hne0 e.symm);simp only[go_sem,seval,dmo,hLl,hnl,ne0,hst];have dme:∀ (X:Hp) (z:Nat),z≠i0->delO X (some i0) z=X z:=fun X z hz=>B4 (fun w hw e=>by cases hw;exact hz e);refine⟨⟨by rw[dme _ _ (by omega),hnO];exact hfr3 _ (by omega),by rw[hnO,dme _ _ (by omega),hnO];exact hfr3 _ (by omega)⟩,?_⟩;have hnd:D1 ∉ is:=fun hm=>by have:=hN3.fi D1 hm;omega
  have hD0:G3 D1=none:=hN3'.fr _ (by omega);refine IW.stage (L:=[(0,.ptr t 0),(5,todoV (some io) (G8 K y.body l).length),(6,I64 i),(13,E4 M),(14,I64 M.length),(15,I64 i),(21,N8 x.hds),(22,I64 x.hds.length),(23,I64 j)]) (by rw[hadd,List.length_set];simp[B9,tm,Tm.upd,todoV]) (fin (some io) (is.set n D1) _ _ (by omega) ?_ ?_)
  ·rw[hadd];refine⟨by simp[hN3.len],C2q hN3.nd hnd,fun z hz=>?_,fun z hz=>?_,fun e=>(by cases e),fun z hz=>hN3'.fr z (by omega)⟩
   ·rcases List.mem_or_eq_of_mem_set hz with hz|hz
    ·have:=hN3.fi z hz;exact⟨by omega,this.2⟩
    ·subst hz;exact⟨by omega,hD0,fun e=>by cases e;omega⟩
   ·cases hz;exact⟨by omega,hio.2⟩
  ·rw[hadd];refine B5f (fun k z p h1 h2=>?_) (fun z hz=>?_) (fun z B hz=>?_)
   ·by_cases hkn:k=n
    ·subst hkn;rw[List.getElem?_set_self hni]at h1;rw[List.getElem?_set_self hnl]at h2;cases h1;cases h2;rw[hnO,h_same];simp[bdB]
    ·rw[List.getElem?_set_ne (Ne.symm hkn)]at h1 h2;have h3:=hN3.fi z (A0O h1);have h4:z≠io:=fun e=>h3.2.2 (by rw[e]);have h5:z≠i0:=fun e=>hkn (C2r hN3.nd (by rw[<- e];exact h1) hi0);rw[h_ne h4,hnO,dme _ _ h5,hnO];exact C8w hN3 h1 h2
   ·cases hz;rw[h_same]
   ·have hzc:z<c3:=A1X fun hc=>by rw[hN3'.fr z hc]at hz;cases hz
    have h4:z≠io:=fun e=>by rw[e,hio.2]at hz;cases hz
    have h5:z≠i0:=fun e=>by rw[e,hii.2.1]at hz;cases hz
    rw[h_ne h4,hnO,dme _ _ h5,hnO];exact A9u hN3 hz
end Go.Proofs.YtenmhfknbopmeaaGreatDoor
end
