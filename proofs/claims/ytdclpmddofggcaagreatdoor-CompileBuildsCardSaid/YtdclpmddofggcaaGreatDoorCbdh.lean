/-
  HELPERS of the claim: part 8 of its texts.
-/
import Derived.Test.YtdclpmddofggcaaGreatDoorCbdg
import Derived.Shelf.LaysC
import Derived.Shelf.Strconv.ParseIntPublic10
import Derived.Test.YtdclpmddofggcaaGreatDoorProg
noncomputable section
set_option linter.unusedVariables false
namespace Go.Proofs
open Go.Shelf
def Tryz.laysC174_ren:Go.Shelf.Ren:=⟨fun |174=>143 |247=>178 |245=>179 |287=>201 |279=>202 |280=>203 |281=>204 |282=>205 |321=>221 |322=>222 |316=>223 |171=>225 |205=>224 |243=>233 |246=>241 |283=>244 |284=>245 |285=>246 |286=>247 |129=>162 |317=>249 |318=>250 |319=>251 |320=>252 |337=>253 |338=>254|n=>n,fun |9=>9 |3=>3 |2=>2 |75=>180 |85=>181 |4=>4 |167=>238 |5=>5 |53=>197 |175=>239 |46=>165 |168=>241 |37=>22 |0=>0 |210=>262 |21=>21 |127=>268 |145=>271 |143=>269 |171=>275 |173=>277 |212=>280 |51=>195 |20=>20 |213=>281 |232=>282 |233=>283 |80=>27|n=>n,fun |15=>2 |16=>3 |17=>5 |18=>6 |19=>7|n=>n⟩
theorem Tryz.laysC174:Go.Proofs.LaysC.n174 Tryz.prog Tryz.laysC174_ren:={
 mixed:=i6
 f129:=Tryz.func162.trans (congrArg some (by kernel_rfl))
 f171:=Tryz.func225.trans (congrArg some (by kernel_rfl))
 f174:=Tryz.func143.trans (congrArg some (by kernel_rfl))
 f205:=Tryz.func224.trans (congrArg some (by kernel_rfl))
 f243:=Tryz.func233.trans (congrArg some (by kernel_rfl))
 f245:=Tryz.func179.trans (congrArg some (by kernel_rfl))
 f246:=Tryz.func241.trans (congrArg some (by kernel_rfl))
 f247:=Tryz.func178.trans (congrArg some (by kernel_rfl))
 f279:=Tryz.func202.trans (congrArg some (by kernel_rfl))
 f280:=Tryz.func203.trans (congrArg some (by kernel_rfl))
 f281:=Tryz.func204.trans (congrArg some (by kernel_rfl))
 f282:=Tryz.func205.trans (congrArg some (by kernel_rfl))
 f283:=Tryz.func244.trans (congrArg some (by kernel_rfl))
 f284:=Tryz.func245.trans (congrArg some (by kernel_rfl))
 f285:=Tryz.func246.trans (congrArg some (by kernel_rfl))
 f286:=Tryz.func247.trans (congrArg some (by kernel_rfl))
 f287:=Tryz.func201.trans (congrArg some (by kernel_rfl))
 f316:=Tryz.func223.trans (congrArg some (by kernel_rfl))
 f317:=Tryz.func249.trans (congrArg some (by kernel_rfl))
 f318:=Tryz.func250.trans (congrArg some (by kernel_rfl))
 f319:=Tryz.func251.trans (congrArg some (by kernel_rfl))
 f320:=Tryz.func252.trans (congrArg some (by kernel_rfl))
 f321:=Tryz.func221.trans (congrArg some (by kernel_rfl))
 f322:=Tryz.func222.trans (congrArg some (by kernel_rfl))
 f337:=Tryz.func253.trans (congrArg some (by kernel_rfl))
 f338:=Tryz.func254.trans (congrArg some (by kernel_rfl))
 t0:=Tryz.underlying0
 a0:=Tryz.isAgg0
 z0:=Tryz.sizeOf0
 v0:=Tryz.zeroValue0
 t2:=Tryz.underlying2
 a2:=Tryz.isAgg2
 z2:=Tryz.sizeOf2
 v2:=Tryz.zeroValue2
 t3:=Tryz.underlying3
 a3:=Tryz.isAgg3
 z3:=Tryz.sizeOf3
 v3:=Tryz.zeroValue3
 t4:=Tryz.underlying4
 a4:=Tryz.isAgg4
 z4:=Tryz.sizeOf4
 v4:=Tryz.zeroValue4
 t5:=Tryz.underlying5
 a5:=Tryz.isAgg5
 z5:=Tryz.sizeOf5
 v5:=Tryz.zeroValue5
 t9:=Tryz.underlying9
 a9:=Tryz.isAgg9
 z9:=Tryz.sizeOf9
 v9:=Tryz.zeroValue9
 t20:=Tryz.underlying20
 a20:=Tryz.isAgg20
 z20:=Tryz.sizeOf20
 v20:=Tryz.zeroValue20
 t21:=Tryz.underlying21
 a21:=Tryz.isAgg21
 z21:=Tryz.sizeOf21
 v21:=Tryz.zeroValue21
 t37:=Tryz.underlying22
 a37:=Tryz.isAgg22
 z37:=Tryz.sizeOf22
 v37:=Tryz.zeroValue22
 t46:=Tryz.underlying165
 a46:=Tryz.isAgg165
 z46:=Tryz.sizeOf165
 v46:=Tryz.zeroValue165
 t51:=Tryz.underlying195
 a51:=Tryz.isAgg195
 z51:=Tryz.sizeOf195
 v51:=Tryz.zeroValue195
 t53:=Tryz.underlying197
 a53:=Tryz.isAgg197
 z53:=Tryz.sizeOf197
 v53:=Tryz.zeroValue197
 t75:=Tryz.underlying180
 a75:=Tryz.isAgg180
 z75:=Tryz.sizeOf180
 v75:=Tryz.zeroValue180
 t85:=Tryz.underlying181
 a85:=Tryz.isAgg181
 z85:=Tryz.sizeOf181
 v85:=Tryz.zeroValue181
 t127:=Tryz.underlying268
 a127:=Tryz.isAgg268
 z127:=Tryz.sizeOf268
 v127:=Tryz.zeroValue268
 t143:=Tryz.underlying269
 a143:=Tryz.isAgg269
 z143:=Tryz.sizeOf269
 v143:=Tryz.zeroValue269
 t145:=Tryz.underlying271
 a145:=Tryz.isAgg271
 z145:=Tryz.sizeOf271
 v145:=Tryz.zeroValue271
 t167:=Tryz.underlying238
 a167:=Tryz.isAgg238
 z167:=Tryz.sizeOf238
 v167:=Tryz.zeroValue238
 t168:=Tryz.underlying241
 a168:=Tryz.isAgg241
 z168:=Tryz.sizeOf241
 v168:=Tryz.zeroValue241
 t171:=Tryz.underlying275
 a171:=Tryz.isAgg275
 z171:=Tryz.sizeOf275
 v171:=Tryz.zeroValue275
 t173:=Tryz.underlying277
 a173:=Tryz.isAgg277
 z173:=Tryz.sizeOf277
 v173:=Tryz.zeroValue277
 t175:=Tryz.underlying239
 a175:=Tryz.isAgg239
 z175:=Tryz.sizeOf239
 v175:=Tryz.zeroValue239
 t210:=Tryz.underlying262
 a210:=Tryz.isAgg262
 z210:=Tryz.sizeOf262
 v210:=Tryz.zeroValue262
 t212:=Tryz.underlying280
 a212:=Tryz.isAgg280
 z212:=Tryz.sizeOf280
 v212:=Tryz.zeroValue280
 t213:=Tryz.underlying281
 a213:=Tryz.isAgg281
 z213:=Tryz.sizeOf281
 t232:=Tryz.underlying282
 a232:=Tryz.isAgg282
 z232:=Tryz.sizeOf282
 v232:=Tryz.zeroValue282
 t233:=Tryz.underlying283
 a233:=Tryz.isAgg283
 z233:=Tryz.sizeOf283
 v233:=Tryz.zeroValue283
 g15:=i6
 g16:=i6
 g17:=i6
 g18:=i6
 g19:=i6
 t80:=Tryz.underlying27
 a80:=Tryz.isAgg27
 z80:=Tryz.sizeOf27
 v80:=Tryz.zeroValue27
 i0:=i6
 i2:=i6
 i3:=i6
 i4:=i6
 i5:=i6
 i9:=i6
 i20:=i6
 i21:=i6
 i37:=i6
 i46:=i6
 i51:=i6
 i53:=i6
 i75:=i6
 i80:=i6
 i85:=i6
 i127:=i6
 i143:=i6
 i145:=i6
 i167:=i6
 i168:=i6
 i171:=i6
 i173:=i6
 i175:=i6
 i210:=i6
 i212:=i6
 i232:=i6
 i233:=i6
 m15:=i6
 m16:=i6
 m17:=i6
 m18:=i6
 m19:=i6
 c0:=i6
 c2:=i6
 c3:=i6
 c4:=i6
 c5:=i6
 c9:=i6
 c20:=i6
 c21:=i6
 c37:=i6
 c46:=i6
 c51:=i6
 c53:=i6
 c75:=i6
 c80:=i6
 c85:=i6
 c127:=i6
 c143:=i6
 c145:=i6
 c167:=i6
 c168:=i6
 c171:=i6
 c173:=i6
 c175:=i6
 c210:=i6
 c212:=i6
 c213:=i6
 c232:=i6
 c233:=by kernel_rfl }
open Go.RowKit in
theorem Tryz.strconv_ParseInt_10_at64_ok(s:ByteArray)(hmax:s.size<=9223372036854775806)(v:Int)(h:Lib.parseIntB 64 s.data.toList=.ok v)(w:World):
  Calls Tryz.prog 143 #[.string s,.int .i64 10,.int .i64 64] w λe w'=>e=.returned (.tuple #[.int .i64 v,.nilIface])/\(w'=w\/∃t,w'=Lib.bytesWorld w 5 t):=Any.strconv_ParseInt_10_at64_ok Tryz.laysC174 s hmax v h w
open Go.RowKit in
theorem Tryz.strconv_ParseInt_10_at64_range(s:ByteArray)(hlim:s.size<=281474976710656)(h:Lib.parseIntB 64 s.data.toList=.range)(ev:Value)(w:World)(hv:w.cell? ⟨3,0,none⟩=some ev)(hev:ev=.nilIface\/∃te pe,ev=.iface te pe):
  Calls Tryz.prog 143 #[.string s,.int .i64 10,.int .i64 64] w λe w' => ∃N,e=.returned (.tuple #[.int .i64 (Lib.intSat 64 s.data.toList),.iface 241 (.pointer (some ⟨N,0,none⟩))])/\w.heap.size<=N/\w'.heap[N]? = some (.cells #[.string ⟨#[80,97,114,115,101,73,110,116]⟩,.string s,ev] 262 (0,0))/\Below w.heap.size w w':=Any.strconv_ParseInt_10_at64_range Tryz.laysC174 s hlim h ev w hv hev
end Go.Proofs
set_option maxHeartbeats 4000000
set_option maxRecDepth 100000
set_option linter.unusedSimpArgs false
namespace Go.Proofs.YtdclpmddofggcaaGreatDoor
open Go.Eng (IC IOper DReg IFn L4 J9)
open Go.Sym Go.Pb Go.RowKit
theorem F1d{ρ:Ren}{x:DV}{u:Value}{vs:Array Value}(hA:I1 ρ [x] vs)(h:∀y,VRel ρ x y->y=u):vs = #[u]:=by
 obtain⟨y,h1,h2⟩:=hA.get (i:=0) rfl;have hs:vs.size=1:=hA.1.symm;obtain rfl:=h y h2;cases vs with|mk l=>match l,hs,h1 with
  |[a],_,h1=>simp at h1;subst h1;rfl
theorem F1c{ρ:Ren}{x x2:DV}{u u2:Value}{vs:Array Value}(hA:I1 ρ [x,x2] vs)(h:∀y,VRel ρ x y->y=u)(h2:∀y,VRel ρ x2 y->y=u2):vs = #[u,u2]:=by
 obtain⟨y,g1,g2⟩:=hA.get (i:=0) rfl;obtain⟨z,g3,g4⟩:=hA.get (i:=1) rfl;obtain rfl:=h y g2;obtain rfl:=h2 z g4;have hs:vs.size=2:=hA.1.symm;cases vs with|mk r=>match r,hs,g1,g3 with
  |[a,b],_,h1,h3=>simp at h1 h3;subst h1 h3;rfl
theorem E7n{ρ:Ren}{x x2 x3:DV}{u u2 u3:Value}{vs:Array Value}(hA:I1 ρ [x,x2,x3] vs)(h:∀y,VRel ρ x y->y=u)(h2:∀y,VRel ρ x2 y->y=u2)(h3:∀y,VRel ρ x3 y->y=u3):vs = #[u,u2,u3]:=by
 obtain⟨y,g1,g2⟩:=hA.get (i:=0) rfl;obtain⟨z,g3,g4⟩:=hA.get (i:=1) rfl;obtain⟨q,g5,g6⟩:=hA.get (i:=2) rfl;obtain rfl:=h y g2;obtain rfl:=h2 z g4;obtain rfl:=h3 q g6;have hs:vs.size=3:=hA.1.symm;cases vs with|mk r=>match r,hs,g1,g3,g5 with
  |[a,b,c],_,h1,h3,h5=>simp at h1 h3 h5;subst h1 h3 h5;rfl
theorem c_IndexByte(s:List UInt8)(c:UInt8):PC Tryz.prog 144 [.str s,.int .u8 c.toNat] (I64 (Lib.indexByte s c)):=by
 refine PC.of_calls (by kernel_rfl) rfl rfl fun ρ w vs hf hA=>?_;rw[F1c hA (λy h=>h.str_inv) (λy h=>h.int_inv)];refine(Tryz.strings_IndexByte _ _ w).mono ?_;rintro e w' ⟨rfl,rfl⟩;refine⟨_,rfl,fun ρ'=>?_,Below.refl _ _⟩;have:((c.toNat:Int).toNat.toUInt8)=c:=by rw[A3D];exact UInt8.ofNat_toNat
 rw[this];exact .int _ _
theorem c_ParseOk(s:List UInt8)(hs:s.length<=281474976710656)(h:∀c∈s,dgB c=true)(h0:s≠[])(hv:S1 s<=9223372036854775807):PC Tryz.prog 143 [.str s,I64 10,I64 64] (.tup [I64 (S1 s),.inil]):=by
 refine PC.of_calls (by kernel_rfl) rfl rfl fun ρ w vs hf hA=>?_;rw[E7n hA (λy h=>h.str_inv) (λy h=>h.int_inv) (λy h=>h.int_inv)];refine(Tryz.strconv_ParseInt_10_at64_ok _ (by show s.toArray.size<=_;rw[A3P];omega) (S1 s:Int) (by have:=pib h h0;rw[if_pos hv]at this;exact this) w).mono ?_;rintro e w' ⟨rfl,hw⟩;refine⟨_,rfl,fun ρ'=>.tup _ _ rfl (λi x y hx hy=>?_),?_⟩
 ·match i with
  |0=>simp at hx hy;subst hx hy;exact .int _ _
  |1=>simp at hx hy;subst hx hy;exact .inil
  |_+2=>simp at hx
 ·rcases hw with rfl|⟨t,rfl⟩
  ·exact Below.refl _ _
  ·exact⟨rfl,rfl,rfl,by rw[Lib.bytesWorld_size];omega,λj hj=>Lib.bytesWorld_at_old _ _ _ _ hj⟩
theorem c_ParseBig(s:List UInt8)(hs:s.length<=281474976710656)(h:∀c∈s,dgB c=true)(h0:s≠[])(hv:9223372036854775807<S1 s):PC Tryz.prog 143 [.str s,I64 10,I64 64] (.tup [.bot,.iface 241 .bot]):=by
 refine PC.of_calls (by kernel_rfl) rfl rfl fun ρ w vs hf hA=>?_;rw[E7n hA (λy h=>h.str_inv) (λy h=>h.int_inv) (λy h=>h.int_inv)];obtain⟨r,hr,te,pe,rfl⟩ := ρ.tab _ (A0H _ (A0H _ A0M));obtain⟨e,fr,hb⟩:=hf _ _ hr;refine(Tryz.strconv_ParseInt_10_at64_range _ (by show s.toArray.size<=_;rw[A3P];omega) (by have:=pib h h0;rw[iN]at this;exact this) (.iface te pe) w ?_ (.inr ⟨te,pe,rfl⟩)).mono ?_
 ·simp only[World.cell?];have hb':w.heap[3]? = _:=hb;rw[hb'];rfl
 ·rintro e w' ⟨N,rfl, -, -,hB⟩;refine⟨_,rfl,fun ρ'=>.tup _ _ rfl (λi x y hx hy=>?_),hB⟩
  match i with
  |0=>simp at hx hy;subst hx hy;exact .bot _
  |1=>simp at hx hy;subst hx hy;exact .iface _ _ _ (.bot _)
  |_+2=>simp at hx
def C7v:List UInt8:=w8 [115,119,105,116,99,104,32,99,111,105,108,32,108,97,109,112,32,115,111,117,110,100,32,115,104,111,119,32,118,97,114,32,116,105,109,101,114,32,101,118,101,110,116,32,109,111,100,101,32,111,110,32,115,116,97,114,116,32,115,116,111,112,32,99,108,111,115,101,32,111,112,101,110,32,105,102,32,101,108,115,101,32,114,101,112,101,97,116,32,115,99,111,114,101,32,102,105,114,101,32,104,111,108,100,32,114,101,108,101,97,115,101,32,108,105,103,104,116,32,98,108,105,110,107,32,98,101,103,105,110,32,101,110,100,32,112,111,115,116,32,112,108,97,121,32,114,117,110,32,104,97,108,116,32,116,101,120,116,32,99,111,110,115,117,109,101,32,99,108,111,115,101,100,32,97,99,116,105,118,101,32,108,101,102,116,32,112,108,97,121,101,114,32,98,97,108,108,32,116,114,117,101,32,102,97,108,115,101]
theorem D8k:Lib.fields C7v=H5:=i6
theorem D8l:C7v.all (λb=>decide (b.toNat<128))=true:=i6
theorem c_Fields:PC Tryz.prog 86 [.str C7v] (.lst (H5.map DV.str)):=by
 refine PC.of_callsF (by kernel_rfl) rfl (M4 _) fun ρ w vs hf hA=>?_;rw[F1d hA (fun y h=>h.str_inv)];obtain⟨r,hr,rfl⟩ := ρ.tab _ (A0H _ A0M);obtain⟨e,fr,hb⟩:=hf _ _ hr;have ht : Lib.TabIs Tryz.prog w "strings.asciiSpace" .u8 Lib.asciiSpaceTab := by
  unfold Lib.TabIs World.var?;rw [show Tryz.prog.globalNamed "strings.asciiSpace" = some 0 by kernel_rfl]
  show(match w.heap[0]? with|some (.cells cs _ _)=>some cs|_=>none)=_;have hb':w.heap[0]? = _:=hb;rw[hb']
 refine(Tryz.strings_Fields _ w (by decide) ?_ ht).mono ?_
 ·intro j b hj;have:=A0V.1 D8l b (A0S hj);simpa using this
 ·rintro e w' ⟨rfl,rfl⟩;have hl:Lib.fields (⟨C7v.toArray⟩:ByteArray).data.toList=H5:=D8k;rw[hl];refine⟨_,w.heap.size,_,9,_,rfl,A0D _,(by show(w.heap.push _)[w.heap.size]? = _;rw[Array.getElem?_push_size]),fun ρ' hρ => VRel.strs hρ rfl (A0D _) (by decide),Below.alloc (Below.refl _ _) (A0D _) _⟩
open Go.Eng (IC IOper DReg IFn L4)
open Go.Sym Go.Pb
theorem c_skip(s:List UInt8)(hs:s.length<=140737488355328):PC Tryz.prog 40 [.str s] (I64 (skM false s)):=by
 refine PC.go A2 ?_;refine wAp ?_;refine B6 (λk:Nat=>[(0,.str s),(3,I64 k)]) (λ_=>nil) (λk _=>k<=s.length/\skM false s=k+skM false (s.drop k)) (λk=>s.length-k) 0 (by simp[B5,tm,Tm.upd]) (Sub.nil _) (by simp) ?_;rintro k c ⟨hk,he⟩;by_cases hlt:k<s.length
 ·have hd:=dtz hlt;have hg:=A0B hlt;have hw:=w64 (n:=(k:Int)+1);have hsl:=A3f (s:=s) (k:=k) hk;have hcm:=c_spanCm (s.drop k) (by rw[A1P];omega);have hle:=T3 (λc=>decide (c.toNat≠10)) (s.drop k);rw[A1P]at hle;have hw2:=w64 (n:=(k:Int)+(F3 (λc=>decide (c.toNat≠10)) (s.drop k):Nat)) (by omega) (by omega);have hsep:A2y s[k]=true->∃b,DV.int IntKind.i64 ((k:Int)+1)=I64 ((b:Nat):Int)/\Sym.Sub Sym.nil Sym.nil/\B6j (λk _=>k<=s.length/\skM false s=k+skM false (s.drop k)) b c/\s.length-b<s.length-k :=
   λh=>⟨k+1,rfl,Sub.refl _,inv ⟨b8,by rw[he,C8w hg h];omega⟩,by omega⟩
  have hc0:∀n:Nat,((s[k].toNat:Int)==(n:Int))=true->s[k].toNat=n:=λn h=>z6
  have hc1:∀n:Nat,((s[k].toNat:Int)==(n:Int))=false->s[k].toNat≠n:=λn h h2=>y7
  repeat'((with_reducible first|apply wr|refine cpc hcm ?_|refine B0 ?_ ?_|apply wb2<;>(intro hb;try simp only[hb]))<;>try simp only[go_sem,seval,hd,hg,hw,hsl,hw2])
  ·exact hsep (by simp[A2y,hc0 9 hb])
  ·exact hsep (by simp[A2y,hc0 10 hb])
  ·exact hsep (by simp[A2y,hc0 13 hb])
  ·exact hsep (by simp[A2y,hc0 32 hb])
  ·have h35:=hc0 35 hb;have h1:=C3b hg h35;exact⟨k+F3 (λc=>decide (c.toNat≠10)) (s.drop k),by simp,Sub.refl _,inv ⟨b8,by rw[he,C8y hg h35];omega⟩,by omega⟩
  ·refine A3 ?_;have h9:=hc1 9 (by assumption);have h10:=hc1 10 (by assumption);have h13:=hc1 13 (by assumption);have h32:=hc1 32 (by assumption);have h35:=hc1 35 (by assumption);rw[he,C3a hg (by simp[A2y,h9,h10,h13,h32]) h35];simp
 ·have hd:=dfz hlt;refine wAs hd ?_;refine A3 ?_;rw[he,C8x (by omega)];simp
theorem E0h(q:Option (List UInt8 × Nat)):(quV q).nl=true:=by cases q<;>rfl
theorem c_quoted(s:List UInt8)(hs:s.length<=10000000):PC Tryz.prog 93 [.str s] (quV (quA [] 1 (quM (s.drop 1)))):=by
 refine PC.ofT A2 rfl (A0C rfl) (by simp[DV.nlL,DV.nl]) (E0h _) ?_;refine wAp ?_;refine B6 (λq:Nat × Option Nat × List UInt8=>[(0,.str s),(4,todoV q.2.1 q.2.2.length),(5,I64 q.1)]) (λq=>optH Sym.nil q.2.1 ⟨1,true,bytesC q.2.2⟩)
  (λq c=>1<=q.1/\q.2.2.length<=q.1/\q.1<=s.length+1/\(q.2.1=none->q.2.2=[])/\(∀i,q.2.1=some i->i<c)/\quA [] 1 (quM (s.drop 1))=quA q.2.2 q.1 (quM (s.drop q.1))) (λq=>s.length+1-q.1) (1,none,[])
  (by simp[B5,tm,Tm.upd,todoV]) (Sub.nil _) ⟨by simp,by simp,by simp,λ_=>rfl,(λi hi=>by cases hi),rfl⟩ ?_
 rintro⟨k,o,acc⟩ c ⟨h1,hal,hk,hno,ho,he⟩;simp only at h1 hal hk hno ho he;simp only;rw[he];by_cases hlt:k<s.length
 ·have hd:=dtz hlt;have hg:=A0B hlt;have hw:IntKind.i64.wrap ((k:Int)+1)=((k+1:Nat):Int):=by rw[w6z];omega
  have hw2:IntKind.i64.wrap (((k+1:Nat):Int)+1)=((k+2:Nat):Int):=i7
  have hcv:=B7o (H:=optH Sym.nil o ⟨1,true,bytesC acc⟩) (u:=1) hno (λi hi=>by subst hi;exact A0);have hc0:∀n:Nat,((s[k].toNat:Int)==(n:Int))=true->s[k].toNat=n:=λn h=>z6
  have hc1:∀n:Nat,((s[k].toNat:Int)==(n:Int))=false->s[k].toNat≠n:=λn h h2=>y7
  by_cases hlt2:k+1<s.length
  ·have hd2:decide (((k+1:Nat):Int)≥s.length)=false:=by simp;omega
   have hg2:=A0B hlt2;have hc2:∀n:Nat,((s[k+1].toNat:Int)==(n:Int))=true->s[k+1].toNat=n:=λn h=>z6
   have hc3:∀n:Nat,((s[k+1].toNat:Int)==(n:Int))=false->s[k+1].toNat≠n:=λn h h2=>y7
   have ne0:=Q8 c (c+1) (by omega);have hap:=A6b (X:=Sym.nil) hno ho (by omega);repeat'((with_reducible first|apply wr|refine B0 ?_ ?_|apply wb2<;>(intro hb;try simp only[hb]))<;>try simp only[go_sem,seval,hd,hg,hw,hcv,hd2,hg2,hw2,ne0,hap])
   ·refine A3 ?_;rw[A1u hg (hc0 34 hb)];rfl
   ·refine A3 ?_;rw[A3g hg (hc1 34 (by assumption)) (.inl (by have:=of_decide_eq_true hb;omega))];rfl
   ·refine A3 ?_;rw[A3g hg (hc1 34 (by assumption)) (.inr (by have:=of_decide_eq_true hb;omega))];rfl
   ·refine A3 ?_;rw[A9l hg (hc0 92 (by assumption)) (λd hd=>by
     rw[hg2]at hd;cases hd;exact⟨C7p (b:=34) (by assumption),C7p (b:=92) hb⟩)];rfl
   ·have hq:=B5c (acc:=acc) hg (hc0 92 (by assumption)) hg2 (.inr (D3l (b:=92) hb));exact⟨(k+2,some (c+1),acc++[s[k+1]]),⟨o7,rfl⟩,S2 rfl,inv ⟨b8,a8,g9,(λh=>by cases h),(λi hi=>by cases hi;omega),hq⟩,by simp only;omega⟩
   ·have hq:=B5c (acc:=acc) hg (hc0 92 (by assumption)) hg2 (.inl (D3l (b:=34) hb));exact⟨(k+2,some (c+1),acc++[s[k+1]]),⟨o7,rfl⟩,S2 rfl,inv ⟨b8,a8,g9,(λh=>by cases h),(λi hi=>by cases hi;omega),hq⟩,by simp only;omega⟩
   ·have hq:=A9m (acc:=acc) hg (hc1 34 (by assumption)) (by have:=of_decide_eq_false (by assumption:decide (((s[k].toNat:Int))<32)=false);omega) (by have:=of_decide_eq_false (by assumption:decide (((s[k].toNat:Int))>126)=false);omega) (hc1 92 (by assumption));exact⟨(k+1,some (c+1),acc++[s[k]]),⟨o7,rfl⟩,S2 rfl,inv ⟨b8,a8,g9,(λh=>by cases h),(λi hi=>by cases hi;omega),hq⟩,by simp only;omega⟩
  ·have hd2:decide (((k+1:Nat):Int)≥s.length)=true:=by simp;omega
   have ne0:=Q8 c (c+1) (by omega);have hap:=A6b (X:=Sym.nil) hno ho (by omega);repeat'((with_reducible first|apply wr|refine B0 ?_ ?_|apply wb2<;>(intro hb;try simp only[hb]))<;>try simp only[go_sem,seval,hd,hg,hw,hcv,hd2,ne0,hap])
   ·refine A3 ?_;rw[A1u hg (hc0 34 hb)];rfl
   ·refine A3 ?_;rw[A3g hg (hc1 34 (by assumption)) (.inl (by have:=of_decide_eq_true hb;omega))];rfl
   ·refine A3 ?_;rw[A3g hg (hc1 34 (by assumption)) (.inr (by have:=of_decide_eq_true hb;omega))];rfl
   ·refine A3 ?_;rw[A9l hg (hc0 92 (by assumption)) (λd hd=>by rw[A2Z (by omega)]at hd;cases hd)];rfl
   ·have hq:=A9m (acc:=acc) hg (hc1 34 (by assumption)) (by have:=of_decide_eq_false (by assumption:decide (((s[k].toNat:Int))<32)=false);omega) (by have:=of_decide_eq_false (by assumption:decide (((s[k].toNat:Int))>126)=false);omega) (hc1 92 (by assumption));exact⟨(k+1,some (c+1),acc++[s[k]]),⟨o7,rfl⟩,S2 rfl,inv ⟨b8,a8,g9,(λh=>by cases h),(λi hi=>by cases hi;omega),hq⟩,by simp only;omega⟩
 ·have hd:=dfz hlt;refine wAs hd ?_;refine A3 ?_;rw[C9m (by omega)];rfl
theorem c_sign(s:List UInt8)(hs:s.length<=10000000)(h0:s≠[]):PC Tryz.prog 94 [.str s] (I64 (L0 s)):=by
 refine PC.go A2 ?_;have hix:∀c,decide (Lib.indexByte [123,125,40,41,59,44,61,43,45,42,47,37,33,60,62] c≥0)=B2t c:=λc=>E1q c
 match s,h0 with
 |[c],_ =>
  have hi:=c_IndexByte [123,125,40,41,59,44,61,43,45,42,47,37,33,60,62] c;have hx:B1l (DV.str [c]) (.int .i64 0)=some (.int .u8 (c.toNat:Int)):=rfl;repeat'((with_reducible first|apply wr|refine cpc hi ?_|refine B0 ?_ ?_|apply wb2<;>(intro hb;try simp only[hb]))<;>try simp only[go_sem,seval,hix,hx])
  all_goals(refine A3 ?_;simp[L0,hb])
 |c::d::r,_ =>
  have hi:=c_IndexByte [123,125,40,41,59,44,61,43,45,42,47,37,33,60,62] c;have hx:B1l (DV.str (c::d::r)) (.int .i64 0)=some (.int .u8 (c.toNat:Int)):=rfl;have hsl:slsR (c::d::r) none (some (DV.int .i64 2))=some (DV.str [c,d]):=B0j (s:=c::d::r) (k:=2) (by simp);have hd:decide (((r.length+1+1:Nat):Int)>1)=true:=a8
  have hk:∀a b:UInt8,([c,d] == [a,b])=(c==a&&d==b):=λa b=>by simp[A3X]
  have h2:=C2r c d;repeat'((with_reducible first|apply wr|refine cpc hi ?_|refine B0 ?_ ?_|apply wb2<;>(intro hb;try simp only[hb]))<;>try simp only[go_sem,seval,hd,hix,hx,hsl])
  all_goals(refine A3 ?_;simp_all[L0])
theorem c_Fields':PC Tryz.prog 86 [.str [115,119,105,116,99,104,32,99,111,105,108,32,108,97,109,112,32,115,111,117,110,100,32,115,104,111,119,32,118,97,114,32,116,105,109,101,114,32,101,118,101,110,116,32,109,111,100,101,32,111,110,32,115,116,97,114,116,32,115,116,111,112,32,99,108,111,115,101,32,111,112,101,110,32,105,102,32,101,108,115,101,32,114,101,112,101,97,116,32,115,99,111,114,101,32,102,105,114,101,32,104,111,108,100,32,114,101,108,101,97,115,101,32,108,105,103,104,116,32,98,108,105,110,107,32,98,101,103,105,110,32,101,110,100,32,112,111,115,116,32,112,108,97,121,32,114,117,110,32,104,97,108,116,32,116,101,120,116,32,99,111,110,115,117,109,101,32,99,108,111,115,101,100,32,97,99,116,105,118,101,32,108,101,102,116,32,112,108,97,121,101,114,32,98,97,108,108,32,116,114,117,101,32,102,97,108,115,101]] (.lst (H5.map DV.str)):=c_Fields
theorem C5o:∀k:Nat,k<38->(H5.take k).contains (H5.getD k [])=false:=by decide +kernel
theorem c_words:PC Tryz.prog 39 [] (.mp .s (H5.map DV.str) (H5.map λ_=>DV.bool true)):=by
 refine PC.ofT A2 rfl (A0C rfl) rfl (by simp only[DV.nl];rw[M4,L5 (λ_=>rfl)];rfl) ?_;have hf:=c_Fields';refine wA9 hf ?_;clear hf;refine B6 (λk:Nat=>[(1,.mid 0),(5,.lst (H5.map DV.str)),(6,I64 H5.length),(7,I64 k)]) (λk=>Sym.nil.upd 0 ⟨0,true,[.mpc .s ((H5.take k).map DV.str) ((H5.take k).map λ_=>DV.bool true)]⟩) (λk _=>k<=H5.length) (λk=>H5.length-k) 0 (by simp[B5,tm,Tm.upd]) (Sub.refl _) (by simp) ?_;rintro k c hk;have hlen:H5.length=38:=rfl;by_cases hlt:k<H5.length
 ·have hd:=dtz hlt;have hg:=A0B hlt;have hw:IntKind.i64.wrap ((k:Int)+1)=((k+1:Nat):Int):=by rw[w6z];omega
  have hn:(H5.take k).contains H5[k]=false:=by
   have:=C5o k (by omega)
   rwa [A1E,hg,A4C]at this
  have hm:=B1b hn 0;have e1:H5.take (k+1)=H5.take k++[H5[k]]:=by rw[A0R,hg];rfl
  refine wAz hd hg hw hm ?_;refine⟨k+1,rfl,?_,inv hlt,by omega⟩;rw[e1,A0P,A0P];intro j b hj;by_cases e:j=0
  ·subst e;rw[A0]at hj ⊢;exact hj
  ·rw[h_ne e]at hj;cases hj
 ·have hd:=dfz hlt;refine wAs hd ?_;rw[A0J (by omega)];exact B0u A0
abbrev A1t:DV:=.mp .s (H5.map DV.str) (H5.map λ_=>DV.bool true)
theorem c_number(c:UInt8)(r:List UInt8)(hs:(c::r).length<=10000000)(hc:dgB c=true)(hl:ltB c=false):PC Tryz.prog 92 [.str (c::r)] (nxV (C3 (c::r))):=by
 have hsp:=c_spanDg (c::r) (by omega);have hn1:1<=F3 dgB (c::r):=by simp[F3,hc]
 have hle:=T3 dgB (c::r);have hall:=B7a (p:=dgB) (c::r);have hne:(c::r).take (F3 dgB (c::r))≠[]:=by
  intro e;have:=congrArg List.length e;rw[A0W,A0L]at this;omega
 have hx:B1l (DV.str (c::r)) (.int .i64 0)=some (.int .u8 (c.toNat:Int)):=rfl;have hsl:=B0j (s:=c::r) (k:=F3 dgB (c::r)) hle;have hlen:((c::r).take (F3 dgB (c::r))).length<=281474976710656:=zaj
 have hM:C3 (c::r)=if 1<F3 dgB (c::r)/\c.toNat=48 then nxE 47
   else if 2147483647<S1 ((c::r).take (F3 dgB (c::r))) then nxE 5
   else⟨3,[],(S1 ((c::r).take (F3 dgB (c::r))):Int),F3 dgB (c::r),0⟩:=by
  rw[C3,if_neg (by rw[hl];simp),if_pos hc]
 rw[hM];generalize F3 dgB (c::r)=n at *;generalize hnv:S1 ((c::r).take n)=v at *;refine PC.ofT A2 rfl (A0C rfl) rfl (D0j _) ?_;have z1:B9g true 3 .inil (inj .nilIface)=some (.bool false):=rfl;have z2:∀(t:TypeId) (x:DV),B9g true 3 (.iface t x) (inj .nilIface)=some (.bool true):=λ_ _=>rfl;by_cases hbig:v<=9223372036854775807
 ·have hp:=c_ParseOk _ hlen hall hne (by rw[hnv];exact hbig);rw[hnv]at hp;repeat'((with_reducible first|apply wr|refine cpc hsp ?_|refine cpc hp ?_|refine B0 ?_ ?_|apply wb2<;>(intro hb;try simp only[hb]))<;>try simp only[go_sem,seval,hx,hsl,z1])
  ·rw[C9 (v:=nxV (nxE 47)) rfl];refine A3 (congrArg nxV ?_);rw[if_pos ⟨A8x (by assumption),B2d (b:=48) hb⟩]
  ·rw[C9 (v:=nxV (nxE 5)) rfl];refine A3 (congrArg nxV ?_);rw[if_neg (λh=>A4u (b:=48) (by assumption) h.2),if_pos (A8x hb)]
  ·rw[C9 (v:=nxV ⟨3,[],(v:Int),n,0⟩) rfl];refine A3 (congrArg nxV ?_);rw[if_neg (λh=>A4u (b:=48) (by assumption) h.2),if_neg (A2z hb)]
  ·rw[C9 (v:=nxV (nxE 5)) rfl];refine A3 (congrArg nxV ?_);rw[if_neg (λh=>A2z (a:=n) (b:=1) (by assumption) h.1),if_pos (A8x hb)]
  ·rw[C9 (v:=nxV ⟨3,[],(v:Int),n,0⟩) rfl];refine A3 (congrArg nxV ?_);rw[if_neg (λh=>A2z (a:=n) (b:=1) (by assumption) h.1),if_neg (A2z hb)]
 ·have hp:=c_ParseBig _ hlen hall hne (by rw[hnv];omega);repeat'((with_reducible first|apply wr|refine cpc hsp ?_|refine cpc hp ?_|refine B0 ?_ ?_|apply wb2<;>(intro hb;try simp only[hb]))<;>try simp only[go_sem,seval,hx,hsl,z2])
  ·rw[C9 (v:=nxV (nxE 47)) rfl];refine A3 (congrArg nxV ?_);rw[if_pos ⟨A8x (by assumption),B2d (b:=48) hb⟩]
  ·rw[C9 (v:=nxV (nxE 5)) rfl];refine A3 (congrArg nxV ?_);rw[if_neg (λh=>A4u (b:=48) (by assumption) h.2),iP]
  ·rw[C9 (v:=nxV (nxE 5)) rfl];refine A3 (congrArg nxV ?_);rw[if_neg (λh=>A2z (a:=n) (b:=1) (by assumption) h.1),iP]
theorem D0v(w:List UInt8):lkV (.bool false) false (H5.map λ_=>DV.bool true) (F8 (.str w) (H5.map DV.str) 0)=some (.bool (G9 w)):=by
 cases h:G9 w with
 |false=>rw[B1b h 0];rfl
 |true =>
  obtain⟨j,hj⟩:=C1h h 0;have hlt:=(B1c hj).2;rw[A0I]at hlt;rw[hj,C1o,A1G,A0B (by omega)];rfl
theorem c_next(c:UInt8)(r:List UInt8)(hs:(c::r).length<=10000000):PC Tryz.prog 41 [.str (c::r),A1t] (nxV (C3 (c::r))):=by
 have hx:B1l (DV.str (c::r)) (.int .i64 0)=some (.int .u8 (c.toNat:Int)):=rfl;have hlt:=c_letter c;have hdg:=c_digit c;have hnl:DV.nlL (H5.map λ_=>DV.bool true)=true:=L5 (λ_=>rfl) _;refine PC.ofT A2 rfl (A0C rfl) (by simp[DV.nlL,DV.nl,M4,hnl]) (D0j _) ?_;by_cases hl:ltB c=true
 ·have hsp:=c_spanPt (c::r) (by omega);have hle:=T3 ptB (c::r);have hsl:=B0j (s:=c::r) (k:=F3 ptB (c::r)) hle;have hM:C3 (c::r)=if 12<F3 ptB (c::r) then nxE 9 else⟨if G9 ((c::r).take (F3 ptB (c::r)))=true then 2 else 1,(c::r).take (F3 ptB (c::r)),0,F3 ptB (c::r),0⟩:=by
   rw[C3,if_pos hl]
  rw[hM];generalize F3 ptB (c::r)=n at *;have hlk:=D0v ((c::r).take n);repeat'((with_reducible first|apply wr|refine cpc hlt ?_|refine cpc hsp ?_|refine B0 ?_ ?_|apply wb2<;>(intro hb;try simp only[hb]))<;>try simp only[go_sem,seval,hl,hx,hsl,hlk])
  ·rw[C9 (v:=nxV (nxE 9)) rfl];refine A3 (congrArg nxV ?_);rw[if_pos (A8x hb)]
  ·rw[C9 (v:=nxV ⟨2,(c::r).take n,0,n,0⟩) rfl];refine A3 (congrArg nxV ?_);rw[if_neg (A2z (a:=n) (b:=12) (by assumption))];try(rw[hb];rfl)
  ·rw[C9 (v:=nxV ⟨1,(c::r).take n,0,n,0⟩) rfl];refine A3 (congrArg nxV ?_);rw[if_neg (A2z (a:=n) (b:=12) (by assumption))];try(rw[hb];rfl)
 have hl0:ltB c=false:=by simpa using hl
 by_cases hd:dgB c=true
 ·have hnum:=c_number c r hs hd hl0;obtain⟨x,hxx⟩:∃x,x=C3 (c::r):=⟨_,rfl⟩;rw[<- hxx]at hnum ⊢;have hnum:PC Tryz.prog 92 [.str (c::r)] (.tup [.agg [I64 x.kind,.str x.text,I64 x.value,I64 0],I64 x.n,I64 x.err]):=hnum;refine wBl hlt hdg hnum (wJ hl0 (wJ hx hd)) ?_;rw[C9 (v:=nxV x) rfl];exact A3 rfl
 have hd0:dgB c=false:=by simpa using hd
 by_cases hq:c.toNat=34
 ·have hqu:=c_quoted (c::r) hs;rw[List.drop_one,List.tail_cons]at hqu;have hb34:((c.toNat:Int)==34)=true:=by rw[hq];rfl
  cases hqr:quM r with
  |none =>
   have hM:C3 (c::r)=nxE 48:=by
    rw[C3,if_neg hl,if_neg hd,if_pos hq,hqr]
   rw[hM];rw[hqr]at hqu;have hqu:PC Tryz.prog 93 [.str (c::r)] (.tup [.str [],I64 0]):=hqu;(repeat'((with_reducible first|apply wr|refine cpc hlt ?_|refine cpc hdg ?_|refine cpc hqu ?_|refine B0 ?_ ?_|apply wb2<;>(intro hb;try simp only[hb]))<;>try simp only[go_sem,seval,hl0,hx,hd0,hb34]));rw[C9 (v:=nxV (nxE 48)) rfl];exact A3 rfl
  |some x =>
   obtain⟨t,m⟩:=x;have hM:C3 (c::r)=if 32<t.length then nxE 9 else⟨4,t,0,m+1,0⟩:=by
    rw[C3,if_neg hl,if_neg hd,if_pos hq,hqr]
   rw[hM];rw[hqr]at hqu;have hqu:PC Tryz.prog 93 [.str (c::r)] (.tup [.str t,I64 ((m+1:Nat):Int)]):=hqu;have hm0:(((m+1:Nat):Int)==0)=false:=a8
   repeat'((with_reducible first|apply wr|refine cpc hlt ?_|refine cpc hdg ?_|refine cpc hqu ?_|refine B0 ?_ ?_|apply wb2<;>(intro hb;try simp only[hb]))<;>try simp only[go_sem,seval,hl0,hx,hd0,hb34,hm0])
   ·rw[C9 (v:=nxV (nxE 9)) rfl];refine A3 (congrArg nxV ?_);rw[if_pos (A8x hb)]
   ·rw[C9 (v:=nxV ⟨4,t,0,m+1,0⟩) rfl];refine A3 (congrArg nxV ?_);rw[if_neg (A2z hb)]
 ·have hsg:=c_sign (c::r) hs (by simp);have hb34:((c.toNat:Int)==34)=false:=by simpa using (λh=>hq (by omega))
  have hle:=B7d (c::r);have hsl:=B0j (s:=c::r) (k:=L0 (c::r)) hle;have hM:C3 (c::r)=if L0 (c::r)=0 then nxE 47 else⟨5,(c::r).take (L0 (c::r)),0,L0 (c::r),0⟩:=by
   rw[C3,if_neg hl,if_neg hd,if_neg hq]
  rw[hM];generalize L0 (c::r)=n at *;repeat'((with_reducible first|apply wr|refine cpc hlt ?_|refine cpc hdg ?_|refine cpc hsg ?_|refine B0 ?_ ?_|apply wb2<;>(intro hb;try simp only[hb]))<;>try simp only[go_sem,seval,hl0,hx,hd0,hb34,hsl])
  ·rw[C9 (v:=nxV (nxE 47)) rfl];refine A3 (congrArg nxV ?_);rw[if_pos (B2d (b:=0) hb)]
  ·rw[C9 (v:=nxV ⟨5,(c::r).take n,0,n,0⟩) rfl];refine A3 (congrArg nxV ?_);rw[if_neg (A4u (b:=0) hb)]
theorem c_IsWord(s:List UInt8):PC Tryz.prog 183 [.str s] (.bool (G9 s)):=by
 refine PC.go A2 ?_;have hw:=c_words;have hlk:=D0v s;refine wBc hw hlk ?_;exact A3 rfl
theorem c_IsName(s:List UInt8)(hs:s.length<=1000000000):PC Tryz.prog 148 [.str s] (.bool (F6 s)):=by
 refine PC.go A2 ?_;have hw:=c_IsWord s;have hsp:=c_spanPt s (by omega);cases s with
 |nil =>
  refine wAp ?_;exact A3 rfl
 |cons c r =>
  have hx:B1l (DV.str (c::r)) (.int .i64 0)=some (.int .u8 (c.toNat:Int)):=rfl;have hlt:=c_letter c;have hd1:decide (((r.length+1:Nat):Int)≥1)=true:=a8
  repeat'((with_reducible first|apply wr|refine cpc hw ?_|refine cpc hsp ?_|refine cpc hlt ?_|refine B0 ?_ ?_|apply wb2<;>(intro hb;try simp only[hb]))<;>try simp only[go_sem,seval,hx,hd1])
  all_goals(refine A3 (congrArg DV.bool ?_);simp_all[F6]<;>omega)
theorem c_Scan(s:List UInt8)(hs:s.length<=200000000):PC Tryz.prog 22 [.str s] (C3e (H4 s)):=by
 refine PC.ofT A2 rfl (A0C rfl) rfl (B7g _) ?_;have hwd:=c_words;by_cases h20:20000<s.length
 ·have hd0:decide ((s.length:Int)>20000)=true:=by simp;omega
  have hM:H4 s=([],0,9):=if_pos h20;rw[hM];(repeat'((with_reducible first|apply wr|refine B0 ?_ ?_|apply wb2<;>(intro hb;try simp only[hb]))<;>try simp only[go_sem,seval,hd0]));exact A5x
 have hsk:=c_skip s (by omega);have hd0:decide ((s.length:Int)>20000)=false:=a8
 have hM:H4 s=M3 (s.length+1) s (skM false s) []:=if_neg h20;rw[hM];have hle0:=A0f false s;(repeat'((with_reducible first|apply wr|refine cpc hwd ?_|refine cpc hsk ?_|refine B0 ?_ ?_|apply wb2<;>(intro hb;try simp only[hb]))<;>try simp only[go_sem,seval,hd0]));refine B6 (λq:Nat × Nat × Option Nat × List Tok=>[(0,.str s),(5,A1t),(6,todoV q.2.2.1 q.2.2.2.length),(7,I64 q.2.1)]) (λq=>optH Sym.nil q.2.2.1 ⟨4,true,cellsL (q.2.2.2.map Tok.v)⟩)
  (λq c=>q.2.1<=s.length/\s.length<q.1+q.2.1/\q.2.2.2.length<=q.2.1/\(q.2.2.1=none->q.2.2.2=[])/\(∀i,q.2.2.1=some i->i<c)/\M3 (s.length+1) s (skM false s) []=M3 q.1 s q.2.1 q.2.2.2) (λq=>q.1) (s.length+1,skM false s,none,[])
  (by simp[B5,tm,Tm.upd,todoV]) (Sub.nil _) ⟨g9,g9,by simp,λ_=>rfl,(λi hi=>by cases hi),rfl⟩ ?_
 rintro⟨f,at_,o,acc⟩ c ⟨h1,hf,hal,hno,ho,he⟩;simp only at h1 hf hal hno ho he;simp only;rw[he];by_cases hlt:at_<s.length
 ·have hd:=dtz hlt;have hg:=A0B hlt;have hsl:=A3f (s:=s) (k:=at_) h1;have hdr:=O7 hg;have hnx:PC Tryz.prog 41 [.str (s.drop at_),A1t] (nxV (C3 (s.drop at_))):=by
   rw[hdr];exact c_next _ _ (by rw[<- hdr,A1P];omega)
  obtain⟨f,rfl⟩:∃g,f=g+1:=⟨f-1,by omega⟩;by_cases hz:(C3 (s.drop at_)).err=0
  ·have hn:=A9p hz;rw[A1P]at hn;have hst:M3 (f+1) s at_ acc=M3 f s (at_+(C3 (s.drop at_)).n+skM false (s.drop (at_+(C3 (s.drop at_)).n))) (acc++[⟨(C3 (s.drop at_)).kind,(C3 (s.drop at_)).text,(C3 (s.drop at_)).value,(at_:Int)⟩]):=by
    rw[M3,iN,if_neg (by simpa using hz)]
   rw[hst];obtain⟨x,hx⟩:∃x,x=C3 (s.drop at_):=⟨_,rfl⟩;rw[<- hx]at hnx hz hn ⊢;have hnx:PC Tryz.prog 41 [.str (s.drop at_),A1t] (.tup [.agg [I64 x.kind,.str x.text,I64 x.value,I64 0],I64 x.n,I64 x.err]):=hnx;have hz':(x.err != 0)=false:=by simpa using hz
   have hw1:IntKind.i64.wrap ((at_:Int)+x.n)=((at_+x.n:Nat):Int):=i7
   have hsl2:=A3f (s:=s) (k:=at_+x.n) (by omega);have hsk2:=c_skip (s.drop (at_+x.n)) (by rw[A1P];omega);have hkl:=A0f false (s.drop (at_+x.n));rw[A1P]at hkl;obtain⟨z,hzz⟩:∃z,z=skM false (s.drop (at_+x.n)):=⟨_,rfl⟩;rw[<- hzz]at hsk2 hkl ⊢;have hw2:IntKind.i64.wrap (((at_+x.n:Nat):Int)+z)=((at_+x.n+z:Nat):Int):=i7
   have ne0:=M7 c (c+1) (c+2) (by omega);refine wBi hnx hsk2 (wJ hd (wJ hsl (wJ hz' (wJ hw1 (wJ hsl2 (wJ hw2 ne0)))))) ?_;refine G7 (D4 (cs:=cellsL (acc.map Tok.v)) (λe=>by rw[hno e];exact⟨rfl,rfl⟩) (λi hi=>?_) (by rw[C7 (u:=4) (G4 _)];simp) (by omega) (by omega) (by omega)) ?_
   ·have:=ho i hi;rw[hnO,hnO,hnO,hnO];exact A2j hi
   refine wBj hnx hsk2 (wJ hd (wJ hsl (wJ hz' (wJ hw1 (wJ hsl2 (wJ hw2 ne0)))))) ?_;exact⟨(f,at_+x.n+z,some (c+1+1),acc++[⟨x.kind,x.text,x.value,(at_:Int)⟩]),⟨o7,rfl⟩,
    S2 (by simp only[A0P,C8];rfl),inv ⟨g9,g9,o8,(λh=>by cases h),(λi hi=>by cases hi;omega),rfl⟩,by simp only;omega⟩
  ·have hst:M3 (f+1) s at_ acc=([],(at_:Int),(C3 (s.drop at_)).err):=by
    rw[M3,iN,if_pos hz]
   rw[hst];obtain⟨x,hx⟩:∃x,x=C3 (s.drop at_):=⟨_,rfl⟩;rw[<- hx]at hnx hz ⊢;have hnx:PC Tryz.prog 41 [.str (s.drop at_),A1t] (.tup [.agg [I64 x.kind,.str x.text,I64 x.value,I64 0],I64 x.n,I64 x.err]):=hnx;have hz':(x.err != 0)=true:=by simpa using hz
   have ne0:=Q8 c (c+1) (by omega);refine wBc hnx (wJ hd (wJ hsl (wJ hz' ne0))) ?_;exact A5x
 ·have hd:=dfz hlt;refine wAs hd ?_;have hM2:M3 f s at_ acc=(acc,0,0):=by
   cases f with
   |zero=>rfl
   |succ f=>rw[M3,iP]
  rw[hM2];exact B7q (λe=>by rw[hno e];rfl) (by simp) (G4 acc)
theorem c_wordsR:PC Tryz.prog 192 [] (.lst (H5.map DV.str)):=by
 refine PC.ofT A2 rfl (A0C rfl) rfl (M4 _) ?_;refine wAp ?_;exact O6 (xs:=H5.map DV.str) (u:=1) A0 rfl rfl (N4 _) ⟨[],rfl⟩
theorem c_signsR:PC Tryz.prog 122 [] (.lst (T4.map DV.str)):=by
 refine PC.ofT A2 rfl (A0C rfl) rfl (M4 _) ?_;refine wAp ?_;exact O6 (xs:=T4.map DV.str) (u:=1) A0 rfl rfl (N4 _) ⟨[],rfl⟩
theorem c_IsWordR(s:List UInt8):PC Tryz.prog 163 [.str s] (.bool (G9 s)):=by
 refine PC.go A2 ?_;have hw:=c_wordsR;refine wA9 hw ?_;refine B6 (λk:Nat=>[(0,.str s),(3,.lst (H5.map DV.str)),(4,I64 k)]) (λ_=>nil) (λk _=>k<=H5.length/\(H5.take k).contains s=false) (λk=>H5.length-k) 0 (by simp[B5,tm,Tm.upd]) (Sub.nil _) (by simp) ?_;rintro k c ⟨hk,he⟩;have hlen:H5.length=38:=rfl;by_cases hlt:k<H5.length
 ·have hd:=dtz hlt;have hg:=A0B hlt;have hw:IntKind.i64.wrap ((k:Int)+1)=((k+1:Nat):Int):=by rw[w6z];omega
  repeat'((with_reducible first|apply wr|refine B0 ?_ ?_|apply wb2<;>(intro hb;try simp only[hb]))<;>try simp only[go_sem,seval,hd,hg,hw])
  ·refine A3 (congrArg DV.bool ?_);have:s=H5[k]:=(A1T.1 hb).symm;unfold G9;rw[List.contains_iff_mem.2 (by rw[this];exact A0K hlt)]
  ·refine⟨k+1,rfl,Sub.refl _,inv ⟨hlt,?_⟩,by omega⟩;rw[A0R,hg,List.contains_append,he];have:¬s=H5[k]:=λe=>by rw[e]at hb;simp at hb
   simpa using this
 ·have hd:=dfz hlt;refine wAs hd ?_;refine A3 (congrArg DV.bool ?_);rw[A0J (by omega)]at he;exact he.symm
theorem c_skipR(s:List UInt8)(hs:s.length<=1000000000)(i:Nat)(hi:i<=s.length):PC Tryz.prog 67 [.str s,I64 i] (I64 ((i+skM false (s.drop i):Nat):Int)):=by
 refine PC.go A2 ?_;refine wAp ?_;refine B6 (λk:Nat=>[(0,.str s),(1,I64 k)]) (λ_=>nil) (λk _=>k<=s.length/\i+skM false (s.drop i)=k+skM false (s.drop k)) (λk=>s.length-k) i (by simp[B5,tm,Tm.upd]) (Sub.nil _) ⟨hi,rfl⟩ ?_;rintro k c ⟨hk,he⟩;by_cases hlt:k<s.length
 ·have hd:=dtz hlt;have hg:=A0B hlt;have hw:=w64 (n:=(k:Int)+1);have hsep:A2y s[k]=true->∃b,DV.int IntKind.i64 ((k:Int)+1)=I64 ((b:Nat):Int)/\Sym.Sub Sym.nil Sym.nil/\B6j (λk _=>k<=s.length/\i+skM false (s.drop i)=k+skM false (s.drop k)) b c/\s.length-b<s.length-k :=
   λh=>⟨k+1,rfl,Sub.refl _,inv ⟨b8,by rw[he,C8w hg h];omega⟩,by omega⟩
  repeat'((with_reducible first|apply wr|refine B0 ?_ ?_|apply wb2<;>(intro hb;try simp only[hb]))<;>try simp only[go_sem,seval,hd,hg,hw])
  ·have h35:=B2d (b:=35) hb;have h1:=C3b hg h35;have h2:=C8y hg h35;refine B6 (λj:Nat=>[(0,.str s),(1,I64 ((k+j:Nat):Int))]) (λ_=>nil) (λj _=>k+j<=s.length/\j<=F3 (λc=>decide (c.toNat≠10)) (s.drop k)) (λj=>s.length-(k+j)) 0 (by simp[B5,tm,Tm.upd]) (Sub.nil _) (by simp;omega) ?_;rintro j c ⟨hkj,hej⟩;have hend:F3 (λc=>decide (c.toNat≠10)) (s.drop k)=j->∃b,I64 ((k+j:Nat):Int)=I64 ((b:Nat):Int)/\Sym.Sub Sym.nil Sym.nil/\B6j (λk _=>k<=s.length/\i+skM false (s.drop i)=k+skM false (s.drop k)) b c/\s.length-b<s.length-k:=by
    intro e;rw[e]at h1 h2;exact⟨k+j,rfl,Sub.refl _,inv ⟨hkj,by rw[he,h2];omega⟩,by omega⟩
   by_cases hlt2:k+j<s.length
   ·have hd2:decide (((k+j:Nat):Int)<s.length)=true:=by simp;omega
    have hg2:=A0B hlt2;have hw2:IntKind.i64.wrap (((k+j:Nat):Int)+1)=((k+(j+1):Nat):Int):=i7
    have hst:=B0i hg2 hej;repeat'((with_reducible first|apply wr|refine B0 ?_ ?_|apply wb2<;>(intro hb;try simp only[hb]))<;>try simp only[go_sem,seval,hd2,hg2,hw2])
    ·exact⟨j+1,rfl,Sub.refl _,inv ⟨hlt2,hst.1 (by simpa using C7p (b:=10) hb)⟩,by omega⟩
    ·exact hend (hst.2 (by simpa using D3l (b:=10) hb))
   ·have hd2:decide (((k+j:Nat):Int)<s.length)=false:=by simp;omega
    refine wAs hd2 ?_;exact hend (A7b (by omega) hej)
  ·exact hsep (by simp[A2y,B2d (b:=9) hb])
  ·exact hsep (by simp[A2y,B2d (b:=10) hb])
  ·exact hsep (by simp[A2y,B2d (b:=13) hb])
  ·exact hsep (by simp[A2y,B2d (b:=32) hb])
  ·refine A3 ?_;have h9:=A4u (a:=s[k].toNat) (b:=9) (by assumption);have h10:=A4u (a:=s[k].toNat) (b:=10) (by assumption);have h13:=A4u (a:=s[k].toNat) (b:=13) (by assumption);have h32:=A4u (a:=s[k].toNat) (b:=32) (by assumption);have h35:=A4u (a:=s[k].toNat) (b:=35) (by assumption);rw[he,C3a hg (by simp[A2y,h9,h10,h13,h32]) h35];simp
 ·have hd:=dfz hlt;refine wAs hd ?_;refine A3 ?_;rw[he,C8x (by omega)];simp
theorem c_wordR(s:List UInt8)(hs:s.length<=1000000000)(i:Nat)(hi:i<s.length)(hl:ltB s[i]=true):PC Tryz.prog 118 [.str s,I64 i] (nxR (C3 (s.drop i)) i):=by
 have hM:C3 (s.drop i)=if 12<F3 ptB (s.drop i) then nxE 9 else⟨if G9 ((s.drop i).take (F3 ptB (s.drop i)))=true then 2 else 1,(s.drop i).take (F3 ptB (s.drop i)),0,F3 ptB (s.drop i),0⟩:=by
  rw[O7 (A0B hi),C3,if_pos hl]
 rw[hM];have hle:=T3 ptB (s.drop i);rw[A1P]at hle;refine PC.ofT A2 rfl (A0C rfl) rfl (C1b _ _) ?_;refine wAp ?_;refine B6 (λj:Nat=>[(0,.str s),(1,I64 i),(4,.ptr 0 0),(7,I64 ((i+j:Nat):Int))]) (λ_=>Sym.nil.upd 0 ⟨0,true,[I64 0,.str [],I64 0,I64 0]⟩) (λj cc=>1<=cc/\i+j<=s.length/\j<=F3 ptB (s.drop i)) (λj=>s.length-(i+j)) 0 (by simp[B5,tm,Tm.upd]) (Sub.refl _) (by simp;omega) ?_;rintro j c ⟨h1c,hk,he⟩;have hw2:IntKind.i64.wrap (((i+j:Nat):Int)-i)=(j:Int):=i7
 have hsx:=B7b hk;have hiw:=c_IsWordR ((s.drop i).take j);have hR9:F3 ptB (s.drop i)=j->12<j->Y7 9 i=nxR (if 12<F3 ptB (s.drop i) then nxE 9 else⟨if G9 ((s.drop i).take (F3 ptB (s.drop i)))=true then 2 else 1,(s.drop i).take (F3 ptB (s.drop i)),0,F3 ptB (s.drop i),0⟩) i:=by
  intro e h;rw[e,if_pos h,A6e (by decide)]
 have hRw:F3 ptB (s.drop i)=j->¬ 12<j->G9 ((s.drop i).take j)=true->okN 2 ((s.drop i).take j) 0 i j=nxR (if 12<F3 ptB (s.drop i) then nxE 9 else⟨if G9 ((s.drop i).take (F3 ptB (s.drop i)))=true then 2 else 1,(s.drop i).take (F3 ptB (s.drop i)),0,F3 ptB (s.drop i),0⟩) i:=by
  intro e h h2;rw[e,if_neg h,B0w,if_pos h2]
 have hRn:F3 ptB (s.drop i)=j->¬ 12<j->G9 ((s.drop i).take j)=false->okN 1 ((s.drop i).take j) 0 i j=nxR (if 12<F3 ptB (s.drop i) then nxE 9 else⟨if G9 ((s.drop i).take (F3 ptB (s.drop i)))=true then 2 else 1,(s.drop i).take (F3 ptB (s.drop i)),0,F3 ptB (s.drop i),0⟩) i:=by
  intro e h h2;rw[e,if_neg h,B0w,if_neg (by rw[h2];simp)]
 by_cases hlt:i+j<s.length
 ·have hd:decide (((i+j:Nat):Int)<s.length)=true:=by simp;omega
  have hg:=A0B hlt;have hw:IntKind.i64.wrap (((i+j:Nat):Int)+1)=((i+(j+1):Nat):Int):=i7
  have h1:=c_letterR s[i+j];have h2:=c_digitR s[i+j];have hst:=B0i hg he;have hlp:ptB s[i+j]=true->∃b,DV.int IntKind.i64 ((i+(j+1):Nat):Int)=I64 ((i+b:Nat):Int)/\Sym.Sub (Sym.nil.upd 0 ⟨0,true,[I64 0,.str [],I64 0,I64 0]⟩) (Sym.nil.upd 0 ⟨0,true,[I64 0,.str [],I64 0,I64 0]⟩) /\
    B6j (λj cc=>1<=cc/\i+j<=s.length/\j<=F3 ptB (s.drop i)) b c/\s.length-(i+b)<s.length-(i+j) :=
   λh=>⟨j+1,rfl,Sub.refl _,inv ⟨h1c,hlt,hst.1 h⟩,by omega⟩
  have ne0:=Q8 c 0 (by omega);repeat'((with_reducible first|apply wr|refine cpc h1 ?_|refine cpc h2 ?_|refine cpc hiw ?_|refine B0 ?_ ?_|apply wb2<;>(intro hb;try simp only[hb]))<;>try simp only[go_sem,seval,hd,hg,hw,hw2,hsx,ne0])
  ·exact hlp (by simp[ptB,hb])
  ·exact hlp (by simp[ptB,hb])
  ·exact hlp (by simp[ptB,B2d (b:=95) hb])
  ·have hj:=hst.2 (by simp only[ptB];rw[‹ltB s[i+j]=false›, ‹dgB s[i+j]=false›];simpa using A4u (a:=s[i+j].toNat) (b:=95) (by assumption));rw[C9 (v:=Y7 9 i) rfl];exact A3 (hR9 hj (A8x hb))
  ·have hj:=hst.2 (by simp only[ptB];rw[‹ltB s[i+j]=false›, ‹dgB s[i+j]=false›];simpa using A4u (a:=s[i+j].toNat) (b:=95) (by assumption));rw[C9 (v:=okN 2 ((s.drop i).take j) 0 i j) rfl];exact A3 (hRw hj (A2z (a:=j) (b:=12) (by assumption)) hb)
  ·have hj:=hst.2 (by simp only[ptB];rw[‹ltB s[i+j]=false›, ‹dgB s[i+j]=false›];simpa using A4u (a:=s[i+j].toNat) (b:=95) (by assumption));rw[C9 (v:=okN 1 ((s.drop i).take j) 0 i j) rfl];exact A3 (hRn hj (A2z (a:=j) (b:=12) (by assumption)) hb)
 ·have hd:decide (((i+j:Nat):Int)<s.length)=false:=by simp;omega
  have hj:=A7b (p:=ptB) (s:=s) (by omega) he;have ne0:=Q8 c 0 (by omega);repeat'((with_reducible first|apply wr|refine cpc hiw ?_|refine B0 ?_ ?_|apply wb2<;>(intro hb;try simp only[hb]))<;>try simp only[go_sem,seval,hd,hw2,hsx,ne0])
  ·rw[C9 (v:=Y7 9 i) rfl];exact A3 (hR9 hj (A8x hb))
  ·rw[C9 (v:=okN 2 ((s.drop i).take j) 0 i j) rfl];exact A3 (hRw hj (A2z (a:=j) (b:=12) (by assumption)) hb)
  ·rw[C9 (v:=okN 1 ((s.drop i).take j) 0 i j) rfl];exact A3 (hRn hj (A2z (a:=j) (b:=12) (by assumption)) hb)
theorem c_numberR(s:List UInt8)(hs:s.length<=1000000000)(i:Nat)(hi:i<s.length)(hl:ltB s[i]=false)(hg0:dgB s[i]=true):PC Tryz.prog 120 [.str s,I64 i] (nxR (C3 (s.drop i)) i):=by
 have hM:C3 (s.drop i)=if 1<F3 dgB (s.drop i)/\s[i].toNat=48 then nxE 47
   else if 2147483647<S1 ((s.drop i).take (F3 dgB (s.drop i))) then nxE 5
   else⟨3,[],(S1 ((s.drop i).take (F3 dgB (s.drop i))):Int),F3 dgB (s.drop i),0⟩:=by
  have hdr:=O7 (A0B hi);have:∀r,s.drop i=s[i]::r->C3 (s.drop i)=if 1<F3 dgB (s.drop i)/\s[i].toNat=48 then nxE 47
   else if 2147483647<S1 ((s.drop i).take (F3 dgB (s.drop i))) then nxE 5
   else⟨3,[],(S1 ((s.drop i).take (F3 dgB (s.drop i))):Int),F3 dgB (s.drop i),0⟩:=by
   intro r e;rw[e,C3,if_neg (by rw[hl];simp),if_pos hg0]
  exact this _ hdr
 have hle:=T3 dgB (s.drop i);rw[A1P]at hle;obtain⟨D,hD⟩:∃D,D=s.drop i:=⟨_,rfl⟩;refine PC.ofT A2 rfl (A0C rfl) rfl (C1b _ _) ?_;refine wAp ?_;refine B6 (λj:Nat=>[(0,.str s),(1,I64 i),(4,.ptr 0 0),(7,I64 ((i+j:Nat):Int)),(8,I64 (smV (D.take j))),(9,.bool (B6e (D.take j)))]) (λ_=>Sym.nil.upd 0 ⟨0,true,[I64 0,.str [],I64 0,I64 0]⟩) (λj _=>i+j<=s.length/\j<=F3 dgB (s.drop i)) (λj=>s.length-(i+j)) 0 (by simp[B5,tm,Tm.upd,smV,B6e,S1]) (Sub.refl _) (by simp;omega) ?_;rintro j c ⟨hk,he⟩;have hw2:IntKind.i64.wrap (((i+j:Nat):Int)-i)=(j:Int):=i7
 have hgi:=A0B hi;have hRz:F3 dgB (s.drop i)=j->1<j->s[i].toNat=48->Y7 47 i=nxR (C3 (s.drop i)) i:=by
  intro e h h2;rw[hM,e,if_pos ⟨h,h2⟩,A6e (by decide)]
 have hRb:F3 dgB (s.drop i)=j->¬(1<j/\s[i].toNat=48)->B6e (D.take j)=true->Y7 5 i=nxR (C3 (s.drop i)) i:=by
  intro e h h2;rw[hM,e,if_neg h, <- hD,if_pos (of_decide_eq_true h2),A6e (by decide)]
 have hRk:F3 dgB (s.drop i)=j->¬(1<j/\s[i].toNat=48)->B6e (D.take j)=false->okN 3 [] (smV (D.take j)) i j=nxR (C3 (s.drop i)) i:=by
  intro e h h2;have h3:=of_decide_eq_false h2;rw[hM,e,if_neg h, <- hD,if_neg h3,B0w,C8v h3]
 by_cases hlt:i+j<s.length
 ·have hd:decide (((i+j:Nat):Int)<s.length)=true:=by simp;omega
  have hg:=A0B hlt;have hw:IntKind.i64.wrap (((i+j:Nat):Int)+1)=((i+(j+1):Nat):Int):=i7
  have h2:=c_digitR s[i+j];have hst:=B0i hg he;by_cases hdg:dgB s[i+j]=true
  ·rw[hdg]at h2;have hgD:D[j]? = some s[i+j]:=by rw[hD,A2G];exact hg
   have hn:=C6j hgD;have hdd:48<=s[i+j].toNat/\s[i+j].toNat<=57:=by simpa[dgB] using hdg
   obtain⟨z,hz⟩:∃z:Nat,z=s[i+j].toNat-48:=⟨_,rfl⟩;rw[<- hz]at hn;have w1:IntKind.i64.wrap (10*(smV (D.take j):Int))=((10*smV (D.take j):Nat):Int):=by have:=C8u (D.take j);rw[w6z];omega
   have w2:IntKind.u8.wrap ((s[i+j].toNat:Int)-48)=(z:Int):=by rw[wu8 (by omega) (by omega)];omega
   have w3:IntKind.i64.wrap (z:Int)=(z:Int):=w6z;have w4:IntKind.i64.wrap (((10*smV (D.take j):Nat):Int)+z)=((10*smV (D.take j)+z:Nat):Int):=by have:=C8u (D.take j);rw[w6z];omega
   by_cases hbg:2147483647<S1 (D.take j)
   ·have hb1:B6e (D.take j)=true:=decide_eq_true hbg;have e1:B6e (D.take (j+1))=true:=decide_eq_true (by omega);have e2:smV (D.take (j+1))=0:=D7k (by omega);rw[hb1];refine wBc h2 (wJ hd (wJ hg (wJ hw (wJ w1 (wJ w2 (wJ w3 w4)))))) ?_;exact⟨j+1,⟨rfl,by rw[e2];rfl,by rw[e1]⟩,Sub.refl _,inv ⟨hlt,hst.1 hdg⟩,by omega⟩
   ·have hb1:B6e (D.take j)=false:=decide_eq_false hbg;have hs1:=C8v hbg;rw[hb1];by_cases hbn:2147483647<S1 (D.take (j+1))
    ·have e1:B6e (D.take (j+1))=true:=decide_eq_true hbn;have e2:smV (D.take (j+1))=0:=D7k hbn;have hd5:decide (((10*smV (D.take j)+z:Nat):Int)>2147483647)=true:=by simp only[A0Q];omega
     refine wBc h2 (wJ hd (wJ hg (wJ hw (wJ w1 (wJ w2 (wJ w3 (wJ w4 hd5))))))) ?_;exact⟨j+1,⟨rfl,by rw[e2];rfl,by rw[e1]⟩,Sub.refl _,inv ⟨hlt,hst.1 hdg⟩,by omega⟩
    ·have e1:B6e (D.take (j+1))=false:=decide_eq_false hbn;have e2:smV (D.take (j+1))=10*smV (D.take j)+z:=by rw[C8v hbn,hn,hs1]
     have hd5:decide (((10*smV (D.take j)+z:Nat):Int)>2147483647)=false:=by simp only[A1O];omega
     refine wBc h2 (wJ hd (wJ hg (wJ hw (wJ w1 (wJ w2 (wJ w3 (wJ w4 hd5))))))) ?_;exact⟨j+1,⟨rfl,by rw[e2],by rw[e1]⟩,Sub.refl _,inv ⟨hlt,hst.1 hdg⟩,by omega⟩
  ·have hdg0:dgB s[i+j]=false:=by simpa using hdg
   rw[hdg0]at h2;have hj:=hst.2 hdg0;repeat'((with_reducible first|apply wr|refine cpc h2 ?_|refine B0 ?_ ?_|apply wb2<;>(intro hb;try simp only[hb]))<;>try simp only[go_sem,seval,hd,hg,hw2,hgi])
   ·rw[C9 (v:=Y7 47 i) rfl];exact A3 (hRz hj (A8x hb) (B2d (b:=48) (by assumption)))
   ·rw[C9 (v:=Y7 5 i) rfl];exact A3 (hRb hj (λh=>A2z (a:=j) (b:=1) (by assumption) h.1) hb)
   ·rw[C9 (v:=okN 3 [] (smV (D.take j)) i j) rfl];exact A3 (hRk hj (λh=>A2z (a:=j) (b:=1) (by assumption) h.1) hb)
   ·rw[C9 (v:=Y7 5 i) rfl];exact A3 (hRb hj (λh=>A4u (b:=48) (by assumption) h.2) hb)
   ·rw[C9 (v:=okN 3 [] (smV (D.take j)) i j) rfl];exact A3 (hRk hj (λh=>A4u (b:=48) (by assumption) h.2) hb)
 ·have hd:decide (((i+j:Nat):Int)<s.length)=false:=by simp;omega
  have hj:=A7b (p:=dgB) (s:=s) (by omega) he;repeat'((with_reducible first|apply wr|refine B0 ?_ ?_|apply wb2<;>(intro hb;try simp only[hb]))<;>try simp only[go_sem,seval,hd,hw2,hgi])
  ·rw[C9 (v:=Y7 47 i) rfl];exact A3 (hRz hj (A8x hb) (B2d (b:=48) (by assumption)))
  ·rw[C9 (v:=Y7 5 i) rfl];exact A3 (hRb hj (λh=>A2z (a:=j) (b:=1) (by assumption) h.1) hb)
  ·rw[C9 (v:=okN 3 [] (smV (D.take j)) i j) rfl];exact A3 (hRk hj (λh=>A2z (a:=j) (b:=1) (by assumption) h.1) hb)
  ·rw[C9 (v:=Y7 5 i) rfl];exact A3 (hRb hj (λh=>A4u (b:=48) (by assumption) h.2) hb)
  ·rw[C9 (v:=okN 3 [] (smV (D.take j)) i j) rfl];exact A3 (hRk hj (λh=>A4u (b:=48) (by assumption) h.2) hb)
theorem c_quotedR(s:List UInt8)(hs:s.length<=100000)(i:Nat)(hi:i<s.length):PC Tryz.prog 121 [.str s,I64 i] (quR i (quA [] (i+1) (quM (s.drop (i+1))))):=by
 refine PC.ofT A2 rfl (A0C rfl) rfl (E0i _ _) ?_;have hw0:IntKind.i64.wrap ((i:Int)+1)=((i+1:Nat):Int):=i7
 refine wAs hw0 ?_;refine B6 (λq:Nat × Option Nat × List UInt8=>[(0,.str s),(1,I64 i),(4,.ptr 0 0),(7,todoV q.2.1 q.2.2.length),(8,I64 q.1)]) (λq=>optH (Sym.nil.upd 0 D3j) q.2.1 ⟨1,true,bytesC q.2.2⟩)
  (λq c=>1<=c/\i+1<=q.1/\q.2.2.length<=q.1/\q.1<=s.length+1/\(q.2.1=none->q.2.2=[])/\(∀i,q.2.1=some i->1<=i/\i<c)/\quA [] (i+1) (quM (s.drop (i+1)))=quA q.2.2 q.1 (quM (s.drop q.1))) (λq=>s.length+1-q.1) (i+1,none,[])
  (by simp[B5,tm,Tm.upd,todoV]) (Sub.refl _) ⟨by simp,by simp,by simp,g9,λ_=>rfl,(λi hi=>by cases hi),rfl⟩ ?_
 rintro⟨k,o,acc⟩ c ⟨h1c,h1,hal,hk,hno,ho,he⟩;simp only at h1 hal hk hno ho he;simp only;rw[he];have hH0:optH (Sym.nil.upd 0 D3j) o ⟨1,true,bytesC acc⟩ 0=some ⟨0,true,[I64 0,.str [],I64 0,I64 0]⟩:=by rw[A8 (λi hi=>by have:=ho i hi;omega),A0];rfl
 have hlt0:=P5 (o:=o) (n:=acc.length) (λe=>by rw[hno e];rfl);by_cases hlt:k<s.length
 ·have hd:=dtz hlt;have hg:=A0B hlt;have hw:IntKind.i64.wrap ((k:Int)+1)=((k+1:Nat):Int):=by rw[w6z];omega
  have hw2:IntKind.i64.wrap (((k+1:Nat):Int)+1)=((k+2:Nat):Int):=i7
  have hcv:=B7o (H:=optH (Sym.nil.upd 0 D3j) o ⟨1,true,bytesC acc⟩) (u:=1) hno (λi hi=>by subst hi;exact A0);have hc0:∀n:Nat,((s[k].toNat:Int)==(n:Int))=true->s[k].toNat=n:=λn h=>z6
  have hc1:∀n:Nat,((s[k].toNat:Int)==(n:Int))=false->s[k].toNat≠n:=λn h h2=>y7
  by_cases hlt2:k+1<s.length
  ·have hd2:decide (((k+1:Nat):Int)≥s.length)=false:=by simp;omega
   have hg2:=A0B hlt2;have hc2:∀n:Nat,((s[k+1].toNat:Int)==(n:Int))=true->s[k+1].toNat=n:=λn h=>z6
   have hc3:∀n:Nat,((s[k+1].toNat:Int)==(n:Int))=false->s[k+1].toNat≠n:=λn h h2=>y7
   have ne0:=M7 c (c+1) 0 (by omega);have hap:=A6b (X:=Sym.nil.upd 0 D3j) hno (λi hi=>(ho i hi).2) (by omega);repeat'((with_reducible first|apply wr|refine B0 ?_ ?_|apply wb2<;>(intro hb;try simp only[hb]))<;>try simp only[go_sem,seval,hd,hg,hw,hcv,hlt0,hd2,hg2,hw2,ne0,hap,hH0])
   ·rw[C9 (v:=Y7 9 i) rfl];refine A3 ?_;rw[A1u hg (hc0 34 (by assumption)),quR,if_pos (A8x hb)]
   ·rw[C9 (v:=.tup [.agg [I64 4,.str acc,I64 0,I64 i],I64 ((k+1:Nat):Int),I64 0]) rfl];refine A3 ?_;rw[A1u hg (hc0 34 (by assumption)),quR,if_neg (A2z hb)]
   ·rw[C9 (v:=Y7 48 i) rfl];refine A3 ?_;rw[A3g hg (hc1 34 (by assumption)) (.inl (by have:=of_decide_eq_true hb;omega))];rfl
   ·rw[C9 (v:=Y7 48 i) rfl];refine A3 ?_;rw[A3g hg (hc1 34 (by assumption)) (.inr (by have:=of_decide_eq_true hb;omega))];rfl
   ·rw[C9 (v:=Y7 48 i) rfl];refine A3 ?_;rw[A9l hg (hc0 92 (by assumption)) (λd hd=>by
     rw[hg2]at hd;cases hd;exact⟨C7p (b:=34) (by assumption),C7p (b:=92) hb⟩)];rfl
   ·have hq:=B5c (acc:=acc) hg (hc0 92 (by assumption)) hg2 (.inr (D3l (b:=92) hb));exact⟨(k+2,some (c+1),acc++[s[k+1]]),⟨o7,rfl⟩,A9g (λj q=>A9d h1c) (λi hi=>A9c (by have:=ho i hi;omega)) rfl,inv ⟨b8,g9,a8,g9,(λh=>by cases h),(λi hi=>by cases hi;omega),hq⟩,by simp only;omega⟩
   ·have hq:=B5c (acc:=acc) hg (hc0 92 (by assumption)) hg2 (.inl (D3l (b:=34) hb));exact⟨(k+2,some (c+1),acc++[s[k+1]]),⟨o7,rfl⟩,A9g (λj q=>A9d h1c) (λi hi=>A9c (by have:=ho i hi;omega)) rfl,inv ⟨b8,g9,a8,g9,(λh=>by cases h),(λi hi=>by cases hi;omega),hq⟩,by simp only;omega⟩
   ·have hq:=A9m (acc:=acc) hg (hc1 34 (by assumption)) (by have:=of_decide_eq_false (by assumption:decide (((s[k].toNat:Int))<32)=false);omega) (by have:=of_decide_eq_false (by assumption:decide (((s[k].toNat:Int))>126)=false);omega) (hc1 92 (by assumption));exact⟨(k+1,some (c+1),acc++[s[k]]),⟨o7,rfl⟩,A9g (λj q=>A9d h1c) (λi hi=>A9c (by have:=ho i hi;omega)) rfl,inv ⟨b8,g9,a8,g9,(λh=>by cases h),(λi hi=>by cases hi;omega),hq⟩,by simp only;omega⟩
  ·have hd2:decide (((k+1:Nat):Int)≥s.length)=true:=by simp;omega
   have ne0:=M7 c (c+1) 0 (by omega);have hap:=A6b (X:=Sym.nil.upd 0 D3j) hno (λi hi=>(ho i hi).2) (by omega);repeat'((with_reducible first|apply wr|refine B0 ?_ ?_|apply wb2<;>(intro hb;try simp only[hb]))<;>try simp only[go_sem,seval,hd,hg,hw,hcv,hlt0,hd2,ne0,hap,hH0])
   ·rw[C9 (v:=Y7 9 i) rfl];refine A3 ?_;rw[A1u hg (hc0 34 (by assumption)),quR,if_pos (A8x hb)]
   ·rw[C9 (v:=.tup [.agg [I64 4,.str acc,I64 0,I64 i],I64 ((k+1:Nat):Int),I64 0]) rfl];refine A3 ?_;rw[A1u hg (hc0 34 (by assumption)),quR,if_neg (A2z hb)]
   ·rw[C9 (v:=Y7 48 i) rfl];refine A3 ?_;rw[A3g hg (hc1 34 (by assumption)) (.inl (by have:=of_decide_eq_true hb;omega))];rfl
   ·rw[C9 (v:=Y7 48 i) rfl];refine A3 ?_;rw[A3g hg (hc1 34 (by assumption)) (.inr (by have:=of_decide_eq_true hb;omega))];rfl
   ·rw[C9 (v:=Y7 48 i) rfl];refine A3 ?_;rw[A9l hg (hc0 92 (by assumption)) (λd hd=>by rw[A2Z (by omega)]at hd;cases hd)];rfl
   ·have hq:=A9m (acc:=acc) hg (hc1 34 (by assumption)) (by have:=of_decide_eq_false (by assumption:decide (((s[k].toNat:Int))<32)=false);omega) (by have:=of_decide_eq_false (by assumption:decide (((s[k].toNat:Int))>126)=false);omega) (hc1 92 (by assumption));exact⟨(k+1,some (c+1),acc++[s[k]]),⟨o7,rfl⟩,A9g (λj q=>A9d h1c) (λi hi=>A9c (by have:=ho i hi;omega)) rfl,inv ⟨b8,g9,a8,g9,(λh=>by cases h),(λi hi=>by cases hi;omega),hq⟩,by simp only;omega⟩
 ·have hd:=dfz hlt;have ne0:=Q8 c 0 (by omega);refine wAx hd ne0 hH0 ?_;rw[C9 (v:=Y7 48 i) rfl];refine A3 ?_;rw[C9m (by omega)];rfl
theorem c_oneR(s:List UInt8)(hs:s.length<=100000)(i:Nat)(hi:i<s.length):PC Tryz.prog 68 [.str s,I64 i] (nxR (C3 (s.drop i)) i):=by
 refine PC.ofT A2 rfl (A0C rfl) rfl (C1b _ _) ?_;have hg:=A0B hi;have hlt:=c_letterR s[i];have hdg:=c_digitR s[i];obtain⟨k,t,v,p,n,e,hsh⟩:=C6i (C3 (s.drop i)) i;by_cases hl:ltB s[i]=true
 ·have hw:=c_wordR s (by omega) i hi hl;rw[hsh]at hw ⊢;refine wBi hlt hw (wJ hl hg) ?_;rw[C9 (v:=.tup [.agg [I64 k,.str t,I64 v,I64 p],I64 n,I64 e]) rfl];exact A3 rfl
 have hl0:ltB s[i]=false:=by simpa using hl
 by_cases hd:dgB s[i]=true
 ·have hw:=c_numberR s (by omega) i hi hl0 hd;rw[hsh]at hw ⊢;refine wBl hlt hdg hw (wJ hl0 (wJ hd hg)) ?_;rw[C9 (v:=.tup [.agg [I64 k,.str t,I64 v,I64 p],I64 n,I64 e]) rfl];exact A3 rfl
 have hd0:dgB s[i]=false:=by simpa using hd
 by_cases hq:s[i].toNat=34
 ·have hw:=c_quotedR s hs i hi;rw[C9n hg hl0 hd0 hq,hsh]at hw;rw[hsh];have hb34:((s[i].toNat:Int)==34)=true:=by rw[hq];rfl
  (repeat'((with_reducible first|apply wr|refine cpc hlt ?_|refine cpc hdg ?_|refine cpc hw ?_|refine B0 ?_ ?_|apply wb2<;>(intro hb;try simp only[hb]))<;>try simp only[go_sem,seval,hl0,hd0,hg,hb34]));rw[C9 (v:=.tup [.agg [I64 k,.str t,I64 v,I64 p],I64 n,I64 e]) rfl];exact A3 rfl
 clear hsh;have hb34:((s[i].toNat:Int)==34)=false:=by simpa using (λh=>hq (by omega))
 have hM:C3 (s.drop i)=if L0 (s.drop i)=0 then nxE 47 else⟨5,(s.drop i).take (L0 (s.drop i)),0,L0 (s.drop i),0⟩:=by
  have hdr:=O7 hg;have:∀r,s.drop i=s[i]::r->C3 (s.drop i)=if L0 (s.drop i)=0 then nxE 47 else⟨5,(s.drop i).take (L0 (s.drop i)),0,L0 (s.drop i),0⟩:=by
   intro r e;rw[e,C3,if_neg hl,if_neg hd,if_neg hq]
  exact this _ hdr
 rw[hM];have hsg:=c_signsR;(repeat'((with_reducible first|apply wr|refine cpc hlt ?_|refine cpc hdg ?_|refine cpc hsg ?_|refine B0 ?_ ?_|apply wb2<;>(intro hb;try simp only[hb]))<;>try simp only[go_sem,seval,hl0,hd0,hg,hb34]));have hlen:T4.length=21:=rfl;refine B6 (λk:Nat=>[(0,.str s),(1,I64 i),(4,.ptr 0 0),(8,.lst (T4.map DV.str)),(9,I64 k)]) (λ_=>Sym.nil.upd 0 ⟨0,true,[I64 0,.str [],I64 0,I64 0]⟩) (λk _=>k<=T4.length/\∀j,j<k->A7j (T4.getD j []) (s.drop i)=false) (λk=>T4.length-k) 0 (by simp[B5,tm,Tm.upd]) (Sub.refl _) (by simp) ?_;rintro k c ⟨hk,he⟩;by_cases hkl:k<T4.length
 ·have hd:decide ((k:Int)<T4.length)=true:=by simpa using hkl
  have hgk:=A0B hkl;have hget:T4.getD k []=T4[k]:=by rw[A1E,hgk];rfl
  have hw:IntKind.i64.wrap ((k:Int)+1)=((k+1:Nat):Int):=i7
  obtain⟨L,hL⟩:∃L,L=T4[k]:=⟨_,rfl⟩;rw[<- hL]at hgk hget;have hLl:1<=L.length/\L.length<=2:=by
   have:∀x∈T4,1<=x.length/\x.length<=2:=r9
   rw[hL];exact this _ (A0K hkl)
  have hw1:IntKind.i64.wrap ((s.length:Int)-i)=((s.length-i:Nat):Int):=i7
  have hw2:IntKind.i64.wrap ((i:Int)+L.length)=((i+L.length:Nat):Int):=i7
  have hnext:A7j L (s.drop i)=false->B6j (λk _=>k<=T4.length/\∀j,j<k->A7j (T4.getD j []) (s.drop i)=false) (k+1) c:=λh=>inv ⟨hkl,λj hj=>by
   by_cases e:j=k
   ·rw[e,hget];exact h
   ·exact he j (by omega)⟩
  by_cases hln:L.length<=s.length-i
  ·have hd2:decide (((s.length-i:Nat):Int)≥L.length)=true:=by simp only[A0Q];omega
   have hsx:=B7b (s:=s) (i:=i) (n:=L.length) (by omega);have hpr:A7j L (s.drop i)=((s.drop i).take L.length==L):=by
    unfold A7j;rw[decide_eq_true (by rw[A1P];exact hln),A2A]
   repeat'((with_reducible first|apply wr|refine B0 ?_ ?_|apply wb2<;>(intro hb;try simp only[hb]))<;>try simp only[go_sem,seval,hd,hgk,hw,hw1,hw2,hd2,hsx])
   ·have hp:=hpr.trans hb;have:=C5w (s:=s.drop i) (k:=k) (by omega) he (by rw[hget];exact hp);rw[hget]at this;rw[C9 (v:=okN 5 L 0 i L.length) rfl];refine A3 ?_;rw[this.1,iN,B0w, <- this.2]
   ·exact⟨k+1,rfl,Sub.refl _,hnext (hpr.trans hb),by omega⟩
  ·have hd2:decide (((s.length-i:Nat):Int)≥L.length)=false:=by simp only[A1O];omega
   refine wA2 hd hgk hw hw1 hd2 ?_;exact⟨k+1,rfl,Sub.refl _,hnext (by unfold A7j;rw[decide_eq_false (by rw[A1P];exact hln),A3H]),by omega⟩
 ·have hd:decide ((k:Int)<T4.length)=false:=by simpa using hkl
  refine wAs hd ?_;rw[C9 (v:=Y7 47 i) rfl];refine A3 ?_;rw[if_pos (C9a λj hj=>he j (by omega)),A6e (by decide)]
theorem c_ScanR(s:List UInt8)(hs:s.length<=1000000000):PC Tryz.prog 30 [.str s] (C3e (H4 s)):=by
 refine PC.ofT A2 rfl (A0C rfl) rfl (B7g _) ?_;have hsk:=c_skipR s hs 0 (by omega);rw[A3S,A1I]at hsk;by_cases h20:20000<s.length
 ·have hd0:decide ((s.length:Int)>20000)=true:=by simp;omega
  have hM:H4 s=([],0,9):=if_pos h20;rw[hM];(repeat'((with_reducible first|apply wr|refine B0 ?_ ?_|apply wb2<;>(intro hb;try simp only[hb]))<;>try simp only[go_sem,seval,hd0]));exact A5x
 have hd0:decide ((s.length:Int)>20000)=false:=a8
 have hM:H4 s=M3 (s.length+1) s (skM false s) []:=if_neg h20;rw[hM];have hle0:=A0f false s;(repeat'((with_reducible first|apply wr|refine cpc hsk ?_|refine B0 ?_ ?_|apply wb2<;>(intro hb;try simp only[hb]))<;>try simp only[go_sem,seval,hd0]));refine B6 (λq:Nat × Nat × Option Nat × List Tok=>[(0,.str s),(5,todoV q.2.2.1 q.2.2.2.length),(6,I64 q.2.1)]) (λq=>optH Sym.nil q.2.2.1 ⟨4,true,cellsL (q.2.2.2.map Tok.v)⟩)
  (λq c=>q.2.1<=s.length/\s.length<q.1+q.2.1/\q.2.2.2.length<=q.2.1/\(q.2.2.1=none->q.2.2.2=[])/\(∀i,q.2.2.1=some i->i<c)/\M3 (s.length+1) s (skM false s) []=M3 q.1 s q.2.1 q.2.2.2) (λq=>q.1) (s.length+1,skM false s,none,[])
  (by simp[B5,tm,Tm.upd,todoV]) (Sub.nil _) ⟨g9,g9,by simp,λ_=>rfl,(λi hi=>by cases hi),rfl⟩ ?_
 rintro⟨f,at_,o,acc⟩ c ⟨h1,hf,hal,hno,ho,he⟩;simp only at h1 hf hal hno ho he;simp only;rw[he];by_cases hlt:at_<s.length
 ·have hd:=dtz hlt;have hnx:=c_oneR s (by omega) at_ hlt;obtain⟨f,rfl⟩:∃g,f=g+1:=⟨f-1,by omega⟩;by_cases hz:(C3 (s.drop at_)).err=0
  ·have hn:=A9p hz;rw[A1P]at hn;have hst:M3 (f+1) s at_ acc=M3 f s (at_+(C3 (s.drop at_)).n+skM false (s.drop (at_+(C3 (s.drop at_)).n))) (acc++[⟨(C3 (s.drop at_)).kind,(C3 (s.drop at_)).text,(C3 (s.drop at_)).value,(at_:Int)⟩]):=by
    rw[M3,iN,if_neg (by simpa using hz)]
   rw[hst];obtain⟨x,hx⟩:∃x,x=C3 (s.drop at_):=⟨_,rfl⟩;rw[<- hx]at hnx hz hn ⊢;rw[nxR,if_pos hz,okN]at hnx;have hsk2:=c_skipR s hs (at_+x.n) (by omega);have hkl:=A0f false (s.drop (at_+x.n));rw[A1P]at hkl;obtain⟨z,hzz⟩:∃z,z=skM false (s.drop (at_+x.n)):=⟨_,rfl⟩;rw[<- hzz]at hsk2 hkl ⊢;have ne0:=M7 c (c+1) (c+2) (by omega);refine wBi hnx hsk2 (wJ hd ne0) ?_;refine G7 (D4 (cs:=cellsL (acc.map Tok.v)) (λe=>by rw[hno e];exact⟨rfl,rfl⟩) (λi hi=>?_) (by rw[C7 (u:=4) (G4 _)];simp) (by omega) (by omega) (by omega)) ?_
   ·have:=ho i hi;rw[hnO,hnO,hnO];exact A2j hi
   refine wBj hnx hsk2 (wJ hd ne0) ?_;exact⟨(f,at_+x.n+z,some (c+1+1),acc++[⟨x.kind,x.text,x.value,(at_:Int)⟩]),⟨o7,rfl⟩,
    S2 (by simp only[A0P,C8];rfl),inv ⟨g9,g9,o8,(λh=>by cases h),(λi hi=>by cases hi;omega),rfl⟩,by simp only;omega⟩
  ·have hst:M3 (f+1) s at_ acc=([],(at_:Int),(C3 (s.drop at_)).err):=by
    rw[M3,iN,if_pos hz]
   rw[hst];obtain⟨x,hx⟩:∃x,x=C3 (s.drop at_):=⟨_,rfl⟩;rw[<- hx]at hnx hz ⊢;rw[nxR,if_neg hz,Y7]at hnx;have hz':(x.err != 0)=true:=by simpa using hz
   have ne0:=Q8 c (c+1) (by omega);refine wBc hnx (wJ hd (wJ hz' ne0)) ?_;exact A5x
 ·have hd:=dfz hlt;refine wAs hd ?_;have hM2:M3 f s at_ acc=(acc,0,0):=by
   cases f with
   |zero=>rfl
   |succ f=>rw[M3,iP]
  rw[hM2];exact B7q (λe=>by rw[hno e];rfl) (by simp) (G4 acc)
theorem c_IsNameR(s:List UInt8)(hs:s.length<=1000000000):PC Tryz.prog 195 [.str s] (.bool (F6 s)):=by
 refine PC.go A2 ?_;have hw:=c_IsWordR s;cases s with
 |nil =>
  refine wAp ?_;exact A3 rfl
 |cons c r =>
  have hx:B1l (DV.str (c::r)) (.int .i64 0)=some (.int .u8 (c.toNat:Int)):=rfl;have hlt:=c_letterR c;have hd1:decide (((r.length+1:Nat):Int)<1)=false:=a8
  have hN:F6 (c::r)=(decide ((r.length+1)<=12)&&ltB c&&decide (F3 ptB (c::r)=r.length+1) && !G9 (c::r)):=by
   simp[F6]
  rw[hN];have hN2:∀b:Bool,decide (((r.length+1:Nat):Int)>12)=b->decide ((r.length+1)<=12) = !b:=by
   intro b hb;subst hb;rw[A2E];simp;omega
  obtain⟨dd,hdd⟩:∃dd,dd=decide ((r.length+1)<=12):=⟨_,rfl⟩;rw[<- hdd]at hN2 ⊢;obtain⟨ee,hee⟩:∃ee,ee=decide (F3 ptB (c::r)=r.length+1):=⟨_,rfl⟩;rw[<- hee];obtain⟨ff,hff⟩:∃ff,ff=G9 (c::r):=⟨_,rfl⟩;rw[<- hff]at hw ⊢;repeat'((with_reducible first|apply wr|refine cpc hw ?_|refine cpc hlt ?_|refine B0 ?_ ?_|apply wb2<;>(intro hb;try simp only[hb]))<;>try simp only[go_sem,seval,hx,hd1])
  ·refine A3 (congrArg DV.bool ?_);rw[hN2 _ hb];rfl
  ·refine A3 (congrArg DV.bool ?_);have:ltB c=false:=by simpa using hb
   rw[this];simp
  ·refine A3 (congrArg DV.bool ?_);simp
  ·have hN3:=hN2 _ (by assumption);have hl:ltB c=true:=by simpa using (by assumption:(!ltB c)=false)
   rw[hN3,hl];refine B6 (λk:Nat=>[(0,.str (c::r)),(3,I64 k)]) (λ_=>nil) (λk _=>k<=(c::r).length/\k<=F3 ptB (c::r)) (λk=>(c::r).length-k) 0 (by simp[B5,tm,Tm.upd]) (Sub.nil _) (by simp) ?_;rintro k cc ⟨hk,he⟩;have hsl:=T3 ptB (c::r);have hS:(c::r).length=r.length+1:=rfl;by_cases hlt2:k<(c::r).length
   ·have hd:decide ((k:Int)<((r.length+1:Nat):Int))=true:=by simp only[A0Q];omega
    have hg:=A0B hlt2;have hw:IntKind.i64.wrap ((k:Int)+1)=((k+1:Nat):Int):=i7
    have hst:=A9j hg he;obtain⟨x,hxx⟩:∃x,x=(c::r)[k]:=⟨_,rfl⟩;rw[<- hxx]at hg hst;have h1:=c_letterR x;have h2:=c_digitR x;obtain⟨L,hL⟩:∃L,L=c::r:=⟨_,rfl⟩;have hd3:decide ((k:Int)<(L.length:Int))=true:=by rw[hL];exact hd
    rw[<- hL]at hg hst hk he hsl hee ⊢;by_cases hp:ptB x=true
    ·have hgo:∃b,DV.int IntKind.i64 ((k+1:Nat):Int)=I64 ((b:Nat):Int)/\Sym.Sub Sym.nil Sym.nil/\B6j (λk _=>k<=L.length/\k<=F3 ptB L) b cc/\L.length-b<L.length-k :=
      ⟨k+1,rfl,Sub.refl _,inv ⟨by rw[hL];exact hlt2,hst.1 hp⟩,by rw[hL];omega⟩
     simp only[ptB,A1J,A0Q]at hp;repeat'((with_reducible first|apply wr|refine cpc h1 ?_|refine cpc h2 ?_|refine B0 ?_ ?_|apply wb2<;>(intro hb;try simp only[hb]))<;>try simp only[go_sem,seval,hd3,hg,hw])
     ·exfalso;have p1:ltB x=false:=by simpa using (by assumption:(!ltB x)=true)
      have p2:dgB x=false:=by simpa using (by assumption:(!dgB x)=true)
      have p3:=C7p (b:=95) hb;rw[p1,p2]at hp;rcases hp with (hp|hp)|hp
      ·cases hp
      ·cases hp
      ·exact p3 hp
     ·exact hgo
     ·exact hgo
     ·exact hgo
    ·have hp':ptB x=false:=by simpa using hp
     have hj:=hst.2 hp';simp only[ptB,A4G,A1O]at hp';obtain⟨⟨q1,q2⟩,q3⟩:=hp';have q4:((x.toNat:Int) != 95)=true:=a8
     refine wBi h1 h2 (wJ hd3 (wJ hg (wJ hw (wJ q1 (wJ q2 q4))))) ?_;refine A3 (congrArg DV.bool ?_);rw[hee,hj,decide_eq_false];have:L.length=r.length+1:=by rw[hL];rfl
     have:k<L.length:=by rw[hL];exact hlt2
     omega
   ·have hd:decide ((k:Int)<((r.length+1:Nat):Int))=false:=by simp only[A1O];omega
    refine wAs hd ?_;refine A3 (congrArg DV.bool ?_);rw[hee,decide_eq_true (by omega)]
theorem c_Dec:∀(m:Nat) (n:Int),n.natAbs<m -> -9223372036854775808<=n->n<=9223372036854775807->PC Tryz.prog 12 [I64 n] (.str (A3b n)):=by
 intro m
 induction m with
 |zero=>intro n h;omega
 |succ m ih =>
  intro n h h1 h2;have b:=E2o (d:=X8 n) (C4j n);have hl:=C4j n;by_cases h0:n<0
  ·have hd:decide (n<0)=true:=by simpa using h0
   have e1:=D5g h0;have e2:=D5f h0;have hh:=C4v (n:=n) (by omega);have w1:=w64 (n := -((A0v n:Nat):Int));have w2:=w64 (n:=0 - -((X8 n:Nat):Int));have w3:0 - -((X8 n:Nat):Int)=(X8 n:Int):=b8
   rw[w3]at w2;have hlen:=B1v (n := -((A0v n:Nat):Int)) (by omega) (by omega);have a0:=O5 (s:=A3b (-((A0v n:Nat):Int))) (t:=[A3a (X8 n)]) (by simp;omega);have a2:A1y (nil.upd 5 ⟨1,true,[DV.int .u8 ((A3a (X8 n)).toNat:Int)]⟩) (.slc 5 0 1)=some (.str [A3a (X8 n)]):=A7y A0 rfl rfl;have a1:=O5 (s:=[45]) (t:=[A3a (X8 n)]) (by simp);refine PC.go A2 ?_;repeat'((first|(with_reducible first|apply wr|refine cpc (ih (-((A0v n:Nat):Int)) (by omega) (by omega) (by omega)) ?_|refine B0 ?_ ?_)|(with_reducible apply wb2<;>(intro hb;try simp only[hb]))|((with_reducible refine D1c (A7y (l:=[A3a (X8 n)]) A0 rfl rfl) ?_)))<;>try simp only[go_sem,seval,hd,B0p,C9i,e1,e2,w1,w3,w2,b,a0,a1,a2])
   ·rw[C7j h0 (by simpa using hb)];exact A3 rfl
   ·rw[D2w h0 (by simpa using hb)];exact A3 rfl
  ·have hd:decide (n<0)=false:=by simpa using h0
   have e1:=D4x (n:=n) (by omega);have e2:=D4w (n:=n) (by omega);have hh:A0v n<=n.natAbs:=by unfold A0v;omega
   have w1:=w64 (n:=((A0v n:Nat):Int));have hlen:=B1v (n:=((A0v n:Nat):Int)) (by omega) (by omega);have a0:=O5 (s:=A3b ((A0v n:Nat):Int)) (t:=[A3a (X8 n)]) (by simp;omega);by_cases h9:n<10
   ·have hd9:decide (n<10)=true:=by simpa using h9
    refine PC.go A2 ?_;(repeat'((first|(with_reducible first|apply wr|refine B0 ?_ ?_)|(with_reducible apply wb2<;>(intro hb;try simp only[hb]))|((with_reducible refine D1c (A7y (l:=[A3a (X8 n)]) A0 rfl rfl) ?_)))<;>try simp only[go_sem,seval,hd,hd9,B0p,C9i,e1,e2,w1,b]));rw[D6o (by omega) h9];exact A3 rfl
   ·have hd9:decide (n<10)=false:=by simpa using h9
    have hh:=C4v (n:=n) (by omega);refine PC.go A2 ?_;(repeat'((first|(with_reducible first|apply wr|refine cpc (ih ((A0v n:Nat):Int) (by omega) (by omega) (by omega)) ?_|refine B0 ?_ ?_)|(with_reducible apply wb2<;>(intro hb;try simp only[hb]))|((with_reducible refine D1c (A7y (l:=[A3a (X8 n)]) A0 rfl rfl) ?_)))<;>try simp only[go_sem,seval,hd,hd9,B0p,C9i,e1,e2,w1,b,a0]));rw[D6p h9];exact A3 rfl
theorem c_Dec'(n:Int)(h1 : -9223372036854775808<=n)(h2:n<=9223372036854775807):PC Tryz.prog 12 [I64 n] (.str (A3b n)):=c_Dec (n.natAbs+1) n (by omega) h1 h2
theorem B5g{H:Hp}{a b:DV}:∃H2,GL H [.tup [.agg [.snil,.snil],a,b]] H2 [.tup [.agg [.lst [],.lst []],a,b]] :=
 ⟨H,GL.view fun ρ vs hA=>M6 (λv h=>by
  obtain⟨b',rfl,k1,k2⟩:=h.tup_inv;refine .tup _ _ k1 λi x y hx hy=>?_
  match i with
  |0 =>
   cases hx;obtain⟨c',rfl,m1,m2⟩:=(k2 0 _ y rfl hy).agg_inv;refine .agg _ _ m1 λj x z hx hz=>?_
   match j with
   |0=>cases hx;exact(m2 0 _ z rfl hz).snil_lst
   |1=>cases hx;exact(m2 1 _ z rfl hz).snil_lst
   |_+2=>cases hx
  |1=>cases hx;exact k2 1 _ y rfl hy
  |2=>cases hx;exact k2 2 _ y rfl hy
  |_+3=>cases hx) vs hA⟩
theorem c_Parse(s:List UInt8)(hs:s.length<=1000000000):PC Tryz.prog 16 [.str s] (C0x (N6 s)):=by
 refine PC.ofT A2 rfl (A0C rfl) rfl (C3t _) ?_;have hsc:=c_ScanR s hs;have hpar:N6 s=N6 s:=rfl;by_cases h0:(H4 s).2.2=0
 ·have hd:((H4 s).2.2 != 0)=false:=by simpa using h0
  refine wBc hsc hd ?_;obtain⟨f,hf⟩:=(A7f (H4 s).1 s.length).get;refine AC.call (c_rules (H4 s).1 s.length (by have:=B4z h0;omega) (B7f h0) f rd0 _ hf (A0N _) _ _ 1 rfl (by decide)) ?_;rintro v H' c2 ⟨rfl,rfl⟩ hc2;have hM:N6 s=if okR (X5 (H4 s).1 s.length).2=false then(Ru0,(X5 (H4 s).1 s.length).2.pos,(X5 (H4 s).1 s.length).2.e) else((X5 (H4 s).1 s.length).1,0,0):=by
   unfold N6;dsimp only;rw[if_neg (by simpa using h0)]
  rw[hM];generalize X5 (H4 s).1 s.length=w;clear hM hpar hf;have ne0:=M7 0 1 c2 (by omega);refine wAy ne0 @A0 @A1 ?_;refine AC.call (c_rdok (H4 s).1 s.length w.2 _ _ 1 (by rw[hnO];exact A0) (by omega)) ?_;rintro v H' c3 ⟨rfl,rfl⟩ hc3;cases hok:okR w.2 with
  |true =>
   rw[if_neg (by decide)];refine wA0 hok ne0 @A0 @A1 ?_;rw[C9 (v:=C0x (w.1,0,0)) rfl];exact⟨_,GL.refl _ _⟩
  |false =>
   rw[if_pos rfl];refine wA0 hok ne0 @A0 @A1 ?_
   repeat refine⟨o5,?_⟩
   refine wAz hok ne0 @A0 @A1 ?_;rw[C9 (v:=.tup [.agg [.snil,.snil],I64 w.2.pos,I64 w.2.e]) rfl];exact B5g
 ·have hd:((H4 s).2.2 != 0)=true:=by simpa using h0
  have hM:N6 s=(Ru0,(H4 s).2.1,(H4 s).2.2):=by
   unfold N6;dsimp only;rw[if_pos h0]
  rw[hM];refine wBc hsc hd ?_;rw[C9 (v:=.tup [.agg [.snil,.snil],I64 (H4 s).2.1,I64 (H4 s).2.2]) rfl];exact B5g
open Go.Sym
abbrev x169:XT Tryz.prog 169:=mkF
instance t169:FT Tryz.prog 169 x169.d:=x169.ft
abbrev x170:XT Tryz.prog 170:=mkF
instance t170:FT Tryz.prog 170 x170.d:=x170.ft
abbrev x171:XT Tryz.prog 171:=mkF
instance t171:FT Tryz.prog 171 x171.d:=x171.ft
abbrev x219:XT Tryz.prog 219:=mkF
instance t219:FT Tryz.prog 219 x219.d:=x219.ft
abbrev x168:XT Tryz.prog 168:=mkF
instance t168:FT Tryz.prog 168 x168.d:=x168.ft
abbrev x240:XT Tryz.prog 240:=mkF
instance t240:FT Tryz.prog 240 x240.d:=x240.ft
abbrev x232:XT Tryz.prog 232:=mkF
instance t232:FT Tryz.prog 232 x232.d:=x232.ft
abbrev x218:XT Tryz.prog 218:=mkF
instance t218:FT Tryz.prog 218 x218.d:=x218.ft
abbrev x172:XT Tryz.prog 172:=mkF
instance t172:FT Tryz.prog 172 x172.d:=x172.ft
abbrev x196:XT Tryz.prog 196:=mkF
instance t196:FT Tryz.prog 196 x196.d:=x196.ft
abbrev x167:XT Tryz.prog 167:=mkF
instance t167:FT Tryz.prog 167 x167.d:=x167.ft
abbrev x130:XT Tryz.prog 130:=mkF
instance t130:FT Tryz.prog 130 x130.d:=x130.ft
abbrev x76:XT Tryz.prog 76:=mkF
instance t76:FT Tryz.prog 76 x76.d:=x76.ft
abbrev x198:XT Tryz.prog 198:=mkF
instance t198:FT Tryz.prog 198 x198.d:=x198.ft
abbrev x174:XT Tryz.prog 174:=mkF
instance t174:FT Tryz.prog 174 x174.d:=x174.ft
abbrev x132:XT Tryz.prog 132:=mkF
instance t132:FT Tryz.prog 132 x132.d:=x132.ft
abbrev x220:XT Tryz.prog 220:=mkF
instance t220:FT Tryz.prog 220 x220.d:=x220.ft
abbrev x197:XT Tryz.prog 197:=mkF
instance t197:FT Tryz.prog 197 x197.d:=x197.ft
abbrev x173:XT Tryz.prog 173:=mkF
instance t173:FT Tryz.prog 173 x173.d:=x173.ft
abbrev x131:XT Tryz.prog 131:=mkF (i:=⟨135,.seq (.reg [oX 2 0,oX 3 1,oV 4 (.bool false)]) (.seq (.seq (.reg [oF 12 2 0,oL 13 12,oH 14 13,oF 15 3 0,oL 16 15,oH 17 16,oB 18 14 17 .neq,oM 19 18,hF 20 2 1 19,hL 21 20 19,oR 22 (.len (.t 21)) 19,hF 23 3 1 19,hL 24 23 19,oR 25 (.len (.t 24)) 19,oR 26 (.bin .neq (.t 22) (.t 25)) 19,oO 27 19 26]) (.cond (.t 27) (.seq (.reg [oV 4 (.bool false)]) .ret) .skip)) (.seq (.seq (.reg [oI 5 0]) (.blk 0 (.loop (.seq (.seq (.reg [oM 28 5,oF 29 2 0,oL 30 29,oH 31 30,oB 32 28 31 .lss]) (.cond (.t 32) .skip (.exit 0))) (.seq (.blk 1 (.seq (.drw 11 (dQ [oF 35 2 0,oL 36 35,oM 37 5,oA 38 36 37 4,oD 39 38 4,oF 40 3 0,oL 41 40,oM 42 5,oA 43 41 42 4,oD 44 43 4,oP 45 (.eqa true [0,2,0,0] (.t 39) (.t 44))] 0)) (.cond (.t 45) (.seq (.reg [oV 4 (.bool false)]) .ret) .skip))) (.reg [oM 33 5,oK 34 33 .add 1,oM 5 34])))))) (.seq (.seq (.reg [oI 6 0]) (.blk 2 (.loop (.seq (.seq (.reg [oM 46 6,oF 47 2 1,oL 48 47,oH 49 48,oB 50 46 49 .lss]) (.cond (.t 50) .skip (.exit 2))) (.seq (.blk 3 (.seq (.drw 14 ⟨[oF 53 2 1,oL 54 53,oM 55 6,oA 56 54 55 4,oD 57 56 4,oF 58 3 1,oL 59 58,oM 60 6,oA 61 59 60 4,oD 62 61 4,oW 7 (.agg #[.string ⟨#[]⟩,.int .i64 0,.slice none 0 0,.int .i64 0]),oW 8 (.agg #[.string ⟨#[]⟩,.int .i64 0,.slice none 0 0,.int .i64 0]),oS 7 57 4,oS 8 62 4],[],[(0,none),(1,none),(2,none),(3,none),(4,none),(5,none),(6,none),(7,none),(8,none),(9,none),(10,none),(11,none),(12,some [5,6,7,8,9]),(13,some [])]⟩) (.seq (.seq (.reg [oF 63 7 0,oL 64 63,oF 65 8 0,oL 66 65,oB 67 64 66 .neq,oM 68 67,hF 69 7 1 68,hL 70 69 68,hF 71 8 1 68,hL 72 71 68,oR 73 (.bin .neq (.t 70) (.t 72)) 68,oO 74 68 73,oM 75 74,hF 76 7 3 75,hL 77 76 75,hF 78 8 3 75,hL 79 78 75,oR 80 (.bin .neq (.t 77) (.t 79)) 75,oO 81 75 80,oM 82 81,hF 83 7 2 82,hL 84 83 82,oR 85 (.len (.t 84)) 82,hF 86 8 2 82,hL 87 86 82,oR 88 (.len (.t 87)) 82,oR 89 (.bin .neq (.t 85) (.t 88)) 82,oO 90 82 89]) (.cond (.t 90) (.seq (.reg [oV 4 (.bool false)]) .ret) .skip)) (.seq (.reg [oI 9 0]) (.blk 4 (.loop (.seq (.seq (.reg [oM 91 9,oF 92 7 2,oL 93 92,oH 94 93,oB 95 91 94 .lss]) (.cond (.t 95) .skip (.exit 4))) (.seq (.blk 5 (.seq (.drw 14 ⟨[oF 98 7 2,oL 99 98,oM 100 9,oA 101 99 100 4,oD 102 101 4,oF 103 8 2,oL 104 103,oM 105 9,oA 106 104 105 4,oD 107 106 4,oW 10 (.agg #[.int .i64 0,.string ⟨#[]⟩,.slice none 0 0,.int .i64 0]),oW 11 (.agg #[.int .i64 0,.string ⟨#[]⟩,.slice none 0 0,.int .i64 0]),oS 10 102 4,oS 11 107 4],[],[(0,none),(1,none),(2,none),(3,none),(4,none),(5,none),(6,none),(7,none),(8,none),(9,none),(10,none),(11,none),(12,some [5,6,7,8,9]),(13,some [])]⟩) (.seq (.reg [oF 108 10 0,oL 109 108,oF 110 11 0,oL 111 110,oB 112 109 111 .neq,oM 113 112,hF 114 10 1 113,hL 115 114 113,hF 116 11 1 113,hL 117 116 113,oR 118 (.bin .neq (.t 115) (.t 117)) 113,oO 119 113 118,oM 120 119,hF 121 10 3 120,hL 122 121 120,hF 123 11 3 120,hL 124 123 120,oR 125 (.bin .neq (.t 122) (.t 124)) 120,oO 126 120 125,oM 127 126,hF 128 10 2 127,hL 129 128 127,hF 130 11 2 127,hL 131 130 127,⟨some 132,.call 173 [.t 129,.t 131],some (127,false)⟩,oR 133 (.un .not (.t 132)) 127,oO 134 127 133]) (.cond (.t 134) (.seq (.reg [oV 4 (.bool false)]) .ret) .skip)))) (.reg [oM 96 9,oK 97 96 .add 1,oM 9 97]))))))))) (.reg [oM 51 6,oK 52 51 .add 1,oM 6 52])))))) (.seq (.reg [oV 4 (.bool true)]) .ret)))),[.tmp 4]⟩) (by unfold L4;kernel_rfl) (λh=>by conv=>lhs;cbv)
instance t131:FT Tryz.prog 131 x131.d:=x131.ft
theorem A4e{k v p:Int}{x:List UInt8}:∃H2,GL (nil.upd 0 ⟨4,true,[I64 k,.str x,I64 v,I64 p]⟩) [.slc 0 0 1] H2 [D6 [⟨k,x,v,p⟩]] :=
 O6 rfl rfl rfl (G4 _) ⟨[],rfl⟩
theorem A6c{o:Option Nat}{xs:List DV}{u n:Nat}(hno:o=none->xs=[])(hl:xs.length=n)(hu:∀x∈xs,x.cells.length=u):
  ∃H2,GL (optH Sym.nil o ⟨u,true,cellsL xs⟩) [todoV o n] H2 [.lst xs]:=by
 cases o with
 |none=>rw[hno rfl];exact C3s
 |some i=>exact O6 (id:=i) A0 rfl hl hu ⟨[],by simp⟩
theorem c_named(s:List UInt8)(hs:s.length<=1000000000):PC Tryz.prog 170 [.str s] (D6 (F7 s)):=by
 refine PC.go A2 ?_;have h1:=c_IsNameR s hs;unfold F7;cases h:F6 s with
 |true =>
  rw[if_neg (by decide)];refine wBc h1 h ?_;exact A4e
 |false =>
  rw[if_pos rfl];refine wBc h1 h ?_;exact A4e
theorem c_number31(n:Int):PC Tryz.prog 171 [I64 n] (D6 (X7 n)):=by
 refine PC.go A2 ?_;unfold X7;by_cases h0:n<0
 ·have hd:decide (n<0)=true:=by simpa using h0
  rw[if_pos (.inl h0)];refine wAs hd ?_;exact A4e
 ·have hd:decide (n<0)=false:=by simpa using h0
  by_cases h1:2147483647<n
  ·have hd1:decide (n>2147483647)=true:=by simpa using h1
   rw[if_pos (.inr h1)];refine wAs (wJ hd hd1) ?_;exact A4e
  ·have hd1:decide (n>2147483647)=false:=by simpa using h1
   rw[iN];refine wAs (wJ hd hd1) ?_;exact A4e
theorem c_words1(l:List (List UInt8))(hl:l.length<=1000000)(hx:∀x∈l,x.length<=1000000000):PC Tryz.prog 169 [Z2 l] (D6 (l.map A5)):=by
 refine PC.ofT A2 rfl (A0C rfl) (by simp[DV.nlL,DV.nl,M4]) (P0 _) ?_;refine wAp ?_;refine B6 (λq:Nat × Option Nat=>[(0,Z2 l),(3,todoV q.2 q.1),(4,I64 q.1)]) (λq=>optH Sym.nil q.2 ⟨4,true,cellsL (((l.take q.1).map A5).map Tok.v)⟩)
  (λq c=>q.1<=l.length/\(q.2=none->q.1=0)/\(∀i,q.2=some i->i<c)) (λq=>l.length-q.1) (0,none)
  (by simp[B5,tm,Tm.upd,todoV]) (Sub.nil _) ⟨A0N _,λ_=>rfl,(λi hi=>by cases hi)⟩ ?_
 rintro⟨k,o⟩ c ⟨hk,hno,ho⟩;dsimp only at hk hno ho ⊢;by_cases hlt:k<l.length
 ·have hd:=dtz hlt;have hg:=A0B hlt;have hx1:=hx _ (A0K hlt);have hw:=w64 (n:=(k:Int)+1);have e0:(l.take (k+1)).map A5=(l.take k).map A5++[A5 l[k]]:=by rw[A0R,hg,A0P];rfl
  generalize l[k]=x at hg hx1 e0;have h1:=c_IsWordR x;have h2:=c_IsNameR x (by omega);have ne0:=Q8 c (c+1) (by omega);have hln:(cellsL (((l.take k).map A5).map Tok.v)).length=k*4:=(C7 (u:=4) (G4 _)).trans (by rw[A0I,A0I,A0W,Nat.min_eq_left hk]);cases hw1:G9 x with
  |true =>
   refine wBi h1 h2 (wJ hd (wJ hg (wJ hw (wJ hw1 (wJ ne0 (wJ @A0 @A1)))))) ?_;refine G7 (D4 (cs:=cellsL (((l.take k).map A5).map Tok.v)) (λe=>by have:=hno e;subst this;exact⟨rfl,rfl⟩) (λi hi=>by have:=ho i hi;rw[hnO,hnO];exact A2j hi) hln (by omega) (by omega) (by omega)) ?_;refine wAy hd hw ne0 ?_;refine⟨(k+1,some (c+1+1)),zaa,?_,inv ⟨b8,(λh=>by cases h),(λi hi=>by cases hi;omega)⟩,by simp only;omega⟩;dsimp only[optH];rw[e0,A0P,C8];refine S2 ?_;unfold A5;simp only[hw1,if_true,if_false,A1R];rfl
  |false =>
   cases hn1:F6 x with
   |true =>
    refine wBi h1 h2 (wJ hd (wJ hg (wJ hw (wJ hw1 (wJ hn1 (wJ ne0 (wJ @A0 @A1))))))) ?_;refine G7 (D4 (cs:=cellsL (((l.take k).map A5).map Tok.v)) (λe=>by have:=hno e;subst this;exact⟨rfl,rfl⟩) (λi hi=>by have:=ho i hi;rw[hnO,hnO];exact A2j hi) hln (by omega) (by omega) (by omega)) ?_;refine wAy hd hw ne0 ?_;refine⟨(k+1,some (c+1+1)),zaa,?_,inv ⟨b8,(λh=>by cases h),(λi hi=>by cases hi;omega)⟩,by simp only;omega⟩;dsimp only[optH];rw[e0,A0P,C8];refine S2 ?_;unfold A5;simp only[hw1,hn1,if_true,if_false,A1R];rfl
   |false =>
    refine wBi h1 h2 (wJ hd (wJ hg (wJ hw (wJ hw1 (wJ hn1 (wJ ne0 (wJ @A0 @A1))))))) ?_;refine G7 (D4 (cs:=cellsL (((l.take k).map A5).map Tok.v)) (λe=>by have:=hno e;subst this;exact⟨rfl,rfl⟩) (λi hi=>by have:=ho i hi;rw[hnO,hnO];exact A2j hi) hln (by omega) (by omega) (by omega)) ?_;refine wAy hd hw ne0 ?_;refine⟨(k+1,some (c+1+1)),zaa,?_,inv ⟨b8,(λh=>by cases h),(λi hi=>by cases hi;omega)⟩,by simp only;omega⟩;dsimp only[optH];rw[e0,A0P,C8];refine S2 ?_;unfold A5;simp only[hw1,hn1,if_true,if_false,A1R];rfl
 ·have hd:=dfz hlt;refine wAs hd ?_;rw[A0J (by omega)];exact A6c (λe=>by rw[A1Z (l:=l) (by have:=hno e;omega)];rfl) (by simp;omega) (G4 _)
theorem c_join1(l:List (List Tok))(hl:l.length<=1000)(hx:∀x∈l,1<=x.length/\x.length<=1000000000):PC Tryz.prog 168 [.lst (l.map D6)] (D6 l.flatten):=by
 refine PC.ofT A2 rfl (A0C rfl) (by simp only[DV.nlL,DV.nl,L5 (f:=D6) (λa=>P0 a),A2U]) (P0 _) ?_;refine wAp ?_;refine B6 (λq:Nat × Option Nat=>[(0,.lst (l.map D6)),(3,todoV q.2 (l.take q.1).flatten.length),(4,I64 q.1)]) (λq=>optH Sym.nil q.2 ⟨4,true,cellsL ((l.take q.1).flatten.map Tok.v)⟩)
  (λq c=>q.1<=l.length/\(q.2=none->q.1=0)/\(∀i,q.2=some i->i<c)/\(l.take q.1).flatten.length<=1000000000*q.1) (λq=>l.length-q.1) (0,none)
  (by simp[B5,tm,Tm.upd,todoV]) (Sub.nil _) ⟨A0N _,λ_=>rfl,(λi hi=>by cases hi),by simp⟩ ?_
 rintro⟨k,o⟩ c ⟨hk,hno,ho,hlen⟩;dsimp only at hk hno ho hlen ⊢;by_cases hlt:k<l.length
 ·have hd:=dtz hlt;have hg:=A0B hlt;obtain⟨hx1,hx2⟩:=hx _ (A0K hlt);have hw:=w64 (n:=(k:Int)+1);have e0:(l.take (k+1)).flatten=(l.take k).flatten++l[k]:=by rw[A0R,hg,A2X];simp
  generalize l[k]=x at hg hx1 hx2 e0;generalize hy:(l.take k).flatten=y at hlen e0 ⊢;have hun:unit 4 (x.map Tok.v)=true:=by unfold unit;rw[A0V];intro d hd;simp[G4 x d hd]
  have hny:o=none->y=[]:=λe=>by rw[<- hy,hno e];rfl
  have hln:(cellsL (y.map Tok.v)).length=y.length*4:=(C7 (u:=4) (G4 _)).trans (by simp);(repeat'((with_reducible first|apply wr|refine B0 ?_ ?_|apply wb2<;>(intro hb;try simp only[hb]))<;>try simp only[go_sem,seval,hd,hg,hw,T6 hun]));refine G7 (D4 (cs:=cellsL (y.map Tok.v)) (λe=>by rw[hny e];exact⟨rfl,rfl⟩) (λi hi=>A2j hi) hln (by omega) (by omega) (by omega)) ?_;refine wAu (wJ hd hw) ?_;refine⟨(k+1,some c),w9,?_,inv ⟨b8,(λh=>by cases h),(λi hi=>by cases hi;omega),by simp only;rw[e0,A0A];omega⟩,by simp only;omega⟩;dsimp only[optH];rw[e0,A0P,C8];exact S2 rfl
 ·have hd:=dfz hlt;refine wAs hd ?_;rw[A0J (by omega)];exact A6c (λe=>by rw[A1Z (l:=l) (by have:=hno e;omega)];rfl) (by rw[A0I]) (G4 _)
theorem W5{H:Hp}{i j:Nat}:delO H (some i) j=if j=i then none else H j:=_root_.id rfl
theorem D2v{H:Hp}{i:Nat}{b:Blk}:delO (H.upd i b) (some i)=delO H (some i):=by
 funext j;rw[W5,W5];split
 ·rfl
 ·rename_i h;rw[h_ne h]
theorem D6m{H:Hp}{i k:Nat}{b:Blk}(h:¬k=i):delO (H.upd k b) (some i)=(delO H (some i)).upd k b:=by
 funext j;rw[W5]
 by_cases e:j=k
 ·subst e;rw[A0,if_neg h,A0]
 ·rw[h_ne e,h_ne e,W5]
theorem D6n{i:Nat}:delO nil (some i)=nil:=by
 funext j;rw[W5];split<;>rfl
theorem E1d{ks:List Nat}{H:Hp}{i:Nat}(h:ks.all (λk=>k != i)=true):L2 ks H (delO (I3 H ks) (some i))=delO H (some i):=by
 have hi:i ∉ ks:=λhm=>by simpa using A0V.1 h i hm
 funext j
 simp only[L2,W5,I3];by_cases e:j=i
 ·subst e;rw[if_neg hi,if_pos rfl,if_pos rfl]
 ·by_cases e2:j∈ks
  ·rw[if_pos e2,if_neg e]
  ·rw[if_neg e2,if_neg e,if_neg e,if_neg e2]
attribute [go_sem] D2v D6m D6n
theorem D5n{k i:Nat}{H:Hp}(h:¬k=i):L2 [k] H (delO (I3 H [k]) (some i))=delO H (some i):=E1d (by simpa using h)
attribute [go_sem] D5n
theorem A1v{f:Nat}{xs:List DV}{r:DV}{u id n cc:Nat}{H:Hp}{cs:List DV}(h:PC Tryz.prog f [.lst xs] r)(hb:H id=some ⟨u,true,cs⟩)(hcs:cs=cellsL xs)(hl:xs.length=n)(hu:∀x∈xs,x.cells.length=u):
  AC Tryz.prog f [.slc id 0 n] H cc (λv H' c'=>v=r/\H'=delO H (some id)/\c'=cc) :=
 AC.ghost (GL.frzS (id:=id) hb rfl (λj=>by
  by_cases e:j=id
  ·subst e;exact .inl (by rw[W5,if_pos rfl])
  ·exact .inr ⟨e,by rw[W5,if_neg e]⟩) (.cons _ _ _ _ (Q2 hl hu ⟨[],by rw[hcs];simp⟩) .nil)) (h.at _ cc)
def wT(x:List UInt8):List Tok:=[A5 x]
theorem A6y(x:List UInt8):1<=(wT x).length/\(wT x).length<=1000000000:=⟨A0D _,by show 1<=_;omega⟩
theorem wd1{x:List UInt8}{id cc:Nat}{H:Hp}(hb:H id=some ⟨1,true,[.str x]⟩)(hx:x.length<=1000000000):
  AC Tryz.prog 169 [.slc id 0 1] H cc (λv H' c'=>v=D6 (wT x)/\H'=delO H (some id)/\c'=cc) :=
 A1v (xs:=[.str x]) (c_words1 [x] (by simp) (by simpa using hx)) hb rfl rfl (N4 [x])
theorem wd2{x y:List UInt8}{id cc:Nat}{H:Hp}(hb:H id=some ⟨1,true,[.str x,.str y]⟩)(hx:x.length<=1000000000)(hy:y.length<=1000000000):
  AC Tryz.prog 169 [.slc id 0 2] H cc (λv H' c'=>v=D6 [A5 x,A5 y]/\H'=delO H (some id)/\c'=cc) :=
 A1v (xs:=[.str x,.str y]) (c_words1 [x,y] (by simp) (by simp[hx,hy])) hb rfl rfl (N4 [x,y])
theorem A5s(l:List (List Tok)):∀x∈l.map D6,x.cells.length=1:=λx hx=>w5
theorem jn2{a b:List Tok}{id cc:Nat}{H:Hp}(hH:H id=some ⟨1,true,[D6 a,D6 b]⟩)(ha:1<=a.length/\a.length<=1000000000)(hb:1<=b.length/\b.length<=1000000000):
  AC Tryz.prog 168 [.slc id 0 2] H cc (λv H' c'=>v=D6 (a++b)/\H'=delO H (some id)/\c'=cc):=by
 have:=A1v (id:=id) (cc:=cc) (H:=H) (u:=1) (n:=2) (c_join1 [a,b] (by simp) (by simp[ha,hb])) hH rfl rfl (A5s [a,b])
 rwa [A1H,A1H,A2I,A0Y]at this
theorem jn3{a b c:List Tok}{id cc:Nat}{H:Hp}(hH:H id=some ⟨1,true,[D6 a,D6 b,D6 c]⟩)(ha:1<=a.length/\a.length<=1000000000)(hb:1<=b.length/\b.length<=1000000000)(hc:1<=c.length/\c.length<=1000000000):
  AC Tryz.prog 168 [.slc id 0 3] H cc (λv H' c'=>v=D6 (a++b++c)/\H'=delO H (some id)/\c'=cc):=by
 have:=A1v (id:=id) (cc:=cc) (H:=H) (u:=1) (n:=3) (c_join1 [a,b,c] (by simp) (by simp[ha,hb,hc])) hH rfl rfl (A5s [a,b,c])
 rwa [A1H,A1H,A1H,A2I,A0Y, <- A0O]at this
theorem E0t(x:List UInt8):1<=(F7 x).length/\(F7 x).length<=1000000000:=by rw[C6];omega
theorem c_operand(e:Ex)(n:Int)(hT:(exT e).length<=100000000)(h:PC Tryz.prog 232 [e.v] (D6 (exT e))):PC Tryz.prog 240 [e.v,I64 n] (D6 (H9 (e.kind,exT e) n)):=by
 refine PC.ofT A2 rfl (A0C rfl) (by simp[DV.nlL,DV.nl,Ex.nl]) (P0 _) ?_;rw[Ex.v_w]at h ⊢;have hlv:=c_level e.kind;obtain⟨hl1, -⟩:=A4j e;obtain⟨R,hR⟩:∃R,R=D6 (H9 (e.kind,exT e) n):=⟨_,rfl⟩;rw[<- hR];unfold H9 at hR;dsimp only at hR;generalize exT e=T at h hT hl1 hR;by_cases hlt:B9 e.kind<n
 ·have hd:decide (B9 e.kind<n)=true:=by simpa using hlt
  rw[if_pos hlt]at hR;(repeat'((first|(with_reducible first|apply wr|refine cpc hlv ?_|refine cpc h ?_|refine B0 ?_ ?_)|(with_reducible apply wb2<;>(intro hb;try simp only[hb]))|(refine ca3 (wd1 rfl (by decide)) ?_)|(refine ca3 (jn3 rfl (A6y _) ⟨hl1,by omega⟩ (A6y _)) ?_))<;>try simp only[go_sem,seval,hd]));exact⟨_,by rw[hR];exact GL.refl _ _⟩
 ·have hd:decide (B9 e.kind<n)=false:=by simpa using hlt
  rw[if_neg hlt]at hR;refine wBi hlv h hd ?_;exact⟨_,by rw[hR];exact GL.refl _ _⟩
theorem C9k{sz:Nat}{xs:List DV}{k:IntKind}:A0u sz (.lst xs) (.int k 1)=C6w sz xs[1]? := C0s (l:=1)
theorem c_exprT:∀(m:Nat) (e:Ex),e.sz<m->e.sz<=10000000->PC Tryz.prog 232 [e.v] (D6 (exT e)):=by
 intro m
 induction m with
 |zero=>intro e h;omega
 |succ m ih =>
 intro e hm hB;have ihx:∀x∈e.args,PC Tryz.prog 232 [x.v] (D6 (exT x)):=λx hx=>ih x (by have:=Ex.sz_arg hx;omega) (by have:=Ex.sz_arg hx;omega);have hop:∀x∈e.args, ∀n,PC Tryz.prog 240 [x.v,I64 n] (D6 (H9 (x.kind,exT x) n)):=λx hx n=>c_operand x n (by have:=(A4j x).2;have:=Ex.sz_arg hx;omega) (ihx x hx);have hle:∀x∈e.args, ∀n,1<=(H9 (x.kind,exT x) n).length/\(H9 (x.kind,exT x) n).length<=1000000000:=λx hx n=>by
  have h1:=A4j x;have h2:=Ex.sz_arg hx;have h3:=A4f (x.kind,exT x) n;dsimp only at h3;omega
 clear ih ihx;obtain⟨R,hR⟩:∃R,R=D6 (exT e):=⟨_,rfl⟩;have hnm:=e.sz_name;refine PC.ofT A2 rfl (A0C rfl) (by simp[DV.nlL,DV.nl,Ex.nl]) (P0 _) ?_;rw[Ex.v_w, <- hR];cases e with|mk k v n a p =>
 rw[exT,A6r]at hR;dsimp only[Ex.w,Ex.kind,Ex.value,Ex.name,Ex.args,Ex.pos]at hop hle hnm ⊢;unfold N7 at hR;dsimp only at hR;have hlv:=c_level k;have hnu:=c_number31 v;have hna:=c_named n (by omega);by_cases h1:k=1
 ·subst h1;rw[if_pos rfl]at hR;refine wBg hlv hnu ?_;exact⟨_,by rw[hR];exact GL.refl _ _⟩
 have d1:(k==1)=false:=w7
 rw[if_neg h1]at hR;by_cases h2:k=2
 ·subst h2;rw[if_pos rfl]at hR;refine wBg hlv hna ?_;exact⟨_,by rw[hR];exact GL.refl _ _⟩
 have d2:(k==2)=false:=by simpa using h2
 rw[if_neg h2]at hR;by_cases h3:k=3
 ·subst h3;rw[if_pos rfl]at hR;refine wAg hlv ?_;exact⟨_,by rw[hR];exact GL.refl _ _⟩
 have d3:(k==3)=false:=by simpa using h3
 rw[if_neg h3]at hR;by_cases h4:k=4
 ·subst h4;rw[if_pos rfl]at hR;refine wAg hlv ?_;exact⟨_,by rw[hR];exact GL.refl _ _⟩
 have d4:(k==4)=false:=by simpa using h4
 rw[if_neg h4]at hR;by_cases h8:k=8
 ·subst h8;rw[if_pos rfl]at hR;refine wAg hlv ?_;exact⟨_,by rw[hR];exact GL.refl _ _⟩
 have d8:(k==8)=false:=by simpa using h8
 rw[if_neg h8]at hR;by_cases h9:k=9
 ·subst h9;rw[if_pos rfl]at hR;refine wAg hlv ?_;exact⟨_,by rw[hR];exact GL.refl _ _⟩
 have d9:(k==9)=false:=by simpa using h9
 rw[if_neg h9]at hR;by_cases h5:k=5
 ·subst h5;rw[if_pos rfl]at hR;refine wAd hlv hna ?_;exact⟨_,by rw[hR];exact GL.refl _ _⟩
 have d5:(k==5)=false:=by simpa using h5
 rw[if_neg h5]at hR;by_cases h6:k=6
 ·subst h6;rw[if_pos rfl]at hR;refine wAd hlv hna ?_;exact⟨_,by rw[hR];exact GL.refl _ _⟩
 have d6:(k==6)=false:=by simpa using h6
 rw[if_neg h6]at hR;by_cases h7:k=7
 ·subst h7;rw[if_pos rfl]at hR;refine wAd hlv hna ?_;exact⟨_,by rw[hR];exact GL.refl _ _⟩
 have d7:(k==7)=false:=by simpa using h7
 rw[if_neg h7]at hR;have hbad:∀q:List Tok,R=D6 q->q=[V1]->∃H2,GL ((nil.upd 0 ⟨0,true,[I64 k,I64 v,.str n,J4 a,I64 p]⟩).upd 1 ⟨4,true,[I64 0,.str [],I64 0,I64 0]⟩) [.slc 1 0 1] H2 [R]:=λq h1 h2=>by
  rw[h1,h2];exact O6 (id:=1) A0 rfl rfl (G4 [V1]) ⟨[],rfl⟩
 have w0:IntKind.i64.wrap 0=0:=r9
 have w1:IntKind.i64.wrap 1=1:=r9
 match a with
 |[] =>
  have e1:((0:Int)==1)=false:=rfl;have e2:((0:Int)==2)=false:=rfl;try dsimp only[List.map_nil]at hR
  by_cases l6:B9 k=6
  ·have m6:(B9 k==6)=true:=by simpa using l6
   have m5:decide (B9 k<6)=false:=a8
   refine wBa hlv (wJ d1 (wJ d2 (wJ d3 (wJ d4 (wJ d8 (wJ d9 (wJ d5 (wJ d6 (wJ d7 (wJ m6 m5)))))))))) ?_;exact hbad _ hR rfl
  ·have m6:(B9 k==6)=false:=by simpa using l6
   by_cases l5:B9 k<6
   ·have m5:decide (B9 k<6)=true:=by simpa using l5
    refine wBa hlv (wJ d1 (wJ d2 (wJ d3 (wJ d4 (wJ d8 (wJ d9 (wJ d5 (wJ d6 (wJ d7 (wJ m6 m5)))))))))) ?_;exact hbad _ hR rfl
   ·have m5:decide (B9 k<6)=false:=by simpa using l5
    refine wBa hlv (wJ d1 (wJ d2 (wJ d3 (wJ d4 (wJ d8 (wJ d9 (wJ d5 (wJ d6 (wJ d7 (wJ m6 m5)))))))))) ?_;exact hbad _ hR rfl
 |[x] =>
  have hx:=λn=>by have:=hop x A0M n;rwa [Ex.v_w]at this
  have hxl:=hle x A0M;simp only[A0U,List.map_nil]at hR;by_cases l6:B9 k=6
  ·have m6:(B9 k==6)=true:=by simpa using l6
   rw[if_pos l6]at hR;have hk:k=10\/k=11:=by
    unfold B9 at l6;repeat' split at l6
    all_goals omega
   rcases hk with rfl|rfl
   ·rw[if_pos rfl]at hR;refine wAc hlv (hx 6) (wJ d1 (wJ d2 (wJ d3 (wJ d4 (wJ d8 (wJ d9 (wJ d5 (wJ d6 (wJ d7 (wJ m6 (wJ w0 (wJ w1 @Ex.v_w)))))))))))) ?_;exact⟨_,by rw[hR];exact GL.refl _ _⟩
   ·rw[if_neg (by decide)]at hR;refine wAc hlv (hx 6) (wJ d1 (wJ d2 (wJ d3 (wJ d4 (wJ d8 (wJ d9 (wJ d5 (wJ d6 (wJ d7 (wJ m6 (wJ w0 (wJ w1 @Ex.v_w)))))))))))) ?_;exact⟨_,by rw[hR];exact GL.refl _ _⟩
  ·have m6:(B9 k==6)=false:=by simpa using l6
   rw[if_neg l6]at hR;by_cases l5:B9 k<6
   ·have m5:decide (B9 k<6)=true:=by simpa using l5
    refine wBf hlv d1 d2 d3 d4 d8 d9 d5 d6 d7 m6 m5 ?_;exact hbad _ hR rfl
   ·have m5:decide (B9 k<6)=false:=by simpa using l5
    refine wBf hlv d1 d2 d3 d4 d8 d9 d5 d6 d7 m6 m5 ?_;exact hbad _ hR rfl
 |[x,y] =>
  have hx:=λn=>by have:=hop x A0M n;rwa [Ex.v_w]at this
  have hxl:=hle x A0M;have hy:=λn=>by have:=hop y (A0H _ A0M) n;rwa [Ex.v_w]at this
  have hyl:=hle y (A0H _ A0M);simp only[A0U,List.map_nil]at hR;by_cases l5:B9 k<6
  ·have m5:decide (B9 k<6)=true:=by simpa using l5
   have m6:(B9 k==6)=false:=a8
   rw[if_pos l5]at hR;obtain⟨k1,k2⟩:=B5r (k:=k) (by omega);have k3:12<=k:=by
    apply Classical.byContradiction;intro hc;have:k=10\/k=11:=b8
    rw[A6l this]at l5;omega
   obtain⟨j,hj⟩:∃j:Nat,k=12+(j:Int):=⟨(k-12).toNat,by omega⟩;have hjw:IntKind.i64.wrap (k-12)=(j:Int):=i7
   have hjn:(k-12).toNat=j:=b8
   rw[hjn]at hR;have hj13:j<13:=b8
   have hgj:D2[j]? = some (D2.getD j []):=by
    rw[A1E,A0B (show j<D2.length from hj13)];rfl
   have hsl:(D2.getD j []).length<=1000000000:=by
    have:∀i:Nat,i<13->(D2.getD i []).length<=1000000000:=r9
    exact this j hj13
   generalize D2.getD j []=S at hR hgj hsl;have hw1:IntKind.i64.wrap (B9 k+1)=B9 k+1:=w64 (by have:=A0d k;omega) (by have:=A0d k;omega);by_cases l3:B9 k=3
   ·have m3:(B9 k==3)=true:=by simpa using l3
    rw[if_pos l3]at hR;(repeat'((first|(with_reducible first|apply wr|refine cpc hlv ?_|refine cpc (hx 4) ?_|refine cpc c_signs31 ?_|refine cpc (hy (B9 k+1)) ?_|refine B0 ?_ ?_)|(with_reducible apply wb2<;>(intro hb;try simp only[hb]))|(refine ca3 (wd1 rfl hsl) ?_)|(refine ca3 (jn3 rfl (hxl 4) (A6y _) (hyl (B9 k+1))) ?_))<;>try simp only[go_sem,seval,d1,d2,d3,d4,d8,d9,d5,d6,d7,m6,m5,m3,hjw,hgj,hw1,Ex.v_w,C9k,A3F,A3E]));exact⟨_,by rw[hR];exact GL.refl _ _⟩
   ·have m3:(B9 k==3)=false:=by simpa using l3
    rw[if_neg l3]at hR;(repeat'((first|(with_reducible first|apply wr|refine cpc hlv ?_|refine cpc (hx (B9 k)) ?_|refine cpc c_signs31 ?_|refine cpc (hy (B9 k+1)) ?_|refine B0 ?_ ?_)|(with_reducible apply wb2<;>(intro hb;try simp only[hb]))|(refine ca3 (wd1 rfl hsl) ?_)|(refine ca3 (jn3 rfl (hxl (B9 k)) (A6y _) (hyl (B9 k+1))) ?_))<;>try simp only[go_sem,seval,d1,d2,d3,d4,d8,d9,d5,d6,d7,m6,m5,m3,hjw,hgj,hw1,Ex.v_w,C9k,A3F,A3E]));exact⟨_,by rw[hR];exact GL.refl _ _⟩
  ·have m5:decide (B9 k<6)=false:=by simpa using l5
   rw[if_neg l5]at hR;by_cases l6:B9 k=6
   ·have m6:(B9 k==6)=true:=by simpa using l6
    refine wBf hlv d1 d2 d3 d4 d8 d9 d5 d6 d7 m6 m5 ?_;exact hbad _ hR rfl
   ·have m6:(B9 k==6)=false:=by simpa using l6
    refine wBf hlv d1 d2 d3 d4 d8 d9 d5 d6 d7 m6 m5 ?_;exact hbad _ hR rfl
 |x::y::z::l =>
  simp only[A0U]at hR;obtain⟨A,hA⟩:∃A,A=(x::y::z::l).map Ex.v:=⟨_,rfl⟩;have n1:((A.length:Int)==1)=false:=by rw[hA];simp;omega
  have n2:((A.length:Int)==2)=false:=by rw[hA];simp;omega
  have hex:J4 (x::y::z::l)=.lst A:=by rw[hA]
  rw[hex]at hbad ⊢;by_cases l6:B9 k=6
  ·have m6:(B9 k==6)=true:=by simpa using l6
   have m5:decide (B9 k<6)=false:=a8
   refine wBc hlv (wJ d1 (wJ d2 (wJ d3 (wJ d4 (wJ d8 (wJ d9 (wJ d5 (wJ d6 (wJ d7 (wJ m6 (wJ m5 (wJ n1 n2)))))))))))) ?_;exact hbad _ hR rfl
  ·have m6:(B9 k==6)=false:=by simpa using l6
   by_cases l5:B9 k<6
   ·have m5:decide (B9 k<6)=true:=by simpa using l5
    refine wBc hlv (wJ d1 (wJ d2 (wJ d3 (wJ d4 (wJ d8 (wJ d9 (wJ d5 (wJ d6 (wJ d7 (wJ m6 (wJ m5 (wJ n1 n2)))))))))))) ?_;exact hbad _ hR rfl
   ·have m5:decide (B9 k<6)=false:=by simpa using l5
    refine wBc hlv (wJ d1 (wJ d2 (wJ d3 (wJ d4 (wJ d8 (wJ d9 (wJ d5 (wJ d6 (wJ d7 (wJ m6 (wJ m5 (wJ n1 n2)))))))))))) ?_;exact hbad _ hR rfl
end Go.Proofs.YtdclpmddofggcaaGreatDoor
set_option maxHeartbeats 8000000
namespace Go.Proofs.YtdclpmddofggcaaGreatDoor
open Go.Eng (IC IOper DReg IFn L4)
open Go.Sym Go.Pb
theorem lw(x:List UInt8):(wT x).length=1:=rfl
theorem jn4{a b c d:List Tok}{id cc:Nat}{H:Hp}(hH:H id=some ⟨1,true,[D6 a,D6 b,D6 c,D6 d]⟩)(ha:1<=a.length/\a.length<=1000000000)(hb:1<=b.length/\b.length<=1000000000)(hc:1<=c.length/\c.length<=1000000000)(hd:1<=d.length/\d.length<=1000000000):
  AC Tryz.prog 168 [.slc id 0 4] H cc (λv H' c'=>v=D6 (a++b++c++d)/\H'=delO H (some id)/\c'=cc):=by
 have:=A1v (id:=id) (cc:=cc) (H:=H) (u:=1) (n:=4) (c_join1 [a,b,c,d] (by simp) (by simp[ha,hb,hc,hd])) hH rfl rfl (A5s [a,b,c,d])
 rwa [A1H,A1H,A1H,A1H,A2I,A0Y, <- A0O, <- A0O]at this
theorem jn5{a b c d e:List Tok}{id cc:Nat}{H:Hp}(hH:H id=some ⟨1,true,[D6 a,D6 b,D6 c,D6 d,D6 e]⟩)(ha:1<=a.length/\a.length<=1000000000)(hb:1<=b.length/\b.length<=1000000000)(hc:1<=c.length/\c.length<=1000000000)(hd:1<=d.length/\d.length<=1000000000)(he:1<=e.length/\e.length<=1000000000):
  AC Tryz.prog 168 [.slc id 0 5] H cc (λv H' c'=>v=D6 (a++b++c++d++e)/\H'=delO H (some id)/\c'=cc):=by
 have:=A1v (id:=id) (cc:=cc) (H:=H) (u:=1) (n:=5) (c_join1 [a,b,c,d,e] (by simp) (by simp[ha,hb,hc,hd,he])) hH rfl rfl (A5s [a,b,c,d,e])
 rwa [A1H,A1H,A1H,A1H,A1H,A2I,A0Y, <- A0O, <- A0O, <- A0O]at this
theorem jo2{a b:List Tok}{id cc:Nat}{H:Hp}(hH:H id=some ⟨1,true,[D6 a,D6 b]⟩)(ha:1<=a.length/\a.length<=1000000000:=by constructor<;>(try simp only[A0A,lw,C6,F9,G8])<;>omega)(hb:1<=b.length/\b.length<=1000000000:=by constructor<;>(try simp only[A0A,lw,C6,F9,G8])<;>omega):
  AC Tryz.prog 168 [.slc id 0 2] H cc (λv H' c'=>v=D6 (a++b)/\H'=delO H (some id)/\c'=cc):=jn2 hH ha hb
theorem jo3{a b c:List Tok}{id cc:Nat}{H:Hp}(hH:H id=some ⟨1,true,[D6 a,D6 b,D6 c]⟩)(ha:1<=a.length/\a.length<=1000000000:=by constructor<;>(try simp only[A0A,lw,C6,F9,G8])<;>omega)(hb:1<=b.length/\b.length<=1000000000:=by constructor<;>(try simp only[A0A,lw,C6,F9,G8])<;>omega)(hc:1<=c.length/\c.length<=1000000000:=by constructor<;>(try simp only[A0A,lw,C6,F9,G8])<;>omega):
  AC Tryz.prog 168 [.slc id 0 3] H cc (λv H' c'=>v=D6 (a++b++c)/\H'=delO H (some id)/\c'=cc):=jn3 hH ha hb hc
theorem jo4{a b c d:List Tok}{id cc:Nat}{H:Hp}(hH:H id=some ⟨1,true,[D6 a,D6 b,D6 c,D6 d]⟩)(ha:1<=a.length/\a.length<=1000000000:=by constructor<;>(try simp only[A0A,lw,C6,F9,G8])<;>omega)(hb:1<=b.length/\b.length<=1000000000:=by constructor<;>(try simp only[A0A,lw,C6,F9,G8])<;>omega)(hc:1<=c.length/\c.length<=1000000000:=by constructor<;>(try simp only[A0A,lw,C6,F9,G8])<;>omega)(hd:1<=d.length/\d.length<=1000000000:=by constructor<;>(try simp only[A0A,lw,C6,F9,G8])<;>omega):
  AC Tryz.prog 168 [.slc id 0 4] H cc (λv H' c'=>v=D6 (a++b++c++d)/\H'=delO H (some id)/\c'=cc):=jn4 hH ha hb hc hd
theorem jo5{a b c d e:List Tok}{id cc:Nat}{H:Hp}(hH:H id=some ⟨1,true,[D6 a,D6 b,D6 c,D6 d,D6 e]⟩)(ha:1<=a.length/\a.length<=1000000000:=by constructor<;>(try simp only[A0A,lw,C6,F9,G8])<;>omega)(hb:1<=b.length/\b.length<=1000000000:=by constructor<;>(try simp only[A0A,lw,C6,F9,G8])<;>omega)(hc:1<=c.length/\c.length<=1000000000:=by constructor<;>(try simp only[A0A,lw,C6,F9,G8])<;>omega)(hd:1<=d.length/\d.length<=1000000000:=by constructor<;>(try simp only[A0A,lw,C6,F9,G8])<;>omega)(he:1<=e.length/\e.length<=1000000000:=by constructor<;>(try simp only[A0A,lw,C6,F9,G8])<;>omega):
  AC Tryz.prog 168 [.slc id 0 5] H cc (λv H' c'=>v=D6 (a++b++c++d++e)/\H'=delO H (some id)/\c'=cc):=jn5 hH ha hb hc hd he
theorem wo1{x:List UInt8}{id cc:Nat}{H:Hp}(hb:H id=some ⟨1,true,[.str x]⟩)(hx:x.length<=1000000000:=by first|assumption|decide):
  AC Tryz.prog 169 [.slc id 0 1] H cc (λv H' c'=>v=D6 (wT x)/\H'=delO H (some id)/\c'=cc):=wd1 hb hx
theorem C5l(l:List Ex)(i:Nat)(hl:Ex.szs l<=10000000):1<=(agT l i).length/\(agT l i).length<=100000000:=by
 unfold agT;cases h:l[i]? with
 |none=>exact⟨A0D _,by decide⟩
 |some e =>
  have h1:=A4j e;have h2:=Ex.szs_mem (A0S h);dsimp only;omega
theorem c_arg(l:List Ex)(i:Nat)(hi:i<=5)(hl:Ex.szs l<=10000000):PC Tryz.prog 218 [J4 l,I64 i] (D6 (agT l i)):=by
 refine PC.ofT A2 rfl (A0C rfl) (by simp[DV.nlL,DV.nl,A2l]) (P0 _) ?_;unfold agT;cases h:l[i]? with
 |none =>
  have hlt:l.length<=i:=List.getElem?_eq_none_iff.1 h;have hd:decide ((i:Int)≥(l.length:Int))=true:=a8
  refine wAr hd ?_;exact A4e
 |some e =>
  have hlt:=(A1C.1 h).1;have hd:decide ((i:Int)≥(l.length:Int))=false:=a8
  have he:=c_exprT (e.sz+1) e (by omega) (by have:=Ex.szs_mem (A0S h);omega);rw[Ex.v_w]at he;refine wBb he (wJ hd (wJ h @Ex.v_w)) ?_;exact⟨_,GL.refl _ _⟩
theorem B5f{c:Nat}{k v p:Int}{x:List UInt8}:∃H2,GL (nil.upd c ⟨4,true,[I64 k,.str x,I64 v,I64 p]⟩) [.slc c 0 1] H2 [D6 [⟨k,x,v,p⟩]] :=
 O6 A0 rfl rfl (G4 _) ⟨[],rfl⟩
theorem c_text31(s:List UInt8)(hs:s.length<=1000000000):PC Tryz.prog 219 [.str s] (D6 (A2s s)):=by
 refine PC.ofT A2 rfl (A0C rfl) rfl (P0 _) ?_;unfold A2s;refine wAp ?_;refine B6 (λk:Nat=>[(0,.str s),(3,I64 k)]) (λ_=>Sym.nil) (λk c=>k<=s.length/\(s.take k).all txB=true) (λk=>s.length-k) 0 (by simp[B5,tm,Tm.upd]) (Sub.nil _) ⟨A0N _,rfl⟩ ?_;rintro k c ⟨hk,ha⟩;by_cases hlt:k<s.length
 ·have hd:=dtz hlt;have hg:=A0B hlt;have hw:=w64 (n:=(k:Int)+1);have e0:(s.take (k+1)).all txB=((s.take k).all txB&&txB s[k]):=by rw[A0R,hg,List.all_append];simp
  have e1:txB s[k]=false->s.all txB=false:=λh=>by
   cases hz:s.all txB with
   |false=>rfl
   |true=>rw[A0V]at hz;rw[hz _ (A0K hlt)]at h;cases h
  generalize s[k]=x at hg e0 e1;by_cases h1:x.toNat<32
  ·have hd1:decide ((x.toNat:Int)<32)=true:=by simp;omega
   rw[if_pos (.inl (e1 (by simp[txB];omega)))];refine wAz hd hg hw hd1 ?_;exact B5f
  ·have hd1:decide ((x.toNat:Int)<32)=false:=by simp;omega
   by_cases h2:126<x.toNat
   ·have hd2:decide ((x.toNat:Int)>126)=true:=by simp;omega
    rw[if_pos (.inl (e1 (by simp[txB];omega)))];refine wA2 hd hg hw hd1 hd2 ?_;exact B5f
   ·have hd2:decide ((x.toNat:Int)>126)=false:=by simp;omega
    have e2:txB x=true:=by simp[txB];omega
    refine wA2 hd hg hw hd1 hd2 ?_;exact⟨k+1,b9,Sub.nil _,inv ⟨b8,by rw[e0,ha,e2];rfl⟩,by omega⟩
 ·have hd:=dfz hlt;rw[A0J (by omega)]at ha;by_cases h3:32<s.length
  ·have hd3:decide ((s.length:Int)>32)=true:=by simp;omega
   rw[if_pos (.inr h3)];refine wAs (wJ hd hd3) ?_;exact B5f
  ·have hd3:decide ((s.length:Int)>32)=false:=by simp;omega
   rw[if_neg (by rw[ha];simp;omega)];refine wAs (wJ hd hd3) ?_;exact B5f
theorem D4e(x:Pb.St):Pb.St.szs [x]=x.sz:=by rw[Pb.St.szs,Pb.St.szs];omega
theorem c_stmtT(m:Nat)(ihs:∀x:Pb.St,x.sz<m->PC Tryz.prog 196 [x.v] (D6 (stT x)))(ihb:∀l:List Pb.St,Pb.St.szs l<m->PC Tryz.prog 172 [F5 l] (D6 (blT l)))
  (hlb:∀l:List Pb.St,Pb.St.szs l<m->1<=(blT l).length/\(blT l).length<=100000000) (hls:∀x:Pb.St,x.sz<m->1<=(stT x).length/\(stT x).length<=100000000)
  (s:Pb.St) (hm:s.sz<=m) (hB:s.sz<=10000000):PC Tryz.prog 196 [s.v] (D6 (stT s)):=by
 obtain⟨R,hR⟩:∃R,R=D6 (stT s):=⟨_,rfl⟩;have hnm:=s.sz_name;have htx:=s.sz_text;have hax:Ex.szs s.args<=10000000:=by cases s with|mk k n t a x y p=>rw[Pb.St.sz]at hB;show Ex.szs a<=_;omega
 have hxx:=s.sz_thn;have hyy:=s.sz_els;refine PC.ofT A2 rfl (A0C rfl) (by simp[DV.nlL,DV.nl,Pb.St.nl]) (P0 _) ?_;rw[Pb.St.v_w, <- hR];cases s with|mk k n t a x y p =>
 unfold stT at hR;dsimp only[Pb.St.w,Pb.St.kind,Pb.St.name,Pb.St.text,Pb.St.args,Pb.St.thn,Pb.St.els,Pb.St.pos]at hnm htx hax hxx hyy ⊢;have hna:=c_named n (by omega);have hte:=c_text31 t (by omega);have ha0:=c_arg a 0 (by decide) hax;have ha1:=c_arg a 1 (by decide) hax;have la0:=C5l a 0 hax;have la1:=C5l a 1 hax;rw[show((0:Nat):Int)=0 from rfl]at ha0;rw[show((1:Nat):Int)=1 from rfl]at ha1;have hbx:=ihb x (by omega);have hby:=ihb y (by omega);have lbx:=hlb x (by omega);have lby:=hlb y (by omega);by_cases h1:k=1
 ·subst h1;rw[if_pos rfl]at hR;(repeat'((first|(with_reducible first|apply wr|refine cpc hna ?_|refine cpc ha0 ?_|refine B0 ?_ ?_)|(with_reducible apply wb2<;>(intro hb;try simp only[hb]))|(refine ca3 (wo1 rfl) ?_)|(refine ca3 (jo2 rfl) ?_)|(refine ca3 (jo3 rfl) ?_)|(refine ca3 (jo4 rfl) ?_)|(refine ca3 (jo5 rfl) ?_))<;>try simp only[go_sem,seval]));exact⟨_,by rw[hR];exact GL.refl _ _⟩
 rw[if_neg h1]at hR;have d1:(k==1)=false:=w7
 by_cases hbk:k<2\/19<k
 ·rw[if_pos hbk]at hR;by_cases h2:k<2
  ·have d2:decide (k<2)=true:=by simpa using h2
   refine wAs (wJ d1 d2) ?_;rw[hR];exact O6 (id:=1) A0 rfl rfl (G4 [V1]) ⟨[],rfl⟩
  ·have d2:decide (k<2)=false:=by simpa using h2
   have d3:decide (k>19)=true:=a8
   refine wAx d1 d2 d3 ?_;rw[hR];exact O6 (id:=1) A0 rfl rfl (G4 [V1]) ⟨[],rfl⟩
 rw[if_neg hbk]at hR;have e2:decide (k<2)=false:=a8
 have e3:decide (k>19)=false:=a8
 dsimp only at hR;obtain⟨j,hj⟩:∃j:Nat,k=2+(j:Int):=⟨(k-2).toNat,by omega⟩;have hjw:IntKind.i64.wrap (k-2)=(j:Int):=i7
 have hjn:(k-2).toNat=j:=b8
 rw[hjn]at hR;have hj18:j<18:=b8
 have hgj:C5[j]? = some (C5.getD j []):=by
  rw[A1E,A0B (show j<C5.length from hj18)];rfl
 have hsl:(C5.getD j []).length<=1000000000:=by
  have:∀i:Nat,i<18->(C5.getD i []).length<=1000000000:=r9
  exact this j hj18
 generalize C5.getD j []=S at hR hgj hsl;have dk:∀q:Int,¬k=q->(k==q)=false:=λq h=>by simpa using h
 (repeat'((first|(with_reducible first|refine J8 (p:=IW _ _ (pz Tryz.prog 196 (.i (.o (.i (.o .h))))) _ _) ?_|refine wr ?_|refine cpc c_stmts31 ?_|refine B0 ?_ ?_)|(with_reducible apply wb2<;>(intro hb;try simp only[hb]))|(refine ca3 (wo1 rfl) ?_))<;>try simp only[go_sem,seval,d1,e2,e3,hjw,hgj]));unfold B3a;by_cases h2:k=2\/k=3
 ·rw[if_pos h2]at hR;have dd:(k==2)=true\/(k==2)=false/\(k==3)=true:=by
   rcases h2 with rfl|rfl
   ·exact .inl rfl
   ·exact .inr ⟨rfl,rfl⟩
  clear h2 hj hjn h1 hbk
  match y with
  |[] =>
   dsimp only at hR;rcases dd with d2|⟨d2,d3⟩
   ·refine wAe ha0 hbx d2 ?_;exact⟨_,by rw[hR];exact GL.refl _ _⟩
   ·refine wAe ha0 hbx (wJ d2 d3) ?_;exact⟨_,by rw[hR];exact GL.refl _ _⟩
  |[q] =>
   rw[D4e]at hyy;have hq:=ihs q (by omega);have lq:=hls q (by omega);rw[Pb.St.v_w]at hq;dsimp only at hR;have hone:blT [q]=wT [123]++stT q++wT [125]:=by unfold blT;rw[T2,T2,A0Y];rfl
   have hby':=hby;rw[hone]at hby lby;by_cases hk2:q.kind=2
   ·rw[if_pos hk2]at hR;have m2:(q.kind==2)=true:=by simpa using hk2
    rcases dd with d2|⟨d2,d3⟩
    ·refine wAb ha0 hbx hq (wJ d2 (wJ m2 @Pb.St.v_w)) ?_;exact⟨_,by rw[hR];exact GL.refl _ _⟩
    ·refine wAb ha0 hbx hq (wJ d2 (wJ d3 (wJ m2 @Pb.St.v_w))) ?_;exact⟨_,by rw[hR];exact GL.refl _ _⟩
   ·rw[if_neg hk2]at hR;have m2:(q.kind==2)=false:=by simpa using hk2
    rcases dd with d2|⟨d2,d3⟩
    ·refine wAb ha0 hbx hby (wJ d2 (wJ m2 @Pb.St.v_w)) ?_;exact⟨_,by rw[hR];exact GL.refl _ _⟩
    ·refine wAb ha0 hbx hby (wJ d2 (wJ d3 (wJ m2 @Pb.St.v_w))) ?_;exact⟨_,by rw[hR];exact GL.refl _ _⟩
  |q::q2::l =>
   dsimp only at hR;obtain⟨A,hA⟩:∃A,A=(q::q2::l).map Pb.St.v:=⟨_,rfl⟩;have n1:((A.length:Int)==1)=false:=by rw[hA];simp;omega
   have n2:decide ((A.length:Int)>0)=true:=by rw[hA];simp;omega
   have hex:F5 (q::q2::l)=.lst A:=by rw[hA]
   rw[hex]at hby ⊢;rcases dd with d2|⟨d2,d3⟩
   ·refine wAb ha0 hbx hby (wJ d2 (wJ n1 n2)) ?_;exact⟨_,by rw[hR];exact GL.refl _ _⟩
   ·refine wAb ha0 hbx hby (wJ d2 (wJ d3 (wJ n1 n2))) ?_;exact⟨_,by rw[hR];exact GL.refl _ _⟩
 rw[if_neg h2]at hR;have d2:=dk 2 (λh=>h2 (.inl h));have d3:=dk 3 (λh=>h2 (.inr h));by_cases h4:k=4
 ·subst h4;rw[if_pos rfl]at hR;refine wAh ha0 (wJ d2 d3) ?_;exact⟨_,by rw[hR];exact GL.refl _ _⟩
 rw[if_neg h4]at hR;have d4:=dk 4 h4;by_cases h18:k=18
 ·subst h18;rw[if_pos rfl]at hR;refine wAf ha0 hte (wJ d2 (wJ d3 d4)) ?_;exact⟨_,by rw[hR];exact GL.refl _ _⟩
 rw[if_neg h18]at hR;have d18:=dk 18 h18;by_cases h8:k=8\/k=10
 ·rw[if_pos h8]at hR;rcases h8 with rfl|rfl
  ·refine wAf ha0 hna (wJ d2 (wJ d3 (wJ d4 d18))) ?_;exact⟨_,by rw[hR];exact GL.refl _ _⟩
  ·refine wAf ha0 hna (wJ d2 (wJ d3 (wJ d4 d18))) ?_;exact⟨_,by rw[hR];exact GL.refl _ _⟩
 rw[if_neg h8]at hR;have d8:=dk 8 (λh=>h8 (.inl h));have d10:=dk 10 (λh=>h8 (.inr h));by_cases h9:k=9
 ·subst h9;rw[if_pos rfl]at hR;refine wAb ha0 ha1 hna (wJ d2 (wJ d3 (wJ d4 (wJ d18 (wJ d8 d10))))) ?_;exact⟨_,by rw[hR];exact GL.refl _ _⟩
 rw[if_neg h9]at hR;have d9:=dk 9 h9;by_cases h19:k=19
 ·subst h19;rw[if_pos rfl]at hR;(repeat'((first|(with_reducible first|apply wr|refine B0 ?_ ?_)|(with_reducible apply wb2<;>(intro hb;try simp only[hb]))|(refine ca3 (wo1 rfl) ?_)|(refine ca3 (jo2 rfl) ?_)|(refine ca3 (jo3 rfl) ?_)|(refine ca3 (jo4 rfl) ?_)|(refine ca3 (jo5 rfl) ?_))<;>try simp only[go_sem,seval,d2,d3,d4,d18,d8,d10,d9]));exact⟨_,by rw[hR];exact GL.refl _ _⟩
 rw[if_neg h19]at hR;have d19:=dk 19 h19;refine wAh hna (wJ d2 (wJ d3 (wJ d4 (wJ d18 (wJ d8 (wJ d10 (wJ d9 d19))))))) ?_;exact⟨_,by rw[hR];exact GL.refl _ _⟩
theorem c_wordsO(x:List UInt8)(hx:x.length<=1000000000)(H:Hp)(cc:Nat):AC Tryz.prog 169 [Z2 [x]] H cc (λv H' c' => ∃id,cc<=id/\id<c'/\v=.slc id 0 1/\H'=H.upd id ⟨4,true,(A5 x).v.cells⟩):=by
 refine AC.go A2 λhfr=>?_;have h1:=c_IsWordR x;have h2:=c_IsNameR x (by omega);refine wAp ?_;refine B6 (λq:Option Nat=>[(0,Z2 [x]),(3,todoV q 1),(4,I64 (if q=none then 0 else 1))]) (λq=>optH H q ⟨4,true,(A5 x).v.cells⟩)
  (λq c=>cc<=c/\(∀i,q=some i->cc<=i/\i<c)) (λq=>if q=none then 1 else 0) none
  (by simp[B5,tm,Tm.upd,todoV]) (Sub.refl _) ⟨A0D _,(λi hi=>by cases hi)⟩ ?_
 rintro o c ⟨hc,ho⟩;cases o with
 |none =>
  have hd:decide ((0:Int)<1)=true:=r9
  have hw:IntKind.i64.wrap (0+1)=1:=r9
  have hw':IntKind.i64.wrap 1=1:=r9
  have hr0:∀i:Nat,H (c+i)=none:=λi=>hfr _ (by omega);have ne0:=Q8 c (c+1) (by omega);cases hw1:G9 x with
  |true =>
   refine wBi h1 h2 (wJ hw1 (wJ ne0 (wJ @A0 (wJ @A1 (wJ hw hw'))))) ?_;refine G7 (A6a (by decide) (by decide) (by decide)) ?_;refine wAy hw hw' ne0 ?_;refine⟨some (c+1+1),zai,?_,inv ⟨b8,(λi hi=>by cases hi;omega)⟩,by simp⟩;intro j b hj;simp only[optH]at hj;by_cases e1:j=c+1+1
   ·subst e1;rw[A0]at hj ⊢;rw[<- hj];unfold A5;simp only[hw1,if_true,if_false,A1R]
   ·rw[h_ne e1]at hj ⊢;have:j<cc:=Classical.byContradiction λh=>by rw[hfr j (by omega)]at hj;cases hj
    rw[hnO,hnO];exact hj
  |false =>
   cases hn1:F6 x with
   |true =>
    refine wBi h1 h2 (wJ hw1 (wJ hn1 (wJ ne0 (wJ @A0 (wJ @A1 (wJ hw hw')))))) ?_;refine G7 (A6a (by decide) (by decide) (by decide)) ?_;refine wAy hw hw' ne0 ?_;refine⟨some (c+1+1),zai,?_,inv ⟨b8,(λi hi=>by cases hi;omega)⟩,by simp⟩;intro j b hj;simp only[optH]at hj;by_cases e1:j=c+1+1
    ·subst e1;rw[A0]at hj ⊢;rw[<- hj];unfold A5;simp only[hw1,hn1,if_true,if_false,A1R]
    ·rw[h_ne e1]at hj ⊢;have:j<cc:=Classical.byContradiction λh=>by rw[hfr j (by omega)]at hj;cases hj
     rw[hnO,hnO];exact hj
   |false =>
    refine wBi h1 h2 (wJ hw1 (wJ hn1 (wJ ne0 (wJ @A0 (wJ @A1 (wJ hw hw')))))) ?_;refine G7 (A6a (by decide) (by decide) (by decide)) ?_;refine wAy hw hw' ne0 ?_;refine⟨some (c+1+1),zai,?_,inv ⟨b8,(λi hi=>by cases hi;omega)⟩,by simp⟩;intro j b hj;simp only[optH]at hj;by_cases e1:j=c+1+1
    ·subst e1;rw[A0]at hj ⊢;rw[<- hj];unfold A5;simp only[hw1,hn1,if_true,if_false,A1R]
    ·rw[h_ne e1]at hj ⊢;have:j<cc:=Classical.byContradiction λh=>by rw[hfr j (by omega)]at hj;cases hj
     rw[hnO,hnO];exact hj
 |some i =>
  have hd:decide ((1:Int)<1)=false:=r9
  refine wAs hd ?_;exact⟨_,_,GL.refl _ _,i,(ho i rfl).1,(ho i rfl).2,rfl,rfl⟩
theorem E8a{x:List UInt8}{id cc:Nat}{H:Hp}(hb:H id=some ⟨1,true,[.str x]⟩)(hx:x.length<=1000000000):
  AC Tryz.prog 169 [.slc id 0 1] H cc (λv H' c' => ∃i,cc<=i/\i<c'/\v=.slc i 0 1/\H'=(delO H (some id)).upd i ⟨4,true,(A5 x).v.cells⟩) :=
 AC.ghost (GL.frzS (id:=id) hb rfl (λj=>by
  by_cases e:j=id
  ·subst e;exact .inl (by rw[W5,if_pos rfl])
  ·exact .inr ⟨e,by rw[W5,if_neg e]⟩) (.cons _ _ _ _ (Q2 (xs:=[.str x]) rfl (N4 [x]) ⟨[],rfl⟩) .nil)) (c_wordsO x hx _ cc)
theorem B0h:∀l:List Pb.St,T2 l=(l.map stT).flatten
 |[]=>rfl
 |e::l=>by rw[T2,B0h l];rfl
theorem c_blockT(l:List Pb.St)(hl:l.length<=10000000)(hs:∀x∈l,PC Tryz.prog 196 [x.v] (D6 (stT x)))(hx:∀x∈l,1<=(stT x).length/\(stT x).length<=100000000)(hT:(blT l).length<=100000000):PC Tryz.prog 172 [F5 l] (D6 (blT l)):=by
 refine PC.ofT A2 rfl (A0C rfl) (by simp[DV.nlL,DV.nl,Z6]) (P0 _) ?_;obtain⟨R,hR⟩:∃R,R=D6 (blT l):=⟨_,rfl⟩;rw[<- hR];unfold blT at hR;rw[B0h]at hR;have hT':(l.map stT).flatten.length<=100000000:=by
  unfold blT at hT;rw[B0h]at hT;simp only[A0A,A0E]at hT;omega
 refine wAp ?_;refine AC.call (E8a rfl (by decide)) ?_;rintro v H' c1 ⟨i,hi1,hi2,rfl,rfl⟩ -;refine wAq ?_;obtain⟨F,hF⟩:∃F:Nat->List Tok, ∀k,F k=wT [123]++((l.take k).map stT).flatten:=⟨_,λ_=>rfl⟩;have hF0:F 0=wT [123]:=by rw[hF];simp
 refine B6 (λq:Nat × Nat=>[(0,F5 l),(3,.slc q.2 0 (F q.1).length),(4,I64 q.1)]) (λq=>Sym.nil.upd q.2 ⟨4,true,cellsL ((F q.1).map Tok.v)⟩)
  (λq c=>q.1<=l.length/\q.2<c) (λq=>l.length-q.1) (0,i)
  (by simp[B5,tm,Tm.upd,hF0,lw]) (by dsimp only;rw[hF0];exact Sub.refl _) ⟨A0N _,hi2⟩ ?_
 clear hi1 hi2;rintro⟨k,i⟩ c ⟨hk,hi⟩;dsimp only at hk hi ⊢;by_cases hlt:k<l.length
 ·have hd:=dtz hlt;have hg:=A0B hlt;have hsx:=hs _ (A0K hlt);obtain⟨hx1,hx2⟩:=hx _ (A0K hlt);have hw:=w64 (n:=(k:Int)+1);have e0:F (k+1)=F k++stT l[k]:=by rw[hF,hF,A0R,hg,A0P,A2X];simp
  have hle:((l.take k).map stT).flatten.length<=100000000:=by
   have h1:(l.map stT).flatten=((l.take k).map stT).flatten++((l.drop k).map stT).flatten:=by rw[<- A2X, <- A0P,A1V]
   rw[h1,A0A]at hT';omega
  have hle2:(F k).length<=200000000:=by rw[hF,A0A,lw];omega
  rw[Pb.St.v_w]at hsx;generalize l[k]=x at hg hx1 hx2 e0 hsx;generalize F k=y at hle2 e0 ⊢;have hln:(cellsL (y.map Tok.v)).length=y.length*4:=(C7 (u:=4) (G4 _)).trans (by simp);have hun:unit 4 ((stT x).map Tok.v)=true:=by unfold unit;rw[A0V];intro d hd;simp[G4 (stT x) d hd]
  (repeat'((with_reducible first|apply wr|refine cpc hsx ?_|refine B0 ?_ ?_|apply wb2<;>(intro hb;try simp only[hb]))<;>try simp only[go_sem,seval,hd,hg,hw,Pb.St.v_w,T6 hun]));refine G7 (A1n hln (by omega) (by omega)) ?_;refine wAu hw ?_;refine⟨(k+1,c),by simp[B5,tm,Tm.upd,e0],?_,inv ⟨b8,by simp only;omega⟩,by simp only;omega⟩;dsimp only;rw[e0,A0P,C8];intro j b hj;by_cases e1:j=c
  ·subst e1;rw[A0]at hj ⊢;exact hj
  ·rw[h_ne e1]at hj;cases hj
 ·have hd:=dfz hlt;rw[hF,A0J (by omega)];have hun:unit 4 ((wT [125]).map Tok.v)=true:=by unfold unit;rw[A0V];intro d hd;simp[G4 (wT [125]) d hd]
  have hle2:(wT [123]++(l.map stT).flatten).length<=200000000:=by rw[A0A,lw];omega
  have hR':R=D6 ((wT [123]++(l.map stT).flatten)++wT [125]):=hR;generalize wT [123]++(l.map stT).flatten=y at hle2 hR' ⊢;have hln:(cellsL (y.map Tok.v)).length=y.length*4:=(C7 (u:=4) (G4 _)).trans (by simp);have hnic:¬i=c:=b8
  have hlw:=lw [125];refine wAs hd ?_;refine AC.call (wd1 A0 (by decide)) ?_;rintro v H' c2 ⟨rfl,rfl,rfl⟩ -;simp only[go_sem,seval,hnic,T6 hun];(repeat'((with_reducible first|apply wr|refine B0 ?_ ?_|apply wb2<;>(intro hb;try simp only[hb]))<;>try simp only[go_sem,seval,hnic,T6 hun]));refine G7 (A1n hln (by omega) (by omega)) ?_;refine wAq ?_;rw[hR'];exact O6 (id:=c+1) A0 rfl (by simp) (G4 _) ⟨[],by rw[A0P,C8,A0Y]⟩
theorem c_stT:∀m:Nat,m<=5000000->(∀x:Pb.St,x.sz<m->PC Tryz.prog 196 [x.v] (D6 (stT x)))/\(∀l:List Pb.St,Pb.St.szs l<m->PC Tryz.prog 172 [F5 l] (D6 (blT l))):=by
 intro m
 induction m with
 |zero=>exact λ_=>⟨λx h=>b8,λl h=>by omega⟩
 |succ m ih =>
  intro hm;obtain⟨i1,i2⟩:=ih (by omega);have A:∀x:Pb.St,x.sz<m+1->PC Tryz.prog 196 [x.v] (D6 (stT x)):=λx hx =>
   c_stmtT m i1 i2 (λl hl=>by have:=A9z l;omega) (λy hy=>by have:=A9i y;omega) x (by omega) (by omega)
  refine⟨A,λl hl=>?_⟩;have h1:=Pb.St.szs_len l;have h2:=A9z l;exact c_blockT l (by omega) (λx hx=>A x (by have:=Pb.St.szs_mem hx;omega)) (λx hx=>by have:=A9i x;have:=Pb.St.szs_mem hx;omega) (by omega)
theorem c_blkT(l:List Pb.St)(h:Pb.St.szs l<5000000):PC Tryz.prog 172 [F5 l] (D6 (blT l)):=(c_stT 5000000 (A0D _)).2 l h
theorem D4g{X H1:Hp}{o:Option Nat}{c n0:Nat}{b b3 b3':Blk}(hX:∀j q,X j=some q->j<c)(ho:∀i,o=some i->X i=none)(hH:∀j,j<c->H1 j=optH X o b j)(hn:c<=n0)(hb:b3=b3'):
  Sym.Sub (optH X (some n0) b3) ((delO H1 o).upd n0 b3'):=by
 subst hb;intro j q hj;simp only[optH]at hj;by_cases e:j=n0
 ·subst e;rw[A0]at hj ⊢;exact hj
 ·rw[h_ne e]at hj ⊢;have h1:=hX j q hj;have h2:∀i,o=some i->¬j=i:=λi hi e2=>by rw[e2,ho i hi]at hj;cases hj
  rw[A9 h2,hH j h1,A8 h2];exact hj
theorem B1u{H:Hp}{i:Nat}(h:H i=none):delO H (some i)=H:=by
 funext j;rw[W5];split
 ·rename_i e;rw[e,h]
 ·rfl
theorem D0a{X:Hp}{o:Option Nat}{xs:List DV}{u n:Nat}(hno:o=none->xs=[])(hl:xs.length=n)(hu:∀x∈xs,x.cells.length=u):
  ∃H2,GL (optH X o ⟨u,true,cellsL xs⟩) [todoV o n] H2 [.lst xs]:=by
 cases o with
 |none=>rw[hno rfl];exact C3s
 |some i=>exact O6 (id:=i) A0 rfl hl hu ⟨[],by simp⟩
def wT2(x y:List UInt8):List Tok:=[A5 x,A5 y]
theorem E7z{x y:List UInt8}{id cc:Nat}{H:Hp}(hb:H id=some ⟨1,true,[.str x,.str y]⟩)(hx:x.length<=1000000000)(hy:y.length<=1000000000):
  AC Tryz.prog 169 [.slc id 0 2] H cc (λv H' c'=>v=D6 (wT2 x y)/\H'=delO H (some id)/\c'=cc):=wd2 hb hx hy
theorem B5v{X:Hp}{i j:Nat}(h:¬j=i):(X.del i) j=X j:=by rw[show X.del i=delO X (some i) from rfl,W5,if_neg h]
theorem A5t(l:List Tok):unit 4 (l.map Tok.v)=true:=by unfold unit;rw[A0V];intro d hd;simp[G4 l d hd]
theorem T1(l:List Tok):(cellsL (l.map Tok.v)).length=l.length*4:=(C7 (u:=4) (G4 _)).trans (by simp)
theorem c_declT(d:Dc)(hn:d.name.length<=1000000000):PC Tryz.prog 167 [d.v] (D6 (dcT d)):=by
 refine PC.ofT A2 rfl (A0C rfl) rfl (P0 _) ?_;obtain⟨R,hR⟩:∃R,R=D6 (dcT d):=⟨_,rfl⟩;rw[<- hR];obtain⟨k,n,v,p⟩:=d;unfold dcT at hR;dsimp only at hR hn ⊢;have hna:=c_named n hn;have hnu:=c_number31 v;have hnn:=c_number31 (-v);by_cases hbk:k<1\/8<k
 ·rw[if_pos hbk]at hR;by_cases h2:k<1
  ·have d2:decide (k<1)=true:=by simpa using h2
   refine wAs d2 ?_;rw[hR];exact O6 (id:=1) A0 rfl rfl (G4 [V1]) ⟨[],rfl⟩
  ·have d2:decide (k<1)=false:=by simp;omega
   have d3:decide (k>8)=true:=a8
   refine wAs (wJ d2 d3) ?_;rw[hR];exact O6 (id:=1) A0 rfl rfl (G4 [V1]) ⟨[],rfl⟩
 rw[if_neg hbk]at hR;have e2:decide (k<1)=false:=a8
 have e3:decide (k>8)=false:=a8
 try dsimp only at hR
 obtain⟨j,hj⟩:∃j:Nat,k=1+(j:Int):=⟨(k-1).toNat,by omega⟩;have hjw:IntKind.i64.wrap (k-1)=(j:Int):=i7
 have hjn:(k-1).toNat=j:=b8
 rw[hjn]at hR;have hj8:j<8:=b8
 have hgj:D7[j]? = some (D7.getD j []):=by
  rw[A1E,A0B (show j<D7.length from hj8)];rfl
 have hsl:(D7.getD j []).length<=1000000000:=by
  have:∀i:Nat,i<8->(D7.getD i []).length<=1000000000:=r9
  exact this j hj8
 generalize D7.getD j []=S at hR hgj hsl;by_cases h6:6<k
 ·have d6:decide (k>6)=true:=by simpa using h6
  rw[if_pos h6]at hR;(repeat'((first|(with_reducible first|apply wr|refine cpc c_decls31 ?_|refine cpc hna ?_|refine B0 ?_ ?_)|(with_reducible apply wb2<;>(intro hb;try simp only[hb]))|(refine ca3 (wo1 rfl) ?_)|(refine ca3 (jo2 rfl) ?_)|(refine ca3 (jo3 rfl) ?_))<;>try simp only[go_sem,seval,e2,e3,hjw,hgj,d6]));exact⟨_,by rw[hR];exact GL.refl _ _⟩
 rw[if_neg h6]at hR;have d6:decide (k>6)=false:=a8
 by_cases hm:v<0 /\ -2147483647<=v/\k=6
 ·obtain⟨m1,m2,hk6⟩:=hm;have x3:(k==6)=true:=by simpa using hk6
  have x1:decide (v<0)=true:=by simpa using m1
  have x2:decide (v ≥ -2147483647)=true:=by simpa using m2
  have hng:IntKind.i64.wrap (0-v) = -v:=i7
  rw[if_pos ⟨m1,m2,hk6⟩]at hR;(repeat'((first|(with_reducible first|apply wr|refine cpc c_decls31 ?_|refine cpc hna ?_|refine cpc hnn ?_|refine B0 ?_ ?_)|(with_reducible apply wb2<;>(intro hb;try simp only[hb]))|(refine ca3 (wo1 rfl) ?_)|(refine ca3 (jo2 rfl) ?_)|(refine ca3 (jo3 rfl) ?_))<;>try simp only[go_sem,seval,e2,e3,hjw,hgj,d6,x1,x2,x3,hng]));exact⟨_,by rw[hR];exact GL.refl _ _⟩
 rw[if_neg hm]at hR;by_cases m1:v<0
 ·have x1:decide (v<0)=true:=by simpa using m1
  by_cases m2 : -2147483647<=v
  ·have x2:decide (v ≥ -2147483647)=true:=by simpa using m2
   have x3:(k==6)=false:=a8
   (repeat'((first|(with_reducible first|apply wr|refine cpc c_decls31 ?_|refine cpc hna ?_|refine cpc hnu ?_|refine B0 ?_ ?_)|(with_reducible apply wb2<;>(intro hb;try simp only[hb]))|(refine ca3 (wo1 rfl) ?_)|(refine ca3 (jo2 rfl) ?_)|(refine ca3 (jo3 rfl) ?_))<;>try simp only[go_sem,seval,e2,e3,hjw,hgj,d6,x1,x2,x3]));exact⟨_,by rw[hR];exact GL.refl _ _⟩
  ·have x2:decide (v ≥ -2147483647)=false:=by simp;omega
   refine wAa c_decls31 hna hnu (wJ e2 (wJ e3 (wJ hjw (wJ hgj (wJ d6 (wJ x1 x2)))))) ?_;exact⟨_,by rw[hR];exact GL.refl _ _⟩
 ·have x1:decide (v<0)=false:=by simp;omega
  refine wAa c_decls31 hna hnu (wJ e2 (wJ e3 (wJ hjw (wJ hgj (wJ d6 x1))))) ?_;exact⟨_,by rw[hR];exact GL.refl _ _⟩
theorem c_rulesT(r:Ru)(hB:r.sz<4000000)(hT:(r.decls.flatMap dcT++r.modes.flatMap mdT).length<=100000000):PC Tryz.prog 130 [r.v] (D6 (ruT r)):=by
 refine PC.ofT A2 rfl (A0C rfl) (by simp[DV.nlL,DV.nl,K4,K3]) (P0 _) ?_;obtain⟨R,hR⟩:∃R,R=D6 (ruT r):=⟨_,rfl⟩;rw[<- hR];obtain⟨D,M⟩:=r;dsimp only at hT;unfold ruT at hR;dsimp only[Ru.v]at hR ⊢;have hDs:(D.map Dc.sz).sum+(M.map Md.sz).sum<4000000:=hB;have hDl:D.length<=(D.map Dc.sz).sum:=K2 λx _=>zaf
 have hMl:M.length<=(M.map Md.sz).sum:=K2 λx _=>p9
 refine wAp ?_;obtain⟨F,hF⟩:∃F:Nat->List Tok, ∀k,F k=(D.take k).flatMap dcT:=⟨_,λ_=>rfl⟩;have hF0:F 0=[]:=by rw[hF];rfl
 have hFl:∀k,(F k).length<=100000000:=λk=>by
  have h1:D.flatMap dcT=F k++(D.drop k).flatMap dcT:=by rw[hF, <- A2O,A1V]
  rw[h1]at hT;simp only[A0A]at hT;omega
 refine B6 (λq:Nat × Option Nat=>[(1,.ptr 0 0),(3,todoV q.2 (F q.1).length),(4,I64 q.1)]) (λq=>optH (Sym.nil.upd 0 ⟨0,true,[D0 D,D8 M]⟩) q.2 ⟨4,true,cellsL ((F q.1).map Tok.v)⟩)
  (λq c=>1<=c/\q.1<=D.length/\(q.2=none->F q.1=[])/\(∀i,q.2=some i->1<=i/\i<c)) (λq=>D.length-q.1) (0,none)
  (by simp[B5,tm,Tm.upd,todoV]) (Sub.refl _) ⟨b8,A0N _,λ_=>hF0,(λi hi=>by cases hi)⟩ ?_
 rintro⟨k,o⟩ c ⟨hc,hk,hno,ho⟩;dsimp only at hc hk hno ho ⊢;have hbx:optH (Sym.nil.upd 0 ⟨0,true,[D0 D,D8 M]⟩) o ⟨4,true,cellsL ((F k).map Tok.v)⟩ 0=some ⟨0,true,[D0 D,D8 M]⟩:=j7
 by_cases hlt:k<D.length
 ·have hd:=dtz hlt;have hg:=A0B hlt;have hsz:=M2 (f:=Dc.sz) (A0K hlt);have hdt:=c_declT D[k] (by have h5:D[k].name.length<Dc.sz D[k]:=(by unfold Dc.sz;omega);omega);have hdl:=C5d D[k];have hw:=w64 (n:=(k:Int)+1);have e0:F (k+1)=F k++dcT D[k]:=by rw[hF,hF,A0R,hg,A2O];simp
  have hFk:=hFl k;generalize D[k]=x at hg hdt hdl e0;have hun:unit 4 ((dcT x).map Tok.v)=true:=by unfold unit;rw[A0V];intro d hd;simp[G4 (dcT x) d hd]
  have hln:(cellsL ((F k).map Tok.v)).length=(F k).length*4:=(C7 (u:=4) (G4 _)).trans (by simp);(repeat'((with_reducible first|apply wr|refine cpc hdt ?_|refine B0 ?_ ?_|apply wb2<;>(intro hb;try simp only[hb]))<;>try simp only[go_sem,seval,hd,hg,hw,hbx,T6 hun]));refine G7 (D4 (cs:=cellsL ((F k).map Tok.v)) (λe=>by rw[hno e];exact⟨rfl,rfl⟩) (λi hi=>A2j hi) hln (by omega) (by omega) (by omega)) ?_;refine wAu hw ?_;refine⟨(k+1,some c),w9,?_,inv ⟨b8,b8,(λh=>by cases h),(λi hi=>by cases hi;omega)⟩,by simp only;omega⟩;dsimp only;refine D4g (n0:=c) (c:=c) (λj q hq=>?_) (λi hi=>?_) (λj hj=>rfl) (A0D _) (by rw[e0,A0P,C8])
  ·by_cases e:j=0
   ·omega
   ·rw[h_ne e]at hq;cases hq
  ·have:=ho i hi;rw[hnO];rfl
 ·have hd:=dfz hlt;refine wAs (wJ hd hbx) ?_;have hFD:F k=D.flatMap dcT:=by rw[hF,A0J (by omega)]
  have hc0:=hc;obtain⟨G,hG⟩:∃G:Nat->List Tok, ∀k,G k=D.flatMap dcT++(M.take k).flatMap mdT:=⟨_,λ_=>rfl⟩;have hG0:G 0=F k:=by rw[hG,hFD];simp
  have hGl:∀k,(G k).length<=100000000:=λk=>by
   have h1:M.flatMap mdT=(M.take k).flatMap mdT++(M.drop k).flatMap mdT:=by rw[<- A2O,A1V]
   rw[h1]at hT;rw[hG];simp only[A0A]at hT ⊢;omega
  refine B6 (λq:Nat × Option Nat=>[(1,.ptr 0 0),(3,todoV q.2 (G q.1).length),(5,I64 q.1)]) (λq=>optH (Sym.nil.upd 0 ⟨0,true,[D0 D,D8 M]⟩) q.2 ⟨4,true,cellsL ((G q.1).map Tok.v)⟩)
   (λq c=>1<=c/\q.1<=M.length/\(q.2=none->G q.1=[])/\(∀i,q.2=some i->1<=i/\i<c)/\((M.take q.1).any λm=>m.hds.any Y0)=false) (λq=>M.length-q.1) (0,o)
   (by simp[B5,tm,Tm.upd,hG0]) (by dsimp only;rw[hG0];exact Sub.refl _) ⟨hc,A0N _,(by dsimp only;rw[hG0];exact hno),ho,rfl⟩ ?_
  clear hbx hno ho hG0 hFD hFl hF0 hF hc hc0 hlt hd hk;rintro⟨k,o⟩ c ⟨hc,hk,hno,ho,hbad⟩;dsimp only at hc hk hno ho hbad ⊢;have hbx:optH (Sym.nil.upd 0 ⟨0,true,[D0 D,D8 M]⟩) o ⟨4,true,cellsL ((G k).map Tok.v)⟩ 0=some ⟨0,true,[D0 D,D8 M]⟩:=j7
  by_cases hlt:k<M.length
  ·have hd:=dtz hlt;have hg:=A0B hlt;have hsz:=M2 (f:=Md.sz) (A0K hlt);have hw:=w64 (n:=(k:Int)+1);have e0:G (k+1)=G k++mdT M[k]:=by rw[hG,hG,A0R,hg,A2O];simp
   have b0:((M.take (k+1)).any λm=>m.hds.any Y0)=(M[k].hds.any Y0):=by rw[A0R,hg,List.any_append,hbad];simp
   have b1:(M[k].hds.any Y0)=true->R=D6 [V1]:=λh=>by rw[hR,if_pos (List.any_eq_true.2 ⟨_,A0K hlt,h⟩)]
   have hGk:=hGl k;have hGk1:=hGl (k+1);generalize M[k]=m at hg hsz e0 b0 b1;have hln:(cellsL ((G k).map Tok.v)).length=(G k).length*4:=(C7 (u:=4) (G4 _)).trans (by simp);have hnl:m.name.length<=1000000000:=by
    have h5:m.name.length<Md.sz m:=by unfold Md.sz;omega
    omega
   have hna:=c_named m.name hnl;have hnu:=c_number31 m.prio;have hbo:∀i:Nat,o=some i->optH (Sym.nil.upd 0 ⟨0,true,[D0 D,D8 M]⟩) o ⟨4,true,cellsL ((G k).map Tok.v)⟩ i=some ⟨4,true,cellsL ((G k).map Tok.v)⟩:=λi hi=>o9
   have hbn:∀j:Nat,c<=j->optH (Sym.nil.upd 0 ⟨0,true,[D0 D,D8 M]⟩) o ⟨4,true,cellsL ((G k).map Tok.v)⟩ j=none:=λj hj=>by rw[A8 (λi hi=>by have:=ho i hi;omega),hnO];rfl
   generalize hHH:optH (Sym.nil.upd 0 ⟨0,true,[D0 D,D8 M]⟩) o ⟨4,true,cellsL ((G k).map Tok.v)⟩=HH at hbx hbo hbn ⊢;have ne0:=S7 0 c (c+1+1) (c+1+9) (c+1+11) (by omega);have hd1:delO HH (some (c+1+1))=HH:=B1u (hbn _ (by omega));have hd2:delO HH (some (c+1+9))=HH:=B1u (hbn _ (by omega));have hd3:delO HH (some (c+1+11))=HH:=B1u (hbn _ (by omega));refine wBi hna hnu (wJ hd (wJ hg (wJ hw (wJ hbx (wJ ne0 (wJ @A0 @A1)))))) ?_;refine AC.call (wd1 (x:=[109,111,100,101]) (by simp[I3,Hp.upd]) (by decide)) ?_;rintro v H' c2 ⟨rfl,rfl,rfl⟩ -;refine wBj hna hnu (wJ ne0 (wJ @A0 (wJ @A1 (wJ hd1 (wJ hd2 hd3))))) ?_;refine⟨n7,?_⟩;refine wBi hna hnu (wJ ne0 (wJ @A0 (wJ @A1 (wJ hd1 (wJ hd2 hd3))))) ?_;refine⟨n7,?_⟩;refine wBi hna hnu (wJ ne0 (wJ @A0 (wJ @A1 (wJ hd1 (wJ hd2 hd3))))) ?_;refine⟨n7,?_⟩;refine wBi hna hnu (wJ ne0 (wJ @A0 (wJ @A1 (wJ hd1 (wJ hd2 hd3))))) ?_;refine AC.call (wd1 (x:=[123]) (by simp[I3,Hp.upd]) (by decide)) ?_;rintro v H' c2 ⟨rfl,rfl,rfl⟩ -;simp only[go_sem,seval,ne0,A0,A1,hd1,hd2,hd3];refine⟨n7,?_⟩;refine wBi hna hnu (wJ ne0 (wJ @A0 (wJ @A1 (wJ hd1 (wJ hd2 hd3))))) ?_;refine AC.call (jn4 A0 (by constructor<;>(try simp only[A0A,lw,C6,F9,G8])<;>omega) (by constructor<;>(try simp only[A0A,lw,C6,F9,G8])<;>omega) (by constructor<;>(try simp only[A0A,lw,C6,F9,G8])<;>omega) (by constructor<;>(try simp only[A0A,lw,C6,F9,G8])<;>omega)) ?_;rintro v H' c2 ⟨rfl,rfl,rfl⟩ -;have hun4:unit 4 ((wT [109,111,100,101]++F7 m.name++X7 m.prio++wT [123]).map Tok.v)=true:=by unfold unit;rw[A0V];intro d hd;simp[G4 _ d hd]
   have hl4:(wT [109,111,100,101]++F7 m.name++X7 m.prio++wT [123]).length=4:=by simp only[A0A,lw,C6,F9]
   have hsrc:A4y (HH.upd c ⟨0,true,[.str m.name,I64 m.prio,O0 m.hds,I64 m.pos]⟩) 4 (D6 (wT [109,111,100,101]++F7 m.name++X7 m.prio++wT [123]))=some (4,cellsL ((wT [109,111,100,101]++F7 m.name++X7 m.prio++wT [123]).map Tok.v)):=by
    rw[T6 hun4,A0I,hl4]
   obtain⟨Q,hQ⟩:∃Q,Q=wT [109,111,100,101]++F7 m.name++X7 m.prio++wT [123]:=⟨_,rfl⟩;rw[<- hQ]at hsrc ⊢;refine wBj hna hnu (wJ ne0 (wJ @A0 (wJ @A1 (wJ hd1 (wJ hd2 (wJ hd3 hsrc)))))) ?_;refine⟨s7,?_⟩;rw[D4 (cs:=cellsL ((G k).map Tok.v)) (λe=>by rw[hno e];exact⟨rfl,rfl⟩) (λi hi=>by have:=ho i hi;rw[hnO];exact hbo i hi) hln (by omega) (by omega) (by omega)];refine wAu ne0 ?_;have hQl:Q.length=4:=by rw[hQ];exact hl4
   obtain⟨K,hK⟩:∃K:Nat->List Tok, ∀j,K j=G k++Q++(m.hds.take j).flatMap hdT:=⟨_,λ_=>rfl⟩;have hK0:K 0=G k++Q:=by rw[hK];simp
   have hKl:∀j,(K j).length<=100000000:=λj=>by
    have h1:m.hds.flatMap hdT=(m.hds.take j).flatMap hdT++(m.hds.drop j).flatMap hdT:=by rw[<- A2O,A1V]
    have h2:mdT m=Q++m.hds.flatMap hdT++wT [125]:=by rw[hQ];rfl
    rw[e0,h2,h1]at hGk1;rw[hK];simp only[A0A]at hGk1 ⊢;omega
   have hKe:K m.hds.length++wT [125]=G (k+1):=by
    have h2:mdT m=Q++m.hds.flatMap hdT++wT [125]:=by rw[hQ];rfl
    rw[hK,e0,h2,A1K];simp only[A0O]
   have hhl:m.hds.length<=4000000:=by
    have h5:m.hds.length<=(m.hds.map Hd.sz).sum:=K2 λx _=>p9
    have h6:(m.hds.map Hd.sz).sum<Md.sz m:=by unfold Md.sz;omega
    omega
   refine B6 (λq:Nat × Nat=>[(1,.ptr 0 0),(3,.slc q.2 0 (K q.1).length),(5,I64 k),(6,.ptr c 0),(7,I64 q.1)]) (λq=>((Sym.nil.upd 0 ⟨0,true,[D0 D,D8 M]⟩).upd c ⟨0,true,[.str m.name,I64 m.prio,O0 m.hds,I64 m.pos]⟩).upd q.2 ⟨4,true,cellsL ((K q.1).map Tok.v)⟩)
    (λq n=>c<q.2/\q.2<n/\q.1<=m.hds.length/\((m.hds.take q.1).any Y0)=false) (λq=>m.hds.length-q.1) (0,c+1+15)
    (by simp[B5,tm,Tm.upd,hK0,hQl]) ?_ ⟨g9,g9,A0N _,rfl⟩ ?_
   ·dsimp only;rw[hK0,A0P,C8];intro j b hj;by_cases e1:j=c+1+15
    ·subst e1;rw[A0]at hj ⊢;exact hj
    rw[h_ne e1]at hj ⊢;rw[A9 (λi hi=>by
     have h1:=ho i hi;intro e;subst e;rw[hnO,hnO]at hj;cases hj)]
    by_cases e2:j=c
    ·subst e2;rw[A0]at hj ⊢;exact hj
    rw[h_ne e2]at hj ⊢;by_cases e3:j=0
    ·subst e3;rw[A0]at hj;rw[hbx];exact hj
    ·rw[h_ne e3]at hj;cases hj
   clear hbo hbn hd1 hd2 hd3 hsrc hl4 hun4 hHH hbx hno ho;rintro⟨j,i⟩ n ⟨hi1,hi2,hj,hbj⟩;dsimp only at hi1 hi2 hj hbj ⊢;by_cases hjl:j<m.hds.length
   ·have hdj:decide ((j:Int)<(m.hds.length:Int))=true:=by simpa using hjl
    have hgj:=A0B hjl;have hwj:=w64 (n:=(j:Int)+1);have k0:K (j+1)=K j++hdT m.hds[j]:=by rw[hK,hK,A0R,hgj,A2O];simp
    have c0:((m.hds.take (j+1)).any Y0)=Y0 m.hds[j]:=by rw[A0R,hgj,List.any_append,hbj];simp
    have c1:Y0 m.hds[j]=true->R=D6 [V1]:=λh=>b1 (List.any_eq_true.2 ⟨_,A0K hjl,h⟩);have hszj:=M2 (f:=Hd.sz) (A0K hjl);have h6:(m.hds.map Hd.sz).sum<Md.sz m:=by unfold Md.sz;omega
    have hKj:=hKl j;have hKj1:=hKl (j+1);generalize m.hds[j]=h at hgj k0 c0 c1 hszj;have ne0:=V3 0 c i n (by omega);have hb9:Y0 h=true->∃H2,GL (((((Sym.nil.upd 0 ⟨0,true,[D0 D,D8 M]⟩).upd c ⟨0,true,[.str m.name,I64 m.prio,O0 m.hds,I64 m.pos]⟩).upd i ⟨4,true,cellsL ((K j).map Tok.v)⟩).upd n ⟨0,true,[I64 h.trig,.str h.name,F5 h.body,I64 h.pos]⟩).upd (n+1) ⟨4,true,[I64 0,.str [],I64 0,I64 0]⟩) [.slc (n+1) 0 1] H2 [R]:=λhb=>by
     rw[c1 hb];exact O6 A0 rfl rfl (G4 [V1]) ⟨[],rfl⟩
    by_cases t1:h.trig<1
    ·have x1:decide (h.trig<1)=true:=by simpa using t1
     refine wA7 hdj hgj hwj x1 ne0 @A0 @A1 ?_;exact hb9 (by unfold Y0;rw[x1];rfl)
    have x1:decide (h.trig<1)=false:=by simpa using t1
    by_cases t2:6<h.trig
    ·have x2:decide (h.trig>6)=true:=by simpa using t2
     have x2':decide (6<h.trig)=true:=by simpa using t2
     refine wA8 hdj hgj hwj x1 x2 ne0 @A0 @A1 ?_;exact hb9 (by unfold Y0;rw[x2',Bool.or_true])
    have x2:decide (h.trig>6)=false:=by simpa using t2
    have x2':decide (6<h.trig)=false:=by simpa using t2
    have c2:Y0 h=false:=by unfold Y0;rw[x1,x2'];rfl
    clear hb9 c1;obtain⟨y,hy⟩:∃y:Nat,h.trig=1+(y:Int):=⟨(h.trig-1).toNat,by omega⟩;have hyw:IntKind.i64.wrap (h.trig-1)=(y:Int):=i7
    have hyn:(h.trig-1).toNat=y:=b8
    have hy6:y<6:=b8
    have hgy:F1[y]? = some (F1.getD y []):=by
     rw[A1E,A0B (show y<F1.length from hy6)];rfl
    have hsl:(F1.getD y []).length<=1000000000:=by
     have:∀i:Nat,i<6->(F1.getD i []).length<=1000000000:=r9
     exact this y hy6
    have hTT:hdT h=wT2 [111,110] (F1.getD y [])++(if 2<h.trig then F7 h.name else [])++blT h.body:=by unfold hdT;rw[hyn];rfl
    generalize F1.getD y []=S at hgy hsl hTT;have hnh:=c_named h.name (by have h5:h.name.length<Hd.sz h:=(by unfold Hd.sz;omega);omega);have hbb:=c_blkT h.body (by have h5:Pb.St.szs h.body<Hd.sz h:=(by unfold Hd.sz;omega);omega);obtain⟨bl1, -⟩:=A9z h.body;rw[k0,hTT]at hKj1;simp only[A0A]at hKj1;have hbn:∀j':Nat,n<=j'->(((Sym.nil.upd 0 ⟨0,true,[D0 D,D8 M]⟩).upd c ⟨0,true,[.str m.name,I64 m.prio,O0 m.hds,I64 m.pos]⟩).upd i ⟨4,true,cellsL ((K j).map Tok.v)⟩) j'=none:=λj' h'=>by rw[hnO,hnO,hnO];rfl
    have ne0:=S7 0 c i n (n+1+7) (by omega);refine wBc c_trigs31 (wJ hdj (wJ hgj (wJ hwj (wJ x1 (wJ x2 (wJ hyw (wJ hgy (wJ ne0 (wJ @A0 @A1))))))))) ?_;refine⟨o5,?_⟩;refine AC.call (E7z A0 (by decide) hsl) ?_;rintro v H' c3 ⟨rfl,rfl,rfl⟩ -;have hw2:(wT2 [111,110] S).length=2:=rfl;have hun:=A5t (wT2 [111,110] S);have hunB:=A5t (blT h.body);have hunN:=A5t (F7 h.name);have hnl1:=C6 h.name;have hlnK:=T1 (K j);simp only[go_sem,seval,ne0,A0,A1,T6 hun];(repeat'((with_reducible first|apply wr|refine B0 ?_ ?_|apply wb2<;>(intro hb;try simp only[hb]))<;>try simp only[go_sem,seval,ne0,A0,A1,T6 hun]));refine⟨o5,?_⟩;rw[A1n hlnK (by omega) (by omega)];have ne0:=S7 0 c i n (n+1+11) (by omega);simp only[go_sem,seval,ne0,A0,A1];by_cases t3:2<h.trig
    ·have x3:decide (h.trig>2)=true:=by simpa using t3
     rw[if_pos t3]at hTT hKj1;try simp only[A0A]at hKj1
     (repeat'((with_reducible first|apply wr|refine cpc hnh ?_|refine B0 ?_ ?_|apply wb2<;>(intro hb;try simp only[hb]))<;>try simp only[go_sem,seval,ne0,A0,A1,x3,T6 hunN]));refine G7 (A1n (by rw[A0A,T1,T1];omega) (by omega) (by omega)) ?_;have ne0:=A7n 0 c i n (n+1+11) (n+1+11+1) (by omega);simp only[go_sem,seval,ne0,A0,A1];(repeat'((with_reducible first|apply wr|refine cpc hbb ?_|refine B0 ?_ ?_|apply wb2<;>(intro hb;try simp only[hb]))<;>try simp only[go_sem,seval,ne0,A0,A1,T6 hunB]));refine G7 (A1n (by rw[A0A,A0A,T1,T1,T1];omega) (by omega) (by omega)) ?_;refine wA0 ne0 @A0 @A1 hwj ?_;refine⟨(j+1,n+1+11+1+1),by simp[B5,tm,Tm.upd,k0,hTT,hwj,A3M],?_,inv ⟨g9,g9,g9,by rw[c0];exact c2⟩,by simp only;omega⟩;dsimp only;intro j' b' hj';by_cases e1:j'=n+1+11+1+1
     ·subst e1;rw[A0]at hj' ⊢;rw[<- hj',k0,hTT];simp only[A0P,C8,A0O,List.map_nil,List.nil_append];try rfl
     rw[h_ne e1]at hj' ⊢;by_cases e2:j'=c
     ·subst e2;rw[A0]at hj'
      repeat (first|rw[A0]|rw[hnO]|rw[B5v (by omega)])
      exact hj'
     rw[h_ne e2]at hj';by_cases e3:j'=0
     ·subst e3;rw[A0]at hj'
      repeat (first|rw[A0]|rw[hnO]|rw[B5v (by omega)])
      exact hj'
     ·rw[h_ne e3]at hj';cases hj'
    ·have x3:decide (h.trig>2)=false:=by simpa using t3
     rw[if_neg t3]at hTT hKj1;try simp only[A0L]at hKj1
     (repeat'((with_reducible first|apply wr|refine cpc hbb ?_|refine B0 ?_ ?_|apply wb2<;>(intro hb;try simp only[hb]))<;>try simp only[go_sem,seval,ne0,A0,A1,x3,T6 hunB]));refine G7 (A1n (by rw[A0A,T1,T1];omega) (by omega) (by omega)) ?_;have ne0:=A7n 0 c i n (n+1+11) (n+1+11+1) (by omega);refine wA0 ne0 @A0 @A1 hwj ?_;refine⟨(j+1,n+1+11+1),by simp[B5,tm,Tm.upd,k0,hTT,hwj,A3M],?_,inv ⟨g9,g9,g9,by rw[c0];exact c2⟩,by simp only;omega⟩;dsimp only;intro j' b' hj';by_cases e1:j'=n+1+11+1
     ·subst e1;rw[A0]at hj' ⊢;rw[<- hj',k0,hTT];simp only[A0P,C8,A0O,List.map_nil,List.nil_append];try rfl
     rw[h_ne e1]at hj' ⊢;by_cases e2:j'=c
     ·subst e2;rw[A0]at hj'
      repeat (first|rw[A0]|rw[hnO]|rw[B5v (by omega)])
      exact hj'
     rw[h_ne e2]at hj';by_cases e3:j'=0
     ·subst e3;rw[A0]at hj'
      repeat (first|rw[A0]|rw[hnO]|rw[B5v (by omega)])
      exact hj'
     ·rw[h_ne e3]at hj';cases hj'
   ·have hdj:decide ((j:Int)<(m.hds.length:Int))=false:=by simpa using hjl
    have ne0:=V3 0 c i n (by omega);have hjE:j=m.hds.length:=b8
    subst hjE;rw[A1K]at hbj;have hlw:=lw [125];have hun:=A5t (wT [125]);have hln2:=T1 (K m.hds.length);have hKm:=hKl m.hds.length;refine wAz hdj ne0 @A0 @A1 ?_;refine AC.call (wd1 A0 (by decide)) ?_;rintro v H' c3 ⟨rfl,rfl,rfl⟩ -;simp only[go_sem,seval,ne0,A0,A1,T6 hun];(repeat'((with_reducible first|apply wr|refine B0 ?_ ?_|apply wb2<;>(intro hb;try simp only[hb]))<;>try simp only[go_sem,seval,ne0,A0,A1,T6 hun]));refine G7 (A1n hln2 (by omega) (by omega)) ?_;refine wAu (wJ hw ne0) ?_;refine⟨(k+1,some (n+1)),by simp[B5,tm,Tm.upd,todoV, <- hKe,hlw],?_,inv ⟨b8,g9,(λh=>by cases h),(λi hi=>by cases hi;omega),by rw[b0];exact hbj⟩,by simp only;omega⟩;dsimp only[optH];rw[<- hKe,A0P,C8];intro j b hj;by_cases e1:j=n+1
    ·subst e1;rw[A0]at hj ⊢;exact hj
    rw[h_ne e1]at hj ⊢;by_cases e2:j=0
    ·subst e2;rw[A0]at hj;rw[show ∀X:Hp,X.del i=delO X (some i) from λ_=>rfl,W5,iN,hnO,hnO,A0];exact hj
    ·rw[h_ne e2]at hj;cases hj
  ·have hd:=dfz hlt;rw[A0J (by omega)]at hbad;rw[if_neg (by rw[hbad];decide)]at hR;refine wAs (wJ hd hbx) ?_;rw[hR,hG,A0J (by omega)];rw[hG,A0J (by omega)]at hno;exact D0a (λe=>by rw[hno e];rfl) (by simp) (G4 _)
theorem B8u(p:Bool):∀(l l':List Ex) (k:Nat),l.length=l'.length->(R3 p (l.take k) (l'.take k)=true)->∀x x',l[k]? = some x->l'[k]? = some x'->R3 p (l.take (k+1)) (l'.take (k+1))=B2y p x x'/\(B2y p x x'=false->R3 p l l'=false)
 |[],_,k,_,_,x,x',h,_=>by simp at h
 |_::_,[],k,h,_,_,_,_,_=>by simp at h
 |a::l,a'::l',0,_,_,x,x',h,h'=>by
  cases h;cases h';refine⟨?_,λe=>?_⟩
  ·simp[R3]
  ·rw[R3,e];rfl
 |a::l,a'::l',k+1,hl,he,x,x',h,h'=>by
  rw[A1A,A1A,R3,A0F]at he;have ih:=B8u p l l' k (by simpa using hl) he.2 x x' (by simpa using h) (by simpa using h');refine⟨?_,λe=>?_⟩
  ·rw[A1A,A1A,R3,he.1,A2A];exact ih.1
  ·rw[R3,ih.2 e,A2Y]
theorem B4a(p:Bool):∀(l l':List Ex),¬l.length=l'.length->R3 p l l'=false
 |[],[],h=>absurd rfl h
 |[],_::_,_=>rfl
 |_::_,[],_=>rfl
 |a::l,a'::l',h=>by rw[R3,B4a p l l' (by simpa using h),A2Y]
theorem c_sameEs(p:Bool)(l l':List Ex)(hl:l.length<=100000000000)(h:∀x∈l, ∀y,PC Tryz.prog 220 [x.v,y.v,.bool p] (.bool (B2y p x y))):PC Tryz.prog 197 [J4 l,J4 l',.bool p] (.bool (R3 p l l')):=by
 refine PC.go A2 ?_;by_cases hlen:l.length=l'.length
 ·have hd0:((l.length:Int) != (l'.length:Int))=false:=by simp[hlen]
  (repeat'((with_reducible first|apply wr|refine B0 ?_ ?_|apply wb2<;>(intro hb;try simp only[hb]))<;>try simp only[go_sem,seval,hd0,A0I]));refine B6 (λk:Nat=>[(0,J4 l),(1,J4 l'),(2,.bool p),(7,I64 k)]) (λ_=>Sym.nil) (λk c=>k<=l.length/\R3 p (l.take k) (l'.take k)=true) (λk=>l.length-k) 0 (by simp[B5,tm,Tm.upd]) (Sub.nil _) ⟨A0N _,rfl⟩ ?_;rintro k c ⟨hk,he⟩;by_cases hlt:k<l.length
  ·have hd:=dtz hlt;have hg:=A0B hlt;have hg':=A0B (l:=l') (i:=k) (by omega);have hw:=w64 (n:=(k:Int)+1);have hc:=h _ (A0K hlt) (l'[k]'(by omega));obtain⟨s1,s2⟩:=B8u p l l' k hlen he _ _ hg hg';generalize l[k]=x at hg hc s1 s2;generalize l'[k]'(by omega)=x' at hg' hc s1 s2;rw[Ex.v_w,Ex.v_w]at hc;cases hx:B2y p x x' with
   |true =>
    refine wBb hc (wJ hd (wJ hg (wJ hg' (wJ hw (wJ hx @Ex.v_w))))) ?_;exact⟨k+1,b9,Sub.nil _,inv ⟨b8,by rw[s1];exact hx⟩,by omega⟩
   |false =>
    refine wBb hc (wJ hd (wJ hg (wJ hg' (wJ hw (wJ hx @Ex.v_w))))) ?_;exact⟨_,by rw[s2 hx];exact GL.refl _ _⟩
  ·have hd:=dfz hlt;rw[A0J (by omega),A0J (by omega)]at he;refine wAr hd ?_;exact⟨_,by rw[he];exact GL.refl _ _⟩
 ·have hd0:((l.length:Int) != (l'.length:Int))=true:=by simp;omega
  (repeat'((with_reducible first|apply wr|refine B0 ?_ ?_|apply wb2<;>(intro hb;try simp only[hb]))<;>try simp only[go_sem,seval,hd0,A0I]));exact⟨_,by rw[B4a p l l' hlen];exact GL.refl _ _⟩
theorem c_sameE(p:Bool):∀(m:Nat) (a b:Ex),a.sz<m->a.sz<=100000000000->PC Tryz.prog 220 [a.v,b.v,.bool p] (.bool (B2y p a b)):=by
 intro m
 induction m with
 |zero=>intro a b h;omega
 |succ m ih =>
 intro a b hm hB;have hs:=c_sameEs p a.args b.args (by have:=a.sz_args;omega) (λx hx y=>ih x y (by have:=Ex.sz_arg hx;omega) (by have:=Ex.sz_arg hx;omega));have e0:B2y p a b=(a.kind==b.kind&&(a.value==b.value&&(a.name==b.name&&((p||a.pos==b.pos)&&R3 p a.args b.args)))):=by
  cases a with|mk k v n l q=>cases b with|mk k' v' n' l' q'=>rw[B2y];rfl
 refine PC.go A2 ?_;rw[Ex.v_w,Ex.v_w,e0];cases h1:a.kind==b.kind with
 |false =>
  refine wAs h1 ?_;exact⟨_,GL.refl _ _⟩
 |true =>
  cases h2:a.value==b.value with
  |false =>
   refine wAs (wJ h1 h2) ?_;exact⟨_,GL.refl _ _⟩
  |true =>
   cases h3:a.name==b.name with
   |false =>
    refine wAx h1 h2 h3 ?_;exact⟨_,GL.refl _ _⟩
   |true =>
    cases hp:p with
    |true =>
     subst hp;refine wBc hs (wJ h1 (wJ h2 h3)) ?_;exact⟨_,GL.refl _ _⟩
    |false =>
     subst hp;cases h4:a.pos==b.pos with
     |false =>
      refine wBc hs (wJ h1 (wJ h2 (wJ h3 h4))) ?_;exact⟨_,GL.refl _ _⟩
     |true =>
      refine wBc hs (wJ h1 (wJ h2 (wJ h3 h4))) ?_;exact⟨_,GL.refl _ _⟩
theorem B6w:∀(l l':List Pb.St) (k:Nat),l.length=l'.length->(P7 (l.take k) (l'.take k)=true)->∀x x',l[k]? = some x->l'[k]? = some x'->P7 (l.take (k+1)) (l'.take (k+1))=C0i x x'/\(C0i x x'=false->P7 l l'=false)
 |[],_,k,_,_,x,x',h,_=>by simp at h
 |_::_,[],k,h,_,_,_,_,_=>by simp at h
 |a::l,a'::l',0,_,_,x,x',h,h'=>by
  cases h;cases h';refine⟨?_,λe=>?_⟩
  ·simp[P7]
  ·rw[P7,e];rfl
 |a::l,a'::l',k+1,hl,he,x,x',h,h'=>by
  rw[A1A,A1A,P7,A0F]at he;have ih:=B6w l l' k (by simpa using hl) he.2 x x' (by simpa using h) (by simpa using h');refine⟨?_,λe=>?_⟩
  ·rw[A1A,A1A,P7,he.1,A2A];exact ih.1
  ·rw[P7,ih.2 e,A2Y]
theorem B3e:∀(l l':List Pb.St),¬l.length=l'.length->P7 l l'=false
 |[],[],h=>absurd rfl h
 |[],_::_,_=>rfl
 |_::_,[],_=>rfl
 |a::l,a'::l',h=>by rw[P7,B3e l l' (by simpa using h),A2Y]
theorem D9h(a b:Pb.St):C0i a b=(a.kind==b.kind&&(a.name==b.name&&(a.text==b.text&&(a.pos==b.pos&&(R3 false a.args b.args&&(P7 a.thn b.thn&&P7 a.els b.els)))))):=by
 cases a with|mk k n t a x y q=>cases b with|mk k' n' t' a' x' y' q'=>rw[C0i];rfl
theorem c_sameS:∀(m:Nat) (l l':List Pb.St),Pb.St.szs l<m->Pb.St.szs l<=100000000000->PC Tryz.prog 173 [F5 l,F5 l'] (.bool (P7 l l')):=by
 intro m
 induction m with
 |zero=>intro a b h;omega
 |succ m ih =>
 intro l l' hm hB;have hl:=Pb.St.szs_len l;refine PC.go A2 ?_;by_cases hlen:l.length=l'.length
 ·have hd0:((l.length:Int) != (l'.length:Int))=false:=by simp[hlen]
  (repeat'((with_reducible first|apply wr|refine B0 ?_ ?_|apply wb2<;>(intro hb;try simp only[hb]))<;>try simp only[go_sem,seval,hd0,A0I]));refine B6 (λk:Nat=>[(0,F5 l),(1,F5 l'),(5,I64 k)]) (λ_=>Sym.nil) (λk c=>k<=l.length/\P7 (l.take k) (l'.take k)=true) (λk=>l.length-k) 0 (by simp[B5,tm,Tm.upd]) (Sub.nil _) ⟨A0N _,rfl⟩ ?_;rintro k c ⟨hk,he⟩;by_cases hlt:k<l.length
  ·have hd:=dtz hlt;have hg:=A0B hlt;have hg':=A0B (l:=l') (i:=k) (by omega);have hw:=w64 (n:=(k:Int)+1);obtain⟨s1,s2⟩:=B6w l l' k hlen he _ _ hg hg';have hsx:=Pb.St.szs_mem (A0K hlt);generalize l[k]=x at hg hsx s1 s2;generalize l'[k]'(by omega)=x' at hg' s1 s2;have ht:=x.sz_thn;have hy:=x.sz_els;have hargs:∀y∈x.args,y.sz<x.sz:=λy hy=>Pb.St.sz_arg hy;have hal:=x.sz_args;have ca:=c_sameEs false x.args x'.args (by omega) (λy hy z=>c_sameE false (y.sz+1) y z (by omega) (by have:=hargs y hy;omega));have ct:=ih x.thn x'.thn (by omega) (by omega);have cy:=ih x.els x'.els (by omega) (by omega);rw[D9h]at s1 s2;have ne0:=Q8 (c+8) (c+9) (by omega);have hn8:∀i:Nat,Sym.nil (c+i)=none:=λ_=>rfl;refine wAr (wJ hd (wJ hg (wJ hg' (wJ @Pb.St.v_w (wJ ne0 (wJ @A0 @A1)))))) ?_;refine⟨o5,?_⟩;(repeat'((with_reducible first|refine J8 (p:=IW _ _ (pz Tryz.prog 173 (.o (.i (.o (.i .h))))) _ _) ?_|refine wr ?_|refine B0 ?_ ?_|apply wb2<;>(intro hb;try simp only[hb]))<;>try simp only[go_sem,seval,ne0,A0,A1]));unfold B3a;clear hd hg hg';cases h1:x.kind==x'.kind with
   |false =>
    have n1:(x.kind != x'.kind)=true:=by rw[bne,h1];rfl
    refine wBl ca ct cy (wJ hw (wJ ne0 (wJ @A0 (wJ @A1 n1)))) ?_;exact⟨_,by rw[s2 (by rw[h1];rfl)];exact GL.refl _ _⟩
   |true =>
    have n1:(x.kind != x'.kind)=false:=by rw[bne,h1];rfl
    cases h2:x.name==x'.name with
    |false =>
     refine wBl ca ct cy (wJ hw (wJ ne0 (wJ @A0 (wJ @A1 (wJ n1 h2))))) ?_;exact⟨_,by rw[s2 (by rw[h1,h2];rfl)];exact GL.refl _ _⟩
    |true =>
     cases h3:x.text==x'.text with
     |false =>
      refine wBl ca ct cy (wJ hw (wJ ne0 (wJ @A0 (wJ @A1 (wJ n1 (wJ h2 h3)))))) ?_;exact⟨_,by rw[s2 (by rw[h1,h2,h3];rfl)];exact GL.refl _ _⟩
     |true =>
      cases h4:x.pos==x'.pos with
      |false =>
       have n4:(x.pos != x'.pos)=true:=by rw[bne,h4];rfl
       refine wBl ca ct cy (wJ hw (wJ ne0 (wJ @A0 (wJ @A1 (wJ n1 (wJ h2 (wJ h3 n4))))))) ?_;exact⟨_,by rw[s2 (by rw[h1,h2,h3,h4];rfl)];exact GL.refl _ _⟩
      |true =>
       have n4:(x.pos != x'.pos)=false:=by rw[bne,h4];rfl
       cases h5:R3 false x.args x'.args with
       |false =>
        refine wBl ca ct cy (wJ hw (wJ ne0 (wJ @A0 (wJ @A1 (wJ n1 (wJ h2 (wJ h3 (wJ n4 h5)))))))) ?_;exact⟨_,by rw[s2 (by rw[h1,h2,h3,h4,h5];rfl)];exact GL.refl _ _⟩
       |true =>
        cases h6:P7 x.thn x'.thn with
        |false =>
         refine wBl ca ct cy (wJ hw (wJ ne0 (wJ @A0 (wJ @A1 (wJ n1 (wJ h2 (wJ h3 (wJ n4 (wJ h5 h6))))))))) ?_;exact⟨_,by rw[s2 (by rw[h1,h2,h3,h4,h5,h6];rfl)];exact GL.refl _ _⟩
        |true =>
         cases h7:P7 x.els x'.els with
         |false =>
          refine wBl ca ct cy (wJ hw (wJ ne0 (wJ @A0 (wJ @A1 (wJ n1 (wJ h2 (wJ h3 (wJ n4 (wJ h5 (wJ h6 h7)))))))))) ?_;exact⟨_,by rw[s2 (by rw[h1,h2,h3,h4,h5,h6,h7];rfl)];exact GL.refl _ _⟩
         |true =>
          refine wBl ca ct cy (wJ hw (wJ ne0 (wJ @A0 (wJ @A1 (wJ n1 (wJ h2 (wJ h3 (wJ n4 (wJ h5 (wJ h6 h7)))))))))) ?_;exact⟨k+1,b9,Sub.nil _,inv ⟨b8,by rw[s1,h1,h2,h3,h4,h5,h6,h7];rfl⟩,by omega⟩
  ·have hd:=dfz hlt;rw[A0J (by omega),A0J (by omega)]at he;refine wAr hd ?_;exact⟨_,by rw[he];exact GL.refl _ _⟩
 ·have hd0:((l.length:Int) != (l'.length:Int))=true:=by simp;omega
  (repeat'((with_reducible first|apply wr|refine B0 ?_ ?_|apply wb2<;>(intro hb;try simp only[hb]))<;>try simp only[go_sem,seval,hd0,A0I]));exact⟨_,by rw[B3e l l' hlen];exact GL.refl _ _⟩
def C0n(a b:Ru):Bool:=@decide (a=b) (Classical.propDecidable _)
theorem D9m{a b:Ru}(h:a=b):C0n a b=true:=by unfold C0n;exact @decide_eq_true _ (_) h
theorem D9n{a b:Ru}(h:¬a=b):C0n a b=false:=by unfold C0n;exact @decide_eq_false _ (_) h
theorem B4u{α:Type}{l l':List α}{k:Nat}{x x' : α}(h:l.take k=l'.take k)(hx:l[k]? = some x)(hx':l'[k]? = some x')(e:x=x'):l.take (k+1)=l'.take (k+1):=by
 rw[A0R,A0R,h,hx,hx',e]
theorem Q5{α:Type}{l l':List α}{k:Nat}{x x' : α}(hx:l[k]? = some x)(hx':l'[k]? = some x')(e:¬x=x'):¬l=l':=by
 rintro rfl;rw[hx]at hx';exact e (Option.some.inj hx')
theorem C2x{H H':Hp}{c:Nat}(h1:∀j b,H j=some b->j<c)(h2:∀j,j<c->H' j=H j):Sym.Sub H H':=λj b hj=>by rw[h2 j (h1 j b hj)];exact hj
theorem c_Same31(a b:Ru)(hB:a.sz<=100000000000):PC Tryz.prog 131 [a.v,b.v] (.bool (C0n a b)):=by
 refine PC.go A2 ?_;obtain⟨R,hR⟩:∃R,R=C0n a b:=⟨_,rfl⟩;rw[<- hR];obtain⟨D,M⟩:=a;obtain⟨D',M'⟩:=b;have hF:(¬D=D'\/¬M=M')->R=false:=λh=>by
  rw[hR];exact D9n λe=>by cases e;exact h.elim (· rfl) (· rfl)
 have hT:D=D'->M=M'->R=true:=λh1 h2=>by rw[hR];exact D9m (by rw[h1,h2])
 clear hR;have hDs:(D.map Dc.sz).sum+(M.map Md.sz).sum<=100000000000:=hB;have hDl:D.length<=(D.map Dc.sz).sum:=K2 λx _=>zaf
 have hMl:M.length<=(M.map Md.sz).sum:=K2 λx _=>p9
 dsimp only[Ru.v];by_cases l1:D.length=D'.length
 case neg =>
  have f1:((D.length:Int) != (D'.length:Int))=true:=a8
  refine wAr f1 ?_;exact⟨_,by rw[hF (.inl λe=>l1 (by rw[e]))];exact GL.refl _ _⟩
 have f1:((D.length:Int) != (D'.length:Int))=false:=by simp[l1]
 by_cases l2:M.length=M'.length
 case neg =>
  have f2:((M.length:Int) != (M'.length:Int))=true:=a8
  refine wAr (wJ f1 f2) ?_;exact⟨_,by rw[hF (.inr λe=>l2 (by rw[e]))];exact GL.refl _ _⟩
 have f2:((M.length:Int) != (M'.length:Int))=false:=by simp[l2]
 refine wAr (wJ f1 f2) ?_;refine B6 (λk:Nat=>[(2,.ptr 0 0),(3,.ptr 1 0),(5,I64 k)]) (λ_=>(Sym.nil.upd 0 ⟨0,true,[D0 D,D8 M]⟩).upd 1 ⟨0,true,[D0 D',D8 M']⟩) (λk c=>2<=c/\k<=D.length/\D.take k=D'.take k) (λk=>D.length-k) 0 (by simp[B5,tm,Tm.upd]) (Sub.refl _) ⟨b8,A0N _,rfl⟩ ?_;rintro k c ⟨hc,hk,he⟩;by_cases hlt:k<D.length
 ·have hd:=dtz hlt;have hg:=A0B hlt;have hg':=A0B (l:=D') (i:=k) (by omega);have hw:=w64 (n:=(k:Int)+1);generalize D[k]=x at hg;generalize D'[k]'(by omega)=x' at hg';have hq:(x.kind==x'.kind&&(x.name==x'.name&&(x.value==x'.value&&x.pos==x'.pos)))=true↔x=x':=by
   cases x;cases x';simp only[A0F,A1T,Dc.mk.injEq]
  by_cases hx:x=x'
  ·have hqt:(true != (x.kind==x'.kind&&(x.name==x'.name&&(x.value==x'.value&&x.pos==x'.pos))))=false:=by rw[hq.2 hx];rfl
   refine wA4 hd hg hg' hw @D7y hqt ?_;exact⟨k+1,b9,Sub.refl _,inv ⟨b8,b8,B4u he hg hg' hx⟩,by omega⟩
  ·have hqf:(true != (x.kind==x'.kind&&(x.name==x'.name&&(x.value==x'.value&&x.pos==x'.pos))))=true:=by
    rw[show(x.kind==x'.kind&&(x.name==x'.name&&(x.value==x'.value&&x.pos==x'.pos)))=false from by
     cases hz:(x.kind==x'.kind&&(x.name==x'.name&&(x.value==x'.value&&x.pos==x'.pos))) with
     |false=>rfl
     |true=>exact absurd (hq.1 hz) hx]
    rfl
   refine wA4 hd hg hg' hw @D7y hqf ?_;exact⟨_,by rw[hF (.inl (Q5 hg hg' hx))];exact GL.refl _ _⟩
 ·have hd:=dfz hlt;rw[A0J (by omega),A0J (by omega)]at he;refine wAr hd ?_;have hDD:=he;clear hd hlt he hk;refine B6 (λk:Nat=>[(2,.ptr 0 0),(3,.ptr 1 0),(6,I64 k)]) (λ_=>(Sym.nil.upd 0 ⟨0,true,[D0 D,D8 M]⟩).upd 1 ⟨0,true,[D0 D',D8 M']⟩) (λk c=>2<=c/\k<=M.length/\M.take k=M'.take k) (λk=>M.length-k) 0 (by simp[B5,tm,Tm.upd]) (Sub.refl _) ⟨hc,A0N _,rfl⟩ ?_;clear hc k c;rintro k c ⟨hc,hk,he⟩;by_cases hlt:k<M.length
  ·have hd:=dtz hlt;have hg:=A0B hlt;have hg':=A0B (l:=M') (i:=k) (by omega);have hw:=w64 (n:=(k:Int)+1);have hsx:=M2 (f:=Md.sz) (A0K hlt);generalize M[k]=x at hg hsx;generalize M'[k]'(by omega)=x' at hg';have hxs:(x.hds.map Hd.sz).sum<Md.sz x:=by unfold Md.sz;omega
   have hxl:x.hds.length<=(x.hds.map Hd.sz).sum:=K2 λx _=>p9
   have ne0:=V3 0 1 (c+10) (c+11) (by omega);refine wA4 hd hg hg' ne0 @A0 @A1 ?_;refine⟨o5,?_⟩;(repeat'((with_reducible first|refine J8 (p:=IW _ _ (pz Tryz.prog 131 (.i (.i (.i (.i (.o .h)))))) _ _) ?_|refine wr ?_|refine B0 ?_ ?_|apply wb2<;>(intro hb;try simp only[hb]))<;>try simp only[go_sem,seval,ne0,A0,A1]));unfold B3a;clear hd;by_cases h1:x.name=x'.name
   case neg =>
    have nh1:(x.name==x'.name)=false:=w7
    refine wAr (wJ ne0 (wJ @A0 (wJ @A1 nh1))) ?_;exact⟨_,by rw[hF (.inr (Q5 hg hg' λe=>h1 (by rw[e])))];exact GL.refl _ _⟩
   case pos =>
    have nh1:(x.name==x'.name)=true:=w7
    by_cases h2:x.prio=x'.prio
    case neg =>
     have nh2:(x.prio != x'.prio)=true:=by simpa using h2
     refine wA1 ne0 @A0 @A1 nh1 nh2 ?_;exact⟨_,by rw[hF (.inr (Q5 hg hg' λe=>h2 (by rw[e])))];exact GL.refl _ _⟩
    case pos =>
     have nh2:(x.prio != x'.prio)=false:=by simpa using h2
     by_cases h3:x.pos=x'.pos
     case neg =>
      have nh3:(x.pos != x'.pos)=true:=by simpa using h3
      refine wA4 ne0 @A0 @A1 nh1 nh2 nh3 ?_;exact⟨_,by rw[hF (.inr (Q5 hg hg' λe=>h3 (by rw[e])))];exact GL.refl _ _⟩
     case pos =>
      have nh3:(x.pos != x'.pos)=false:=by simpa using h3
      by_cases h4:x.hds.length=x'.hds.length
      case neg =>
       have nh4:((x.hds.length:Int) != (x'.hds.length:Int))=true:=a8
       refine wAr (wJ ne0 (wJ @A0 (wJ @A1 (wJ nh1 (wJ nh2 (wJ nh3 nh4)))))) ?_;exact⟨_,by rw[hF (.inr (Q5 hg hg' λe=>h4 (by rw[e])))];exact GL.refl _ _⟩
      case pos =>
       have nh4:((x.hds.length:Int) != (x'.hds.length:Int))=false:=by simp[h4]
       refine wAr (wJ ne0 (wJ @A0 (wJ @A1 (wJ nh1 (wJ nh2 (wJ nh3 nh4)))))) ?_;refine B6 (λj:Nat=>[(2,.ptr 0 0),(3,.ptr 1 0),(6,I64 k),(7,.ptr (c+10) 0),(8,.ptr (c+11) 0),(9,I64 j)]) (λ_=>(((Sym.nil.upd 0 ⟨0,true,[D0 D,D8 M]⟩).upd 1 ⟨0,true,[D0 D',D8 M']⟩).upd (c+10) ⟨0,true,[.str x.name,I64 x.prio,O0 x.hds,I64 x.pos]⟩).upd (c+11) ⟨0,true,[.str x'.name,I64 x'.prio,O0 x'.hds,I64 x'.pos]⟩) (λj n=>c+12<=n/\j<=x.hds.length/\x.hds.take j=x'.hds.take j) (λj=>x.hds.length-j) 0 (by simp[B5,tm,Tm.upd]) ?_ ⟨b8,A0N _,rfl⟩ ?_
       ·intro j b hj;by_cases e1:j=c+11
        ·subst e1;rw[A0]at hj ⊢;exact hj
        rw[h_ne e1]at hj ⊢;by_cases e2:j=c+10
        ·subst e2;rw[A0]at hj ⊢;exact hj
        rw[h_ne e2]at hj ⊢
        repeat rw[hnO]
        exact hj
       rintro j n ⟨hn,hj,hej⟩;by_cases hjl:j<x.hds.length
       ·have hdj:decide ((j:Int)<(x.hds.length:Int))=true:=by simpa using hjl
        have gj:=A0B hjl;have gj':=A0B (l:=x'.hds) (i:=j) (by omega);have hwj:=w64 (n:=(j:Int)+1);have hsj:=M2 (f:=Hd.sz) (A0K hjl);generalize x.hds[j]=y at gj hsj;generalize x'.hds[j]'(by omega)=y' at gj';have hbs:Pb.St.szs y.body<Hd.sz y:=by unfold Hd.sz;omega
        have cs:=c_sameS (Pb.St.szs y.body+1) y.body y'.body (by omega) (by omega);have ne0:=A7n 0 1 (c+10) (c+11) (n+10) (n+11) (by omega);refine wA4 hdj gj gj' ne0 @A0 @A1 ?_;refine⟨o5,?_⟩;(repeat'((with_reducible first|refine J8 (p:=IW _ _ (pz Tryz.prog 131 (.i (.o (.i (.o (.o (.o .h))))))) _ _) ?_|refine wr ?_|refine B0 ?_ ?_|apply wb2<;>(intro hb;try simp only[hb]))<;>try simp only[go_sem,seval,ne0,A0,A1]));unfold B3a;clear hdj;by_cases q1:y.trig=y'.trig
        case neg =>
         have nq1:(y.trig != y'.trig)=true:=by simpa using q1
         refine wBc cs (wJ hwj (wJ ne0 (wJ @A0 (wJ @A1 nq1)))) ?_;exact⟨_,by rw[hF (.inr (Q5 hg hg' λe=>Q5 gj gj' (λe2=>by exact q1 (by rw[e2])) (by rw[e])))];exact GL.refl _ _⟩
        case pos =>
         have nq1:(y.trig != y'.trig)=false:=by simpa using q1
         by_cases q2:y.name=y'.name
         case neg =>
          have nq2:(y.name==y'.name)=false:=by simpa using q2
          refine wBc cs (wJ hwj (wJ ne0 (wJ @A0 (wJ @A1 (wJ nq1 nq2))))) ?_;exact⟨_,by rw[hF (.inr (Q5 hg hg' λe=>Q5 gj gj' (λe2=>by exact q2 (by rw[e2])) (by rw[e])))];exact GL.refl _ _⟩
         case pos =>
          have nq2:(y.name==y'.name)=true:=by simpa using q2
          by_cases q3:y.pos=y'.pos
          case neg =>
           have nq3:(y.pos != y'.pos)=true:=by simpa using q3
           refine wBc cs (wJ hwj (wJ ne0 (wJ @A0 (wJ @A1 (wJ nq1 (wJ nq2 nq3)))))) ?_;exact⟨_,by rw[hF (.inr (Q5 hg hg' λe=>Q5 gj gj' (λe2=>by exact q3 (by rw[e2])) (by rw[e])))];exact GL.refl _ _⟩
          case pos =>
           have nq3:(y.pos != y'.pos)=false:=by simpa using q3
           cases q4:P7 y.body y'.body with
           |false =>
            refine wBc cs (wJ hwj (wJ ne0 (wJ @A0 (wJ @A1 (wJ nq1 (wJ nq2 (wJ nq3 q4))))))) ?_;exact⟨_,by rw[hF (.inr (Q5 hg hg' λe=>Q5 gj gj' (λe2=>by rw[e2,(A1r _ _).2 rfl]at q4;cases q4) (by rw[e])))];exact GL.refl _ _⟩
           |true =>
            refine wBc cs (wJ hwj (wJ ne0 (wJ @A0 (wJ @A1 (wJ nq1 (wJ nq2 (wJ nq3 q4))))))) ?_;exact⟨j+1,b9,(C2x (c:=n) (λj0 b0 h0=>by by_cases a1:j0=c+11;omega;rw[h_ne a1]at h0;by_cases a2:j0=c+10;omega;rw[h_ne a2]at h0;by_cases a3:j0=1;omega;rw[h_ne a3]at h0;by_cases a4:j0=0;omega;rw[h_ne a4]at h0;cases h0) (λj0 h0=>by repeat rw[hnO])),inv ⟨b8,b8,B4u hej gj gj' (by cases y;cases y';simp only[Hd.mk.injEq]at *;exact⟨q1,q2,(A1r _ _).1 q4,q3⟩)⟩,by omega⟩
       ·have hdj:decide ((j:Int)<(x.hds.length:Int))=false:=by simpa using hjl
        rw[A0J (by omega),A0J (by omega)]at hej;have ne0:=V3 0 1 (c+10) (c+11) (by omega);refine wA1 hdj hw ne0 @A0 @A1 ?_;exact⟨k+1,b9,(C2x (c:=c) (λj0 b0 h0=>by by_cases a3:j0=1;omega;rw[h_ne a3]at h0;by_cases a4:j0=0;omega;rw[h_ne a4]at h0;cases h0) (λj0 h0=>by repeat rw[hnO])),inv ⟨b8,b8,B4u he hg hg' (by cases x;cases x';simp only[Md.mk.injEq]at *;exact⟨h1,h2,hej,h3⟩)⟩,by omega⟩
  ·have hd:=dfz hlt;rw[A0J (by omega),A0J (by omega)]at he;refine wAr hd ?_;exact⟨_,by rw[hT hDD he];exact GL.refl _ _⟩
theorem c_plainE:∀(m:Nat) (l:List Ex),Ex.szs l<m->Ex.szs l<=100000000000->PC Tryz.prog 198 [J4 l] (J4 (l.map Ex.plain)):=by
 intro m
 induction m with
 |zero=>intro l h;omega
 |succ m ih =>
 intro l hm hB;have hl:=Ex.szs_len l;refine PC.ofT A2 rfl (A0C rfl) (by simp[DV.nlL,DV.nl,A2l]) (A2l _) ?_;refine wAp ?_;obtain⟨F,hF⟩:∃F:Nat->List Ex, ∀k,F k=(l.take k).map Ex.plain:=⟨_,λ_=>rfl⟩;have hF0:F 0=[]:=by rw[hF];rfl
 have hFl:∀k,(F k).length<=l.length:=λk=>by rw[hF,A0I,A0W];omega
 refine B6 (λq:Nat × Option Nat=>[(0,J4 l),(3,todoV q.2 (F q.1).length),(4,I64 q.1)]) (λq=>optH Sym.nil q.2 ⟨5,true,cellsL ((F q.1).map Ex.v)⟩)
  (λq c=>q.1<=l.length/\(q.2=none->F q.1=[])/\(∀i,q.2=some i->i<c)) (λq=>l.length-q.1) (0,none)
  (by simp[B5,tm,Tm.upd,todoV]) (Sub.nil _) ⟨A0N _,λ_=>hF0,(λi hi=>by cases hi)⟩ ?_
 rintro⟨k,o⟩ c ⟨hk,hno,ho⟩;dsimp only at hk hno ho ⊢;by_cases hlt:k<l.length
 ·have hd:=dtz hlt;have hg:=A0B hlt;have hsx:=Ex.szs_mem (A0K hlt);have hw:=w64 (n:=(k:Int)+1);have e0:F (k+1)=F k++[l[k].plain]:=by rw[hF,hF,A0R,hg,A0P];rfl
  have hFk:=hFl k;generalize l[k]=x at hg hsx e0;have hax:Ex.szs x.args<x.sz:=by cases x with|mk k v n a p=>rw[Ex.sz];show Ex.szs a<_;omega
  have hc:=ih x.args (by omega) (by omega);have hln:(cellsL ((F k).map Ex.v)).length=(F k).length*5:=(C7 (u:=5) (A4i _)).trans (by simp);have ne0:=M7 c (c+1) (c+2) (by omega);refine wBc hc (wJ hd (wJ hg (wJ hw (wJ @Ex.v_w (wJ ne0 (wJ @A0 @A1)))))) ?_;refine G7 (D4 (cs:=cellsL ((F k).map Ex.v)) (λe=>by rw[hno e];exact⟨rfl,rfl⟩) (λi hi=>by have:=ho i hi;rw[hnO,hnO];exact A2j hi) hln (by omega) (by omega) (by omega)) ?_;refine wAu hw ?_;refine⟨(k+1,some (c+1+1)),w9,?_,inv ⟨b8,(λh=>by cases h),(λi hi=>by cases hi;omega)⟩,by simp only;omega⟩;dsimp only[optH];rw[e0,A0P,C8];refine S2 ?_;cases x with|mk kk v n a p=>simp only[Ex.plain,Ex.plains_map,Ex.kind,Ex.value,Ex.name,Ex.args,Ex.pos,V7]
 ·have hd:=dfz hlt;refine wAs hd ?_;rw[hF,A0J (by omega)];exact A6c (λe=>by have:=hno e;rw[hF,A0J (by omega)]at this;rw[this];rfl) (by simp) (A4i _)
theorem c_plainS:∀(m:Nat) (l:List Pb.St),Pb.St.szs l<m->Pb.St.szs l<=100000000000->PC Tryz.prog 174 [F5 l] (F5 (l.map Pb.St.plain)):=by
 intro m
 induction m with
 |zero=>intro l h;omega
 |succ m ih =>
 intro l hm hB;have hl:=Pb.St.szs_len l;refine PC.ofT A2 rfl (A0C rfl) (by simp[DV.nlL,DV.nl,Z6]) (Z6 _) ?_;refine wAp ?_;obtain⟨F,hF⟩:∃F:Nat->List Pb.St, ∀k,F k=(l.take k).map Pb.St.plain:=⟨_,λ_=>rfl⟩;have hF0:F 0=[]:=by rw[hF];rfl
 have hFl:∀k,(F k).length<=l.length:=λk=>by rw[hF,A0I,A0W];omega
 refine B6 (λq:Nat × Option Nat=>[(0,F5 l),(3,todoV q.2 (F q.1).length),(4,I64 q.1)]) (λq=>optH Sym.nil q.2 ⟨7,true,cellsL ((F q.1).map Pb.St.v)⟩)
  (λq c=>q.1<=l.length/\(q.2=none->F q.1=[])/\(∀i,q.2=some i->i<c)) (λq=>l.length-q.1) (0,none)
  (by simp[B5,tm,Tm.upd,todoV]) (Sub.nil _) ⟨A0N _,λ_=>hF0,(λi hi=>by cases hi)⟩ ?_
 rintro⟨k,o⟩ c ⟨hk,hno,ho⟩;dsimp only at hk hno ho ⊢;by_cases hlt:k<l.length
 ·have hd:=dtz hlt;have hg:=A0B hlt;have hsx:=Pb.St.szs_mem (A0K hlt);have hw:=w64 (n:=(k:Int)+1);have e0:F (k+1)=F k++[l[k].plain]:=by rw[hF,hF,A0R,hg,A0P];rfl
  have hFk:=hFl k;generalize l[k]=x at hg hsx e0;have hax:Ex.szs x.args<x.sz:=by cases x with|mk k n t a x y p=>rw[Pb.St.sz];show Ex.szs a<_;omega
  have htx:=x.sz_thn;have hyx:=x.sz_els;have hc:=c_plainE (Ex.szs x.args+1) x.args (by omega) (by omega);have hct:=ih x.thn (by omega) (by omega);have hcy:=ih x.els (by omega) (by omega);have hln:(cellsL ((F k).map Pb.St.v)).length=(F k).length*7:=(C7 (u:=7) (A5v _)).trans (by simp);have hbn:∀j:Nat,c<=j->optH Sym.nil o ⟨7,true,cellsL ((F k).map Pb.St.v)⟩ j=none:=λj hj=>by rw[A8 (λi hi=>by have:=ho i hi;omega)];rfl
  have ne0:=M7 c (c+1) (c+2) (by omega);refine wBl hc hct hcy (wJ hd (wJ hg (wJ hw (wJ @Pb.St.v_w (wJ ne0 (wJ @A0 @A1)))))) ?_;refine⟨n7,?_⟩;refine wBl hc hct hcy (wJ @Pb.St.v_w (wJ ne0 (wJ @A0 @A1))) ?_;refine⟨n7,?_⟩;refine wBl hc hct hcy (wJ @Pb.St.v_w (wJ ne0 (wJ @A0 @A1))) ?_;refine⟨n7,?_⟩;refine wBl hc hct hcy (wJ @Pb.St.v_w (wJ ne0 (wJ @A0 @A1))) ?_;refine G7 (D4 (cs:=cellsL ((F k).map Pb.St.v)) (λe=>by rw[hno e];exact⟨rfl,rfl⟩) (λi hi=>by have:=ho i hi;rw[hnO,hnO];exact A2j hi) hln (by omega) (by omega) (by omega)) ?_;refine wAu hw ?_;refine⟨(k+1,some (c+1+17+1)),w9,?_,inv ⟨b8,(λh=>by cases h),(λi hi=>by cases hi;omega)⟩,by simp only;omega⟩;dsimp only[optH];rw[e0,A0P,C8];refine S2 ?_;cases x with|mk kk n t a x y p=>simp only[Pb.St.plain,Ex.plains_map,Pb.St.plains_map,Pb.St.kind,Pb.St.name,Pb.St.text,Pb.St.args,Pb.St.thn,Pb.St.els,Pb.St.pos,B6y]
 ·have hd:=dfz hlt;refine wAs hd ?_;rw[hF,A0J (by omega)];exact A6c (λe=>by have:=hno e;rw[hF,A0J (by omega)]at this;rw[this];rfl) (by simp) (A5v _)
theorem c_Plain31(r:Ru)(hB:r.sz<=100000000000):PC Tryz.prog 132 [r.v] r.plain.v:=by
 refine PC.ofT A2 rfl (A0C rfl) (by simp[DV.nlL,DV.nl,K4,K3]) (Ru.nl _) ?_;obtain⟨D,M⟩:=r;have hDs:(D.map Dc.sz).sum+(M.map Md.sz).sum<=100000000000:=hB;have hDl:D.length<=(D.map Dc.sz).sum:=K2 λx _=>zaf
 have hMl:M.length<=(M.map Md.sz).sum:=K2 λx _=>p9
 dsimp only[Ru.v,Ru.plain];refine wAp ?_;obtain⟨F,hF⟩:∃F:Nat->List Dc, ∀k,F k=(D.take k).map Dc.plain:=⟨_,λ_=>rfl⟩;have hF0:F 0=[]:=by rw[hF];rfl
 have hFl:∀k,(F k).length<=D.length:=λk=>by rw[hF,A0I,A0W];omega
 refine B6 (λq:Nat × Option Nat=>[(1,.ptr 0 0),(2,.ptr 1 0),(3,.ptr 2 0),(4,I64 q.1)]) (λq=>optH (((Sym.nil.upd 0 ⟨0,true,[D0 D,D8 M]⟩).upd 1 ⟨0,true,[.snil,.snil]⟩).upd 2 ⟨0,true,[todoV q.2 (F q.1).length,.snil]⟩) q.2 ⟨4,true,cellsL ((F q.1).map Dc.v)⟩)
  (λq c=>3<=c/\q.1<=D.length/\(q.2=none->F q.1=[])/\(∀i,q.2=some i->3<=i/\i<c)) (λq=>D.length-q.1) (0,none)
  (by simp[B5,tm,Tm.upd]) (Sub.refl _) ⟨b8,A0N _,λ_=>hF0,(λi hi=>by cases hi)⟩ ?_
 rintro⟨k,o⟩ c ⟨hc,hk,hno,ho⟩;dsimp only at hc hk hno ho ⊢;have hbr:optH (((Sym.nil.upd 0 ⟨0,true,[D0 D,D8 M]⟩).upd 1 ⟨0,true,[.snil,.snil]⟩).upd 2 ⟨0,true,[todoV o (F k).length,.snil]⟩) o ⟨4,true,cellsL ((F k).map Dc.v)⟩ 0=some ⟨0,true,[D0 D,D8 M]⟩:=m0
 by_cases hlt:k<D.length
 ·have hd:=dtz hlt;have hg:=A0B hlt;have hw:=w64 (n:=(k:Int)+1);have e0:F (k+1)=F k++[D[k].plain]:=by rw[hF,hF,A0R,hg,A0P];rfl
  have hFk:=hFl k;generalize D[k]=x at hg e0;have hln:(cellsL ((F k).map Dc.v)).length=(F k).length*4:=(C7 (u:=4) (A1c _)).trans (by simp);have hbx:optH (((Sym.nil.upd 0 ⟨0,true,[D0 D,D8 M]⟩).upd 1 ⟨0,true,[.snil,.snil]⟩).upd 2 ⟨0,true,[todoV o (F k).length,.snil]⟩) o ⟨4,true,cellsL ((F k).map Dc.v)⟩ 2=some ⟨0,true,[todoV o (F k).length,.snil]⟩:=j7
  have hb1:optH (((Sym.nil.upd 0 ⟨0,true,[D0 D,D8 M]⟩).upd 1 ⟨0,true,[.snil,.snil]⟩).upd 2 ⟨0,true,[todoV o (F k).length,.snil]⟩) o ⟨4,true,cellsL ((F k).map Dc.v)⟩ 1=some ⟨0,true,[.snil,.snil]⟩:=n9
  have hbo:∀i:Nat,o=some i->optH (((Sym.nil.upd 0 ⟨0,true,[D0 D,D8 M]⟩).upd 1 ⟨0,true,[.snil,.snil]⟩).upd 2 ⟨0,true,[todoV o (F k).length,.snil]⟩) o ⟨4,true,cellsL ((F k).map Dc.v)⟩ i=some ⟨4,true,cellsL ((F k).map Dc.v)⟩:=λi hi=>o9
  have hdx:∀X:Hp,delO X o 2=X 2:=λX=>A9 (λi hi=>by have:=ho i hi;omega);generalize hHH:optH (((Sym.nil.upd 0 ⟨0,true,[D0 D,D8 M]⟩).upd 1 ⟨0,true,[.snil,.snil]⟩).upd 2 ⟨0,true,[todoV o (F k).length,.snil]⟩) o ⟨4,true,cellsL ((F k).map Dc.v)⟩=HH at hbr hbx hbo hb1 ⊢;have ne0:=A7n 0 1 2 c (c+1) (c+1+1) (by omega);refine wA8 hd hg hw hbr hbx ne0 @A0 @A1 ?_;refine G7 (D4 (cs:=cellsL ((F k).map Dc.v)) (λe=>by rw[hno e];exact⟨rfl,rfl⟩) (λi hi=>by have:=ho i hi;rw[hnO,hnO];exact hbo i hi) hln (by omega) (by omega) (by omega)) ?_;refine wA6 hw ne0 @A0 @A1 hdx hbx ?_;refine⟨(k+1,some (c+1+1)),b9,?_,inv ⟨b8,b8,(λh=>by cases h),(λi hi=>by cases hi;omega)⟩,by simp only;omega⟩;dsimp only[optH,todoV];rw[e0,A0P,C8,A0A,A0E];intro j b hj;by_cases e1:j=c+1+1
  ·subst e1;rw[A0]at hj;rw[hnO,A0, <- hj];rfl
  rw[h_ne e1]at hj;by_cases e2:j=2
  ·subst e2;rw[A0]at hj ⊢;exact hj
  rw[h_ne e2]at hj ⊢;rw[h_ne e1];by_cases e3:j=1
  ·subst e3;rw[A0]at hj;rw[A9 (λi hi=>by have:=ho i hi;omega),hnO,hnO,hb1];exact hj
  rw[h_ne e3]at hj;by_cases e4:j=0
  ·subst e4;rw[A0]at hj;rw[A9 (λi hi=>by have:=ho i hi;omega),hnO,hnO,hbr];exact hj
  ·rw[h_ne e4]at hj;cases hj
 ·have hd:=dfz hlt;refine wAs (wJ hd hbr) ?_;refine IW.keep [1,2,3,6] [.ptr 0 0,.ptr 1 0,.ptr 2 0,I64 0] (g_fin (Hb:=((Sym.nil.upd 0 ⟨0,true,[D0 D,D8 M]⟩).upd 1 ⟨0,true,[.snil,.snil]⟩)) (ci:=2) (u:=4) (pre:=[]) (suf:=[.snil]) (xs:=(F k).map Dc.v) (by simp[DV.one]) (λh=>by rw[hno h];rfl) (λi hi=>by have:=ho i hi;exact⟨b8,by rw[hnO,hnO];rfl⟩) (by simp) (A1c _)) ?_;have hFD:F k=D.map Dc.plain:=by rw[hF,A0J (by omega)]
  rw[hFD];clear hno ho hbr hFD hlt hd hFl hF0 hF hk;obtain⟨G,hG⟩:∃G:Nat->List Md, ∀k,G k=(M.take k).map Md.plain:=⟨_,λ_=>rfl⟩;have hG0:G 0=[]:=by rw[hG];rfl
  have hGl:∀k,(G k).length<=M.length:=λk=>by rw[hG,A0I,A0W];omega
  refine B6 (λq:Nat × Option Nat=>[(1,.ptr 0 0),(2,.ptr 1 0),(3,.ptr 2 0),(6,I64 q.1)]) (λq=>optH (((Sym.nil.upd 0 ⟨0,true,[D0 D,D8 M]⟩).upd 1 ⟨0,true,[.snil,.snil]⟩).upd 2 ⟨0,true,[D0 (D.map Dc.plain),todoV q.2 (G q.1).length]⟩) q.2 ⟨4,true,cellsL ((G q.1).map Md.v)⟩)
   (λq c=>3<=c/\q.1<=M.length/\(q.2=none->G q.1=[])/\(∀i,q.2=some i->3<=i/\i<c)) (λq=>M.length-q.1) (0,none)
   (by simp[B5,tm,Tm.upd]) (by rw[hG0];exact Sub.refl _) ⟨hc,A0N _,λ_=>hG0,(λi hi=>by cases hi)⟩ ?_
  clear hc k c o;rintro⟨k,o⟩ c ⟨hc,hk,hno,ho⟩;dsimp only at hc hk hno ho ⊢;have hGk:=hGl k;have hbr:optH (((Sym.nil.upd 0 ⟨0,true,[D0 D,D8 M]⟩).upd 1 ⟨0,true,[.snil,.snil]⟩).upd 2 ⟨0,true,[D0 (D.map Dc.plain),todoV o (G k).length]⟩) o ⟨4,true,cellsL ((G k).map Md.v)⟩ 0=some ⟨0,true,[D0 D,D8 M]⟩:=m0
  have hbx:optH (((Sym.nil.upd 0 ⟨0,true,[D0 D,D8 M]⟩).upd 1 ⟨0,true,[.snil,.snil]⟩).upd 2 ⟨0,true,[D0 (D.map Dc.plain),todoV o (G k).length]⟩) o ⟨4,true,cellsL ((G k).map Md.v)⟩ 2=some ⟨0,true,[D0 (D.map Dc.plain),todoV o (G k).length]⟩:=j7
  have hb1:optH (((Sym.nil.upd 0 ⟨0,true,[D0 D,D8 M]⟩).upd 1 ⟨0,true,[.snil,.snil]⟩).upd 2 ⟨0,true,[D0 (D.map Dc.plain),todoV o (G k).length]⟩) o ⟨4,true,cellsL ((G k).map Md.v)⟩ 1=some ⟨0,true,[.snil,.snil]⟩:=n9
  have hbo:∀i:Nat,o=some i->optH (((Sym.nil.upd 0 ⟨0,true,[D0 D,D8 M]⟩).upd 1 ⟨0,true,[.snil,.snil]⟩).upd 2 ⟨0,true,[D0 (D.map Dc.plain),todoV o (G k).length]⟩) o ⟨4,true,cellsL ((G k).map Md.v)⟩ i=some ⟨4,true,cellsL ((G k).map Md.v)⟩:=λi hi=>o9
  have hbn:∀j:Nat,c<=j->optH (((Sym.nil.upd 0 ⟨0,true,[D0 D,D8 M]⟩).upd 1 ⟨0,true,[.snil,.snil]⟩).upd 2 ⟨0,true,[D0 (D.map Dc.plain),todoV o (G k).length]⟩) o ⟨4,true,cellsL ((G k).map Md.v)⟩ j=none:=λj hj=>by rw[A8 (λi hi=>by have:=ho i hi;omega),hnO,hnO,hnO];rfl
  have hT:(todoV o (G k).length).one=true:=z7
  have hdx:∀X:Hp,delO X o 2=X 2:=λX=>A9 (λi hi=>by have:=ho i hi;omega);by_cases hlt:k<M.length
  ·have hd:=dtz hlt;have hg:=A0B hlt;have hw:=w64 (n:=(k:Int)+1);have e0:G (k+1)=G k++[M[k].plain]:=by rw[hG,hG,A0R,hg,A0P];rfl
   have hsx:=M2 (f:=Md.sz) (A0K hlt);generalize M[k]=x at hg hsx e0;have hxs:(x.hds.map Hd.sz).sum<Md.sz x:=by unfold Md.sz;omega
   have hxl:x.hds.length<=(x.hds.map Hd.sz).sum:=K2 λx _=>p9
   have hln:(cellsL ((G k).map Md.v)).length=(G k).length*4:=(C7 (u:=4) (A6h _)).trans (by simp);generalize hHH:optH (((Sym.nil.upd 0 ⟨0,true,[D0 D,D8 M]⟩).upd 1 ⟨0,true,[.snil,.snil]⟩).upd 2 ⟨0,true,[D0 (D.map Dc.plain),todoV o (G k).length]⟩) o ⟨4,true,cellsL ((G k).map Md.v)⟩=HH at hbr hbx hbo hb1 hbn ⊢;have ne0:=V3 0 1 2 (c+13) (by omega);refine wA8 hd hg hw hbr hbx ne0 @A0 @A1 ?_;obtain⟨K,hK⟩:∃K:Nat->List Hd, ∀j,K j=(x.hds.take j).map Hd.plain:=⟨_,λ_=>rfl⟩;have hK0:K 0=[]:=by rw[hK];rfl
   have hKl:∀j,(K j).length<=x.hds.length:=λj=>by rw[hK,A0I,A0W];omega
   refine B6 (λq:Nat × Option Nat=>[(1,.ptr 0 0),(2,.ptr 1 0),(3,.ptr 2 0),(6,I64 k),(7,.ptr (c+13) 0),(8,I64 q.1)]) (λq=>optH (HH.upd (c+13) ⟨0,true,[.str x.name,I64 x.prio,todoV q.2 (K q.1).length,I64 0]⟩) q.2 ⟨4,true,cellsL ((K q.1).map Hd.v)⟩)
    (λq n=>c+15<=n/\q.1<=x.hds.length/\(q.2=none->K q.1=[])/\(∀i,q.2=some i->c+15<=i/\i<n)) (λq=>x.hds.length-q.1) (0,none)
    (by simp[B5,tm,Tm.upd]) (by rw[hK0];exact Sub.refl _) ⟨A0D _,A0N _,λ_=>hK0,(λi hi=>by cases hi)⟩ ?_
   rintro⟨j,o2⟩ n ⟨hn,hj,hno2,ho2⟩;dsimp only at hn hj hno2 ho2 ⊢;have hKj:=hKl j;have h2r:optH (HH.upd (c+13) ⟨0,true,[.str x.name,I64 x.prio,todoV o2 (K j).length,I64 0]⟩) o2 ⟨4,true,cellsL ((K j).map Hd.v)⟩ 0=some ⟨0,true,[D0 D,D8 M]⟩:=by rw[A8 (λi hi=>by have:=ho2 i hi;omega),hnO,hbr]
   have h2b:optH (HH.upd (c+13) ⟨0,true,[.str x.name,I64 x.prio,todoV o2 (K j).length,I64 0]⟩) o2 ⟨4,true,cellsL ((K j).map Hd.v)⟩ (c+13)=some ⟨0,true,[.str x.name,I64 x.prio,todoV o2 (K j).length,I64 0]⟩:=by rw[A8 (λi hi=>by have:=ho2 i hi;omega),A0]
   have h2o:∀i:Nat,o2=some i->optH (HH.upd (c+13) ⟨0,true,[.str x.name,I64 x.prio,todoV o2 (K j).length,I64 0]⟩) o2 ⟨4,true,cellsL ((K j).map Hd.v)⟩ i=some ⟨4,true,cellsL ((K j).map Hd.v)⟩:=λi hi=>o9
   have h2n:∀i:Nat,n<=i->optH (HH.upd (c+13) ⟨0,true,[.str x.name,I64 x.prio,todoV o2 (K j).length,I64 0]⟩) o2 ⟨4,true,cellsL ((K j).map Hd.v)⟩ i=none:=λi hi=>by rw[A8 (λi hi=>by have:=ho2 i hi;omega),hnO];exact hbn _ (by omega)
   have h2j:∀i:Nat,i<c+13->optH (HH.upd (c+13) ⟨0,true,[.str x.name,I64 x.prio,todoV o2 (K j).length,I64 0]⟩) o2 ⟨4,true,cellsL ((K j).map Hd.v)⟩ i=HH i:=λi hi=>by rw[A8 (λi hi=>by have:=ho2 i hi;omega),hnO]
   have hT2:(todoV o2 (K j).length).one=true:=by cases o2<;>rfl
   have hdx2:∀X:Hp,delO X o2 (c+13)=X (c+13):=λX=>A9 (λi hi=>by have:=ho2 i hi;omega);by_cases hjl:j<x.hds.length
   ·have hdj:decide ((j:Int)<(x.hds.length:Int))=true:=by simpa using hjl
    have hgj:=A0B hjl;have hwj:=w64 (n:=(j:Int)+1);have k0:K (j+1)=K j++[x.hds[j].plain]:=by rw[hK,hK,A0R,hgj,A0P];rfl
    have hsj:=M2 (f:=Hd.sz) (A0K hjl);generalize x.hds[j]=y at hgj hsj k0;have hbs:Pb.St.szs y.body<Hd.sz y:=by unfold Hd.sz;omega
    have cb:=c_plainS (Pb.St.szs y.body+1) y.body (by omega) (by omega);have hlj:(cellsL ((K j).map Hd.v)).length=(K j).length*4:=(C7 (u:=4) (A2m _)).trans (by simp);generalize hH2:optH (HH.upd (c+13) ⟨0,true,[.str x.name,I64 x.prio,todoV o2 (K j).length,I64 0]⟩) o2 ⟨4,true,cellsL ((K j).map Hd.v)⟩=H2 at h2r h2b h2o h2n h2j ⊢;have ne0:=S7 0 1 2 (c+13) n (by omega);refine wBc cb (wJ hdj (wJ hg (wJ hgj (wJ hwj (wJ h2r (wJ h2b (wJ ne0 (wJ @A0 @A1)))))))) ?_;refine⟨by and_intros<;>(repeat rw[hnO])<;>exact h2n _ (by omega),?_⟩;rw[D4 (cs:=cellsL ((K j).map Hd.v)) (λe=>by rw[hno2 e];exact⟨rfl,rfl⟩) (λi hi=>by have:=ho2 i hi;rw[hnO,hnO];exact h2o i hi) hlj (by omega) (by omega) (by omega)];have ne0:=E4v 0 1 2 (c+13) n (n+1+10) (n+1+14) (by omega);refine wA6 ne0 @A0 @A1 hdx2 h2b hwj ?_;refine⟨(j+1,some (n+1+14)),by simp,?_,inv ⟨b8,b8,(λh=>by cases h),(λi hi=>by cases hi;omega)⟩,by simp only;omega⟩;dsimp only[optH,todoV];rw[k0,A0P,C8,A0A,A0E];intro i b hi;by_cases e1:i=n+1+14
    ·subst e1;rw[A0]at hi;rw[hnO,A0, <- hi];simp only[Hd.plain,Pb.St.plains_map];rfl
    rw[h_ne e1]at hi;by_cases e2:i=c+13
    ·subst e2;rw[A0]at hi ⊢;exact hi
    rw[h_ne e2]at hi ⊢;rw[h_ne e1];have hic:i<c:=Classical.byContradiction λh=>by rw[hbn i (by omega)]at hi;cases hi
    rw[A9 (λi' hi'=>by have:=ho2 i' hi';omega),hnO,hnO,h2j i (by omega)];exact hi
   ·have hdj:decide ((j:Int)<(x.hds.length:Int))=false:=by simpa using hjl
    have ne0:=S7 0 1 2 (c+13) n (by omega);(repeat'((with_reducible first|refine J8 (p:=IW _ _ (pz Tryz.prog 132 (.o (.o (.o (.i (.i .h)))))) _ _) ?_|refine wr ?_|refine B0 ?_ ?_|apply wb2<;>(intro hb;try simp only[hb]))<;>try simp only[go_sem,seval,hdj,hg,h2r,h2b,ne0,A0,A1]));unfold B3a;have hKM:K j=x.hds.map Hd.plain:=by rw[hK,A0J (by omega)]
    refine IW.keep [1,2,3,6,7] [.ptr 0 0,.ptr 1 0,.ptr 2 0,I64 k,.ptr (c+13) 0] (g_fin (Hb:=HH) (ci:=c+13) (u:=4) (pre:=[.str x.name,I64 x.prio]) (suf:=[I64 0]) (xs:=(K j).map Hd.v) (by simp[DV.one]) (λh=>by rw[hno2 h];rfl) (λi hi=>by have:=ho2 i hi;exact⟨b8,hbn _ (by omega)⟩) (by simp) (A2m _)) ?_;rw[hKM];dsimp only[List.cons_append,List.nil_append];show IW Tryz.prog _ _ ⟨tm [(1,.ptr 0 0),(2,.ptr 1 0),(3,.ptr 2 0),(6,I64 k),(7,.ptr (c+13) 0)],_,_⟩ _;have ne0:=A7n 0 1 2 (c+13) n (n+1) (by omega);refine wA2 hbx hbr ne0 @A0 @A1 ?_;refine G7 (D4 (cs:=cellsL ((G k).map Md.v)) (λe=>by rw[hno e];exact⟨rfl,rfl⟩) (λi hi=>by have:=ho i hi;rw[hnO,hnO];exact hbo i hi) hln (by omega) (by omega) (by omega)) ?_;refine wA6 hw ne0 @A0 @A1 hdx hbx ?_;refine⟨(k+1,some (n+1)),b9,?_,inv ⟨b8,b8,(λh=>by cases h),(λi hi=>by cases hi;omega)⟩,by simp only;omega⟩;dsimp only[optH,todoV];rw[e0,A0P,C8,A0A,A0E];intro i b hi;by_cases e1:i=n+1
    ·subst e1;rw[A0]at hi;rw[hnO,A0, <- hi];rfl
    rw[h_ne e1]at hi;by_cases e2:i=2
    ·subst e2;rw[A0]at hi ⊢;exact hi
    rw[h_ne e2]at hi ⊢;rw[h_ne e1];by_cases e3:i=1
    ·subst e3;rw[A0]at hi;rw[A9 (λi hi=>by have:=ho i hi;omega),hnO,hnO,hb1];exact hi
    rw[h_ne e3]at hi;by_cases e4:i=0
    ·subst e4;rw[A0]at hi;rw[A9 (λi hi=>by have:=ho i hi;omega),hnO,hnO,hbr];exact hi
    ·rw[h_ne e4]at hi;cases hi
  ·have hd:=dfz hlt;generalize hHH:optH (((Sym.nil.upd 0 ⟨0,true,[D0 D,D8 M]⟩).upd 1 ⟨0,true,[.snil,.snil]⟩).upd 2 ⟨0,true,[D0 (D.map Dc.plain),todoV o (G k).length]⟩) o ⟨4,true,cellsL ((G k).map Md.v)⟩=HH at hbr hbx hbo hb1 hbn ⊢;have ne0:=M7 0 1 2 (by omega);refine wA8 hd hbr hbx hb1 ne0 @A0 @A1 hT ?_;refine G7 (A3c (by rfl) (by decide) (by cases o<;>rfl)) ?_;refine wAu (wJ ne0 @A0) ?_;rw[C9 (rv2 rfl rfl)];have hGM:M.map Md.plain=G k:=by rw[hG,A0J (by omega)]
   rw[hGM];exact⟨Sym.nil,D1v (cc:=0) (G k) (λ_ _=>rfl) (λ_ _=>A0N _) hno (λi hi=>by have:=ho i hi;show(HH.upd 1 _) i=_;rw[hnO];exact hbo i hi) (λj hj=>by omega)⟩
theorem c_ValidR31(r:Ru)(hB:r.sz<4000000):PC Tryz.prog 76 [r.v] (.bool (C5r r)):=by
 refine PC.go A2 ?_;have hg:=D1s r;have hGT:∀t∈ruT r,K6 t:=λt ht=>(hg t ht).1;have hval:∀t∈ruT r,0<=t.value/\t.value<=9223372036854775807:=λt ht=>by have:=(hg t ht).2;omega
 obtain⟨l1,l2⟩:=D4l r;have hsz:=C3g (E:=0) hGT;have ht:=c_rulesT r hB (by omega);have hp:=c_Plain31 r (by omega);obtain⟨f,hf⟩:=(A7f (ruT r) 0).get;have hr:=c_rules (ruT r) 0 (by omega) hval f rd0 _ hf (A0N _);have hv:C5r r=(okR (X5 (ruT r) 0).2&&C0n (X5 (ruT r) 0).1.plain r.plain):=rfl;rw[hv];have hpo:=c_Plain31 (X5 (ruT r) 0).1 (by omega);have hps:(X5 (ruT r) 0).1.plain.sz<=100000000000:=by rw[Ru.plain_sz];omega
 have hsm:=c_Same31 (X5 (ruT r) 0).1.plain r.plain hps;generalize X5 (ruT r) 0=w at hr hpo hsm hsz ⊢;generalize hL:ruT r=L at ht hr;refine wA9 ht ?_;refine AC.call (hr _ _ 1 rfl (by decide)) ?_;rintro v H' c2 ⟨rfl,rfl⟩ hc2;dsimp only at hc2 ⊢;have ne0:=M7 0 1 c2 (by omega);refine wAy ne0 @A0 @A1 ?_;refine AC.call (c_rdok L 0 w.2 _ _ 1 (by rw[hnO];exact A0) (by omega)) ?_;rintro v H' c3 ⟨rfl,rfl⟩ hc3;cases hok:okR w.2 with
 |false =>
  refine wA0 hok ne0 @A0 @A1 ?_;refine⟨by repeat rw[hnO]<;>rfl,?_⟩;refine wAz hok ne0 @A0 @A1 ?_;exact⟨_,GL.refl _ _⟩
 |true =>
  simp only[go_sem,seval,hok,ne0,A0,A1];(repeat'((with_reducible first|apply wr|refine cpc hpo ?_|refine cpc hp ?_|refine cpc hsm ?_|refine B0 ?_ ?_|apply wb2<;>(intro hb;try simp only[hb]))<;>try simp only[go_sem,seval,hok,ne0,A0,A1]));refine⟨o5,?_⟩;refine wBl hpo hp hsm (wJ hok (wJ ne0 (wJ @A0 @A1))) ?_;exact⟨_,GL.refl _ _⟩
end Go.Proofs.YtdclpmddofggcaaGreatDoor
set_option maxHeartbeats 4000000
namespace Go.Proofs.YtdclpmddofggcaaGreatDoor
open Go.Eng (IC IOper DReg IFn L4)
open Go.Sym
abbrev x228:XT Tryz.prog 228:=mkF
instance t228:FT Tryz.prog 228 x228.d:=x228.ft
abbrev x214:XT Tryz.prog 214:=mkF
instance t214:FT Tryz.prog 214 x214.d:=x214.ft
abbrev x237:XT Tryz.prog 237:=mkF
instance t237:FT Tryz.prog 237 x237.d:=x237.ft
abbrev x236:XT Tryz.prog 236:=mkF
instance t236:FT Tryz.prog 236 x236.d:=x236.ft
abbrev x238:XT Tryz.prog 238:=mkF
instance t238:FT Tryz.prog 238 x238.d:=x238.ft
abbrev x211:XT Tryz.prog 211:=mkF
instance t211:FT Tryz.prog 211 x211.d:=x211.ft
abbrev x215:XT Tryz.prog 215:=mkF
instance t215:FT Tryz.prog 215 x215.d:=x215.ft
abbrev x150:XT Tryz.prog 150:=mkF
instance t150:FT Tryz.prog 150 x150.d:=x150.ft
abbrev x185:XT Tryz.prog 185:=mkF
instance t185:FT Tryz.prog 185 x185.d:=x185.ft
abbrev x186:XT Tryz.prog 186:=mkF
instance t186:FT Tryz.prog 186 x186.d:=x186.ft
abbrev x213:XT Tryz.prog 213:=mkF
instance t213:FT Tryz.prog 213 x213.d:=x213.ft
abbrev x103:XT Tryz.prog 103:=mkF
instance t103:FT Tryz.prog 103 x103.d:=x103.ft
abbrev x106:XT Tryz.prog 106:=mkF
instance t106:FT Tryz.prog 106 x106.d:=x106.ft
abbrev x48:XT Tryz.prog 48:=mkF
instance t48:FT Tryz.prog 48 x48.d:=x48.ft
abbrev x102:XT Tryz.prog 102:=mkF
instance t102:FT Tryz.prog 102 x102.d:=x102.ft
abbrev x105:XT Tryz.prog 105:=mkF
instance t105:FT Tryz.prog 105 x105.d:=x105.ft
abbrev x53:XT Tryz.prog 53:=mkF
instance t53:FT Tryz.prog 53 x53.d:=x53.ft
abbrev x110:XT Tryz.prog 110:=mkF
instance t110:FT Tryz.prog 110 x110.d:=x110.ft
abbrev x101:XT Tryz.prog 101:=mkF
instance t101:FT Tryz.prog 101 x101.d:=x101.ft
abbrev x147:XT Tryz.prog 147:=mkF
instance t147:FT Tryz.prog 147 x147.d:=x147.ft
abbrev x104:XT Tryz.prog 104:=mkF
instance t104:FT Tryz.prog 104 x104.d:=x104.ft
abbrev x149:XT Tryz.prog 149:=mkF
instance t149:FT Tryz.prog 149 x149.d:=x149.ft
abbrev x184:XT Tryz.prog 184:=mkF
instance t184:FT Tryz.prog 184 x184.d:=x184.ft
abbrev x210:XT Tryz.prog 210:=mkF
instance t210:FT Tryz.prog 210 x210.d:=x210.ft
abbrev x212:XT Tryz.prog 212:=mkF
instance t212:FT Tryz.prog 212 x212.d:=x212.ft
abbrev x227:XT Tryz.prog 227:=mkF
instance t227:FT Tryz.prog 227 x227.d:=x227.ft
end Go.Proofs.YtdclpmddofggcaaGreatDoor
end
