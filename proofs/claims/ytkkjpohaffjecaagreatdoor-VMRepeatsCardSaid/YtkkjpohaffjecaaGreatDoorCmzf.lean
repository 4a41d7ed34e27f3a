/-
  HELPERS of the claim: part 6 of its texts.
-/
import Derived.Test.YtkkjpohaffjecaaGreatDoorCmze
import Derived.Shelf.LaysC
import Derived.Shelf.Strconv.ParseIntPublic10
import Derived.Test.YtkkjpohaffjecaaGreatDoorProg
noncomputable section
set_option linter.unusedVariables false
namespace Go.Proofs
open Go.Shelf
def Tryz.laysC174_ren:Go.Shelf.Ren:=⟨fun |174=>328 |247=>338 |245=>339 |287=>345 |279=>346 |280=>347 |281=>348 |282=>349 |321=>352 |322=>353 |316=>354 |171=>73 |205=>355 |243=>144 |246=>209 |283=>275 |284=>276 |285=>277 |286=>278 |129=>260 |317=>320 |318=>321 |319=>322 |320=>323 |337=>335 |338=>336|n=>n,fun |9=>9 |3=>3 |2=>2 |75=>263 |85=>333 |4=>4 |167=>358 |5=>5 |53=>37 |175=>359 |46=>123 |168=>361 |37=>22 |0=>0 |210=>368 |21=>21 |127=>303 |145=>372 |143=>370 |171=>299 |173=>301 |212=>325 |51=>38 |20=>20 |213=>326 |232=>345 |233=>346 |80=>67|n=>n,fun |15=>6 |16=>7 |17=>0 |18=>4 |19=>5|n=>n⟩
theorem Tryz.laysC174:Go.Proofs.LaysC.n174 Tryz.prog Tryz.laysC174_ren:={
 mixed:=by kernel_rfl
 f129:=Tryz.func260.trans (congrArg some (by kernel_rfl))
 f171:=Tryz.func73.trans (congrArg some (by kernel_rfl))
 f174:=Tryz.func328.trans (congrArg some (by kernel_rfl))
 f205:=Tryz.func355.trans (congrArg some (by kernel_rfl))
 f243:=Tryz.func144.trans (congrArg some (by kernel_rfl))
 f245:=Tryz.func339.trans (congrArg some (by kernel_rfl))
 f246:=Tryz.func209.trans (congrArg some (by kernel_rfl))
 f247:=Tryz.func338.trans (congrArg some (by kernel_rfl))
 f279:=Tryz.func346.trans (congrArg some (by kernel_rfl))
 f280:=Tryz.func347.trans (congrArg some (by kernel_rfl))
 f281:=Tryz.func348.trans (congrArg some (by kernel_rfl))
 f282:=Tryz.func349.trans (congrArg some (by kernel_rfl))
 f283:=Tryz.func275.trans (congrArg some (by kernel_rfl))
 f284:=Tryz.func276.trans (congrArg some (by kernel_rfl))
 f285:=Tryz.func277.trans (congrArg some (by kernel_rfl))
 f286:=Tryz.func278.trans (congrArg some (by kernel_rfl))
 f287:=Tryz.func345.trans (congrArg some (by kernel_rfl))
 f316:=Tryz.func354.trans (congrArg some (by kernel_rfl))
 f317:=Tryz.func320.trans (congrArg some (by kernel_rfl))
 f318:=Tryz.func321.trans (congrArg some (by kernel_rfl))
 f319:=Tryz.func322.trans (congrArg some (by kernel_rfl))
 f320:=Tryz.func323.trans (congrArg some (by kernel_rfl))
 f321:=Tryz.func352.trans (congrArg some (by kernel_rfl))
 f322:=Tryz.func353.trans (congrArg some (by kernel_rfl))
 f337:=Tryz.func335.trans (congrArg some (by kernel_rfl))
 f338:=Tryz.func336.trans (congrArg some (by kernel_rfl))
 t0:=Tryz.underlying0
 a0:=Tryz.isAgg0
 z0:=Tryz.sizeOf0
 v0:=Tryz.zeroValue0
 t2:=Tryz.underlying2
 a2:=Tryz.isAgg2
 z2:=Tryz.sizeOf2
 v2:=Tryz.zeroValue2
 t3:=Tryz.underlying3
 a3:=Tryz.isAgg3
 z3:=Tryz.sizeOf3
 v3:=Tryz.zeroValue3
 t4:=Tryz.underlying4
 a4:=Tryz.isAgg4
 z4:=Tryz.sizeOf4
 v4:=Tryz.zeroValue4
 t5:=Tryz.underlying5
 a5:=Tryz.isAgg5
 z5:=Tryz.sizeOf5
 v5:=Tryz.zeroValue5
 t9:=Tryz.underlying9
 a9:=Tryz.isAgg9
 z9:=Tryz.sizeOf9
 v9:=Tryz.zeroValue9
 t20:=Tryz.underlying20
 a20:=Tryz.isAgg20
 z20:=Tryz.sizeOf20
 v20:=Tryz.zeroValue20
 t21:=Tryz.underlying21
 a21:=Tryz.isAgg21
 z21:=Tryz.sizeOf21
 v21:=Tryz.zeroValue21
 t37:=Tryz.underlying22
 a37:=Tryz.isAgg22
 z37:=Tryz.sizeOf22
 v37:=Tryz.zeroValue22
 t46:=Tryz.underlying123
 a46:=Tryz.isAgg123
 z46:=Tryz.sizeOf123
 v46:=Tryz.zeroValue123
 t51:=Tryz.underlying38
 a51:=Tryz.isAgg38
 z51:=Tryz.sizeOf38
 v51:=Tryz.zeroValue38
 t53:=Tryz.underlying37
 a53:=Tryz.isAgg37
 z53:=Tryz.sizeOf37
 v53:=Tryz.zeroValue37
 t75:=Tryz.underlying263
 a75:=Tryz.isAgg263
 z75:=Tryz.sizeOf263
 v75:=Tryz.zeroValue263
 t85:=Tryz.underlying333
 a85:=Tryz.isAgg333
 z85:=Tryz.sizeOf333
 v85:=Tryz.zeroValue333
 t127:=Tryz.underlying303
 a127:=Tryz.isAgg303
 z127:=Tryz.sizeOf303
 v127:=Tryz.zeroValue303
 t143:=Tryz.underlying370
 a143:=Tryz.isAgg370
 z143:=Tryz.sizeOf370
 v143:=Tryz.zeroValue370
 t145:=Tryz.underlying372
 a145:=Tryz.isAgg372
 z145:=Tryz.sizeOf372
 v145:=Tryz.zeroValue372
 t167:=Tryz.underlying358
 a167:=Tryz.isAgg358
 z167:=Tryz.sizeOf358
 v167:=Tryz.zeroValue358
 t168:=Tryz.underlying361
 a168:=Tryz.isAgg361
 z168:=Tryz.sizeOf361
 v168:=Tryz.zeroValue361
 t171:=Tryz.underlying299
 a171:=Tryz.isAgg299
 z171:=Tryz.sizeOf299
 v171:=Tryz.zeroValue299
 t173:=Tryz.underlying301
 a173:=Tryz.isAgg301
 z173:=Tryz.sizeOf301
 v173:=Tryz.zeroValue301
 t175:=Tryz.underlying359
 a175:=Tryz.isAgg359
 z175:=Tryz.sizeOf359
 v175:=Tryz.zeroValue359
 t210:=Tryz.underlying368
 a210:=Tryz.isAgg368
 z210:=Tryz.sizeOf368
 v210:=Tryz.zeroValue368
 t212:=Tryz.underlying325
 a212:=Tryz.isAgg325
 z212:=Tryz.sizeOf325
 v212:=Tryz.zeroValue325
 t213:=Tryz.underlying326
 a213:=Tryz.isAgg326
 z213:=Tryz.sizeOf326
 t232:=Tryz.underlying345
 a232:=Tryz.isAgg345
 z232:=Tryz.sizeOf345
 v232:=Tryz.zeroValue345
 t233:=Tryz.underlying346
 a233:=Tryz.isAgg346
 z233:=Tryz.sizeOf346
 v233:=Tryz.zeroValue346
 g15:=by kernel_rfl
 g16:=by kernel_rfl
 g17:=by kernel_rfl
 g18:=by kernel_rfl
 g19:=by kernel_rfl
 t80:=Tryz.underlying67
 a80:=Tryz.isAgg67
 z80:=Tryz.sizeOf67
 v80:=Tryz.zeroValue67
 i0:=by kernel_rfl
 i2:=by kernel_rfl
 i3:=by kernel_rfl
 i4:=by kernel_rfl
 i5:=by kernel_rfl
 i9:=by kernel_rfl
 i20:=by kernel_rfl
 i21:=by kernel_rfl
 i37:=by kernel_rfl
 i46:=by kernel_rfl
 i51:=by kernel_rfl
 i53:=by kernel_rfl
 i75:=by kernel_rfl
 i80:=by kernel_rfl
 i85:=by kernel_rfl
 i127:=by kernel_rfl
 i143:=by kernel_rfl
 i145:=by kernel_rfl
 i167:=by kernel_rfl
 i168:=by kernel_rfl
 i171:=by kernel_rfl
 i173:=by kernel_rfl
 i175:=by kernel_rfl
 i210:=by kernel_rfl
 i212:=by kernel_rfl
 i232:=by kernel_rfl
 i233:=by kernel_rfl
 m15:=by kernel_rfl
 m16:=by kernel_rfl
 m17:=by kernel_rfl
 m18:=by kernel_rfl
 m19:=by kernel_rfl
 c0:=by kernel_rfl
 c2:=by kernel_rfl
 c3:=by kernel_rfl
 c4:=by kernel_rfl
 c5:=by kernel_rfl
 c9:=by kernel_rfl
 c20:=by kernel_rfl
 c21:=by kernel_rfl
 c37:=by kernel_rfl
 c46:=by kernel_rfl
 c51:=by kernel_rfl
 c53:=by kernel_rfl
 c75:=by kernel_rfl
 c80:=by kernel_rfl
 c85:=by kernel_rfl
 c127:=by kernel_rfl
 c143:=by kernel_rfl
 c145:=by kernel_rfl
 c167:=by kernel_rfl
 c168:=by kernel_rfl
 c171:=by kernel_rfl
 c173:=by kernel_rfl
 c175:=by kernel_rfl
 c210:=by kernel_rfl
 c212:=by kernel_rfl
 c213:=by kernel_rfl
 c232:=by kernel_rfl
 c233:=by kernel_rfl }
open Go.RowKit in
theorem Tryz.strconv_ParseInt_10_at64_ok(s:ByteArray)(hmax:s.size<=9223372036854775806)(v:Int)(h:Lib.parseIntB 64 s.data.toList=.ok v)(w:World):
  Calls Tryz.prog 328 #[.string s,.int .i64 10,.int .i64 64] w fun e w'=>e=.returned (.tuple #[.int .i64 v,.nilIface])/\(w'=w\/∃ t,w'=Lib.bytesWorld w 5 t):=Any.strconv_ParseInt_10_at64_ok Tryz.laysC174 s hmax v h w
end Go.Proofs
set_option maxHeartbeats 4000000
set_option maxRecDepth 100000
set_option linter.unusedSimpArgs false
namespace Go.Proofs.YtkkjpohaffjecaaGreatDoor
open Go.Eng (IC IOper DReg IFn G8 B6)
open Go.Sym Go.Pb Go.RowKit
theorem arg1{ρ : Ren}{x:DV}{u:Value}{vs:Array Value}(hA:A8 ρ [x] vs)(h:∀ y,VRel ρ x y->y=u):vs = #[u]:=by
 obtain⟨y,h1,h2⟩:=hA.get (i:=0) rfl;have hs:vs.size=1:=hA.1.symm;obtain rfl:=h y h2;cases vs with|mk l=>match l,hs,h1 with
  |[a],_,h1=>simp at h1;subst h1;rfl
theorem B8s{ρ : Ren}{x x2:DV}{u u2:Value}{vs:Array Value}(hA:A8 ρ [x,x2] vs)(h:∀ y,VRel ρ x y->y=u)(h2:∀ y,VRel ρ x2 y->y=u2):vs = #[u,u2]:=by
 obtain⟨y,g1,g2⟩:=hA.get (i:=0) rfl;obtain⟨z,g3,g4⟩:=hA.get (i:=1) rfl;obtain rfl:=h y g2;obtain rfl:=h2 z g4;have hs:vs.size=2:=hA.1.symm;cases vs with|mk r=>match r,hs,g1,g3 with
  |[a,b],_,h1,h3=>simp at h1 h3;subst h1 h3;rfl
theorem B8r{ρ : Ren}{x x2 x3:DV}{u u2 u3:Value}{vs:Array Value}(hA:A8 ρ [x,x2,x3] vs)(h:∀ y,VRel ρ x y->y=u)(h2:∀ y,VRel ρ x2 y->y=u2)(h3:∀ y,VRel ρ x3 y->y=u3):vs = #[u,u2,u3]:=by
 obtain⟨y,g1,g2⟩:=hA.get (i:=0) rfl;obtain⟨z,g3,g4⟩:=hA.get (i:=1) rfl;obtain⟨q,g5,g6⟩:=hA.get (i:=2) rfl;obtain rfl:=h y g2;obtain rfl:=h2 z g4;obtain rfl:=h3 q g6;have hs:vs.size=3:=hA.1.symm;cases vs with|mk r=>match r,hs,g1,g3,g5 with
  |[a,b,c],_,h1,h3,h5=>simp at h1 h3 h5;subst h1 h3 h5;rfl
theorem c_IndexByte(s:List UInt8)(c:UInt8):PC Tryz.prog 329 [.str s,.int .u8 c.toNat] (I64 (Lib.indexByte s c)):=by
 refine PC.of_calls (by kernel_rfl) rfl rfl fun ρ w vs hf hA=>?_;rw[B8s hA (fun y h=>h.str_inv) (fun y h=>h.int_inv)];refine (Tryz.strings_IndexByte _ _ w).mono ?_;rintro e w' ⟨rfl,rfl⟩;refine⟨_,rfl,fun ρ'=>?_,Below.refl _ _⟩;have:((c.toNat:Int).toNat.toUInt8)=c:=by rw[A1I];exact UInt8.ofNat_toNat
 rw[this];exact .int _ _
theorem c_ParseOk(s:List UInt8)(hs:s.length<=281474976710656)(h:∀ c∈s,dgB c=true)(h0:s≠[])(hv:A0x s<=9223372036854775807):PC Tryz.prog 328 [.str s,I64 10,I64 64] (.tup [I64 (A0x s),.inil]):=by
 refine PC.of_calls (by kernel_rfl) rfl rfl fun ρ w vs hf hA=>?_;rw[B8r hA (fun y h=>h.str_inv) (fun y h=>h.int_inv) (fun y h=>h.int_inv)];refine (Tryz.strconv_ParseInt_10_at64_ok _ (by show s.toArray.size<=_;rw[A2I];omega) (A0x s:Int) (by have:=pib h h0;rw[if_pos hv]at this;exact this) w).mono ?_;rintro e w' ⟨rfl,hw⟩;refine⟨_,rfl,fun ρ'=>.tup _ _ rfl (fun i x y hx hy=>?_),?_⟩
 ·match i with
  |0=>simp at hx hy;subst hx hy;exact .int _ _
  |1=>simp at hx hy;subst hx hy;exact .inil
  |_+2=>simp at hx
 ·rcases hw with rfl|⟨t,rfl⟩
  ·exact Below.refl _ _
  ·exact⟨rfl,rfl,rfl,by rw[Lib.bytesWorld_size];omega,fun j hj=>Lib.bytesWorld_at_old _ _ _ _ hj⟩
def A5g:List UInt8:=w8 [115,119,105,116,99,104,32,99,111,105,108,32,108,97,109,112,32,115,111,117,110,100,32,115,104,111,119,32,118,97,114,32,116,105,109,101,114,32,101,118,101,110,116,32,109,111,100,101,32,111,110,32,115,116,97,114,116,32,115,116,111,112,32,99,108,111,115,101,32,111,112,101,110,32,105,102,32,101,108,115,101,32,114,101,112,101,97,116,32,115,99,111,114,101,32,102,105,114,101,32,104,111,108,100,32,114,101,108,101,97,115,101,32,108,105,103,104,116,32,98,108,105,110,107,32,98,101,103,105,110,32,101,110,100,32,112,111,115,116,32,112,108,97,121,32,114,117,110,32,104,97,108,116,32,116,101,120,116,32,99,111,110,115,117,109,101,32,99,108,111,115,101,100,32,97,99,116,105,118,101,32,108,101,102,116,32,112,108,97,121,101,114,32,98,97,108,108,32,116,114,117,101,32,102,97,108,115,101]
theorem A9i:Lib.fields A5g=Y7:=by kernel_rfl
theorem A9j:A5g.all (fun b=>decide (b.toNat<128))=true:=by kernel_rfl
theorem c_Fields:PC Tryz.prog 282 [.str A5g] (.lst (Y7.map DV.str)):=by
 refine PC.of_callsF (by kernel_rfl) rfl (H6 _) fun ρ w vs hf hA=>?_;rw[arg1 hA (fun y h=>h.str_inv)];obtain⟨r,hr,rfl⟩ := ρ.tab _ (A0A _ A0D);obtain⟨e,fr,hb⟩:=hf _ _ hr;have ht : Lib.TabIs Tryz.prog w "strings.asciiSpace" .u8 Lib.asciiSpaceTab := by
  unfold Lib.TabIs World.var?;rw [show Tryz.prog.globalNamed "strings.asciiSpace" = some 1 by kernel_rfl]
  show (match w.heap[1]? with|some (.cells cs _ _)=>some cs|_=>none)=_;have hb':w.heap[1]? = _:=hb;rw[hb']
 refine (Tryz.strings_Fields _ w (by decide) ?_ ht).mono ?_
 ·intro j b hj;have:=A0H.1 A9j b (A0K hj);simpa using this
 ·rintro e w' ⟨rfl,rfl⟩;have hl:Lib.fields (⟨A5g.toArray⟩:ByteArray).data.toList=Y7:=A9i;rw[hl];refine⟨_,w.heap.size,_,9,_,rfl,A0C _,(by show (w.heap.push _)[w.heap.size]? = _;rw[Array.getElem?_push_size]),fun ρ' hρ => VRel.strs hρ rfl (A0C _) (by decide),Below.alloc (Below.refl _ _) (A0C _) _⟩
end Go.Proofs.YtkkjpohaffjecaaGreatDoor
set_option maxHeartbeats 8000000
namespace Go.Proofs.YtkkjpohaffjecaaGreatDoor
open Go.Sym Go.Pb
def A3d(f:Nat)(a:List DV):Option DV :=
 if f == 282 then match a with
  |[.str s]=>if s == A5g then some (.lst (Y7.map DV.str)) else none
  |_=>none
 else if f == 329 then match a with
  |[.str s,.int .u8 z]=>if ((UInt8.ofNat z.toNat).toNat:Int) == z then some (I64 (Lib.indexByte s (UInt8.ofNat z.toNat))) else none
  |_=>none
 else if f == 328 then match a with
  |[.str s,.int .i64 x,.int .i64 y]=>if x == 10 && y == 64 && s != [] && Nat.ble s.length 100 && s.all dgB && Nat.ble (A0x s) 9223372036854775807 then some (.tup [I64 (A0x s),.inil]) else none
  |_=>none
 else none
theorem D9:A1z Tryz.prog A3d:=by
 intro f a r h;unfold A3d at h;split at h
 ·rename_i e;obtain rfl:=eq_of_beq e;split at h
  ·split at h
   ·rename_i e;obtain rfl:=eq_of_beq e;cases h;exact c_Fields
   ·cases h
  ·cases h
 ·split at h
  ·rename_i e;obtain rfl:=eq_of_beq e;split at h
   ·split at h
    ·rename_i s z e;cases h;have:=c_IndexByte s (UInt8.ofNat z.toNat)
     rwa [eq_of_beq e]at this
    ·cases h
   ·cases h
  ·split at h
   ·rename_i e;obtain rfl:=eq_of_beq e;split at h
    ·split at h
     ·rename_i s x y e;simp only[A0B,A2E,bne_iff_ne,ne_eq,A0H]at e;obtain⟨⟨⟨⟨⟨e1,e2⟩,e3⟩,e4⟩,e5⟩,e6⟩:=e;cases h;subst e1 e2;exact c_ParseOk s (A2H (A0E e4) (by decide)) e5 e3 (A0E e6)
     ·cases h
    ·cases h
   ·cases h
def B3n:List UInt8:=[109,111,100,101,32,109,32,49,32,123,32,111,110,32,115,116,97,114,116,32,123,32,115,99,111,114,101,32,55,32,47,32,50,59,32,115,99,111,114,101,32,45,55,32,37,32,50,59,32,125,32,111,110,32,115,116,111,112,32,123,32,114,101,112,101,97,116,32,49,48,48,48,32,123,32,125,32,125,32,125]
abbrev eN(k v:Int)(a:DV)(p:Int):DV:=.agg [I64 k,I64 v,.str [],a,I64 p]
abbrev sN(k:Int)(a:DV)(p:Int):DV:=.agg [I64 k,.str [],.str [],a,.snil,.snil,I64 p]
def r4(m:Int):DV:=.agg [.snil,.lst [.agg [.str [109],I64 1,.lst [
 .agg [I64 1,.str [],.lst [sN 4 (.lst [eN 13 0 (.lst [eN 1 7 .snil (28 * m),eN 1 2 .snil (32 * m)]) (30 * m)]) (22 * m),sN 4 (.lst [eN 14 0 (.lst [eN 10 0 (.lst [eN 1 7 .snil (42 * m)]) (41 * m),eN 1 2 .snil (46 * m)]) (44 * m)]) (35 * m)],I64 (11 * m)],
 .agg [I64 2,.str [],.lst [sN 3 (.lst [eN 1 1000 .snil (68 * m)]) (61 * m)],I64 (51 * m)]],I64 0]]]
abbrev tW(s:List UInt8):DV:=.agg [I64 2,.str s,I64 0,I64 0]
abbrev tS(c:UInt8):DV:=.agg [I64 5,.str [c],I64 0,I64 0]
abbrev tN(n:Int):DV:=.agg [I64 3,.str [],I64 n,I64 0]
def t4:DV:=.lst [tW [109,111,100,101],.agg [I64 1,.str [109],I64 0,I64 0],tN 1,tS 123,tW [111,110],tW [115,116,97,114,116],tS 123,tW [115,99,111,114,101],tN 7,tS 47,tN 2,tS 59,tW [115,99,111,114,101],tS 45,tN 7,tS 37,tN 2,tS 59,tS 125,tW [111,110],tW [115,116,111,112],tS 123,tW [114,101,112,101,97,116],tN 1000,tS 123,tS 125,tS 125,tS 125]
theorem kn1{O:Nat->List DV->Option DV}(hO:A1z Tryz.prog O){f:Nat}{a:List DV}{r:DV}(h:PC Tryz.prog f a r):A1z Tryz.prog (J6 [(f,a,r)] O):=A1d hO _ fun x hx=>by
 simp only[A0N,A2A,or_false]at hx;subst hx;exact h
theorem p4a:PC Tryz.prog 23 [.str B3n] (.tup [r4 1,I64 0,I64 0]):=PC.runTF A1 A3d D9 3000 60 15 [3774,5585,5858,6265,8076,8101,10267,10338,10386,10433] _ _ _ rfl rfl (by kernel_rfl)
theorem p4t:PC Tryz.prog 70 [r4 1] t4:=PC.runTF A1 A3d D9 3000 60 15 [304] _ _ _ rfl rfl (by kernel_rfl)
theorem p4p:PC Tryz.prog 36 [r4 1] (r4 0):=PC.runTF A1 A3d D9 3000 60 15 [57,59,84,89,91,93,130,132,133,135] _ _ _ rfl rfl (by kernel_rfl)
theorem p4b:PC Tryz.prog 27 [r4 1] (.bool true):=PC.runT A1 _ (kn1 (kn1 D9 p4t) p4p) 3000 60 15 _ _ _ rfl rfl (by kernel_rfl)
theorem p4c:PC Tryz.prog 155 [r4 1] (.tup [I64 0,I64 0]):=PC.runT A1 _ (kn1 D9 p4b) 3000 60 15 _ _ _ rfl rfl (by kernel_rfl)
theorem p4d:PC Tryz.prog 156 [r4 1,I64 7] (I64 0):=PC.runT A1 _ (kn1 D9 p4b) 3000 60 15 _ _ _ rfl rfl (by kernel_rfl)
theorem p4e:PC Tryz.prog 156 [r4 1,I64 8] (I64 0):=PC.runT A1 _ (kn1 D9 p4b) 3000 60 15 _ _ _ rfl rfl (by kernel_rfl)
def prS:Prg:=⟨[⟨1,7⟩,⟨1,2⟩,⟨11,13⟩,⟨15,0⟩,⟨1,7⟩,⟨9,0⟩,⟨1,2⟩,⟨11,14⟩,⟨15,0⟩,⟨31,0⟩,⟨1,1000⟩,⟨14,13⟩,⟨12,11⟩,⟨31,0⟩],[],[⟨0,1,0,0⟩,⟨0,2,0,10⟩],[1],[],0,0⟩
theorem p4f:PC Tryz.prog 81 [r4 1] (.tup [prS.v,I64 0,I64 0]):=PC.runTF A1 _ (kn1 (kn1 (kn1 D9 p4c) p4d) p4e) 3000 60 15 [79,81,22] _ _ _ rfl rfl (by kernel_rfl)
theorem p4g:PC Tryz.prog 33 [.str B3n] (.tup [prS.v,I64 0,I64 0]):=PC.runT A1 _ (kn1 (kn1 D9 p4a) p4f) 3000 60 15 _ _ _ rfl rfl (by kernel_rfl)
def B1q:DV:=.agg [.snil,.snil,.int .u64 0,.int .u32 0,I64 0,I64 0]
theorem p4v:PC Tryz.prog 113 [prS.v,B1q] (.bool true):=PC.runT A1 A3d D9 3000 60 15 _ _ _ rfl rfl (by kernel_rfl)
theorem p4h:PC Tryz.prog 18 [prS.v,I64 0,B1q,I64 100] (.tup [.snil,.lst [.agg [I64 15,I64 0,I64 3,I64 0,.str []],.agg [I64 15,I64 0,I64 (-1),I64 0,.str []]],I64 10,I64 0]):=PC.runTF A1 _ (kn1 D9 p4v) 3000 60 15 [397] _ _ _ rfl rfl (by kernel_rfl)
theorem p4i:PC Tryz.prog 18 [prS.v,I64 10,B1q,I64 1000] (.tup [.snil,.snil,I64 0,I64 52]):=PC.runT A1 _ (kn1 D9 p4v) 3000 60 15 _ _ _ rfl rfl (by kernel_rfl)
theorem c_sane35:PC Tryz.prog 22 [] (.bool true):=PC.runT A1 _ (kn1 (kn1 (kn1 D9 p4g) p4h) p4i) 3000 60 15 _ _ _ rfl rfl (by kernel_rfl)
end Go.Proofs.YtkkjpohaffjecaaGreatDoor
set_option maxHeartbeats 4000000
namespace Go.Proofs.YtkkjpohaffjecaaGreatDoor
open Go.Eng (IC IOper DReg IFn G8)
open Go.Sym
abbrev x300:XT Tryz.prog 300:=mkF
instance t300:FT Tryz.prog 300 x300.d:=x300.ft
abbrev x246:XT Tryz.prog 246:=mkF
instance t246:FT Tryz.prog 246 x246.d:=x246.ft
abbrev x303:XT Tryz.prog 303:=mkF
instance t303:FT Tryz.prog 303 x303.d:=x303.ft
abbrev x307:XT Tryz.prog 307:=mkF
instance t307:FT Tryz.prog 307 x307.d:=x307.ft
abbrev x309:XT Tryz.prog 309:=mkF
instance t309:FT Tryz.prog 309 x309.d:=x309.ft
abbrev x308:XT Tryz.prog 308:=mkF
instance t308:FT Tryz.prog 308 x308.d:=x308.ft
abbrev x312:XT Tryz.prog 312:=mkF
instance t312:FT Tryz.prog 312 x312.d:=x312.ft
abbrev x247:XT Tryz.prog 247:=mkF
instance t247:FT Tryz.prog 247 x247.d:=x247.ft
abbrev x302:XT Tryz.prog 302:=mkF
instance t302:FT Tryz.prog 302 x302.d:=x302.ft
abbrev x304:XT Tryz.prog 304:=mkF
instance t304:FT Tryz.prog 304 x304.d:=x304.ft
abbrev x305:XT Tryz.prog 305:=mkF
instance t305:FT Tryz.prog 305 x305.d:=x305.ft
abbrev x306:XT Tryz.prog 306:=mkF
instance t306:FT Tryz.prog 306 x306.d:=x306.ft
abbrev x248:XT Tryz.prog 248:=mkF
instance t248:FT Tryz.prog 248 x248.d:=x248.ft
abbrev x310:XT Tryz.prog 310:=mkF
instance t310:FT Tryz.prog 310 x310.d:=x310.ft
abbrev x249:XT Tryz.prog 249:=mkF
instance t249:FT Tryz.prog 249 x249.d:=x249.ft
abbrev x250:XT Tryz.prog 250:=mkF
instance t250:FT Tryz.prog 250 x250.d:=x250.ft
abbrev x311:XT Tryz.prog 311:=mkF
instance t311:FT Tryz.prog 311 x311.d:=x311.ft
abbrev x169:XT Tryz.prog 169:=mkF
instance t169:FT Tryz.prog 169 x169.d:=x169.ft
abbrev x90:XT Tryz.prog 90:=mkF
instance t90:FT Tryz.prog 90 x90.d:=x90.ft
abbrev x333:XT Tryz.prog 333:=mkF
instance t333:FT Tryz.prog 333 x333.d:=x333.ft
abbrev x261:XT Tryz.prog 261:=mkF
instance t261:FT Tryz.prog 261 x261.d:=x261.ft
abbrev x183:XT Tryz.prog 183:=mkF
instance t183:FT Tryz.prog 183 x183.d:=x183.ft
abbrev x301:XT Tryz.prog 301:=mkF
instance t301:FT Tryz.prog 301 x301.d:=x301.ft
abbrev x182:XT Tryz.prog 182:=mkF
instance t182:FT Tryz.prog 182 x182.d:=x182.ft
abbrev x114:XT Tryz.prog 114:=mkF
instance t114:FT Tryz.prog 114 x114.d:=x114.ft
open Go.Sym Go.Pb
theorem c_within(n lo hi:Int):PC Tryz.prog 300 [I64 n,I64 lo,I64 hi] (.bool (inM n lo hi)):=by
 refine PC.go A1 ?_;repeat' ((with_reducible first|refine wr ?_|refine wb2 ?_ ?_<;>(intro hb;try simp only[hb])|fail)<;>try simp only[go_sem,seval])
 all_goals (refine A4 ?_;simp_all[inM]<;>omega)
theorem c_bless(a b:Ent):PC Tryz.prog 249 [a.v,b.v] (.bool (A1b a b)):=by
 refine PC.go A1 ?_;repeat' ((with_reducible first|refine wr ?_|refine wb2 ?_ ?_<;>(intro hb;try simp only[hb])|fail)<;>try simp only[go_sem,seval])
 all_goals (refine A4 ?_;simp_all[A1b])
theorem c_bIsText(s:List UInt8)(hs:s.length<=140737488355328):PC Tryz.prog 303 [.str s] (.bool (K2 s)):=by
 refine PC.go A1 ?_;repeat' (apply wr<;>try simp only[go_sem,seval])
 refine G5 (fun k:Nat=>[(0,.str s),(3,I64 k)]) (fun _=>nil) (fun k _=>k<=s.length/\(s.take k).all K3=true) (fun k=>s.length-k) 0 (by simp[G0,tm,Tm.upd]) (Sub.nil _) (by simp) ?_;rintro k c ⟨hk,he⟩;by_cases hlt:k<s.length
 ·have hd:=dtz hlt;have hg:=A0F hlt;have hw:=w64 (n:=(k:Int)+1);repeat' ((with_reducible first|refine wr ?_|refine wb2 ?_ ?_<;>(intro hb;try simp only[hb])|fail)<;>try simp only[go_sem,seval,hd,hg,hw])
  ·refine A4 ?_;rw[K2,V8 K3 s k _ hg (by simp_all[K3];omega)];rfl
  ·refine A4 ?_;rw[K2,V8 K3 s k _ hg (by simp_all[K3];omega)];rfl
  ·exact⟨k+1,rfl,Sub.refl _,inv ⟨by omega,by rw[A1w K3 s k _ hg he];simp_all[K3];omega⟩,by omega⟩
 ·have hd:=dfz hlt;repeat' (apply wr<;>try simp only[go_sem,seval,hd])
  refine A4 ?_;rw[K2,A1x K3 s k (by omega) he,Bool.true_and];simp;omega
theorem c_goodEntry(c:Prg)(hl:Lim c)(e:Ent):PC Tryz.prog 307 [c.v,e.v] (.bool (N9 c e)):=by
 obtain⟨wp,wv,ws,wi,wt,we, -, -, -, -, -⟩:=hl;refine PC.go A1 ?_;repeat' ((with_reducible first|refine wr ?_|refine cpc (c_within _ _ _) ?_|refine wb2 ?_ ?_<;>(intro hb;try simp only[hb])|fail)<;>try simp only[go_sem,seval,wp,wt,we])
 all_goals (refine A4 ?_;simp_all[N9]<;>rfl)
theorem c_isJ(op:Int):PC Tryz.prog 309 [I64 op] (.bool (isJ op)):=by
 refine PC.go A1 ?_;repeat' ((with_reducible first|refine wr ?_|refine wb2 ?_ ?_<;>(intro hb;try simp only[hb])|fail)<;>try simp only[go_sem,seval])
 all_goals (refine A4 ?_;simp_all[isJ]<;>rfl)
theorem c_stack(op:Int):PC Tryz.prog 312 [I64 op] (.tup [I64 (A2 op).1,I64 (A2 op).2.1]):=by
 refine PC.go A1 ?_;repeat' ((with_reducible first|refine wr ?_|refine wb2 ?_ ?_<;>(intro hb;try simp only[hb])|fail)<;>try simp only[go_sem,seval])
 all_goals first
  |(simp only[A2E]at hb;subst hb;exact A4 rfl)
  |(simp only[beq_eq_false_iff_ne,ne_eq]at *;refine A4 ?_;rw[(B5b ‹_› ‹_› ‹_› ‹_› ‹_› ‹_› ‹_› ‹_› ‹_› ‹_› ‹_› ‹_› ‹_› ‹_› ‹_› ‹_› ‹_› ‹_›).1,(B5b ‹_› ‹_› ‹_› ‹_› ‹_› ‹_› ‹_› ‹_› ‹_› ‹_› ‹_› ‹_› ‹_› ‹_› ‹_› ‹_› ‹_› ‹_›).2])
theorem c_bSpan(c:Prg)(hl:Lim c)(op:Int):PC Tryz.prog 308 [c.v,I64 op] (.tup [I64 (B0 c op).1,I64 (B0 c op).2]):=by
 obtain⟨wp,wv,ws,wi,wt,we, -, -, -, -, -⟩:=hl;refine PC.go A1 ?_;repeat' ((with_reducible first|refine wr ?_|refine wb2 ?_ ?_<;>(intro hb;try simp only[hb])|fail)<;>try simp only[go_sem,seval,wp,wv,ws,wt,we])
 all_goals first
  |(simp only[A2E]at hb;subst hb;refine A4 ?_;simp[B0];done)
  |(refine A4 ?_;simp_all[B0])
theorem c_IF_str{g:(List UInt8)->Bool}{f:Nat}{a cs:List DV}(xs:List (List UInt8))(hx:xs.length<=9223372036854775807)(na:DV.nlL a=true)(ncs:DV.nlL cs=true)(hf:∀ x∈xs,PC Tryz.prog f (a++[DV.str x]++cs) (.bool (g x))):
  PC Tryz.prog 333 [.lst (xs.map DV.str),.func f a cs] (I64 (L5 g xs 0)):=by
 refine PC.ofT A1 rfl (A0E rfl) (by simp[DV.nlL,DV.nl,H6,na,ncs]) rfl ?_;repeat' (apply wr<;>try simp only[go_sem,seval])
 refine G5 (fun k:Nat=>[(0,.lst (xs.map DV.str)),(1,.func f a cs),(7,I64 xs.length),(8,I64 k)]) (fun _=>nil) (fun k _=>k<=xs.length/\L5 g xs 0=L5 g (xs.drop k) k) (fun k=>xs.length-k) 0 (by simp[G0,tm,Tm.upd]) (Sub.nil _) (by simp) ?_;rintro k c ⟨hk,he⟩;by_cases hlt:k<xs.length
 ·have hd:=dtz hlt;have hg:=A0F hlt;have hw:=w64 (n:=(k:Int)+1);have hst:=Q7 (g:=g) hg;have hc:=hf xs[k] (A0U hlt);repeat' ((with_reducible first|refine wr ?_|refine cpc hc ?_|refine wb2 ?_ ?_<;>(intro hb;try simp only[hb])|fail)<;>try simp only[go_sem,seval,hd,hg,hw])
  ·refine A4 ?_;rw[he,hst,hb];rfl
  ·exact⟨k+1,rfl,Sub.refl _,inv ⟨by omega,by rw[he,hst,hb];rfl⟩,by omega⟩
 ·have hd:=dfz hlt;repeat' (apply wr<;>try simp only[go_sem,seval,hd])
  refine A4 ?_;rw[he,U5 (by omega)]
theorem c_CF_str{g:(List UInt8)->Bool}{f:Nat}{a cs:List DV}(xs:List (List UInt8))(hx:xs.length<=9223372036854775807)(na:DV.nlL a=true)(ncs:DV.nlL cs=true)(hf:∀ x∈xs,PC Tryz.prog f (a++[DV.str x]++cs) (.bool (g x))):
  PC Tryz.prog 301 [.lst (xs.map DV.str),.func f a cs] (.bool (xs.any g)):=by
 refine PC.ofT A1 rfl (A0E rfl) (by simp[DV.nlL,DV.nl,H6,na,ncs]) rfl ?_;have hc:=c_IF_str xs hx na ncs hf;repeat' ((with_reducible first|apply wr|refine cpc hc ?_|fail)<;>try simp only[go_sem,seval])
 refine A4 ?_;rw[U6]
theorem c_IF_int{g:Int->Bool}{f:Nat}{a cs:List DV}(xs:List Int)(hx:xs.length<=9223372036854775807)(na:DV.nlL a=true)(ncs:DV.nlL cs=true)(hf:∀ x∈xs,PC Tryz.prog f (a++[I64 x]++cs) (.bool (g x))):
  PC Tryz.prog 261 [.lst (xs.map I64),.func f a cs] (I64 (L5 g xs 0)):=by
 refine PC.ofT A1 rfl (A0E rfl) (by simp[DV.nlL,DV.nl,G2,na,ncs]) rfl ?_;repeat' (apply wr<;>try simp only[go_sem,seval])
 refine G5 (fun k:Nat=>[(0,.lst (xs.map I64)),(1,.func f a cs),(7,I64 xs.length),(8,I64 k)]) (fun _=>nil) (fun k _=>k<=xs.length/\L5 g xs 0=L5 g (xs.drop k) k) (fun k=>xs.length-k) 0 (by simp[G0,tm,Tm.upd]) (Sub.nil _) (by simp) ?_;rintro k c ⟨hk,he⟩;by_cases hlt:k<xs.length
 ·have hd:=dtz hlt;have hg:=A0F hlt;have hw:=w64 (n:=(k:Int)+1);have hst:=Q7 (g:=g) hg;have hc:=hf xs[k] (A0U hlt);repeat' ((with_reducible first|refine wr ?_|refine cpc hc ?_|refine wb2 ?_ ?_<;>(intro hb;try simp only[hb])|fail)<;>try simp only[go_sem,seval,hd,hg,hw])
  ·refine A4 ?_;rw[he,hst,hb];rfl
  ·exact⟨k+1,rfl,Sub.refl _,inv ⟨by omega,by rw[he,hst,hb];rfl⟩,by omega⟩
 ·have hd:=dfz hlt;repeat' (apply wr<;>try simp only[go_sem,seval,hd])
  refine A4 ?_;rw[he,U5 (by omega)]
theorem c_CF_int{g:Int->Bool}{f:Nat}{a cs:List DV}(xs:List Int)(hx:xs.length<=9223372036854775807)(na:DV.nlL a=true)(ncs:DV.nlL cs=true)(hf:∀ x∈xs,PC Tryz.prog f (a++[I64 x]++cs) (.bool (g x))):
  PC Tryz.prog 182 [.lst (xs.map I64),.func f a cs] (.bool (xs.any g)):=by
 refine PC.ofT A1 rfl (A0E rfl) (by simp[DV.nlL,DV.nl,G2,na,ncs]) rfl ?_;have hc:=c_IF_int xs hx na ncs hf;repeat' ((with_reducible first|apply wr|refine cpc hc ?_|fail)<;>try simp only[go_sem,seval])
 refine A4 ?_;rw[U6]
theorem c_IF_ent{g:Ent->Bool}{f:Nat}{a cs:List DV}(xs:List Ent)(hx:xs.length<=9223372036854775807)(na:DV.nlL a=true)(ncs:DV.nlL cs=true)(hf:∀ x∈xs,PC Tryz.prog f (a++[Ent.v x]++cs) (.bool (g x))):
  PC Tryz.prog 183 [.lst (xs.map Ent.v),.func f a cs] (I64 (L5 g xs 0)):=by
 refine PC.ofT A1 rfl (A0E rfl) (by simp[DV.nlL,DV.nl,E4,na,ncs]) rfl ?_;repeat' (apply wr<;>try simp only[go_sem,seval])
 refine G5 (fun k:Nat=>[(0,.lst (xs.map Ent.v)),(1,.func f a cs),(7,I64 xs.length),(8,I64 k)]) (fun _=>nil) (fun k _=>k<=xs.length/\L5 g xs 0=L5 g (xs.drop k) k) (fun k=>xs.length-k) 0 (by simp[G0,tm,Tm.upd]) (Sub.nil _) (by simp) ?_;rintro k c ⟨hk,he⟩;by_cases hlt:k<xs.length
 ·have hd:=dtz hlt;have hg:=A0F hlt;have hw:=w64 (n:=(k:Int)+1);have hst:=Q7 (g:=g) hg;have hc:=hf xs[k] (A0U hlt);repeat' ((with_reducible first|refine wr ?_|refine cpc hc ?_|refine wb2 ?_ ?_<;>(intro hb;try simp only[hb])|fail)<;>try simp only[go_sem,seval,hd,hg,hw])
  ·refine A4 ?_;rw[he,hst,hb];rfl
  ·exact⟨k+1,rfl,Sub.refl _,inv ⟨by omega,by rw[he,hst,hb];rfl⟩,by omega⟩
 ·have hd:=dfz hlt;repeat' (apply wr<;>try simp only[go_sem,seval,hd])
  refine A4 ?_;rw[he,U5 (by omega)]
theorem c_CF_ent{g:Ent->Bool}{f:Nat}{a cs:List DV}(xs:List Ent)(hx:xs.length<=9223372036854775807)(na:DV.nlL a=true)(ncs:DV.nlL cs=true)(hf:∀ x∈xs,PC Tryz.prog f (a++[Ent.v x]++cs) (.bool (g x))):
  PC Tryz.prog 114 [.lst (xs.map Ent.v),.func f a cs] (.bool (xs.any g)):=by
 refine PC.ofT A1 rfl (A0E rfl) (by simp[DV.nlL,DV.nl,E4,na,ncs]) rfl ?_;have hc:=c_IF_ent xs hx na ncs hf;repeat' ((with_reducible first|apply wr|refine cpc hc ?_|fail)<;>try simp only[go_sem,seval])
 refine A4 ?_;rw[U6]
theorem c_limits(c:Prg):PC Tryz.prog 246 [c.v] (.bool (D7 c)):=by
 refine PC.go A1 ?_;repeat' ((with_reducible first|refine wr ?_|refine cpc (c_within _ _ _) ?_|refine wb2 ?_ ?_<;>(intro hb;try simp only[hb])|fail)<;>try simp only[go_sem,seval])
 all_goals (refine A4 ?_;simp_all[D7]<;>omega)
theorem c_p1(s:List UInt8)(hs:s.length<=140737488355328):PC Tryz.prog 302 [.str s] (.bool (!K2 s)):=by
 refine PC.go A1 ?_;repeat' ((with_reducible first|refine wr ?_|refine cpc (c_bIsText s hs) ?_|fail)<;>try simp only[go_sem,seval])
 exact A4 rfl
theorem c_p2(n:Int):PC Tryz.prog 304 [I64 n] (.bool (!inM n 0 99)):=by
 refine PC.go A1 ?_;repeat' ((with_reducible first|refine wr ?_|refine cpc (c_within _ _ _) ?_|fail)<;>try simp only[go_sem,seval])
 exact A4 rfl
theorem c_p3(n:Int):PC Tryz.prog 305 [I64 n] (.bool (!inM n (-2147483647) 2147483647)):=by
 refine PC.go A1 ?_;repeat' ((with_reducible first|refine wr ?_|refine cpc (c_within _ _ _) ?_|fail)<;>try simp only[go_sem,seval])
 exact A4 rfl
theorem c_p4(c:Prg)(hl:Lim c)(e:Ent):PC Tryz.prog 306 [e.v,.fptr c.cs] (.bool (!N9 c e)):=by
 refine PC.go A1 ?_;repeat' ((with_reducible first|refine wr ?_|refine cpc (c_goodEntry c hl e) ?_|fail)<;>try simp only[go_sem,seval])
 exact A4 rfl
theorem c_t1(c:Prg)(hl:Lim c)(e:Ent):PC Tryz.prog 310 [e.v,.fptr c.cs] (.bool (!A3q c e)):=by
 obtain⟨wp,wv,ws,wi,wt,we,li,ls,le,lp,lv⟩:=hl;refine PC.go A1 ?_;repeat' ((with_reducible first|refine wr ?_|refine cpc (c_within _ _ _) ?_|fail)<;>try simp only[go_sem,seval,wi])
 exact A4 rfl
theorem A9d(c:Prg)(fn:Nat)(l:List DV):GL (nil.upd 0 ⟨0,true,c.cs⟩) [.lst l,.func fn [] [.ptr 0 0]] nil [.lst l,.func fn [] [.fptr c.cs]] :=
 GL.one (b:=⟨0,true,c.cs⟩) rfl rfl (.cons _ _ _ _ (.same _) (.cons _ _ _ _ (.func _ _ _ _ _ .nil (.cons _ _ _ _ (.ptr 0 c.cs (A2V _) rfl) .nil)) .nil))
theorem c_targets(c:Prg)(hl:Lim c):PC Tryz.prog 248 [c.v] (.bool (C2 c)):=by
 have hl0:=hl;obtain⟨wp,wv,ws,wi,wt,we,li,ls,le,lp,lv⟩:=hl;have cf:=c_CF_ent (a:=[]) (cs:=[.fptr c.cs]) c.entries (by omega) rfl (by simp[DV.nlL,DV.nl,G2,H6,K4,E4]) (fun e _=>c_t1 c hl0 e);rw[A3w]at cf;refine PC.go A1 ?_;repeat' (apply wr<;>try simp only[go_sem,seval])
 refine G5 (fun k:Nat=>[(1,.ptr 0 0),(6,U4 c.instrs),(7,I64 c.instrs.length),(8,I64 k)]) (fun _=>nil.upd 0 ⟨0,true,c.cs⟩) (fun k cc=>1<=cc/\k<=c.instrs.length/\(c.instrs.take k).all (P0 c)=true) (fun k=>c.instrs.length-k) 0 (by simp[G0,tm,Tm.upd]) (Sub.refl _) (by simp) ?_;rintro k cc ⟨h1c,hk,he⟩;have ne0:=B3k 0 cc (by omega);by_cases hlt:k<c.instrs.length
 ·have hd:=dtz hlt;have hg:=A0F hlt;have hw:=w64 (n:=(k:Int)+1);repeat' ((with_reducible first|refine wr ?_|refine cpc (c_isJ _) ?_|refine cpc (c_within _ _ _) ?_|refine wb2 ?_ ?_<;>(intro hb;try simp only[hb])|fail)<;>try simp only[go_sem,seval,hd,hg,hw,wi,ne0])
  ·refine A4 ?_;have hf:=V8 (P0 c) c.instrs k _ hg (by rw[P0, <- U3];simp_all);simp[C2,hf]
  all_goals exact⟨k+1,rfl,by (intro j b hj;simp only[Hp.upd,Sym.nil]at hj ⊢;(repeat' split at hj)<;>(repeat' split)<;>first|exact hj|(exfalso;omega)|cases hj),inv ⟨by omega,by omega,by rw[A1w (P0 c) _ k _ hg he,P0, <- U3];simp_all⟩,by omega⟩
 ·have hd:=dfz hlt;have hall:=A1x (P0 c) c.instrs k (by omega) he;repeat' ((first|(with_reducible first|refine wr ?_)|(with_reducible refine wb2 ?_ ?_<;>(intro hb;try simp only[hb]))|((with_reducible refine AC.call (PC.lend cf rfl (A9d c _ _)) ?_);rintro _ _ _ ⟨rfl,rfl,rfl⟩ -)|fail)<;>try simp only[go_sem,seval,hd])
  refine A4 ?_;simp[C2,hall]
theorem c_bparts(c:Prg)(hl:Lim c)(hs:∀ s∈c.strings,s.length<=140737488355328):PC Tryz.prog 247 [c.v] (.bool (H4 c)):=by
 have hl0:=hl;obtain⟨wp,wv,ws,wi,wt,we,li,ls,le,lp,lv⟩:=hl;have cf1:=c_CF_str (g:=fun s => !K2 s) (a:=[]) (cs:=[]) c.strings (by omega) rfl rfl (fun s h=>c_p1 s (hs s h));have cf2:=c_CF_int (g:=fun n => !inM n 0 99) (a:=[]) (cs:=[]) c.prios (by omega) rfl rfl (fun n _=>c_p2 n);have cf3:=c_CF_int (g:=fun n => !inM n (-2147483647) 2147483647) (a:=[]) (cs:=[]) c.vars (by omega) rfl rfl (fun n _=>c_p3 n);have cf4:=c_CF_ent (g:=fun e => !N9 c e) (a:=[]) (cs:=[.fptr c.cs]) c.entries (by omega) rfl (by simp[DV.nlL,DV.nl,G2,H6,K4,E4]) (fun e _=>c_p4 c hl0 e);rw[A3w]at cf1 cf2 cf3 cf4;have main:∀ (b:Bool) (cc:Nat),1<=cc->b = !(c.strings.all K2 && c.prios.all (fun n=>inM n 0 99) && c.vars.all (fun n=>inM n (-2147483647) 2147483647) && c.entries.all (N9 c)) ->
   IW Tryz.prog 59 (.loop (pz Tryz.prog 247 (.o (.i (.o .h))))) ⟨tm [(1,.ptr 0 0),(3,.bool b),(28,U4 c.instrs),(29,I64 c.instrs.length),(30,I64 0)],nil.upd 0 ⟨0,true,c.cs⟩,cc⟩ (bk 0 (sq Tryz.prog 59 (pz Tryz.prog 247 (.o (.o (.o (.i .h))))) (rt [.tmp 2] fun v H' x => ∃ H2,GL H' [v] H2 [.bool (H4 c)]))):=by
  intro b cc h1c hbG;refine G5 (fun k:Nat=>[(1,.ptr 0 0),(3,.bool (b || !(c.instrs.take k).all (A5 c))),(28,U4 c.instrs),(29,I64 c.instrs.length),(30,I64 k)]) (fun _=>nil.upd 0 ⟨0,true,c.cs⟩) (fun k cc=>1<=cc/\k<=c.instrs.length) (fun k=>c.instrs.length-k) 0 (by simp[G0,tm,Tm.upd]) (Sub.refl _) (by simp;omega) ?_;rintro k cc ⟨h1c,hk⟩;have ne0:=B3k 0 cc (by omega);by_cases hlt:k<c.instrs.length
  ·have hd:=dtz hlt;have hg:=A0F hlt;have hw:=w64 (n:=(k:Int)+1);have hta:=A5c (A5 c) c.instrs k _ hg;rw[A0w]at hta;clear hbG;generalize hB:(b || !(c.instrs.take k).all (A5 c))=B;repeat' ((with_reducible first|refine wr ?_|refine cpc (c_isJ _) ?_|refine cpc (c_within _ _ _) ?_|refine cpc (c_bSpan c hl0 _) ?_|refine wb2 ?_ ?_<;>(intro hb;try simp only[hb])|fail)<;>try simp only[go_sem,seval,hd,hg,hw,ne0])
   all_goals exact⟨k+1,by rw[hta,A5m,hB];simp_all,by (intro j b hj;simp only[Hp.upd,Sym.nil]at hj ⊢;(repeat' split at hj)<;>(repeat' split)<;>first|exact hj|(exfalso;omega)|cases hj),inv ⟨by omega,hlt⟩,by omega⟩
  ·have hd:=dfz hlt;repeat' (apply wr<;>try simp only[go_sem,seval,hd])
   refine A4 ?_;rw[A1U (by omega)];simp only[H4,hbG];simp only[Bool.not_or,Bool.not_not]
 refine PC.go A1 ?_;repeat' ((first|(with_reducible first|refine wr ?_|refine cpc cf1 ?_|refine cpc cf2 ?_|refine cpc cf3 ?_)|(with_reducible refine wb2 ?_ ?_<;>(intro hb;try simp only[hb]))|((with_reducible refine AC.call (PC.lend cf4 rfl (A9d c _ _)) ?_);rintro _ _ _ ⟨rfl,rfl,rfl⟩ -)|fail)<;>try simp only[go_sem,seval])
 all_goals (refine main _ _ (by omega) ?_;simp only[A1J,Bool.not_eq_false']at *;simp only[*,Bool.and_true,Bool.true_and,Bool.false_and,Bool.and_false,Bool.not_false])
theorem c_reach(c:Prg)(h:List Int)(wk:List Nat)(o:Option Nat)(junk:List DV)(H:Hp)(cc:Nat)(p:Nat)(x:Int)(hS:WkS c h wk o junk H cc)(hw:wk.length<=100000):
  AC Tryz.prog 311 [I64 (p:Int),I64 x,.ptr 2 0,.ptr 3 0] H cc (fun v H' c'=>match B2 h wk p x with
   |none=>v=.bool false
   |some (h',wk')=>v=.bool true/\∃ o' junk',WkS c h' wk' o' junk' H' c'/\∀ j,4<=j->j<cc->o≠some j->H' j=H j):=by
 obtain⟨h0,h1,h2,h3,hn,hs,hc⟩:=hS;refine AC.bodyT A1 rfl (A0E rfl) fun hfr=>?_;by_cases hp:h.length<=p
 ·have hd:decide ((p:Int)≥h.length)=true:=by simp;omega
  have hr:B2 h wk p x=none:=by rw[B2,if_pos (.inl hp)]
  repeat' (apply wr<;>try simp only[go_sem,seval,h2,hd])
  exact⟨_,_,GL.refl _ _,by rw[hr]⟩
 have hp':p<h.length:=by omega
 have hd:decide ((p:Int)≥h.length)=false:=by simp;omega
 have hg:=A0F hp';have hgd:h.getD p 0=h[p]:=by simp[List.getD,hg]
 have hput:=Z2 (f:=I64) (l:=h) (n:=p) (a:=x) hp';have hle:p+1<=h.length:=hp';rcases o with _|id
 ·obtain rfl:=hn rfl;have ne0:=A7o 0 1 2 3 cc (cc+1) (by omega);repeat' ((first|(with_reducible first|refine wr ?_)|(with_reducible refine wb2 ?_ ?_<;>(intro hb;try simp only[hb]))|((with_reducible refine Z7 (Z1 (by decide) (by decide) (by decide)) ?_))|fail)<;>try simp only[go_sem,seval,h1,h2,h3,hd,hp',hg,hput,hle,A1W,ne0])
  ·have hr:B2 h [] p x=none:=by simp_all[B2]
   exact⟨_,_,GL.refl _ _,by rw[hr]⟩
  ·have hr:B2 h [] p x=none:=by simp_all[B2]
   exact⟨_,_,GL.refl _ _,by rw[hr]⟩
  ·exfalso;simp at *;omega
  ·have hr:B2 h [] p x=some (h,[]):=by simp_all[B2]<;>omega
   refine⟨_,_,GL.refl _ _,?_⟩;rw[hr];exact⟨rfl,none,junk,⟨h0,h1,h2,h3,hn,hs,hc⟩,fun _ _ _ _=>rfl⟩
  ·have hr:B2 h [] p x=some (h.set p x,p :: []):=by simp_all[B2]<;>omega
   refine⟨_,_,GL.refl _ _,?_⟩;rw[hr];refine⟨rfl,some (cc+1),[],⟨?_,?_,?_,?_,by simp,fun i hi=>?_,by omega⟩,fun j hj1 hj2 hj3=>?_⟩
   ·simp only[go_sem,seval,ne0,h0]
   ·simp only[go_sem,seval,ne0]
   ·simp only[go_sem,seval,ne0,h2,List.length_set]
   ·simp only[go_sem,seval]
   ·cases hi;refine⟨by omega,by omega,?_⟩;simp only[go_sem,seval,ne0,O4];try rfl
   ·have k1:¬ j=1:=by omega
    have k2:¬ j=3:=by omega
    have k3:¬ j=cc:=by omega
    have k4:¬ j=cc+1:=by omega
    simp only[go_sem,seval,k1,k2,k3,k4]
  ·exfalso;simp at *;omega
 ·obtain⟨i2,i3,hi4⟩:=hs id rfl;have ne0:=B3i 0 1 2 3 id cc (cc+1) (by omega);have hmx:wk.length+1<=maxLen:=by simp only[maxLen];omega
  have hcl:wk.length * 1<=(wkC wk++junk).length:=by simp[O3]
  have htake:(wkC wk++junk).take (wk.length)=wkC wk:=List.take_left' (O3 wk);repeat' ((first|(with_reducible first|refine wr ?_)|(with_reducible refine wb2 ?_ ?_<;>(intro hb;try simp only[hb]))|((with_reducible refine Z7 (A7b hcl (by omega) hmx) ?_))|fail)<;>try simp only[go_sem,seval,h1,h2,h3,hi4,hd,hp',hg,hput,hle,htake,ne0])
  ·have hr:B2 h wk p x=none:=by simp_all[B2]
   exact⟨_,_,GL.refl _ _,by rw[hr]⟩
  ·have hr:B2 h wk p x=none:=by simp_all[B2]
   exact⟨_,_,GL.refl _ _,by rw[hr]⟩
  ·exfalso;simp at *;omega
  ·have hr:B2 h wk p x=some (h,wk):=by simp_all[B2]<;>omega
   refine⟨_,_,GL.refl _ _,?_⟩;rw[hr];exact⟨rfl,some id,junk,⟨h0,h1,h2,h3,hn,hs,hc⟩,fun _ _ _ _=>rfl⟩
  ·have hr:B2 h wk p x=some (h.set p x,p :: wk):=by simp_all[B2]<;>omega
   refine⟨_,_,GL.refl _ _,?_⟩;rw[hr];refine⟨rfl,some (cc+1),[],⟨?_,?_,?_,?_,by simp,fun i hi=>?_,by omega⟩,fun j hj1 hj2 hj3=>?_⟩
   ·simp only[go_sem,seval,ne0,h0]
   ·simp only[go_sem,seval,ne0]
   ·simp only[go_sem,seval,ne0,h2,List.length_set]
   ·simp only[go_sem,seval]
   ·cases hi;refine⟨by omega,by omega,?_⟩;simp only[go_sem,seval,ne0,O4];try rfl
   ·have hj4:¬ j=id:=fun e=>hj3 (by rw[e]);have k1:¬ j=1:=by omega
    have k2:¬ j=3:=by omega
    have k3:¬ j=cc:=by omega
    have k4:¬ j=cc+1:=by omega
    simp only[go_sem,seval,hj4,k1,k2,k3,k4]
  ·exfalso;simp at *;omega
theorem c_reach'(c:Prg)(h:List Int)(wk:List Nat)(o:Option Nat)(junk:List DV)(H:Hp)(cc:Nat)(p:Int)(x:Int)(hp:0<=p)(hS:WkS c h wk o junk H cc)(hw:wk.length<=100000):
  AC Tryz.prog 311 [I64 p,I64 x,.ptr 2 0,.ptr 3 0] H cc (fun v H' c'=>(B2 h wk p.toNat x=none/\v=.bool false) \/
   ∃ h' wk' o' junk',B2 h wk p.toNat x=some (h',wk')/\v=.bool true/\WkS c h' wk' o' junk' H' c'/\∀ j,4<=j->j<cc->o≠some j->H' j=H j):=by
 have hpp:(p.toNat:Int)=p:=by omega
 have key:=c_reach c h wk o junk H cc p.toNat x hS hw;rw[hpp]at key;refine key.mono fun v H' c' hq=>?_;cases hr:B2 h wk p.toNat x with
 |none=>rw[hr]at hq;exact .inl ⟨rfl,hq⟩
 |some q =>
  obtain⟨h',wk'⟩:=q;rw[hr]at hq;obtain⟨e,o',junk',s1,s2⟩:=hq;exact .inr ⟨h',wk',o',junk',rfl,e,s1,s2⟩
abbrev clo:DV:=.func 311 [] [.ptr 2 0,.ptr 3 0]
theorem A2o(c:Prg)(hl:Lim c)(hj:C2 c=true)(r:Option (List Int))(n:Nat)(h:List Int)(wk:List Nat)(o:Option Nat)(junk:List DV)(cc:Nat)(hc4:4<=cc)(hn:o=none->wk=[])(hs:∀ i,o=some i->4<=i/\i<cc)
  (hI:WkI c.instrs.length h wk) (hb:wk.length+2 * n<=60000) (hr:A1h c n h wk=some r) :
  IW Tryz.prog 150 (.loop (pz Tryz.prog 250 (.o (.o (.i (.o (.i .h))))))) ⟨tm [(1,.ptr 0 0),(4,.ptr 2 0),(6,.ptr 3 0),(7,clo)],WH c h wk o junk,cc⟩ (bk 4 (sq Tryz.prog 150 (pz Tryz.prog 250 (.i (.i (.o (.o (.o (.i .h))))))) (rt [.tmp 2,.tmp 3] fun v H' x => ∃ H2,GL H' [v] H2 [A4r r]))):=by
 have hjI:∀ i∈c.instrs,i.op=12\/i.op=13\/i.op=14->0<=i.A/\i.A<=(c.instrs.length:Int)-1:=by
  intro i hi hop;simp only[C2,A0B,A0H]at hj;have:=hj.1 i hi;have hk:(A2 i.op).2.2=7:=by rcases hop with e|e|e<;>rw[e]<;>decide
  simpa[P0,hk,inM] using this
 obtain⟨wp,wv,ws,wi,wt,we,li,ls,le,lp,lv⟩:=hl;refine G5 (fun q:Nat × List Int × List Nat × Option Nat × List DV=>[(1,.ptr 0 0),(4,.ptr 2 0),(6,.ptr 3 0),(7,clo)])
  (fun q=>WH c q.2.1 q.2.2.1 q.2.2.2.1 q.2.2.2.2)
  (fun q cc=>4<=cc/\(q.2.2.2.1=none->q.2.2.1=[])/\(∀ i,q.2.2.2.1=some i->4<=i/\i<cc)/\WkI c.instrs.length q.2.1 q.2.2.1/\q.2.2.1.length+2 * q.1<=60000/\A1h c q.1 q.2.1 q.2.2.1=some r)
  (fun q=>q.1) (n,h,wk,o,junk) ⟨rfl,rfl,rfl,rfl,trivial⟩ (Sub.refl _) ⟨hc4,hn,hs,hI,hb,hr⟩ ?_
 clear hc4 hn hs hI hb hr;rintro⟨n,h,wk,o,junk⟩ cc ⟨hc4,hn,hs,hI,hb,hr⟩;simp only at hn hs hI hb hr;obtain⟨m,rfl⟩:∃ m,n=m+1:=by
  cases n with
  |zero=>cases hr
  |succ m=>exact⟨m,rfl⟩
 have hS:=WkS.mk' (c:=c) (h:=h) (junk:=junk) hn hs hc4;rcases wk with _|⟨p,wk⟩
 ·simp only[A1h,Option.some.injEq]at hr;subst hr;have hlen:A2n (C7 o 0)=some (I64 0):=by cases o<;>rfl
  repeat' (apply wr<;>try simp only[go_sem,seval,hS.h2,hS.h3,hlen,A1W])
  exact A7k (u:=1) hS.h1 rfl (by simp) (X8 h) ⟨[],by rw[O1,List.append_nil]⟩
 rcases o with _|id
 ·exact absurd (hn rfl) (by simp)
 obtain⟨i2,i3⟩:=hs id rfl;have hbl:=(hS.hs id rfl).2.2;rw[A0I]at hb;have hpos:decide (((wk.length+1:Nat):Int)>0)=true:=by simp
 have hw:=w64 (n:=(((wk.length+1:Nat):Int)-1)) (by omega) (by omega);have hw1:(((wk.length+1:Nat):Int)-1)=(wk.length:Int):=by omega
 rw[hw1]at hw;obtain⟨s1,s2,s3⟩:=hI.mem p A0D;have hIt:WkI c.instrs.length h wk:=⟨hI.hl,fun q hq=>hI.mem q (A0A _ hq)⟩;have hlen:=hI.hl;have hp':p<h.length:=by omega
 have hgh:=A0F hp';have hgi:=A0F s1;have eh:h.getD p 0=h[p]:=by simp[List.getD,hgh]
 have ei:c.instrs.getD p ⟨0,0⟩=c.instrs[p]:=by simp[List.getD,hgi]
 simp only[A1h]at hr;rw[eh]at s2 s3;rw[eh,ei]at hr;obtain⟨b1,b2,b3,b4⟩:=A0g c.instrs[p].op;have w2:=w64 (n:=h[p]-(A2 c.instrs[p].op).1);have w3:=w64 (n:=h[p]-(A2 c.instrs[p].op).1+(A2 c.instrs[p].op).2.1);have hcell:(wkC (p :: wk)++junk)[wk.length]? = some (I64 (p:Int)):=by
  rw[O4,A1Y,List.getElem?_append_right (by simp[O3]),O3];simp
 have hblen:wk.length+1<=(wkC (p :: wk)++junk).length:=by simp[O3]
 have ne0:=B3i 0 1 2 3 id cc (cc+1) (by omega);by_cases hok:¬ h[p]≥(A2 c.instrs[p].op).1
 ·rw[if_pos (.inl (by omega))]at hr;cases hr;have hok':decide (h[p]≥(A2 c.instrs[p].op).1)=false:=by simpa using hok
  repeat' ((with_reducible first|refine wr ?_|refine cpc (c_stack _) ?_|refine wb2 ?_ ?_<;>(intro hb;try simp only[hb])|fail)<;>try simp only[go_sem,seval,hS.h0,hS.h1,hS.h2,hS.h3,hbl,A0I,hw1,hw,hpos,hcell,hgh,hgi,s1,hlen,w2,w3,hok',A1Q,A0Z,ne0])
  all_goals exact C6
 have hok1:h[p]≥(A2 c.instrs[p].op).1:=by omega
 have hok':decide (h[p]≥(A2 c.instrs[p].op).1)=true:=by simpa using hok1
 have hwp:=w64 (n:=(p:Int)+1);have hpp:((p:Int)+1).toNat=p+1:=by omega
 by_cases e31:c.instrs[p].op=31
 ·have o31:(c.instrs[p].op == 31)=true:=by simpa using e31
  by_cases hz:h[p]=0
  ·have hz':(h[p] == 0)=true:=by simpa using hz
   rw[if_neg (by omega)]at hr;have hA:A3 c.instrs[p] p h[p]=[]:=by simp[A3,e31]
   rw[hA]at hr;simp only[C1]at hr;repeat' ((with_reducible first|refine wr ?_|refine cpc (c_stack _) ?_|fail)<;>try simp only[go_sem,seval,hS.h0,hS.h1,hS.h2,hS.h3,hbl,A0I,hw1,hw,hpos,hcell,hgh,hgi,s1,hlen,w2,w3,hok',A1Q,A0Z,ne0,o31,hz'])
   have hS':=(hS.pop.upd ⟨0,true,[DV.int IntKind.i64 0,DV.int IntKind.i64 0]⟩ (A0C _) (A0C _)).upd ⟨0,true,[I64 c.instrs[p].op,I64 c.instrs[p].A]⟩ (A0C _) (A1N _);exact⟨(m,h,wk,some id,I64 (p:Int) :: junk),hS'.sub,inv ⟨hS'.hc,hS'.hn,fun i hi=>⟨(hS'.hs i hi).1,(hS'.hs i hi).2.1⟩,hIt,by simp only;omega,hr⟩,by simp only;omega⟩
  ·have hz':(h[p] == 0)=false:=by simpa using hz
   rw[if_pos (.inr ⟨e31,hz⟩)]at hr;cases hr;repeat' ((with_reducible first|refine wr ?_|refine cpc (c_stack _) ?_|fail)<;>try simp only[go_sem,seval,hS.h0,hS.h1,hS.h2,hS.h3,hbl,A0I,hw1,hw,hpos,hcell,hgh,hgi,s1,hlen,w2,w3,hok',A1Q,A0Z,ne0,o31,hz'])
   exact C6
 have o31:(c.instrs[p].op == 31)=false:=by simpa using e31
 rw[if_neg (by omega)]at hr;by_cases e12:c.instrs[p].op=12
 ·have o12:(c.instrs[p].op == 12)=true:=by simpa using e12
  have p1:=(hjI _ (A0U s1) (.inl e12)).1;have hE:A2 c.instrs[p].op=(0,0,7):=by rw[e12];decide
  have hA:A3 c.instrs[p] p h[p]=[(c.instrs[p].A.toNat,h[p])]:=by simp[A3,e12]
  have hx:h[p]-(A2 c.instrs[p].op).1+(A2 c.instrs[p].op).2.1=h[p]:=by rw[hE];simp
  repeat' ((with_reducible first|refine wr ?_|refine cpc (c_stack _) ?_|fail)<;>try simp only[go_sem,seval,hS.h0,hS.h1,hS.h2,hS.h3,hbl,A0I,hw1,hw,hpos,hcell,hgh,hgi,s1,hlen,w2,w3,hok',A1Q,A0Z,ne0,o31,o12])
  refine AC.call (c_reach' c h wk (some id) _ _ _ (c.instrs[p].A) _ (p1) ((hS.pop.upd _ (A0C _) (A0C _)).upd _ (A0C _) (A1N _)) (by omega)) ?_;rintro v H' c' hq hcc;rw[hA]at hr;rw[hx]at hq;rcases hq with ⟨hr0,rfl⟩|⟨h',wk',o',junk',hr1,rfl,hS',hfr⟩
  ·simp only[C1,hr0]at hr;cases hr;simp only[go_sem,seval];repeat' (apply wr<;>try simp only[go_sem,seval])
   exact C6
  ·simp only[C1,hr1]at hr;obtain⟨hI',hwk'⟩:=E3 hIt s2 hr1;simp only[go_sem,seval];repeat' (apply wr<;>try simp only[go_sem,seval])
   exact⟨(m,h',wk',o',junk'),hS'.sub,inv ⟨hS'.hc,hS'.hn,fun i hi=>⟨(hS'.hs i hi).1,(hS'.hs i hi).2.1⟩,hI',by simp only;omega,hr⟩,by simp only;omega⟩
 have o12:(c.instrs[p].op == 12)=false:=by simpa using e12
 by_cases e13:c.instrs[p].op=13
 ·have o13:(c.instrs[p].op == 13)=true:=by simpa using e13
  have p1:=(hjI _ (A0U s1) (.inr (.inl e13))).1;have hE:A2 c.instrs[p].op=(1,0,7):=by rw[e13];decide
  have hA:A3 c.instrs[p] p h[p]=[(p+1,h[p]-1),(c.instrs[p].A.toNat,h[p]-1)]:=by simp[A3,e13]
  have hx:h[p]-(A2 c.instrs[p].op).1+(A2 c.instrs[p].op).2.1=h[p]-1:=by rw[hE];simp
  have hge:0<=h[p]-1:=by rw[hE]at hok1;simp only at hok1;omega
  repeat' ((with_reducible first|refine wr ?_|refine cpc (c_stack _) ?_|fail)<;>try simp only[go_sem,seval,hS.h0,hS.h1,hS.h2,hS.h3,hbl,A0I,hw1,hw,hpos,hcell,hgh,hgi,s1,hlen,w2,w3,hok',A1Q,A0Z,ne0,o31,o12,o13,hwp])
  refine AC.call (c_reach' c h wk (some id) _ _ _ ((p:Int)+1) _ (by omega) ((hS.pop.upd _ (A0C _) (A0C _)).upd _ (A0C _) (A1N _)) (by omega)) ?_;rintro v H' c' hq hcc;rw[hA]at hr;rw[hx]at hq;rw[hpp]at hq;rcases hq with ⟨hr0,rfl⟩|⟨h',wk',o',junk',hr1,rfl,hS',hfr⟩
  ·simp only[C1,hr0]at hr;cases hr;simp only[go_sem,seval];repeat' (apply wr<;>try simp only[go_sem,seval])
   exact C6
  ·obtain⟨hI',hwk'⟩:=E3 hIt hge hr1;simp only[C1,hr1]at hr;have hbox:=(hfr cc hc4 (Nat.lt_succ_self _) (by simp;omega)).trans A7;simp only[go_sem,seval,hbox];repeat' (apply wr<;>try simp only[go_sem,seval,hbox,o31,o12,o13,hwp])
   refine AC.call (c_reach' c h' wk' o' junk' _ _ c.instrs[p].A _ p1 hS' (by omega)) ?_;rintro v H2 c2 hq hcc2;rw[hx]at hq;rcases hq with ⟨hr0,rfl⟩|⟨h2,wk2,o2,junk2,hr2,rfl,hS2,hfr2⟩
   ·simp only[hr0]at hr;cases hr;simp only[go_sem,seval];repeat' (apply wr<;>try simp only[go_sem,seval])
    exact C6
   ·simp only[hr2]at hr;obtain⟨hI2,hwk2⟩:=E3 hI' hge hr2;simp only[go_sem,seval];repeat' (apply wr<;>try simp only[go_sem,seval])
    exact⟨(m,h2,wk2,o2,junk2),hS2.sub,inv ⟨hS2.hc,hS2.hn,fun i hi=>⟨(hS2.hs i hi).1,(hS2.hs i hi).2.1⟩,hI2,by simp only;omega,hr⟩,by simp only;omega⟩
 have o13:(c.instrs[p].op == 13)=false:=by simpa using e13
 by_cases e14:c.instrs[p].op=14
 ·have o14:(c.instrs[p].op == 14)=true:=by simpa using e14
  have p1:=(hjI _ (A0U s1) (.inr (.inr e14))).1;have hE:A2 c.instrs[p].op=(1,1,7):=by rw[e14];decide
  have hA:A3 c.instrs[p] p h[p]=[(p+1,h[p]),(c.instrs[p].A.toNat,h[p]-1)]:=by simp[A3,e14]
  have hx:h[p]-(A2 c.instrs[p].op).1+(A2 c.instrs[p].op).2.1=h[p]:=by rw[hE];simp
  have hge:0<=h[p]-1:=by rw[hE]at hok1;simp only at hok1;omega
  have w4:=w64 (n:=h[p]-(A2 c.instrs[p].op).1+(A2 c.instrs[p].op).2.1-1);repeat' ((with_reducible first|refine wr ?_|refine cpc (c_stack _) ?_|fail)<;>try simp only[go_sem,seval,hS.h0,hS.h1,hS.h2,hS.h3,hbl,A0I,hw1,hw,hpos,hcell,hgh,hgi,s1,hlen,w2,w3,hok',A1Q,A0Z,ne0,o31,o12,o13,o14,hwp])
  refine AC.call (c_reach' c h wk (some id) _ _ _ ((p:Int)+1) _ (by omega) ((hS.pop.upd _ (A0C _) (A0C _)).upd _ (A0C _) (A1N _)) (by omega)) ?_;rintro v H' c' hq hcc;rw[hA]at hr;rw[hx]at hq;rw[hpp]at hq;rcases hq with ⟨hr0,rfl⟩|⟨h',wk',o',junk',hr1,rfl,hS',hfr⟩
  ·simp only[C1,hr0]at hr;cases hr;simp only[go_sem,seval];repeat' (apply wr<;>try simp only[go_sem,seval])
   exact C6
  ·obtain⟨hI',hwk'⟩:=E3 hIt s2 hr1;simp only[C1,hr1]at hr;have hbox:=(hfr cc hc4 (Nat.lt_succ_self _) (by simp;omega)).trans A7;simp only[go_sem,seval,hbox,w4];repeat' (apply wr<;>try simp only[go_sem,seval,hbox,o31,o12,o13,o14,hwp,w4])
   refine AC.call (c_reach' c h' wk' o' junk' _ _ c.instrs[p].A _ p1 hS' (by omega)) ?_;rintro v H2 c2 hq hcc2;rw[hx]at hq;rcases hq with ⟨hr0,rfl⟩|⟨h2,wk2,o2,junk2,hr2,rfl,hS2,hfr2⟩
   ·simp only[hr0]at hr;cases hr;simp only[go_sem,seval];repeat' (apply wr<;>try simp only[go_sem,seval])
    exact C6
   ·simp only[hr2]at hr;obtain⟨hI2,hwk2⟩:=E3 hI' hge hr2;simp only[go_sem,seval];repeat' (apply wr<;>try simp only[go_sem,seval])
    exact⟨(m,h2,wk2,o2,junk2),hS2.sub,inv ⟨hS2.hc,hS2.hn,fun i hi=>⟨(hS2.hs i hi).1,(hS2.hs i hi).2.1⟩,hI2,by simp only;omega,hr⟩,by simp only;omega⟩
 have o14:(c.instrs[p].op == 14)=false:=by simpa using e14
 have hA:A3 c.instrs[p] p h[p]=[(p+1,h[p]-(A2 c.instrs[p].op).1+(A2 c.instrs[p].op).2.1)]:=by simp[A3,e31,e12,e13,e14]
 have hge:0<=h[p]-(A2 c.instrs[p].op).1+(A2 c.instrs[p].op).2.1:=by omega
 repeat' ((with_reducible first|refine wr ?_|refine cpc (c_stack _) ?_|fail)<;>try simp only[go_sem,seval,hS.h0,hS.h1,hS.h2,hS.h3,hbl,A0I,hw1,hw,hpos,hcell,hgh,hgi,s1,hlen,w2,w3,hok',A1Q,A0Z,ne0,o31,o12,o13,o14,hwp])
 refine AC.call (c_reach' c h wk (some id) _ _ _ ((p:Int)+1) _ (by omega) ((hS.pop.upd _ (A0C _) (A0C _)).upd _ (A0C _) (A1N _)) (by omega)) ?_;rintro v H' c' hq hcc;rw[hA]at hr;rw[hpp]at hq;rcases hq with ⟨hr0,rfl⟩|⟨h',wk',o',junk',hr1,rfl,hS',hfr⟩
 ·simp only[C1,hr0]at hr;cases hr;simp only[go_sem,seval];repeat' (apply wr<;>try simp only[go_sem,seval])
  exact C6
 ·simp only[C1,hr1]at hr;obtain⟨hI',hwk'⟩:=E3 hIt hge hr1;simp only[go_sem,seval];repeat' (apply wr<;>try simp only[go_sem,seval])
  exact⟨(m,h',wk',o',junk'),hS'.sub,inv ⟨hS'.hc,hS'.hn,fun i hi=>⟨(hS'.hs i hi).1,(hS'.hs i hi).2.1⟩,hI',by simp only;omega,hr⟩,by simp only;omega⟩
theorem c_heightsP(c:Prg)(hl:Lim c)(hj:C2 c=true)(n:Nat)(hn0:n<=20000)(r:Option (List Int))(hr:A1g c n=some r):PC Tryz.prog 250 [c.v] (A4r r):=by
 have hl0:=hl;obtain⟨wp,wv,ws,wi,wt,we,li,ls,le,lp,lv⟩:=hl;have hms:=B2q (sz:=1) (bytes:=8) (z:=[I64 0]) (k:=.i64) (k':=.i64) (n:=c.instrs.length) (by omega) (by omega) rfl rfl;refine PC.ofT A1 rfl (A0E rfl) (by simp[DV.nlL,DV.nl,G2,H6,K4,E4]) (by cases r<;>simp[A4r,DV.nlL,DV.nl,G2]) ?_;repeat' (apply wr<;>try simp only[go_sem,seval,hms,A4k])
 refine G5 (fun k:Nat=>[(1,.ptr 0 0),(4,.ptr 2 0),(21,I64 c.instrs.length),(22,I64 k)]) (fun k=>((nil.upd 0 ⟨0,true,c.cs⟩).upd 1 ⟨1,true,(N2 c.instrs.length k).map I64⟩).upd 2 ⟨0,true,[.slc 1 0 c.instrs.length]⟩) (fun k cc=>cc=3/\k<=c.instrs.length) (fun k=>c.instrs.length-k) 0
  (by simp[G0,tm,Tm.upd]) (by rw[C4];simpa[N2] using Sub.refl _) (by simp) ?_
 rintro k cc ⟨rfl,hk⟩;by_cases hlt:k<c.instrs.length
 ·have hd:=dtz hlt;have hw:=w64 (n:=(k:Int)+1);have hlen:(N2 c.instrs.length k).length=c.instrs.length:=by simp[N2];omega
  have hle:k+1<=c.instrs.length:=hlt;have hput:=Z2 (f:=I64) (l:=N2 c.instrs.length k) (n:=k) (a := -1) (by rw[hlen];exact hlt);repeat' (apply wr<;>try simp only[go_sem,seval,hd,hw,hlen,hle,hlt,hput])
  exact⟨k+1,rfl,by rw[A2r hlt];(intro j b hj;simp only[Hp.upd,Sym.nil]at hj ⊢;(repeat' split at hj)<;>(repeat' split)<;>first|exact hj|(exfalso;omega)|cases hj),inv ⟨rfl,hlt⟩,by omega⟩
 have hd:=dfz hlt;have hfull:N2 c.instrs.length k=List.replicate c.instrs.length (-1):=by
  have:c.instrs.length-k=0:=by omega
  have hk2:k=c.instrs.length:=by omega
  simp[N2,hk2]
 repeat' (apply wr<;>try simp only[go_sem,seval,hd,hfull])
 clear hd hfull hlt hk
 have hjE:∀ e∈c.entries,0<=e.pos/\e.pos<=(c.instrs.length:Int)-1:=by
  intro e he;simp only[C2,A0B,A0H]at hj;have:=hj.2 e he;simpa[A3q,inM] using this
 refine G5 (fun q:Nat × List Int × List Nat × Option Nat × List DV=>[(1,.ptr 0 0),(4,.ptr 2 0),(6,.ptr 3 0),(7,clo),(31,A1k c.entries),(32,I64 c.entries.length),(33,I64 q.1)])
  (fun q=>WH c q.2.1 q.2.2.1 q.2.2.2.1 q.2.2.2.2)
  (fun q cc=>4<=cc/\q.1<=c.entries.length/\(q.2.2.2.1=none->q.2.2.1=[])/\(∀ i,q.2.2.2.1=some i->4<=i/\i<cc)/\WkI c.instrs.length q.2.1 q.2.2.1/\q.2.2.1.length<=q.1/\C1 q.2.1 q.2.2.1 ((c.entries.drop q.1).map V2)=C1 (List.replicate c.instrs.length (-1)) [] (c.entries.map V2))
  (fun q=>c.entries.length-q.1) (0,List.replicate c.instrs.length (-1),[],none,[])
  (by simp[G0,tm,Tm.upd]) (by simpa[WH,S7,C7] using Sub.refl _) ⟨by omega,by omega,fun _=>rfl,by simp,⟨by simp,by simp⟩,by simp,by simp⟩ ?_
 rintro⟨k,h,wk,o,junk⟩ cc ⟨hc4,hk,hn,hs,hI,hwk,hrL⟩;simp only at hk hn hs hI hwk hrL;have hS:=WkS.mk' (c:=c) (h:=h) (junk:=junk) hn hs hc4;by_cases hlt:k<c.entries.length
 ·have hd:=dtz hlt;have hw:=w64 (n:=(k:Int)+1);have hg:=A0F hlt;obtain⟨p1,p2⟩:=hjE _ (A0U hlt);have hpos:c.entries[k].pos=((c.entries[k].pos.toNat:Nat):Int):=by omega
  have ne0:=A7o 0 1 2 3 cc (cc+1) (by omega);repeat' (apply wr<;>try simp only[go_sem,seval,hd,hg])
  rw[C4];refine AC.call (c_reach' c h wk o junk _ _ c.entries[k].pos 0 p1 (hS.upd _ (A0C _) (A1N _)) (by omega)) ?_;rintro v H' c' hq hcc;rw[A2U hlt,A0R]at hrL;rcases hq with ⟨hr0,rfl⟩|⟨h',wk',o',junk',hr1,rfl,hS',hfr⟩
  ·have hr2:r=none:=by
    rw[A1g, <- hrL]at hr;simp only[C1,V2,hr0]at hr;simpa using hr.symm
   subst hr2;simp only[go_sem,seval];repeat' (apply wr<;>try simp only[go_sem,seval])
   exact C6
  ·simp only[C1,V2,hr1]at hrL;obtain⟨hI',hwk'⟩:=E3 hI (Int.le_refl 0) hr1;simp only[go_sem,seval];repeat' (apply wr<;>try simp only[go_sem,seval,hw])
   exact⟨(k+1,h',wk',o',junk'),rfl,hS'.sub,inv ⟨hS'.hc,hlt,hS'.hn,fun i hi=>⟨(hS'.hs i hi).1,(hS'.hs i hi).2.1⟩,hI',by simp only;omega,hrL⟩,by simp only;omega⟩
 have hd:=dfz hlt;obtain rfl:k=c.entries.length:=by omega
 rw[List.drop_eq_nil_of_le (A0C _)]at hrL;rw[A1g, <- hrL]at hr;simp only[A1P,C1]at hr;repeat' (apply wr<;>try simp only[go_sem,seval,hd])
 exact A2o c hl0 hj r n h wk o junk cc hc4 hn hs hI (by omega) hr
theorem c_heightsP'(c:Prg)(hl:Lim c)(hj:C2 c=true):PC Tryz.prog 250 [c.v] (A4r (hR c)) :=
 c_heightsP c hl hj 4001 (by omega) _ (A7z hl.li hj)
theorem c_verify(c:Prg)(hs:∀ s∈c.strings,s.length<=140737488355328)(n1:c.instrs.length<=9223372036854775807):PC Tryz.prog 169 [c.v] (.tup [I9 (W4 c),I64 (B3 c)]):=by
 by_cases hL:D7 c=true
 ·have hl:=Lim.of hL;have hl0:=hl;obtain⟨wp,wv,ws,wi,wt,we,li,ls,le,lp,lv⟩:=hl;by_cases hp:H4 c=true
  ·by_cases hj:C2 c=true
   ·refine PC.go A1 ?_;repeat' ((with_reducible first|refine wr ?_|refine cpc (c_limits c) ?_|refine cpc (c_bparts c hl0 hs) ?_|refine cpc (c_targets c hl0) ?_|fail)<;>try simp only[go_sem,seval,hL,hp,hj])
    refine G5 (fun k:Nat=>[(1,.ptr 0 0),(4,I64 k)]) (fun _=>nil.upd 0 ⟨0,true,c.cs⟩) (fun k cc=>1<=cc/\1<=k/\(k<=c.entries.length\/k=1)/\H7 (c.entries.take k)=true) (fun k=>c.entries.length-k) 1 (by simp[G0,tm,Tm.upd]) (Sub.refl _) ⟨by omega,by omega,by omega,by cases c.entries<;>rfl⟩ ?_;rintro k cc ⟨h1c,h1k,hk,he⟩;by_cases hlt:k<c.entries.length
    ·have hd:=dtz hlt;have hg:=A0F hlt;have hlt':k-1<c.entries.length:=by omega
     have hg':=A0F hlt';have hw:=w64 (n:=(k:Int)+1);have hw1:=w64 (n:=(k:Int)-1);have hw2:(k:Int)-1=((k-1:Nat):Int):=by omega
     rw[hw2]at hw1;repeat' ((with_reducible first|refine wr ?_|refine cpc (c_bless _ _) ?_|refine wb2 ?_ ?_<;>(intro hb;try simp only[hb])|fail)<;>try simp only[go_sem,seval,hd,hg,hg',hw,hw2,hw1])
     ·have hf:=A2z h1k hg' hg (by simpa using hb);have e:B3 c=66:=by simp[B3,hL,hp,hj,hf]
      simp only[W4,e];exact C6
     ·exact⟨k+1,rfl,Sub.refl _,inv ⟨by omega,by omega,by omega,by rw[A2y h1k hg' hg he];simpa using hb⟩,by omega⟩
    ·have hd:decide ((k:Int)<c.entries.length)=false:=by simp;omega
     have hch:H7 c.entries=true:=by
      rw[A1U (by omega)]at he;exact he
     cases hh:hR c with
     |none =>
      have key:=c_heightsP' c hl0 hj;rw[hh,A4q]at key;repeat' ((with_reducible first|apply wr|refine cpc key ?_|fail)<;>try simp only[go_sem,seval,hd])
      have e:B3 c=53:=by simp[B3,hL,hp,hj,hch,hh]
      simp only[W4,e];exact C6
     |some h =>
      have key:=c_heightsP' c hl0 hj;rw[hh,A4p]at key;repeat' ((with_reducible first|apply wr|refine cpc key ?_|fail)<;>try simp only[go_sem,seval,hd])
      have e:B3 c=0:=by simp[B3,hL,hp,hj,hch,hh]
      simp only[W4,e,hh];exact A4 rfl
   ·have hj':C2 c=false:=by simpa using hj
    refine PC.go A1 ?_;repeat' ((with_reducible first|refine wr ?_|refine cpc (c_limits c) ?_|refine cpc (c_bparts c hl0 hs) ?_|refine cpc (c_targets c hl0) ?_|fail)<;>try simp only[go_sem,seval,hL,hp,hj'])
    have e:B3 c=54:=by simp[B3,hL,hp,hj']
    simp only[W4,e];exact C6
  ·have hp':H4 c=false:=by simpa using hp
   refine PC.go A1 ?_;repeat' ((with_reducible first|refine wr ?_|refine cpc (c_limits c) ?_|refine cpc (c_bparts c hl0 hs) ?_|fail)<;>try simp only[go_sem,seval,hL,hp'])
   have e:B3 c=51:=by simp[B3,hL,hp']
   simp only[W4,e];exact C6
 ·have hL':D7 c=false:=by simpa using hL
  refine PC.go A1 ?_;repeat' ((with_reducible first|refine wr ?_|refine cpc (c_limits c) ?_|fail)<;>try simp only[go_sem,seval,hL'])
  have e:B3 c=9:=by simp[B3,hL']
  simp only[W4,e];exact C6
theorem c_valid(c:Prg)(hs:∀ s∈c.strings,s.length<=140737488355328)(n1:c.instrs.length<=9223372036854775807):PC Tryz.prog 90 [c.v] (I64 (B3 c)):=by
 refine PC.go A1 ?_;repeat' ((with_reducible first|refine wr ?_|refine cpc (c_verify c hs n1) ?_|fail)<;>try simp only[go_sem,seval])
 exact A4 rfl
abbrev x57:XT Tryz.prog 57:=mkF
instance t57:FT Tryz.prog 57 x57.d:=x57.ft
abbrev x184:XT Tryz.prog 184:=mkF
instance t184:FT Tryz.prog 184 x184.d:=x184.ft
abbrev x119:XT Tryz.prog 119:=mkF
instance t119:FT Tryz.prog 119 x119.d:=x119.ft
abbrev x120:XT Tryz.prog 120:=mkF
instance t120:FT Tryz.prog 120 x120.d:=x120.ft
theorem c_Clamp(n:Int):PC Tryz.prog 57 [I64 n] (I64 (clM n)):=by
 refine PC.go A1 ?_;have h:=A8m n;repeat' ((with_reducible first|refine wr ?_|refine k_cu ?_ ?_|refine wb2 ?_ ?_<;>(intro hb;try simp only[hb])|fail)<;>try simp only[go_sem,seval,h])
 exact A4 rfl
theorem c_bit(b:Bool):PC Tryz.prog 184 [.bool b] (I64 (R4 b)):=by
 refine PC.go A1 ?_;cases b
 ·repeat' ((with_reducible first|refine wr ?_|refine k_cu ?_ ?_|refine wb2 ?_ ?_<;>(intro hb;try simp only[hb])|fail)<;>try simp only[go_sem,seval])
  exact A4 rfl
 ·repeat' ((with_reducible first|refine wr ?_|refine k_cu ?_ ?_|refine wb2 ?_ ?_<;>(intro hb;try simp only[hb])|fail)<;>try simp only[go_sem,seval])
  exact A4 rfl
theorem c_Unary(k a:Int):PC Tryz.prog 119 [I64 k,I64 a] (I64 (unM k a)):=by
 refine PC.go A1 ?_;have hb:=O0 a;have w:=w64 (n:=0-clM a);by_cases h1:k=10
 ·have d1:(k == 10)=true:=by simp[h1]
  repeat' ((with_reducible first|refine wr ?_|refine cpc (c_Clamp _) ?_|refine k_cu ?_ ?_|refine wb2 ?_ ?_<;>(intro hb;try simp only[hb])|fail)<;>try simp only[go_sem,seval,w,d1])
  rw[h1];exact A4 (by simp[unM])
 ·have d1:(k == 10)=false:=by simp[h1]
  by_cases h2:k=11
  ·have d2:(k == 11)=true:=by simp[h2]
   repeat' ((with_reducible first|refine wr ?_|refine cpc (c_Clamp _) ?_|refine cpc (c_bit _) ?_|refine k_cu ?_ ?_|refine wb2 ?_ ?_<;>(intro hb;try simp only[hb])|fail)<;>try simp only[go_sem,seval,d1,d2])
   rw[h2];exact A4 rfl
  ·have d2:(k == 11)=false:=by simp[h2]
   repeat' ((with_reducible first|refine wr ?_|refine cpc (c_Clamp _) ?_|refine cpc (c_bit _) ?_|refine k_cu ?_ ?_|refine wb2 ?_ ?_<;>(intro hb;try simp only[hb])|fail)<;>try simp only[go_sem,seval,d1,d2])
   exact A4 (by simp[unM,h1,h2])
theorem c_Binary(k a b:Int):PC Tryz.prog 120 [I64 k,I64 a,I64 b] (I64 (A5b k a b)):=by
 refine PC.go A1 ?_;unfold A5b;have hA:=O0 a;have hB:=O0 b;have cA:=c_Clamp a;have cB:=c_Clamp b;generalize clM a=A at *;generalize clM b=B at *;have wm:=B0o hA hB;have wq:=A5u (B:=B) hA;have w1:=w64 wm.1 wm.2;have w2:=w64 (n:=A+B);have w3:=w64 (n:=A-B);by_cases hz:B=0
 ·have z1:(B != 0)=false:=by simp[hz]
  have z2:(B == 0)=true:=by simp[hz]
  repeat' ((with_reducible first|refine wr ?_|refine cpc cA ?_|refine cpc cB ?_|refine cpc (c_Clamp _) ?_|refine cpc (c_bit _) ?_|refine k_cu ?_ ?_|refine wb2 ?_ ?_<;>(intro hb;try simp only[hb])|fail)<;>try simp only[go_sem,seval,w1,w2,w3,z1,z2])
  all_goals (refine A4 ?_;clear wm wq w1 w2 w3 cA cB hA hB;simp_all[bzM]<;>simp[R4,bne, *])
 ·have z1:(B != 0)=true:=by simp[hz]
  have z2:(B == 0)=false:=by simp[hz]
  have q1:binR .quo (.int .i64 A) (.int .i64 B)=some (.int .i64 (A.tdiv B)):=by rw[B2l hz,w6z (by omega)]
  have q2:=A8x (k:=.i64) (m:=A) hz;repeat' ((with_reducible first|refine wr ?_|refine cpc cA ?_|refine cpc cB ?_|refine cpc (c_Clamp _) ?_|refine cpc (c_bit _) ?_|refine k_cu ?_ ?_|refine wb2 ?_ ?_<;>(intro hb;try simp only[hb])|fail)<;>try simp only[go_sem,seval,w1,w2,w3,z1,z2,q1,q2])
  all_goals (refine A4 ?_;clear wm wq w1 w2 w3 cA cB hA hB q1 q2;simp_all[bzM]<;>simp[R4,bne, *])
abbrev x117:XT Tryz.prog 117:=mkF
instance t117:FT Tryz.prog 117 x117.d:=x117.ft
abbrev x118:XT Tryz.prog 118:=mkF
instance t118:FT Tryz.prog 118 x118.d:=x118.ft
abbrev x121:XT Tryz.prog 121:=mkF
instance t121:FT Tryz.prog 121 x121.d:=x121.ft
abbrev vmB(c:Prg)(e:Envr)(x:Mch)(v:Nat)(so eo:Option Nat):Blk:=⟨0,true,mcC c e v x.vars.length (x.pc:Int) x.done (C7 so x.stk.length) (C7 eo x.effs.length)⟩
def VM(c:Prg)(e:Envr)(x:Mch)(m v:Nat)(so eo:Option Nat)(junk:List DV):Hp:=VR x m v so eo junk (vmB c e x v so eo)
section
variable {c:Prg} {e:Envr} {x:Mch} {m v cc:Nat} {so eo:Option Nat} {junk:List DV}
theorem Q3(h:MN m v so eo x cc):VM c e x m v so eo junk m=some (vmB c e x v so eo):=B5l h
theorem c_vput(h:MN m v so eo x cc)(hb:x.stk.length<=100000)(n:Int):
  AC Tryz.prog 117 [.ptr m 0,I64 n] (VM c e x m v so eo junk) cc (fun r H' c'=>r=.tup []/\∃ s2,cc<=s2/\s2<c'/\H'=VM c e (x.push n) m v (some s2) eo []):=by
 refine AC.bodyT A1 rfl (A0E rfl) fun hfr=>?_;have hM:=Q3 (c:=c) (e:=e) (junk:=junk) h;have hn:=h;obtain⟨h1,h2,h3,h4,h5,h6,h7,h8⟩:=h;have ne0:=L3 m v cc (cc+1) (by omega);have dm:∀ X,L1 X so m=X m:=fun X=>D8 (fun i hi e=>(h4 i hi).1 e.symm);have dv:∀ X,L1 X so v=X v:=fun X=>D8 (fun i hi e=>(h4 i hi).2.1 e.symm);repeat' ((with_reducible first|refine wr ?_|refine k_cu ?_ ?_|refine wb2 ?_ ?_<;>(intro hb;try simp only[hb])|fail)<;>try simp only[go_sem,seval,hM,ne0])
 refine Z7 (B0n (cs:=x.stk.reverse.map I64) (junk:=junk) (fun e=>⟨T4 (h7 e),by rw[h7 e];rfl⟩) (fun i hi=>?_) (by simp) (by omega) (by omega) (by omega)) ?_
 ·have:=h4 i hi;rw[hnO];exact A7f ⟨h1,h2,h3,h4,h5,h6,h7,h8⟩ hi
 simp only[go_sem,seval,dm,hM,ne0];repeat' ((with_reducible first|refine wr ?_|refine k_cu ?_ ?_|refine wb2 ?_ ?_<;>(intro hb;try simp only[hb])|fail)<;>try simp only[go_sem,seval,dm,hM,ne0])
 refine⟨_,_,GL.less' (W0 (x:=x.push n) (m:=m) (v:=v) (so:=some (cc+1)) (eo:=eo) (junk:=[]) (M:=vmB c e (x.push n) v (some (cc+1)) eo) ?_ ?_ (fun i hi=>?_) (fun i hi=>?_)),rfl,cc+1,by omega,by omega,rfl⟩
 ·rw[A7];simp[Mch.push,C7]
 ·rw[hnO,hnO,dv,hnO];exact Q2 hn
 ·cases hi;rw[hnO,A7];simp[Mch.push]
 ·have:=h5 i hi;rw[hnO,hnO,D8 (fun j hj e=>h6 j i hj hi e.symm),hnO];exact A5e hi
theorem c_vtake(h:MN m v so eo x cc)(hb:x.stk.length<=100000)(n:Int)(S:List Int)(hS:x.stk=n :: S):
  AC Tryz.prog 118 [.ptr m 0] (VM c e x m v so eo junk) cc (fun r H' c'=>r=I64 n/\H'=VM c e x.pop m v so eo (I64 n :: junk)):=by
 obtain⟨i,rfl⟩:∃ i,so=some i:=by
  cases so with
  |none=>have:=h.sn rfl;rw[hS]at this;cases this
  |some i=>exact⟨i,rfl⟩
 refine AC.bodyT A1 rfl (A0E rfl) fun hfr=>?_;have hn:=h;have hM:=Q3 (c:=c) (e:=e) (junk:=junk) h;have hs:VM c e x m v (some i) eo junk i=some ⟨1,true,x.stk.reverse.map I64++junk⟩:=A7f h rfl;obtain⟨h1,h2,h3,h4,h5,h6,h7,h8⟩:=h;obtain⟨q1,q2,q3⟩:=h4 i rfl;have hl:x.stk.length=S.length+1:=by rw[hS];rfl
 have hw:IntKind.i64.wrap (((S.length+1:Nat):Int)-1)=(S.length:Int):=by rw[w6z (by omega)];omega
 have hcell:(x.stk.reverse.map I64++junk)[S.length]? = some (I64 n):=by rw[hS];simp
 have hle:S.length<=S.length+1:=by omega
 have ne0:=B3j m v i (by omega);repeat' ((with_reducible first|refine wr ?_|refine k_cu ?_ ?_|refine wb2 ?_ ?_<;>(intro hb;try simp only[hb])|fail)<;>try simp only[go_sem,seval,hM,hs,hl,hw,hcell,hle,A1Q,A0Z,ne0])
 refine⟨_,_,GL.less' (W0 (x:=x.pop) (m:=m) (v:=v) (so:=some i) (eo:=eo) (junk:=I64 n :: junk) (M:=vmB c e x.pop v (some i) eo) ?_ ?_ (fun j hj=>?_) (fun j hj=>?_)),rfl,rfl⟩
 ·rw[A7];simp[Mch.pop,C7,hS]
 ·rw[hnO];exact Q2 hn
 ·cases hj;rw[L0 q1,hs];simp[Mch.pop,hS]
 ·have:=h5 j hj;rw[hnO];exact A5e hj
theorem c_veff(h:MN m v so eo x cc)(hb:x.effs.length<=100000)(op A b d:Int):
  AC Tryz.prog 121 [.ptr m 0,.agg [I64 op,I64 A],I64 b,I64 d] (VM c e x m v so eo junk) cc (fun r H' c'=>r=.tup []/\∃ s2,cc<=s2/\s2<c'/\H'=VM c e (x.ask ⟨op,A,b,d,[]⟩) m v so (some s2) junk):=by
 refine AC.bodyT A1 rfl (A0E rfl) fun hfr=>?_;have hM:=Q3 (c:=c) (e:=e) (junk:=junk) h;have hn:=h;obtain⟨h1,h2,h3,h4,h5,h6,h7,h8⟩:=h;have fn:=fun j (hj:cc<=j)=>F5 (junk:=junk) (M:=vmB c e x v so eo) hn hj;have ne0:=A7o m v cc (cc+1) (cc+1+12) (cc+1+17) (by omega);have dm:∀ X,L1 X eo m=X m:=fun X=>D8 (fun i hi e=>(h5 i hi).1 e.symm);have dc:∀ X,L1 X eo cc=X cc:=fun X=>D8 (fun i hi e=>by have:=h5 i hi;omega);have dc1:∀ X,L1 X eo (cc+1)=X (cc+1):=fun X=>D8 (fun i hi e=>by have:=h5 i hi;omega);have f1:VM c e x m v so eo junk (cc+1)=none:=fn (cc+1) (by omega);repeat' ((with_reducible first|refine wr ?_|refine k_cu ?_ ?_|refine wb2 ?_ ?_<;>(intro hb;try simp only[hb])|fail)<;>try simp only[go_sem,seval,hM,ne0])
 refine A5f (X3 (cs:=M9 x.effs) (fun e=>⟨T4 (h8 e),by rw[h8 e];rfl⟩) (fun i hi=>?_) (A1o _) (by omega) (by omega) (by omega)) ?_
 ·have:=h5 i hi;rw[hnO,hnO];exact A5e hi
 simp only[go_sem,seval,dm,dc,dc1,f1,hM,ne0];repeat' ((with_reducible first|refine wr ?_|refine k_cu ?_ ?_|refine wb2 ?_ ?_<;>(intro hb;try simp only[hb])|fail)<;>try simp only[go_sem,seval,dm,dc,dc1,f1,hM,ne0])
 refine⟨_,_,GL.less' (W0 (x:=x.ask ⟨op,A,b,d,[]⟩) (m:=m) (v:=v) (so:=so) (eo:=some (cc+1+17)) (junk:=junk) (M:=vmB c e (x.ask ⟨op,A,b,d,[]⟩) v so (some (cc+1+17))) ?_ ?_ (fun i hi=>?_) (fun i hi=>?_)),rfl,cc+1+17,by omega,by omega,rfl⟩
 ·rw[A7];simp[Mch.ask,C7]
 ·rw[hnO,hnO,D8 (fun j hj e=>(h5 j hj).2.1 e.symm),hnO,hnO];exact Q2 hn
 ·have:=h4 i hi;rw[hnO,hnO,D8 (fun j hj=>h6 i j hi hj),hnO,hnO];exact A7f hn hi
 ·cases hi;rw[hnO,A7];simp[Mch.ask,A1p,A1n]
end
end Go.Proofs.YtkkjpohaffjecaaGreatDoor
set_option maxHeartbeats 8000000
namespace Go.Proofs.YtkkjpohaffjecaaGreatDoor
open Go.Eng (IC IOper DReg IFn G8)
open Go.Sym Go.Pb
abbrev x55:XT Tryz.prog 55:=mkF
instance t55:FT Tryz.prog 55 x55.d:=x55.ft
abbrev B8(c:Prg)(e:Envr)(x:Mch)(m v:Nat)(r:DV)(H':Hp)(c':Nat):Prop :=
 r=.tup []/\∃ so' eo' junk',MN m v so' eo' x c'/\H'=VM c e x m v so' eo' junk'
theorem B5{c:Prg}{e:Envr}{x z:Mch}{m v c' k:Nat}{so eo:Option Nat}{junk:List DV}{B:Blk}{r:DV}(hn:MN m v so eo z c')(hk:VM c e z m v so eo junk k=none)(hz:z=x)(hr:r=.tup []):
  ∃ v2 H2,GL ((VM c e z m v so eo junk).upd k B) [r] H2 [v2]/\B8 c e x m v v2 H2 c':=by
 subst hz hr;exact⟨_,_,GL.less' (Sub.upd (Sub.refl _) B hk),rfl,so,eo,junk,hn,rfl⟩
theorem X1{c:Prg}{e:Envr}{x z:Mch}{m v c':Nat}{so eo:Option Nat}{junk:List DV}{X:Hp}{r:DV}(hn:MN m v so eo z c')(hm:X m=some (vmB c e z v so eo))(hv:X v=some ⟨1,true,z.vars.map I64⟩)
  (hs:∀ i,so=some i->X i=some ⟨1,true,z.stk.reverse.map I64++junk⟩) (he:∀ i,eo=some i->X i=some ⟨5,true,M9 z.effs⟩) (hz:z=x) (hr:r=.tup []) :
  ∃ v2 H2,GL X [r] H2 [v2]/\B8 c e x m v v2 H2 c':=by
 subst hz hr;exact⟨_,_,GL.less' (W0 hm hv hs he),rfl,so,eo,junk,hn,rfl⟩
section
variable {c:Prg} {e:Envr} {x:Mch} {m v cc:Nat} {so eo:Option Nat} {junk:List DV}
theorem B4(h:MN m v so eo x cc){op A:Int}(s:StepOk c e x ⟨op,A⟩):∃ y:Mch,C8 c e x=opM c e op A y/\y.stk=x.stk/\y.effs=x.effs/\y.vars=x.vars/\(∀ c',cc<=c'->MN m v so eo y c') /\
  (∀ B:Blk,((VM c e x m v so eo junk).upd (cc+11) B).upd m ⟨0,true,mcC c e v x.vars.length ((x.pc+1:Nat):Int) x.done (C7 so x.stk.length) (C7 eo x.effs.length)⟩=(VM c e y m v so eo junk).upd (cc+11) B) /\
  VM c e y m v so eo junk m=some (vmB c e y v so eo)/\VM c e y m v so eo junk v=some ⟨1,true,y.vars.map I64⟩/\VM c e y m v so eo junk (cc+11)=none/\y.stk.length<=1000/\y.effs.length<=1000 /\
  IntKind.i64.wrap ((x.pc:Int)+1)=((x.pc+1:Nat):Int)/\VM c e x m v so eo junk m=some (vmB c e x v so eo)/\m<cc/\v<cc/\m≠v/\c.prios.length<=16:=by
 obtain⟨s1,s2,s3,s4,s5,s6,s7,s8,s9,s10,s11,s12⟩:=s;obtain⟨d1,d2,d3,d4,d5,d6,d7,d8,d9⟩:=Lim.dims s1;have hpc:x.pc<c.instrs.length:=(A0M.1 s2).1;obtain⟨y,hy⟩:∃ y:Mch,y = { x with pc:=x.pc+1 }:=⟨_,rfl⟩;have y1:y.stk=x.stk:=by rw[hy]
 have y2:y.effs=x.effs:=by rw[hy]
 have y3:y.vars=x.vars:=by rw[hy]
 have hN:∀ c',cc<=c'->MN m v so eo y c':=fun c' hc=>h.keep hc (by rw[y1];exact h.sn) (by rw[y2];exact h.en);have hmc:=h.mc;exact⟨y,by simp[C8,List.getD,s2,hy],y1,y2,y3,hN,fun B=>by subst hy;exact W1 h (by omega) B _,Q3 (hN cc (A0C _)),Q2 (hN cc (A0C _)),F5 (hN cc (A0C _)) (by omega),by rw[y1];exact s8,by rw[y2];exact s9,
  by rw[w6z (by omega)];omega,Q3 h,hmc,h.vc,h.mv,d4⟩
theorem c_vstep_1(h:MN m v so eo x cc){op:Int}(ho:op=1\/op=7\/op=8)(A:Int)(s:StepOk c e x ⟨op,A⟩):AC Tryz.prog 55 [.ptr m 0] (VM c e x m v so eo junk) cc (B8 c e (C8 c e x) m v):=by
 rcases ho with rfl|rfl|rfl
 all_goals
  obtain⟨y,hst,y1,y2,y3,hN,hcom,hY,hV,hk,l1,l2,hw,hM,hmc,hvc,hmv,d4⟩:=B4 (junk:=junk) h s;obtain⟨s1,s2,s3,s4,s5,s6,s7,s8,s9,s10,s11,s12⟩:=s;refine AC.bodyT A1 rfl (A0E rfl) fun hfr=>?_;have hn:=hN (cc+13) (by omega);rw[hst];clear s8 s9 hst;have ne0:=L3 m v cc (cc+11) (by omega);repeat' ((with_reducible first|refine wr ?_|refine k_cu ?_ ?_|refine wb2 ?_ ?_<;>(intro hb;try simp only[hb])|fail)<;>try simp only[go_sem,seval,hM,hw,s2,C4,hcom,hY,hV,ne0])
  refine AC.call ((c_vput (hN _ (by omega)) (by omega) _).beside hk _) ?_;rintro r H' c9 ⟨H9,⟨rfl,i2,q1,q2,rfl⟩,hk9,rfl⟩ hc9;simp only[go_sem,seval];repeat' ((with_reducible first|refine wr ?_|refine k_cu ?_ ?_|refine wb2 ?_ ?_<;>(intro hb;try simp only[hb])|fail)<;>try simp only[go_sem,seval])
  exact B5 ((hN _ (by omega)).newS q1 q2 rfl) hk9 rfl rfl
theorem c_vstep_2(h:MN m v so eo x cc)(A:Int)(s:StepOk c e x ⟨2,A⟩):AC Tryz.prog 55 [.ptr m 0] (VM c e x m v so eo junk) cc (B8 c e (C8 c e x) m v):=by
 obtain⟨y,hst,y1,y2,y3,hN,hcom,hY,hV,hk,l1,l2,hw,hM,hmc,hvc,hmv,d4⟩:=B4 (junk:=junk) h s;obtain⟨s1,s2,s3,s4,s5,s6,s7,s8,s9,s10,s11,s12⟩:=s;refine AC.bodyT A1 rfl (A0E rfl) fun hfr=>?_;have hn:=hN (cc+13) (by omega);rw[hst];clear s8 s9 hst;have ne0:=L3 m v cc (cc+11) (by omega);obtain⟨a,rfl,ha⟩:∃ a:Nat,A=(a:Int)/\a<y.vars.length:=by
  have h3:inM A 0 ((c.vars.length:Int)-1)=true:=s3;simp only[inM,A0B,A0J]at h3;exact⟨A.toNat,by omega,by rw[y3,s7];omega⟩
 have hg:y.vars[a]? = some (y.vars.getD a 0):=by rw[List.getD,A0F ha];rfl
 repeat' ((with_reducible first|refine wr ?_|refine k_cu ?_ ?_|refine wb2 ?_ ?_<;>(intro hb;try simp only[hb])|fail)<;>try simp only[go_sem,seval,hM,hw,s2,C4,hcom,hY,hV,ne0,hg,ha])
 refine AC.call ((c_vput (hN _ (by omega)) (by omega) _).beside hk _) ?_;rintro r H' c9 ⟨H9,⟨rfl,i2,q1,q2,rfl⟩,hk9,rfl⟩ hc9;simp only[go_sem,seval];repeat' ((with_reducible first|refine wr ?_|refine k_cu ?_ ?_|refine wb2 ?_ ?_<;>(intro hb;try simp only[hb])|fail)<;>try simp only[go_sem,seval])
 exact B5 ((hN _ (by omega)).newS q1 q2 rfl) hk9 rfl rfl
theorem c_vstep_6(h:MN m v so eo x cc)(A:Int)(s:StepOk c e x ⟨6,A⟩):AC Tryz.prog 55 [.ptr m 0] (VM c e x m v so eo junk) cc (B8 c e (C8 c e x) m v):=by
 obtain⟨y,hst,y1,y2,y3,hN,hcom,hY,hV,hk,l1,l2,hw,hM,hmc,hvc,hmv,d4⟩:=B4 (junk:=junk) h s;obtain⟨s1,s2,s3,s4,s5,s6,s7,s8,s9,s10,s11,s12⟩:=s;refine AC.bodyT A1 rfl (A0E rfl) fun hfr=>?_;have hn:=hN (cc+13) (by omega);rw[hst];clear s8 s9 hst;have ne0:=L3 m v cc (cc+11) (by omega);obtain⟨a,rfl,ha⟩:∃ a:Nat,A=(a:Int)/\a<e.left.length:=by
  have h3:inM A 0 (c.timers-1)=true:=s3;simp only[inM,A0B,A0J]at h3;exact⟨A.toNat,by omega,by omega⟩
 have hg:e.left[a]? = some (e.left.getD a 0):=by rw[List.getD,A0F ha];rfl
 repeat' ((with_reducible first|refine wr ?_|refine k_cu ?_ ?_|refine wb2 ?_ ?_<;>(intro hb;try simp only[hb])|fail)<;>try simp only[go_sem,seval,hM,hw,s2,C4,hcom,hY,hV,ne0,hg,ha])
 refine AC.call ((c_vput (hN _ (by omega)) (by omega) _).beside hk _) ?_;rintro r H' c9 ⟨H9,⟨rfl,i2,q1,q2,rfl⟩,hk9,rfl⟩ hc9;simp only[go_sem,seval];repeat' ((with_reducible first|refine wr ?_|refine k_cu ?_ ?_|refine wb2 ?_ ?_<;>(intro hb;try simp only[hb])|fail)<;>try simp only[go_sem,seval])
 exact B5 ((hN _ (by omega)).newS q1 q2 rfl) hk9 rfl rfl
theorem c_vstep_9(h:MN m v so eo x cc){op:Int}(ho:op=9\/op=10)(A:Int)(s:StepOk c e x ⟨op,A⟩):AC Tryz.prog 55 [.ptr m 0] (VM c e x m v so eo junk) cc (B8 c e (C8 c e x) m v):=by
 rcases ho with rfl|rfl
 all_goals
  obtain⟨y,hst,y1,y2,y3,hN,hcom,hY,hV,hk,l1,l2,hw,hM,hmc,hvc,hmv,d4⟩:=B4 (junk:=junk) h s;obtain⟨s1,s2,s3,s4,s5,s6,s7,s8,s9,s10,s11,s12⟩:=s;refine AC.bodyT A1 rfl (A0E rfl) fun hfr=>?_;have hn:=hN (cc+13) (by omega);rw[hst];clear s8 s9 hst;have ne0:=L3 m v cc (cc+11) (by omega);have s5':(1:Int)<=(x.stk.length:Int):=s5;obtain⟨n,S,hS⟩:∃ n S,y.stk=n :: S:=by
   rw[y1];cases hx:x.stk with
   |nil=>rw[hx]at s5';simp at s5'
   |cons n S=>exact⟨n,S,rfl⟩
  have ht:y.top=n:=by rw[Mch.top,hS];rfl
  have lp:y.pop.stk.length<=1000:=by rw[Mch.pop,hS];rw[hS,A0I]at l1;simp only[A1R];omega
  have hnp:∀ c',cc<=c'->MN m v so eo y.pop c':=fun c' hc=>h.keep hc (fun e=>by rw[hn.sn e]at hS;cases hS) hn.en;have fA:∀ J d,VM c e y.pop m v so eo J (cc+13+d)=none:=fun J d=>F5 (hnp cc (by omega)) (by omega);have fB:∀ J,VM c e y.pop m v so eo J (cc+13)=none:=fun J=>F5 (hnp cc (by omega)) (by omega);have hY2:∀ J,VM c e y.pop m v so eo J m=some (vmB c e y.pop v so eo):=fun J=>Q3 (hnp cc (by omega));have hV2:∀ J,VM c e y.pop m v so eo J v=some ⟨1,true,y.pop.vars.map I64⟩:=fun J=>Q2 (hnp cc (by omega));have pv:y.pop.vars=y.vars:=rfl;have pe:y.pop.effs=y.effs:=rfl;have pp:y.pop.pc=y.pc:=rfl;have pd:y.pop.done=y.done:=rfl;have nA:∀ d,¬ cc+13+d=cc+11:=fun d=>by omega
  have nB:¬ cc+13=cc+11:=by omega
  repeat' ((with_reducible first|refine wr ?_|refine k_cu ?_ ?_|refine wb2 ?_ ?_<;>(intro hb;try simp only[hb])|fail)<;>try simp only[go_sem,seval,hM,hw,s2,C4,hcom,hY,hV,ne0])
  refine AC.call ((c_vtake (hN _ (by omega)) (by omega) n S hS).beside hk _) ?_;rintro r H' c2 ⟨H2,⟨rfl,rfl⟩,hk2,rfl⟩ hc2;simp only[go_sem,seval];repeat' ((with_reducible first|refine wr ?_|refine cpc (c_Unary _ _) ?_|refine k_cu ?_ ?_|refine wb2 ?_ ?_<;>(intro hb;try simp only[hb])|fail)<;>try simp only[go_sem,seval])
  refine AC.call ((c_vput (hnp _ (by omega)) (by omega) _).beside hk2 _) ?_;rintro r H' c9 ⟨H9,⟨rfl,i2,q1,q2,rfl⟩,hk9,rfl⟩ hc9;simp only[go_sem,seval];repeat' ((with_reducible first|refine wr ?_|refine k_cu ?_ ?_|refine wb2 ?_ ?_<;>(intro hb;try simp only[hb])|fail)<;>try simp only[go_sem,seval])
  exact B5 ((hnp _ (by omega)).newS q1 q2 rfl) hk9 (by rw[<- ht];rfl) rfl
theorem c_vstep_11(h:MN m v so eo x cc)(A:Int)(s:StepOk c e x ⟨11,A⟩):AC Tryz.prog 55 [.ptr m 0] (VM c e x m v so eo junk) cc (B8 c e (C8 c e x) m v):=by
 obtain⟨y,hst,y1,y2,y3,hN,hcom,hY,hV,hk,l1,l2,hw,hM,hmc,hvc,hmv,d4⟩:=B4 (junk:=junk) h s;obtain⟨s1,s2,s3,s4,s5,s6,s7,s8,s9,s10,s11,s12⟩:=s;refine AC.bodyT A1 rfl (A0E rfl) fun hfr=>?_;have hn:=hN (cc+13) (by omega);rw[hst];clear s8 s9 hst;have ne0:=L3 m v cc (cc+11) (by omega);have s5':(2:Int)<=(x.stk.length:Int):=s5;obtain⟨n,n2,S,hS⟩:∃ n n2 S,y.stk=n :: n2 :: S:=by
  rw[y1]
  match hx:x.stk with
  |[]=>rw[hx]at s5';simp at s5'
  |[_]=>rw[hx]at s5';simp at s5'
  |n :: n2 :: S=>exact⟨n,n2,S,rfl⟩
 have ht:y.top=n:=by rw[Mch.top,hS];rfl
 have hS2:y.pop.stk=n2 :: S:=by rw[Mch.pop,hS];rfl
 have ht2:y.pop.top=n2:=by rw[Mch.top,hS2];rfl
 rw[hS,A0I,A0I]at l1;have l1':y.stk.length<=100000:=by rw[hS,A0I,A0I];omega
 have lp:y.pop.stk.length<=1000:=by rw[hS2,A0I];omega
 have lpp:y.pop.pop.stk.length<=1000:=by rw[Mch.pop,hS2];simp only[A1R];omega
 have hnp:∀ c',cc<=c'->MN m v so eo y.pop c':=fun c' hc=>h.keep hc (fun e=>by rw[hn.sn e]at hS;cases hS) hn.en;have fA:∀ J d,VM c e y.pop m v so eo J (cc+13+d)=none:=fun J d=>F5 (hnp cc (by omega)) (by omega);have fB:∀ J,VM c e y.pop m v so eo J (cc+13)=none:=fun J=>F5 (hnp cc (by omega)) (by omega);have hY2:∀ J,VM c e y.pop m v so eo J m=some (vmB c e y.pop v so eo):=fun J=>Q3 (hnp cc (by omega));have hV2:∀ J,VM c e y.pop m v so eo J v=some ⟨1,true,y.pop.vars.map I64⟩:=fun J=>Q2 (hnp cc (by omega));have pv:y.pop.vars=y.vars:=rfl;have pe:y.pop.effs=y.effs:=rfl;have pp:y.pop.pc=y.pc:=rfl;have pd:y.pop.done=y.done:=rfl;have nA:∀ d,¬ cc+13+d=cc+11:=fun d=>by omega
 have nB:¬ cc+13=cc+11:=by omega
 have hnpp:∀ c',cc<=c'->MN m v so eo y.pop.pop c':=fun c' hc=>h.keep hc (fun e=>by rw[hn.sn e]at hS;cases hS) hn.en;repeat' ((with_reducible first|refine wr ?_|refine k_cu ?_ ?_|refine wb2 ?_ ?_<;>(intro hb;try simp only[hb])|fail)<;>try simp only[go_sem,seval,hM,hw,s2,C4,hcom,hY,hV,ne0])
 refine AC.call ((c_vtake (hN _ (by omega)) (by exact l1') n (n2 :: S) hS).beside hk _) ?_;rintro r H' c2 ⟨H2,⟨rfl,rfl⟩,hk2,rfl⟩ hc2;simp only[go_sem,seval];repeat' ((with_reducible first|refine wr ?_|refine k_cu ?_ ?_|refine wb2 ?_ ?_<;>(intro hb;try simp only[hb])|fail)<;>try simp only[go_sem,seval])
 have fC:∀ J d,VM c e y.pop.pop m v so eo J (c2+d)=none:=fun J d=>F5 (hnpp cc (by omega)) (by omega);have fD:∀ J,VM c e y.pop.pop m v so eo J c2=none:=fun J=>F5 (hnpp cc (by omega)) (by omega);have nC:∀ d,¬ c2+d=cc+11:=fun d=>by omega
 have nD:¬ c2=cc+11:=by omega
 refine AC.call ((c_vtake (hnp _ (by omega)) (by omega) n2 S hS2).beside hk2 _) ?_;rintro r H' c3 ⟨H3,⟨rfl,rfl⟩,hk3,rfl⟩ hc3;simp only[go_sem,seval,fC,fD,nC,nD,ne0];repeat' ((with_reducible first|refine wr ?_|refine cpc (c_Binary _ _ _) ?_|refine k_cu ?_ ?_|refine wb2 ?_ ?_<;>(intro hb;try simp only[hb])|fail)<;>try simp only[go_sem,seval,fC,fD,nC,nD,ne0])
 refine AC.call ((c_vput (hnpp _ (by omega)) (by omega) _).beside hk3 _) ?_;rintro r H' c9 ⟨H9,⟨rfl,i2,q1,q2,rfl⟩,hk9,rfl⟩ hc9;simp only[go_sem,seval];repeat' ((with_reducible first|refine wr ?_|refine k_cu ?_ ?_|refine wb2 ?_ ?_<;>(intro hb;try simp only[hb])|fail)<;>try simp only[go_sem,seval])
 exact B5 ((hnpp _ (by omega)).newS q1 q2 rfl) hk9 (by rw[<- ht, <- ht2];rfl) rfl
theorem c_vstep_15(h:MN m v so eo x cc){op:Int}(ho:op=15\/op=19\/op=21)(A:Int)(s:StepOk c e x ⟨op,A⟩):AC Tryz.prog 55 [.ptr m 0] (VM c e x m v so eo junk) cc (B8 c e (C8 c e x) m v):=by
 rcases ho with rfl|rfl|rfl
 all_goals
  obtain⟨y,hst,y1,y2,y3,hN,hcom,hY,hV,hk,l1,l2,hw,hM,hmc,hvc,hmv,d4⟩:=B4 (junk:=junk) h s;obtain⟨s1,s2,s3,s4,s5,s6,s7,s8,s9,s10,s11,s12⟩:=s;refine AC.bodyT A1 rfl (A0E rfl) fun hfr=>?_;have hn:=hN (cc+13) (by omega);rw[hst];clear s8 s9 hst;have ne0:=L3 m v cc (cc+11) (by omega);have s5':(1:Int)<=(x.stk.length:Int):=s5;obtain⟨n,S,hS⟩:∃ n S,y.stk=n :: S:=by
   rw[y1];cases hx:x.stk with
   |nil=>rw[hx]at s5';simp at s5'
   |cons n S=>exact⟨n,S,rfl⟩
  have ht:y.top=n:=by rw[Mch.top,hS];rfl
  have lp:y.pop.stk.length<=1000:=by rw[Mch.pop,hS];rw[hS,A0I]at l1;simp only[A1R];omega
  have hnp:∀ c',cc<=c'->MN m v so eo y.pop c':=fun c' hc=>h.keep hc (fun e=>by rw[hn.sn e]at hS;cases hS) hn.en;have fA:∀ J d,VM c e y.pop m v so eo J (cc+13+d)=none:=fun J d=>F5 (hnp cc (by omega)) (by omega);have fB:∀ J,VM c e y.pop m v so eo J (cc+13)=none:=fun J=>F5 (hnp cc (by omega)) (by omega);have hY2:∀ J,VM c e y.pop m v so eo J m=some (vmB c e y.pop v so eo):=fun J=>Q3 (hnp cc (by omega));have hV2:∀ J,VM c e y.pop m v so eo J v=some ⟨1,true,y.pop.vars.map I64⟩:=fun J=>Q2 (hnp cc (by omega));have pv:y.pop.vars=y.vars:=rfl;have pe:y.pop.effs=y.effs:=rfl;have pp:y.pop.pc=y.pc:=rfl;have pd:y.pop.done=y.done:=rfl;have nA:∀ d,¬ cc+13+d=cc+11:=fun d=>by omega
  have nB:¬ cc+13=cc+11:=by omega
  repeat' ((with_reducible first|refine wr ?_|refine k_cu ?_ ?_|refine wb2 ?_ ?_<;>(intro hb;try simp only[hb])|fail)<;>try simp only[go_sem,seval,hM,hw,s2,C4,hcom,hY,hV,ne0])
  refine AC.call ((c_vtake (hN _ (by omega)) (by omega) n S hS).beside hk _) ?_;rintro r H' c2 ⟨H2,⟨rfl,rfl⟩,hk2,rfl⟩ hc2;simp only[go_sem,seval,fA,fB,nA,nB,ne0];repeat' ((with_reducible first|refine wr ?_|refine k_cu ?_ ?_|refine wb2 ?_ ?_<;>(intro hb;try simp only[hb])|fail)<;>try simp only[go_sem,seval,fA,fB,nA,nB,ne0])
  refine AC.call ((c_veff (hnp _ (by omega)) (by show y.effs.length<=_;omega) _ A n 0).beside hk2 _) ?_;rintro r H' c9 ⟨H9,⟨rfl,i2,q1,q2,rfl⟩,hk9,rfl⟩ hc9;simp only[go_sem,seval];repeat' ((with_reducible first|refine wr ?_|refine k_cu ?_ ?_|refine wb2 ?_ ?_<;>(intro hb;try simp only[hb])|fail)<;>try simp only[go_sem,seval])
  exact B5 ((hnp _ (by omega)).newE q1 q2 rfl) hk9 (by rw[<- ht];rfl) rfl
theorem c_vstep_20(h:MN m v so eo x cc)(A:Int)(s:StepOk c e x ⟨20,A⟩):AC Tryz.prog 55 [.ptr m 0] (VM c e x m v so eo junk) cc (B8 c e (C8 c e x) m v):=by
 obtain⟨y,hst,y1,y2,y3,hN,hcom,hY,hV,hk,l1,l2,hw,hM,hmc,hvc,hmv,d4⟩:=B4 (junk:=junk) h s;obtain⟨s1,s2,s3,s4,s5,s6,s7,s8,s9,s10,s11,s12⟩:=s;refine AC.bodyT A1 rfl (A0E rfl) fun hfr=>?_;have hn:=hN (cc+13) (by omega);rw[hst];clear s8 s9 hst;have ne0:=L3 m v cc (cc+11) (by omega);have s5':(2:Int)<=(x.stk.length:Int):=s5;obtain⟨n,n2,S,hS⟩:∃ n n2 S,y.stk=n :: n2 :: S:=by
  rw[y1]
  match hx:x.stk with
  |[]=>rw[hx]at s5';simp at s5'
  |[_]=>rw[hx]at s5';simp at s5'
  |n :: n2 :: S=>exact⟨n,n2,S,rfl⟩
 have ht:y.top=n:=by rw[Mch.top,hS];rfl
 have hS2:y.pop.stk=n2 :: S:=by rw[Mch.pop,hS];rfl
 have ht2:y.pop.top=n2:=by rw[Mch.top,hS2];rfl
 rw[hS,A0I,A0I]at l1;have l1':y.stk.length<=100000:=by rw[hS,A0I,A0I];omega
 have lp:y.pop.stk.length<=1000:=by rw[hS2,A0I];omega
 have lpp:y.pop.pop.stk.length<=1000:=by rw[Mch.pop,hS2];simp only[A1R];omega
 have hnp:∀ c',cc<=c'->MN m v so eo y.pop c':=fun c' hc=>h.keep hc (fun e=>by rw[hn.sn e]at hS;cases hS) hn.en;have fA:∀ J d,VM c e y.pop m v so eo J (cc+13+d)=none:=fun J d=>F5 (hnp cc (by omega)) (by omega);have fB:∀ J,VM c e y.pop m v so eo J (cc+13)=none:=fun J=>F5 (hnp cc (by omega)) (by omega);have hY2:∀ J,VM c e y.pop m v so eo J m=some (vmB c e y.pop v so eo):=fun J=>Q3 (hnp cc (by omega));have hV2:∀ J,VM c e y.pop m v so eo J v=some ⟨1,true,y.pop.vars.map I64⟩:=fun J=>Q2 (hnp cc (by omega));have pv:y.pop.vars=y.vars:=rfl;have pe:y.pop.effs=y.effs:=rfl;have pp:y.pop.pc=y.pc:=rfl;have pd:y.pop.done=y.done:=rfl;have nA:∀ d,¬ cc+13+d=cc+11:=fun d=>by omega
 have nB:¬ cc+13=cc+11:=by omega
 have hnpp:∀ c',cc<=c'->MN m v so eo y.pop.pop c':=fun c' hc=>h.keep hc (fun e=>by rw[hn.sn e]at hS;cases hS) hn.en;repeat' ((with_reducible first|refine wr ?_|refine k_cu ?_ ?_|refine wb2 ?_ ?_<;>(intro hb;try simp only[hb])|fail)<;>try simp only[go_sem,seval,hM,hw,s2,C4,hcom,hY,hV,ne0])
 refine AC.call ((c_vtake (hN _ (by omega)) (by exact l1') n (n2 :: S) hS).beside hk _) ?_;rintro r H' c2 ⟨H2,⟨rfl,rfl⟩,hk2,rfl⟩ hc2;simp only[go_sem,seval];repeat' ((with_reducible first|refine wr ?_|refine k_cu ?_ ?_|refine wb2 ?_ ?_<;>(intro hb;try simp only[hb])|fail)<;>try simp only[go_sem,seval])
 have fC:∀ J d,VM c e y.pop.pop m v so eo J (c2+d)=none:=fun J d=>F5 (hnpp cc (by omega)) (by omega);have fD:∀ J,VM c e y.pop.pop m v so eo J c2=none:=fun J=>F5 (hnpp cc (by omega)) (by omega);have nC:∀ d,¬ c2+d=cc+11:=fun d=>by omega
 have nD:¬ c2=cc+11:=by omega
 refine AC.call ((c_vtake (hnp _ (by omega)) (by omega) n2 S hS2).beside hk2 _) ?_;rintro r H' c3 ⟨H3,⟨rfl,rfl⟩,hk3,rfl⟩ hc3;simp only[go_sem,seval,fC,fD,nC,nD,ne0];repeat' ((with_reducible first|refine wr ?_|refine k_cu ?_ ?_|refine wb2 ?_ ?_<;>(intro hb;try simp only[hb])|fail)<;>try simp only[go_sem,seval,fC,fD,nC,nD,ne0])
 refine AC.call ((c_veff (hnpp _ (by omega)) (by show y.effs.length<=_;omega) _ A n2 n).beside hk3 _) ?_;rintro r H' c9 ⟨H9,⟨rfl,i2,q1,q2,rfl⟩,hk9,rfl⟩ hc9;simp only[go_sem,seval];repeat' ((with_reducible first|refine wr ?_|refine k_cu ?_ ?_|refine wb2 ?_ ?_<;>(intro hb;try simp only[hb])|fail)<;>try simp only[go_sem,seval])
 exact B5 ((hnpp _ (by omega)).newE q1 q2 rfl) hk9 (by rw[<- ht, <- ht2];rfl) rfl
theorem c_vstep_16(h:MN m v so eo x cc){op:Int}(ho:op=16\/op=17\/op=18\/op=22\/op=23\/op=24\/op=25\/op=26\/op=27\/op=28\/op=30)(A:Int)(s:StepOk c e x ⟨op,A⟩):AC Tryz.prog 55 [.ptr m 0] (VM c e x m v so eo junk) cc (B8 c e (C8 c e x) m v):=by
 rcases ho with rfl|rfl|rfl|rfl|rfl|rfl|rfl|rfl|rfl|rfl|rfl
 all_goals
  obtain⟨y,hst,y1,y2,y3,hN,hcom,hY,hV,hk,l1,l2,hw,hM,hmc,hvc,hmv,d4⟩:=B4 (junk:=junk) h s;obtain⟨s1,s2,s3,s4,s5,s6,s7,s8,s9,s10,s11,s12⟩:=s;refine AC.bodyT A1 rfl (A0E rfl) fun hfr=>?_;have hn:=hN (cc+13) (by omega);rw[hst];clear s8 s9 hst;have ne0:=L3 m v cc (cc+11) (by omega);repeat' ((with_reducible first|refine wr ?_|refine k_cu ?_ ?_|refine wb2 ?_ ?_<;>(intro hb;try simp only[hb])|fail)<;>try simp only[go_sem,seval,hM,hw,s2,C4,hcom,hY,hV,ne0])
  refine AC.call ((c_veff (hN _ (by omega)) (by omega) _ A 0 0).beside hk _) ?_;rintro r H' c9 ⟨H9,⟨rfl,i2,q1,q2,rfl⟩,hk9,rfl⟩ hc9;simp only[go_sem,seval];repeat' ((with_reducible first|refine wr ?_|refine k_cu ?_ ?_|refine wb2 ?_ ?_<;>(intro hb;try simp only[hb])|fail)<;>try simp only[go_sem,seval])
  exact B5 ((hN _ (by omega)).newE q1 q2 rfl) hk9 rfl rfl
theorem c_vstep_4(h:MN m v so eo x cc)(A:Int)(s:StepOk c e x ⟨4,A⟩):AC Tryz.prog 55 [.ptr m 0] (VM c e x m v so eo junk) cc (B8 c e (C8 c e x) m v):=by
 obtain⟨y,hst,y1,y2,y3,hN,hcom,hY,hV,hk,l1,l2,hw,hM,hmc,hvc,hmv,d4⟩:=B4 (junk:=junk) h s;obtain⟨s1,s2,s3,s4,s5,s6,s7,s8,s9,s10,s11,s12⟩:=s;refine AC.bodyT A1 rfl (A0E rfl) fun hfr=>?_;have hn:=hN (cc+13) (by omega);rw[hst];clear s8 s9 hst;have ne0:=L3 m v cc (cc+11) (by omega);obtain⟨a,rfl,ha⟩:∃ a:Nat,A=(a:Int)/\a<=63:=by
  have h3:inM A 0 63=true:=s3;simp only[inM,A0B,A0J]at h3;exact⟨A.toNat,by omega,by omega⟩
 have f1:binR .shr (.int .u64 (e.closed:Int)) (.int .i64 (a:Int))=some (.int .u64 ((e.closed / 2 ^ a:Nat):Int)):=Z0 (by simp only[IntKind.bits];omega);have f0:e.closed / 2 ^ a<=e.closed:=Nat.div_le_self _ _;have f2:=A8q (q:=e.closed / 2 ^ a) (by omega);have f3:=w64 (n:=((e.closed / 2 ^ a % 2:Nat):Int));have f5:=A9h (n:=(a:Int)) (by omega) (by omega);repeat' ((with_reducible first|refine wr ?_|refine k_cu ?_ ?_|refine wb2 ?_ ?_<;>(intro hb;try simp only[hb])|fail)<;>try simp only[go_sem,seval,hM,hw,s2,C4,hcom,hY,hV,ne0,f1,f2,f3])
 refine AC.call ((c_vput (hN _ (by omega)) (by omega) _).beside hk _) ?_;rintro r H' c9 ⟨H9,⟨rfl,i2,q1,q2,rfl⟩,hk9,rfl⟩ hc9;simp only[go_sem,seval];repeat' ((with_reducible first|refine wr ?_|refine k_cu ?_ ?_|refine wb2 ?_ ?_<;>(intro hb;try simp only[hb])|fail)<;>try simp only[go_sem,seval])
 exact B5 ((hN _ (by omega)).newS q1 q2 rfl) hk9 rfl rfl
theorem c_vstep_5(h:MN m v so eo x cc)(A:Int)(s:StepOk c e x ⟨5,A⟩):AC Tryz.prog 55 [.ptr m 0] (VM c e x m v so eo junk) cc (B8 c e (C8 c e x) m v):=by
 obtain⟨y,hst,y1,y2,y3,hN,hcom,hY,hV,hk,l1,l2,hw,hM,hmc,hvc,hmv,d4⟩:=B4 (junk:=junk) h s;obtain⟨s1,s2,s3,s4,s5,s6,s7,s8,s9,s10,s11,s12⟩:=s;refine AC.bodyT A1 rfl (A0E rfl) fun hfr=>?_;have hn:=hN (cc+13) (by omega);rw[hst];clear s8 s9 hst;have ne0:=L3 m v cc (cc+11) (by omega);obtain⟨a,rfl,ha⟩:∃ a:Nat,A=(a:Int)/\a<=16:=by
  have h3:inM A 0 ((c.prios.length:Int)-1)=true:=s3;simp only[inM,A0B,A0J]at h3;exact⟨A.toNat,by omega,by omega⟩
 have f1:binR .shr (.int .u32 (e.active:Int)) (.int .i64 (a:Int))=some (.int .u32 ((e.active / 2 ^ a:Nat):Int)):=Z0 (by simp only[IntKind.bits];omega);have f0:e.active / 2 ^ a<=e.active:=Nat.div_le_self _ _;have f2:=A8r (q:=e.active / 2 ^ a) (by omega);have f3:=w64 (n:=((e.active / 2 ^ a % 2:Nat):Int));have f5:=A9h (n:=(a:Int)) (by omega) (by omega);repeat' ((with_reducible first|refine wr ?_|refine k_cu ?_ ?_|refine wb2 ?_ ?_<;>(intro hb;try simp only[hb])|fail)<;>try simp only[go_sem,seval,hM,hw,s2,C4,hcom,hY,hV,ne0,f1,f2,f3])
 refine AC.call ((c_vput (hN _ (by omega)) (by omega) _).beside hk _) ?_;rintro r H' c9 ⟨H9,⟨rfl,i2,q1,q2,rfl⟩,hk9,rfl⟩ hc9;simp only[go_sem,seval];repeat' ((with_reducible first|refine wr ?_|refine k_cu ?_ ?_|refine wb2 ?_ ?_<;>(intro hb;try simp only[hb])|fail)<;>try simp only[go_sem,seval])
 exact B5 ((hN _ (by omega)).newS q1 q2 rfl) hk9 rfl rfl
theorem c_vstep_12(h:MN m v so eo x cc)(A:Int)(s:StepOk c e x ⟨12,A⟩):AC Tryz.prog 55 [.ptr m 0] (VM c e x m v so eo junk) cc (B8 c e (C8 c e x) m v):=by
 obtain⟨y,hst,y1,y2,y3,hN,hcom,hY,hV,hk,l1,l2,hw,hM,hmc,hvc,hmv,d4⟩:=B4 (junk:=junk) h s;obtain⟨s1,s2,s3,s4,s5,s6,s7,s8,s9,s10,s11,s12⟩:=s;refine AC.bodyT A1 rfl (A0E rfl) fun hfr=>?_;have hn:=hN (cc+13) (by omega);rw[hst];clear s8 s9 hst;have ne0:=L3 m v cc (cc+11) (by omega);obtain⟨a,rfl⟩:∃ a:Nat,A=(a:Int):=⟨A.toNat,by have h4:0<=A:=(s4 (by simp)).1;omega⟩;have hj:∀ B:Blk,((VM c e y m v so eo junk).upd (cc+11) B).upd m ⟨0,true,mcC c e v y.vars.length (a:Int) y.done (C7 so y.stk.length) (C7 eo y.effs.length)⟩=(VM c e { y with pc:=a } m v so eo junk).upd (cc+11) B:=fun B=>W1 (hN _ (A0C _)) (by omega) B _;repeat' ((with_reducible first|refine wr ?_|refine k_cu ?_ ?_|refine wb2 ?_ ?_<;>(intro hb;try simp only[hb])|fail)<;>try simp only[go_sem,seval,hM,hw,s2,C4,hcom,hY,hV,ne0,hj])
 exact B5 ((hN _ (by omega)).keep (x':={ y with pc:=a }) (A0C _) hn.sn hn.en) (F5 (cc:=cc) ((hN _ (A0C _)).keep (A0C _) hn.sn hn.en) (by omega)) rfl rfl
theorem c_vstep_31(h:MN m v so eo x cc)(A:Int)(s:StepOk c e x ⟨31,A⟩):AC Tryz.prog 55 [.ptr m 0] (VM c e x m v so eo junk) cc (B8 c e (C8 c e x) m v):=by
 obtain⟨y,hst,y1,y2,y3,hN,hcom,hY,hV,hk,l1,l2,hw,hM,hmc,hvc,hmv,d4⟩:=B4 (junk:=junk) h s;obtain⟨s1,s2,s3,s4,s5,s6,s7,s8,s9,s10,s11,s12⟩:=s;refine AC.bodyT A1 rfl (A0E rfl) fun hfr=>?_;have hn:=hN (cc+13) (by omega);rw[hst];clear s8 s9 hst;have ne0:=L3 m v cc (cc+11) (by omega);have hj:∀ B:Blk,((VM c e y m v so eo junk).upd (cc+11) B).upd m ⟨0,true,mcC c e v y.vars.length (y.pc:Int) true (C7 so y.stk.length) (C7 eo y.effs.length)⟩=(VM c e { y with done:=true } m v so eo junk).upd (cc+11) B:=fun B=>W1 (hN _ (A0C _)) (by omega) B _;repeat' ((with_reducible first|refine wr ?_|refine k_cu ?_ ?_|refine wb2 ?_ ?_<;>(intro hb;try simp only[hb])|fail)<;>try simp only[go_sem,seval,hM,hw,s2,C4,hcom,hY,hV,ne0,hj])
 exact B5 ((hN _ (by omega)).keep (x':={ y with done:=true }) (A0C _) hn.sn hn.en) (F5 (cc:=cc) ((hN _ (A0C _)).keep (A0C _) hn.sn hn.en) (by omega)) rfl rfl
theorem c_vstep_13(h:MN m v so eo x cc)(A:Int)(s:StepOk c e x ⟨13,A⟩):AC Tryz.prog 55 [.ptr m 0] (VM c e x m v so eo junk) cc (B8 c e (C8 c e x) m v):=by
 obtain⟨y,hst,y1,y2,y3,hN,hcom,hY,hV,hk,l1,l2,hw,hM,hmc,hvc,hmv,d4⟩:=B4 (junk:=junk) h s;obtain⟨s1,s2,s3,s4,s5,s6,s7,s8,s9,s10,s11,s12⟩:=s;refine AC.bodyT A1 rfl (A0E rfl) fun hfr=>?_;have hn:=hN (cc+13) (by omega);rw[hst];clear s8 s9 hst;have ne0:=L3 m v cc (cc+11) (by omega);obtain⟨a,rfl⟩:∃ a:Nat,A=(a:Int):=⟨A.toNat,by have h4:0<=A:=(s4 (by simp)).1;omega⟩;have s5':(1:Int)<=(x.stk.length:Int):=s5;obtain⟨n,S,hS⟩:∃ n S,y.stk=n :: S:=by
  rw[y1];cases hx:x.stk with
  |nil=>rw[hx]at s5';simp at s5'
  |cons n S=>exact⟨n,S,rfl⟩
 have ht:y.top=n:=by rw[Mch.top,hS];rfl
 have lp:y.pop.stk.length<=1000:=by rw[Mch.pop,hS];rw[hS,A0I]at l1;simp only[A1R];omega
 have hnp:∀ c',cc<=c'->MN m v so eo y.pop c':=fun c' hc=>h.keep hc (fun e=>by rw[hn.sn e]at hS;cases hS) hn.en;have fA:∀ J d,VM c e y.pop m v so eo J (cc+13+d)=none:=fun J d=>F5 (hnp cc (by omega)) (by omega);have fB:∀ J,VM c e y.pop m v so eo J (cc+13)=none:=fun J=>F5 (hnp cc (by omega)) (by omega);have hY2:∀ J,VM c e y.pop m v so eo J m=some (vmB c e y.pop v so eo):=fun J=>Q3 (hnp cc (by omega));have hV2:∀ J,VM c e y.pop m v so eo J v=some ⟨1,true,y.pop.vars.map I64⟩:=fun J=>Q2 (hnp cc (by omega));have pv:y.pop.vars=y.vars:=rfl;have pe:y.pop.effs=y.effs:=rfl;have pp:y.pop.pc=y.pc:=rfl;have pd:y.pop.done=y.done:=rfl;have nA:∀ d,¬ cc+13+d=cc+11:=fun d=>by omega
 have nB:¬ cc+13=cc+11:=by omega
 have hps:so=none->y.pop.stk=[]:=fun e=>by rw[hn.sn e]at hS;cases hS
 have hj:∀ B:Blk,((VM c e y.pop m v so eo (I64 n :: junk)).upd (cc+11) B).upd m ⟨0,true,mcC c e v y.vars.length (a:Int) y.done (C7 so y.pop.stk.length) (C7 eo y.effs.length)⟩=(VM c e { y.pop with pc:=a } m v so eo (I64 n :: junk)).upd (cc+11) B:=fun B=>W1 (hnp _ (A0C _)) (by omega) B _;by_cases h0:n=0
 ·have hz:(n == 0)=true:=by simp[h0]
  repeat' ((with_reducible first|refine wr ?_|refine k_cu ?_ ?_|refine wb2 ?_ ?_<;>(intro hb;try simp only[hb])|fail)<;>try simp only[go_sem,seval,hM,hw,s2,C4,hcom,hY,hV,ne0])
  refine AC.call ((c_vtake (hN _ (by omega)) (by omega) n S hS).beside hk _) ?_;rintro r H' c2 ⟨H2,⟨rfl,rfl⟩,hk2,rfl⟩ hc2;simp only[go_sem,seval,hz,hY2,pv,pe,pp,pd,hj,ne0];repeat' ((with_reducible first|refine wr ?_|refine k_cu ?_ ?_|refine wb2 ?_ ?_<;>(intro hb;try simp only[hb])|fail)<;>try simp only[go_sem,seval,hz,hY2,pv,pe,pp,pd,hj,ne0])
  exact B5 ((hnp _ (by omega)).keep (x':={ y.pop with pc:=a }) (A0C _) hps hn.en) (F5 (cc:=cc) ((hnp _ (A0C _)).keep (A0C _) hps hn.en) (by omega)) (by simp[opM,ht,h0];exact⟨rfl,rfl,rfl⟩) rfl
 ·have hz:(n == 0)=false:=by simp[h0]
  repeat' ((with_reducible first|refine wr ?_|refine k_cu ?_ ?_|refine wb2 ?_ ?_<;>(intro hb;try simp only[hb])|fail)<;>try simp only[go_sem,seval,hM,hw,s2,C4,hcom,hY,hV,ne0])
  refine AC.call ((c_vtake (hN _ (by omega)) (by omega) n S hS).beside hk _) ?_;rintro r H' c2 ⟨H2,⟨rfl,rfl⟩,hk2,rfl⟩ hc2;simp only[go_sem,seval,hz,hY2,pv,pe,pp,pd,ne0];repeat' ((with_reducible first|refine wr ?_|refine k_cu ?_ ?_|refine wb2 ?_ ?_<;>(intro hb;try simp only[hb])|fail)<;>try simp only[go_sem,seval,hz,hY2,pv,pe,pp,pd,ne0])
  exact B5 (hnp _ (by omega)) hk2 (by simp[opM,ht,h0]) rfl
theorem c_vstep_14(h:MN m v so eo x cc)(A:Int)(s:StepOk c e x ⟨14,A⟩):AC Tryz.prog 55 [.ptr m 0] (VM c e x m v so eo junk) cc (B8 c e (C8 c e x) m v):=by
 obtain⟨y,hst,y1,y2,y3,hN,hcom,hY,hV,hk,l1,l2,hw,hM,hmc,hvc,hmv,d4⟩:=B4 (junk:=junk) h s;obtain⟨s1,s2,s3,s4,s5,s6,s7,s8,s9,s10,s11,s12⟩:=s;refine AC.bodyT A1 rfl (A0E rfl) fun hfr=>?_;have hn:=hN (cc+13) (by omega);rw[hst];clear s8 s9 hst;have ne0:=L3 m v cc (cc+11) (by omega);obtain⟨a,rfl⟩:∃ a:Nat,A=(a:Int):=⟨A.toNat,by have h4:0<=A:=(s4 (by simp)).1;omega⟩;have s5':(1:Int)<=(x.stk.length:Int):=s5;obtain⟨n,S,hS⟩:∃ n S,y.stk=n :: S:=by
  rw[y1];cases hx:x.stk with
  |nil=>rw[hx]at s5';simp at s5'
  |cons n S=>exact⟨n,S,rfl⟩
 have ht:y.top=n:=by rw[Mch.top,hS];rfl
 have lp:y.pop.stk.length<=1000:=by rw[Mch.pop,hS];rw[hS,A0I]at l1;simp only[A1R];omega
 have hnp:∀ c',cc<=c'->MN m v so eo y.pop c':=fun c' hc=>h.keep hc (fun e=>by rw[hn.sn e]at hS;cases hS) hn.en;have fA:∀ J d,VM c e y.pop m v so eo J (cc+13+d)=none:=fun J d=>F5 (hnp cc (by omega)) (by omega);have fB:∀ J,VM c e y.pop m v so eo J (cc+13)=none:=fun J=>F5 (hnp cc (by omega)) (by omega);have hY2:∀ J,VM c e y.pop m v so eo J m=some (vmB c e y.pop v so eo):=fun J=>Q3 (hnp cc (by omega));have hV2:∀ J,VM c e y.pop m v so eo J v=some ⟨1,true,y.pop.vars.map I64⟩:=fun J=>Q2 (hnp cc (by omega));have pv:y.pop.vars=y.vars:=rfl;have pe:y.pop.effs=y.effs:=rfl;have pp:y.pop.pc=y.pc:=rfl;have pd:y.pop.done=y.done:=rfl;have nA:∀ d,¬ cc+13+d=cc+11:=fun d=>by omega
 have nB:¬ cc+13=cc+11:=by omega
 have hps:so=none->y.pop.stk=[]:=fun e=>by rw[hn.sn e]at hS;cases hS
 have hj:∀ B:Blk,((VM c e y.pop m v so eo (I64 n :: junk)).upd (cc+11) B).upd m ⟨0,true,mcC c e v y.vars.length (a:Int) y.done (C7 so y.pop.stk.length) (C7 eo y.effs.length)⟩=(VM c e { y.pop with pc:=a } m v so eo (I64 n :: junk)).upd (cc+11) B:=fun B=>W1 (hnp _ (A0C _)) (by omega) B _;by_cases h0:n<=0
 ·have hz:decide (n<=0)=true:=by simp[h0]
  repeat' ((with_reducible first|refine wr ?_|refine k_cu ?_ ?_|refine wb2 ?_ ?_<;>(intro hb;try simp only[hb])|fail)<;>try simp only[go_sem,seval,hM,hw,s2,C4,hcom,hY,hV,ne0])
  refine AC.call ((c_vtake (hN _ (by omega)) (by omega) n S hS).beside hk _) ?_;rintro r H' c2 ⟨H2,⟨rfl,rfl⟩,hk2,rfl⟩ hc2;simp only[go_sem,seval,hz,hY2,pv,pe,pp,pd,hj,ne0];repeat' ((with_reducible first|refine wr ?_|refine k_cu ?_ ?_|refine wb2 ?_ ?_<;>(intro hb;try simp only[hb])|fail)<;>try simp only[go_sem,seval,hz,hY2,pv,pe,pp,pd,hj,ne0])
  exact B5 ((hnp _ (by omega)).keep (x':={ y.pop with pc:=a }) (A0C _) hps hn.en) (F5 (cc:=cc) ((hnp _ (A0C _)).keep (A0C _) hps hn.en) (by omega)) (by simp[opM,ht,h0];exact⟨rfl,rfl,rfl⟩) rfl
 ·have hz:decide (n<=0)=false:=by simp[h0]
  have hb:=s10 n (by rw[<- y1,hS];exact A0D);have w2:=w64 (n:=n-1);repeat' ((with_reducible first|refine wr ?_|refine k_cu ?_ ?_|refine wb2 ?_ ?_<;>(intro hb;try simp only[hb])|fail)<;>try simp only[go_sem,seval,hM,hw,s2,C4,hcom,hY,hV,ne0])
  refine AC.call ((c_vtake (hN _ (by omega)) (by omega) n S hS).beside hk _) ?_;rintro r H' c2 ⟨H2,⟨rfl,rfl⟩,hk2,rfl⟩ hc2;simp only[go_sem,seval,hz,w2];repeat' ((with_reducible first|refine wr ?_|refine k_cu ?_ ?_|refine wb2 ?_ ?_<;>(intro hb;try simp only[hb])|fail)<;>try simp only[go_sem,seval,hz,w2])
  refine AC.call ((c_vput (hnp _ (by omega)) (by omega) _).beside hk2 _) ?_;rintro r H' c9 ⟨H9,⟨rfl,i2,q1,q2,rfl⟩,hk9,rfl⟩ hc9;simp only[go_sem,seval];repeat' ((with_reducible first|refine wr ?_|refine k_cu ?_ ?_|refine wb2 ?_ ?_<;>(intro hb;try simp only[hb])|fail)<;>try simp only[go_sem,seval])
  exact B5 ((hnp _ (by omega)).newS q1 q2 rfl) hk9 (by simp[opM,ht,h0]) rfl
theorem c_vstep_3(h:MN m v so eo x cc)(A:Int)(s:StepOk c e x ⟨3,A⟩):AC Tryz.prog 55 [.ptr m 0] (VM c e x m v so eo junk) cc (B8 c e (C8 c e x) m v):=by
 obtain⟨y,hst,y1,y2,y3,hN,hcom,hY,hV,hk,l1,l2,hw,hM,hmc,hvc,hmv,d4⟩:=B4 (junk:=junk) h s;obtain⟨s1,s2,s3,s4,s5,s6,s7,s8,s9,s10,s11,s12⟩:=s;refine AC.bodyT A1 rfl (A0E rfl) fun hfr=>?_;have hn:=hN (cc+13) (by omega);rw[hst];clear s8 s9 hst;have ne0:=L3 m v cc (cc+11) (by omega);obtain⟨a,rfl,ha⟩:∃ a:Nat,A=(a:Int)/\a<y.vars.length:=by
  have h3:inM A 0 ((c.vars.length:Int)-1)=true:=s3;simp only[inM,A0B,A0J]at h3;exact⟨A.toNat,by omega,by rw[y3,s7];omega⟩
 have s5':(1:Int)<=(x.stk.length:Int):=s5;obtain⟨n,S,hS⟩:∃ n S,y.stk=n :: S:=by
  rw[y1];cases hx:x.stk with
  |nil=>rw[hx]at s5';simp at s5'
  |cons n S=>exact⟨n,S,rfl⟩
 have ht:y.top=n:=by rw[Mch.top,hS];rfl
 have lp:y.pop.stk.length<=1000:=by rw[Mch.pop,hS];rw[hS,A0I]at l1;simp only[A1R];omega
 have hnp:∀ c',cc<=c'->MN m v so eo y.pop c':=fun c' hc=>h.keep hc (fun e=>by rw[hn.sn e]at hS;cases hS) hn.en;have fA:∀ J d,VM c e y.pop m v so eo J (cc+13+d)=none:=fun J d=>F5 (hnp cc (by omega)) (by omega);have fB:∀ J,VM c e y.pop m v so eo J (cc+13)=none:=fun J=>F5 (hnp cc (by omega)) (by omega);have hY2:∀ J,VM c e y.pop m v so eo J m=some (vmB c e y.pop v so eo):=fun J=>Q3 (hnp cc (by omega));have hV2:∀ J,VM c e y.pop m v so eo J v=some ⟨1,true,y.pop.vars.map I64⟩:=fun J=>Q2 (hnp cc (by omega));have pv:y.pop.vars=y.vars:=rfl;have pe:y.pop.effs=y.effs:=rfl;have pp:y.pop.pc=y.pc:=rfl;have pd:y.pop.done=y.done:=rfl;have nA:∀ d,¬ cc+13+d=cc+11:=fun d=>by omega
 have nB:¬ cc+13=cc+11:=by omega
 have hput:=Z2 (f:=I64) (l:=y.vars) (n:=a) (a:=n) ha;have hle:a+1<=y.vars.length:=ha;repeat' ((with_reducible first|refine wr ?_|refine k_cu ?_ ?_|refine wb2 ?_ ?_<;>(intro hb;try simp only[hb])|fail)<;>try simp only[go_sem,seval,hM,hw,s2,C4,hcom,hY,hV,ne0])
 refine AC.call ((c_vtake (hN _ (by omega)) (by omega) n S hS).beside hk _) ?_;rintro r H' c2 ⟨H2,⟨rfl,rfl⟩,hk2,rfl⟩ hc2;simp only[go_sem,seval,fA,fB,nA,nB,hY2,hV2,pv,pe,pp,pd,ha,hput,hle,ne0];repeat' ((with_reducible first|refine wr ?_|refine k_cu ?_ ?_|refine wb2 ?_ ?_<;>(intro hb;try simp only[hb])|fail)<;>try simp only[go_sem,seval,fA,fB,nA,nB,hY2,hV2,pv,pe,pp,pd,ha,hput,hle,ne0])
 have hps:so=none->y.pop.stk=[]:=fun e=>by rw[hn.sn e]at hS;cases hS
 refine X1 (z:={ y.pop with vars:=y.vars.set a n }) (so:=so) (eo:=eo) (junk:=I64 n :: junk) ((hnp _ (by omega)).keep (A0C _) hps hn.en) ?_ ?_ (fun i hi=>?_) (fun i hi=>?_) (by rw[<- ht];rfl) rfl
 ·rw[hnO,hnO,hY2];simp[Mch.pop]
 ·rw[A7]
 ·have:=h.sb i hi;rw[hnO,hnO];exact A7f (hnp cc (A0C _)) hi
 ·have:=h.eb i hi;rw[hnO,hnO];exact A5e hi
theorem c_vstep_29(h:MN m v so eo x cc)(A:Int)(s:StepOk c e x ⟨29,A⟩):AC Tryz.prog 55 [.ptr m 0] (VM c e x m v so eo junk) cc (B8 c e (C8 c e x) m v):=by
 obtain⟨y,hst,y1,y2,y3,hN,hcom,hY,hV,hk,l1,l2,hw,hM,hmc,hvc,hmv,d4⟩:=B4 (junk:=junk) h s;obtain⟨s1,s2,s3,s4,s5,s6,s7,s8,s9,s10,s11,s12⟩:=s;refine AC.bodyT A1 rfl (A0E rfl) fun hfr=>?_;have hn:=hN (cc+13) (by omega);rw[hst];clear s8 s9 hst;have ne0:=L3 m v cc (cc+11) (by omega);obtain⟨a,rfl,ha⟩:∃ a:Nat,A=(a:Int)/\a<c.strings.length:=by
  have h3:inM A 0 ((c.strings.length:Int)-1)=true:=s3;simp only[inM,A0B,A0J]at h3;exact⟨A.toNat,by omega,by omega⟩
 have hg:c.strings[a]? = some (c.strings.getD a []):=by rw[List.getD,A0F ha];rfl
 have s5':(1:Int)<=(x.stk.length:Int):=s5;obtain⟨n,S,hS⟩:∃ n S,y.stk=n :: S:=by
  rw[y1];cases hx:x.stk with
  |nil=>rw[hx]at s5';simp at s5'
  |cons n S=>exact⟨n,S,rfl⟩
 have ht:y.top=n:=by rw[Mch.top,hS];rfl
 have lp:y.pop.stk.length<=1000:=by rw[Mch.pop,hS];rw[hS,A0I]at l1;simp only[A1R];omega
 have hnp:∀ c',cc<=c'->MN m v so eo y.pop c':=fun c' hc=>h.keep hc (fun e=>by rw[hn.sn e]at hS;cases hS) hn.en;have fA:∀ J d,VM c e y.pop m v so eo J (cc+13+d)=none:=fun J d=>F5 (hnp cc (by omega)) (by omega);have fB:∀ J,VM c e y.pop m v so eo J (cc+13)=none:=fun J=>F5 (hnp cc (by omega)) (by omega);have hY2:∀ J,VM c e y.pop m v so eo J m=some (vmB c e y.pop v so eo):=fun J=>Q3 (hnp cc (by omega));have hV2:∀ J,VM c e y.pop m v so eo J v=some ⟨1,true,y.pop.vars.map I64⟩:=fun J=>Q2 (hnp cc (by omega));have pv:y.pop.vars=y.vars:=rfl;have pe:y.pop.effs=y.effs:=rfl;have pp:y.pop.pc=y.pc:=rfl;have pd:y.pop.done=y.done:=rfl;have nA:∀ d,¬ cc+13+d=cc+11:=fun d=>by omega
 have nB:¬ cc+13=cc+11:=by omega
 have dm:∀ X,L1 X eo m=X m:=fun X=>D8 (fun i hi e=>(h.eb i hi).1 e.symm);have dv:∀ X,L1 X eo v=X v:=fun X=>D8 (fun i hi e=>(h.eb i hi).2.1 e.symm);have dd:∀ X d,L1 X eo (cc+d)=X (cc+d):=fun X d=>D8 (fun i hi e=>by have:=h.eb i hi;omega);have de:∀ X d,L1 X eo (cc+13+d)=X (cc+13+d):=fun X d=>D8 (fun i hi e=>by have:=h.eb i hi;omega);have de0:∀ X,L1 X eo (cc+13)=X (cc+13):=fun X=>D8 (fun i hi e=>by have:=h.eb i hi;omega);repeat' ((with_reducible first|refine wr ?_|refine k_cu ?_ ?_|refine wb2 ?_ ?_<;>(intro hb;try simp only[hb])|fail)<;>try simp only[go_sem,seval,hM,hw,s2,C4,hcom,hY,hV,ne0,hg])
 refine AC.call ((c_vtake (hN _ (by omega)) (by omega) n S hS).beside hk _) ?_;rintro r H' c2 ⟨H2,⟨rfl,rfl⟩,hk2,rfl⟩ hc2;simp only[go_sem,seval,fA,fB,nA,nB,hg,hY2,hV2,pv,pe,pp,pd,ne0];repeat' ((with_reducible first|refine wr ?_|refine k_cu ?_ ?_|refine wb2 ?_ ?_<;>(intro hb;try simp only[hb])|fail)<;>try simp only[go_sem,seval,fA,fB,nA,nB,hg,hY2,hV2,pv,pe,pp,pd,ne0])
 refine A5f (X3 (cs:=M9 y.effs) (fun e=>⟨T4 (hn.en e),by rw[hn.en e];rfl⟩) (fun i hi=>?_) (A1o _) (by omega) (by omega) (by omega)) ?_
 ·have:=h.eb i hi;rw[hnO,hnO];exact A5e hi
 have ne0:=A7o m v (cc+11) (cc+13) (cc+13+19) c2 (by omega);simp only[go_sem,seval,dm,dd,de,de0,fA,fB,nA,nB,hY2,pv,pe,pp,pd,ne0];repeat' ((with_reducible first|refine wr ?_|refine k_cu ?_ ?_|refine wb2 ?_ ?_<;>(intro hb;try simp only[hb])|fail)<;>try simp only[go_sem,seval,dm,dd,de,de0,fA,fB,nA,nB,hY2,pv,pe,pp,pd,ne0])
 refine X1 (z:=y.pop.ask ⟨29,0,n,0,c.strings.getD a []⟩) (so:=so) (eo:=some c2) (junk:=I64 n :: junk) ((hnp c2 (by omega)).newE (A0C _) (Nat.lt_succ_self _) rfl) ?_ ?_ (fun i hi=>?_) (fun i hi=>?_) (by rw[<- ht];rfl) rfl
 ·rw[A7];simp[Mch.ask,Mch.pop,C7]
 ·rw[hnO,hnO,dv,hnO,hnO];exact Q2 (hnp cc (A0C _))
 ·have:=h.sb i hi;rw[hnO,hnO,D8 (fun j hj=>h.se i j hi hj),hnO,hnO];exact A7f (hnp cc (A0C _)) hi
 ·cases hi;rw[hnO,A7];simp[Mch.ask,Mch.pop,A1p,A1n]
theorem c_vstep(h:MN m v so eo x cc)(i:Ins)(s:StepOk c e x i):AC Tryz.prog 55 [.ptr m 0] (VM c e x m v so eo junk) cc (B8 c e (C8 c e x) m v):=by
 obtain⟨op,A⟩:=i;have ho:1<=op/\op<=31:=by
  have h3:=s.num;by_cases g:1<=op/\op<=31
  ·exact g
  ·have:A2 op=(0,0, -1):=by
    unfold A2
    repeat rw[if_neg (by omega)]
   simp only[A5,this]at h3;exact absurd h3 (by simp[B1])
 obtain⟨o1,o2⟩:=ho;obtain⟨k,rfl⟩:∃ k:Nat,op=(k:Int):=⟨op.toNat,by omega⟩;have hk:k<32:=by omega
 match k,hk,o1 with
 |1,_,_=>exact c_vstep_1 h (by decide) A s
 |2,_,_=>exact c_vstep_2 h A s
 |3,_,_=>exact c_vstep_3 h A s
 |4,_,_=>exact c_vstep_4 h A s
 |5,_,_=>exact c_vstep_5 h A s
 |6,_,_=>exact c_vstep_6 h A s
 |7,_,_=>exact c_vstep_1 h (by decide) A s
 |8,_,_=>exact c_vstep_1 h (by decide) A s
 |9,_,_=>exact c_vstep_9 h (by decide) A s
 |10,_,_=>exact c_vstep_9 h (by decide) A s
 |11,_,_=>exact c_vstep_11 h A s
 |12,_,_=>exact c_vstep_12 h A s
 |13,_,_=>exact c_vstep_13 h A s
 |14,_,_=>exact c_vstep_14 h A s
 |15,_,_=>exact c_vstep_15 h (by decide) A s
 |16,_,_=>exact c_vstep_16 h (by decide) A s
 |17,_,_=>exact c_vstep_16 h (by decide) A s
 |18,_,_=>exact c_vstep_16 h (by decide) A s
 |19,_,_=>exact c_vstep_15 h (by decide) A s
 |20,_,_=>exact c_vstep_20 h A s
 |21,_,_=>exact c_vstep_15 h (by decide) A s
 |22,_,_=>exact c_vstep_16 h (by decide) A s
 |23,_,_=>exact c_vstep_16 h (by decide) A s
 |24,_,_=>exact c_vstep_16 h (by decide) A s
 |25,_,_=>exact c_vstep_16 h (by decide) A s
 |26,_,_=>exact c_vstep_16 h (by decide) A s
 |27,_,_=>exact c_vstep_16 h (by decide) A s
 |28,_,_=>exact c_vstep_16 h (by decide) A s
 |29,_,_=>exact c_vstep_29 h A s
 |30,_,_=>exact c_vstep_16 h (by decide) A s
 |31,_,_=>exact c_vstep_31 h A s
end
abbrev x113:XT Tryz.prog 113:=mkF
instance t113:FT Tryz.prog 113 x113.d:=x113.ft
abbrev x180:XT Tryz.prog 180:=mkF
instance t180:FT Tryz.prog 180 x180.d:=x180.ft
abbrev x181:XT Tryz.prog 181:=mkF
instance t181:FT Tryz.prog 181 x181.d:=x181.ft
theorem c_bad1(least n:Int):PC Tryz.prog 181 [I64 n,.fptr [I64 least]] (.bool (M0 least n)):=by
 refine PC.go A1 ?_;repeat' ((with_reducible first|refine wr ?_|refine k_cu ?_ ?_|refine wb2 ?_ ?_<;>(intro hb;try simp only[hb])|fail)<;>try simp only[go_sem,seval])
 all_goals (refine A4 ?_;simp_all[M0]<;>omega)
theorem c_bad(least:Int):PC Tryz.prog 180 [I64 least] (.func 181 [] [.fptr [I64 least]]):=by
 refine PC.go A1 ?_;repeat' ((with_reducible first|refine wr ?_|refine k_cu ?_ ?_|refine wb2 ?_ ?_<;>(intro hb;try simp only[hb])|fail)<;>try simp only[go_sem,seval])
 exact⟨Sym.nil,GL.one (id:=0) A7 rfl (.cons _ _ _ _ (.func _ _ _ _ _ (FzL.refl _) (.cons _ _ _ _ (.ptr 0 _ (by simp) rfl) .nil)) .nil)⟩
theorem c_IsEnv(c:Prg)(e:Envr)(hs:∀ s∈c.strings,s.length<=140737488355328)(n1:c.instrs.length<=9223372036854775807)(n2:e.vars.length<=9223372036854775807)(n3:e.left.length<=9223372036854775807):PC Tryz.prog 113 [c.v,e.v] (.bool (I8 c e)):=by
 refine PC.go A1 ?_;have cV:=c_CF_int e.vars n2 rfl rfl (g:=M0 (-2147483647)) (f:=181) (a:=[]) (cs:=[.fptr [I64 (-2147483647)]]) (fun x _=>c_bad1 _ x);have cL:=c_CF_int e.left n3 rfl rfl (g:=M0 0) (f:=181) (a:=[]) (cs:=[.fptr [I64 0]]) (fun x _=>c_bad1 _ x);by_cases h0:B3 c=0
 ·have z0:(B3 c == 0)=true:=by simp[h0]
  obtain⟨l1,l2,l3,l4,l5,l6⟩:=A2a h0;have f1:binR .shr (.int .u32 (e.active:Int)) (.int .i64 (c.prios.length:Int))=some (.int .u32 ((e.active / 2 ^ c.prios.length:Nat):Int)):=Z0 (by simp only[IntKind.bits];omega);have z1:((e.vars.length:Int) == (c.vars.length:Int))=decide (e.vars.length=c.vars.length):=by rw[A2D];simp;omega
  have z2:((e.left.length:Int) == c.timers)=decide ((e.left.length:Int)=c.timers):=by rw[A2D];simp
  have z3':∀ X:Nat,((X:Int) == 0)=decide (X=0):=fun X=>by rw[A2D];simp
  have z3:=z3' (e.active / 2 ^ c.prios.length);have hM:I8 c e=(decide (e.vars.length=c.vars.length) && decide ((e.left.length:Int)=c.timers) && !e.vars.any (M0 (-2147483647)) && !e.left.any (M0 0) && decide (e.active / 2 ^ c.prios.length=0) && !M0 0 e.player && !M0 0 e.ball):=by simp[I8,h0]
  rw[hM];have cP:=c_bad1 0 e.player;have cQ:=c_bad1 0 e.ball;generalize decide (e.vars.length=c.vars.length)=b1 at *;generalize decide ((e.left.length:Int)=c.timers)=b2 at *;generalize e.vars.any (M0 (-2147483647))=b3 at *;generalize e.left.any (M0 0)=b4 at *;generalize decide (e.active / 2 ^ c.prios.length=0)=b5 at *;generalize M0 0 e.player=b6 at *;generalize M0 0 e.ball=b7 at *;have cB:=c_valid c hs n1;cases b1
  ·repeat' ((with_reducible first|refine wr ?_|refine cpc cB ?_|refine cpc (c_bad _) ?_|refine cpc cV ?_|refine cpc cL ?_|refine cpc cP ?_|refine cpc cQ ?_|refine k_cu ?_ ?_|refine wb2 ?_ ?_<;>(intro hb;try simp only[hb])|fail)<;>try simp only[go_sem,seval,z0,z1,z2,z3,f1])
   exact A4 (by simp)
  cases b2
  ·repeat' ((with_reducible first|refine wr ?_|refine cpc cB ?_|refine cpc (c_bad _) ?_|refine cpc cV ?_|refine cpc cL ?_|refine cpc cP ?_|refine cpc cQ ?_|refine k_cu ?_ ?_|refine wb2 ?_ ?_<;>(intro hb;try simp only[hb])|fail)<;>try simp only[go_sem,seval,z0,z1,z2,z3,f1])
   exact A4 (by simp)
  cases b3
  case true =>
   repeat' ((with_reducible first|refine wr ?_|refine cpc cB ?_|refine cpc (c_bad _) ?_|refine cpc cV ?_|refine cpc cL ?_|refine cpc cP ?_|refine cpc cQ ?_|refine k_cu ?_ ?_|refine wb2 ?_ ?_<;>(intro hb;try simp only[hb])|fail)<;>try simp only[go_sem,seval,z0,z1,z2,z3,f1])
   exact A4 (by simp)
  cases b4
  case true =>
   repeat' ((with_reducible first|refine wr ?_|refine cpc cB ?_|refine cpc (c_bad _) ?_|refine cpc cV ?_|refine cpc cL ?_|refine cpc cP ?_|refine cpc cQ ?_|refine k_cu ?_ ?_|refine wb2 ?_ ?_<;>(intro hb;try simp only[hb])|fail)<;>try simp only[go_sem,seval,z0,z1,z2,z3,f1])
   exact A4 (by simp)
  cases b5
  ·repeat' ((with_reducible first|refine wr ?_|refine cpc cB ?_|refine cpc (c_bad _) ?_|refine cpc cV ?_|refine cpc cL ?_|refine cpc cP ?_|refine cpc cQ ?_|refine k_cu ?_ ?_|refine wb2 ?_ ?_<;>(intro hb;try simp only[hb])|fail)<;>try simp only[go_sem,seval,z0,z1,z2,z3,f1])
   exact A4 (by simp)
  cases b6
  case true =>
   repeat' ((with_reducible first|refine wr ?_|refine cpc cB ?_|refine cpc (c_bad _) ?_|refine cpc cV ?_|refine cpc cL ?_|refine cpc cP ?_|refine cpc cQ ?_|refine k_cu ?_ ?_|refine wb2 ?_ ?_<;>(intro hb;try simp only[hb])|fail)<;>try simp only[go_sem,seval,z0,z1,z2,z3,f1])
   exact A4 (by simp)
  repeat' ((with_reducible first|refine wr ?_|refine cpc cB ?_|refine cpc (c_bad _) ?_|refine cpc cV ?_|refine cpc cL ?_|refine cpc cP ?_|refine cpc cQ ?_|refine k_cu ?_ ?_|refine wb2 ?_ ?_<;>(intro hb;try simp only[hb])|fail)<;>try simp only[go_sem,seval,z0,z1,z2,z3,f1])
  exact A4 (by simp)
 ·have z0:(B3 c == 0)=false:=by simp[h0]
  repeat' ((with_reducible first|refine wr ?_|refine cpc (c_valid c hs n1) ?_|refine k_cu ?_ ?_|refine wb2 ?_ ?_<;>(intro hb;try simp only[hb])|fail)<;>try simp only[go_sem,seval,z0])
  refine A4 ?_;simp[I8,z0]
abbrev x116:XT Tryz.prog 116:=mkF
instance t116:FT Tryz.prog 116 x116.d:=x116.ft
abbrev x54:XT Tryz.prog 54:=mkF
instance t54:FT Tryz.prog 54 x54.d:=x54.ft
abbrev x115:XT Tryz.prog 115:=mkF
instance t115:FT Tryz.prog 115 x115.d:=x115.ft
theorem c_beg1(x:Ent)(p:Int):PC Tryz.prog 115 [x.v,.fptr [I64 p]] (.bool (decide (x.pos=p))):=by
 refine PC.go A1 ?_;repeat' ((with_reducible first|refine wr ?_|refine k_cu ?_ ?_|refine wb2 ?_ ?_<;>(intro hb;try simp only[hb])|fail)<;>try simp only[go_sem,seval])
 exact A4 (by rw[A2D.2 (by simp:(x.pos == p)=true↔decide (x.pos=p)=true)])
theorem c_Clone(xs:List Int)(h0:xs≠[])(hl:xs.length<=100000)(H:Hp)(cc:Nat):
  AC Tryz.prog 116 [I9 xs] H cc (fun r H' c' => ∃ v,cc<=v/\v<c'/\r=.slc v 0 xs.length/\H'=H.upd v ⟨1,true,xs.map I64⟩):=by
 refine AC.bodyT A1 rfl (A0E rfl) fun hfr=>?_;have e1:A2t false 1 (I9 xs) .snil=some (.bool false):=by
  cases xs with
  |nil=>exact absurd rfl h0
  |cons a l=>rfl
 have hlen:¬ xs.length=0:=fun h=>h0 (A1T h);have hu:unit 1 (xs.map I64)=true:=by simp[unit,DV.cells]
 have hcl:A6 (xs.map I64)=xs.map I64:=by simpa using O1 xs
 repeat' ((with_reducible first|refine wr ?_|refine k_cu ?_ ?_|refine wb2 ?_ ?_<;>(intro hb;try simp only[hb])|fail)<;>try simp only[go_sem,seval,e1,hu,hcl,A1C])
 refine Z7 (A7a (cs':=[]) (by simp) (by omega) (by omega)) ?_;simp only[go_sem,seval];repeat' ((with_reducible first|refine wr ?_|refine k_cu ?_ ?_|refine wb2 ?_ ?_<;>(intro hb;try simp only[hb])|fail)<;>try simp only[go_sem,seval])
 refine⟨_,_,GL.less' (H0:=H.upd (cc+1) ⟨1,true,xs.map I64⟩) (fun j b hj=>?_),cc+1,by omega,by omega,rfl,rfl⟩;by_cases e:j=cc+1
 ·subst e;rw[A7]at hj ⊢;exact hj
 ·rw[L0 e]at hj ⊢;have:¬ j=cc:=fun e2=>by rw[hfr j (by omega)]at hj;cases hj
  rw[S0 this,L0 this];exact hj
theorem c_begE(c:Prg)(e:Envr)(at_ b:Int)(hs:∀ s∈c.strings,s.length<=140737488355328)(n1:c.instrs.length<=9223372036854775807)(n2:e.vars.length<=9223372036854775807)(n3:e.left.length<=9223372036854775807)(n4:c.entries.length<=9223372036854775807)
  (hb:P8 c e at_ b≠0):PC Tryz.prog 54 [c.v,I64 at_,e.v,I64 b] (.tup [.pnil,I64 (P8 c e at_ b)]):=by
 refine PC.go A1 ?_;have cI:=c_IsEnv c e hs n1 n2 n3;have cF:=c_CF_ent c.entries n4 rfl rfl (g:=fun x=>decide (x.pos=at_)) (f:=115) (a:=[]) (cs:=[.fptr [I64 at_]]) (fun x _=>c_beg1 x at_);unfold P8 at hb ⊢;cases h1:I8 c e
 ·rw[h1]at cI;repeat' ((with_reducible first|refine wr ?_|refine cpc cI ?_|refine k_cu ?_ ?_|refine wb2 ?_ ?_<;>(intro hb;try simp only[hb])|fail)<;>try simp only[go_sem,seval])
  exact A4 (by simp)
 ·rw[h1]at cI;cases h2:c.entries.any (fun x=>decide (x.pos=at_))
  ·rw[h2]at cF;repeat' ((with_reducible first|refine wr ?_|refine cpc cI ?_|refine k_cu ?_ ?_|refine wb2 ?_ ?_<;>(intro hb;try simp only[hb])|fail)<;>try simp only[go_sem,seval])
   refine AC.call (cF.lend (H0:=Sym.nil) rfl (GL.one (id:=1) (by rw[hnO];exact A7) rfl (.cons _ _ _ _ (.same _) (.cons _ _ _ _ (.func _ _ _ _ _ (FzL.refl _) (.cons _ _ _ _ (.ptr 0 _ (by simp) rfl) .nil)) .nil)))) ?_;rintro _ _ _ ⟨rfl,rfl,rfl⟩ -;simp only[go_sem,seval];repeat' ((with_reducible first|refine wr ?_|refine k_cu ?_ ?_|refine wb2 ?_ ?_<;>(intro hb;try simp only[hb])|fail)<;>try simp only[go_sem,seval])
   exact A4 (by simp)
  ·rw[h2]at cF;rw[h1,h2]at hb;have hb':b<0\/b>1000:=Classical.byContradiction fun h=>hb (by rw[if_neg (by simp),if_neg (by simp),if_neg h]);rw[if_neg (by simp),if_neg (by simp),if_pos hb'];have hd:(decide (b<0)=true\/(decide (b<0)=false/\decide (b>1000)=true)):=by simp;omega
   rcases hd with hd|⟨hd,hd2⟩
   ·repeat' ((with_reducible first|refine wr ?_|refine cpc cI ?_|refine k_cu ?_ ?_|refine wb2 ?_ ?_<;>(intro hb;try simp only[hb])|fail)<;>try simp only[go_sem,seval])
    refine AC.call (cF.lend (H0:=Sym.nil) rfl (GL.one (id:=1) (by rw[hnO];exact A7) rfl (.cons _ _ _ _ (.same _) (.cons _ _ _ _ (.func _ _ _ _ _ (FzL.refl _) (.cons _ _ _ _ (.ptr 0 _ (by simp) rfl) .nil)) .nil)))) ?_;rintro _ _ _ ⟨rfl,rfl,rfl⟩ -;simp only[go_sem,seval];repeat' ((with_reducible first|refine wr ?_|refine k_cu ?_ ?_|refine wb2 ?_ ?_<;>(intro hb;try simp only[hb])|fail)<;>try simp only[go_sem,seval,hd])
    exact A4 (by simp)
   ·repeat' ((with_reducible first|refine wr ?_|refine cpc cI ?_|refine k_cu ?_ ?_|refine wb2 ?_ ?_<;>(intro hb;try simp only[hb])|fail)<;>try simp only[go_sem,seval])
    refine AC.call (cF.lend (H0:=Sym.nil) rfl (GL.one (id:=1) (by rw[hnO];exact A7) rfl (.cons _ _ _ _ (.same _) (.cons _ _ _ _ (.func _ _ _ _ _ (FzL.refl _) (.cons _ _ _ _ (.ptr 0 _ (by simp) rfl) .nil)) .nil)))) ?_;rintro _ _ _ ⟨rfl,rfl,rfl⟩ -;simp only[go_sem,seval];repeat' ((with_reducible first|refine wr ?_|refine k_cu ?_ ?_|refine wb2 ?_ ?_<;>(intro hb;try simp only[hb])|fail)<;>try simp only[go_sem,seval,hd,hd2])
    exact A4 (by simp)
theorem c_begO(c:Prg)(e:Envr)(p:Nat)(b:Int)(hs:∀ s∈c.strings,s.length<=140737488355328)(n1:c.instrs.length<=9223372036854775807)(n2:e.vars.length<=100000)(n3:e.left.length<=9223372036854775807)(n4:c.entries.length<=9223372036854775807)
  (hv:e.vars≠[]) (hb:P8 c e p b=0) (cc:Nat) :
  AC Tryz.prog 54 [c.v,I64 (p:Int),e.v,I64 b] Sym.nil cc (fun r H' c' => ∃ m v,r=.tup [.ptr m 0,I64 0]/\MN m v none none (J5 e p) c'/\H'=VM c e (J5 e p) m v none none []):=by
 refine AC.bodyT A1 rfl (A0E rfl) fun hfr=>?_;have cI:=c_IsEnv c e hs n1 (by omega) n3;have cF:=c_CF_ent c.entries n4 rfl rfl (g:=fun x=>decide (x.pos=(p:Int))) (f:=115) (a:=[]) (cs:=[.fptr [I64 (p:Int)]]) (fun x _=>c_beg1 x p);unfold P8 at hb;have h1:I8 c e=true:=by
  cases h:I8 c e with
  |true=>rfl
  |false=>rw[h]at hb;simp at hb
 have h2:c.entries.any (fun x=>decide (x.pos=(p:Int)))=true:=by
  cases h:c.entries.any (fun x=>decide (x.pos=(p:Int))) with
  |true=>rfl
  |false=>rw[h,h1]at hb;simp at hb
 have h3:¬ (b<0\/b>1000):=fun h=>by rw[h1,h2,if_neg (by simp),if_neg (by simp),if_pos h]at hb;simp at hb
 rw[h1]at cI;rw[h2]at cF;have hd:decide (b<0)=false:=by simp;omega
 have hd2:decide (b>1000)=false:=by simp;omega
 have ne0:=B3j cc (cc+1) (cc+2) (by omega);repeat' ((with_reducible first|refine wr ?_|refine cpc cI ?_|refine k_cu ?_ ?_|refine wb2 ?_ ?_<;>(intro hb;try simp only[hb])|fail)<;>try simp only[go_sem,seval,ne0])
 refine AC.call (cF.lend (H0:=Sym.nil) rfl (GL.one (id:=cc+1) (by rw[hnO];exact A7) rfl (.cons _ _ _ _ (.same _) (.cons _ _ _ _ (.func _ _ _ _ _ (FzL.refl _) (.cons _ _ _ _ (.ptr 0 _ (by simp) rfl) .nil)) .nil)))) ?_;rintro _ _ _ ⟨rfl,rfl,rfl⟩ -;simp only[go_sem,seval];repeat' ((with_reducible first|refine wr ?_|refine k_cu ?_ ?_|refine wb2 ?_ ?_<;>(intro hb;try simp only[hb])|fail)<;>try simp only[go_sem,seval,hd,hd2,ne0])
 refine AC.call (c_Clone e.vars hv n2 _ _) ?_;rintro _ _ c2 ⟨v,q1,q2,rfl,rfl⟩ hc;have ne0:=B6j cc (cc+1) (cc+2) v c2 (by omega);simp only[go_sem,seval,ne0];repeat' ((with_reducible first|refine wr ?_|refine k_cu ?_ ?_|refine wb2 ?_ ?_<;>(intro hb;try simp only[hb])|fail)<;>try simp only[go_sem,seval,ne0])
 exact⟨_,_,GL.less' (W0 (x:=J5 e p) (m:=c2) (v:=v) (so:=none) (eo:=none) (junk:=[]) (M:=vmB c e (J5 e p) v none none) (by rw[A7];rfl) (by rw[hnO,hnO,A7];rfl) (fun i hi=>by cases hi) (fun i hi=>by cases hi)),c2,v,rfl,
  ⟨by omega,by omega,by omega,fun i hi=>(by cases hi),fun i hi=>(by cases hi),fun i j hi=>(by cases hi),fun _=>rfl,fun _=>rfl⟩,rfl⟩
theorem B0w(F:Hp):jn Sym.nil F=F:=by funext j;rfl
theorem c_begF(c:Prg)(e:Envr)(p:Nat)(b:Int)(hs:∀ s∈c.strings,s.length<=140737488355328)(n1:c.instrs.length<=9223372036854775807)(n2:e.vars.length<=100000)(n3:e.left.length<=9223372036854775807)(n4:c.entries.length<=9223372036854775807)
  (hv:e.vars≠[]) (hb:P8 c e p b=0) (H:Hp) (cc:Nat) :
  AC Tryz.prog 54 [c.v,I64 (p:Int),e.v,I64 b] H cc (fun r H' c' => ∃ m v,r=.tup [.ptr m 0,I64 0]/\MN m v none none (J5 e p) c'/\Sub (VM c e (J5 e p) m v none none []) H'):=by
 have h:=(c_begO c e p b hs n1 n2 n3 n4 hv hb cc).frame (F:=H) (fun _ _=>rfl);rw[B0w]at h;refine h.mono ?_;rintro r H' c' ⟨H1,⟨m,v,rfl,hn,rfl⟩, -,rfl⟩;exact⟨m,v,rfl,hn,fun j b hj=>U2 hj⟩
abbrev x18:XT Tryz.prog 18:=mkF
instance t18:FT Tryz.prog 18 x18.d:=x18.ft
structure Sized (c:Prg) (e:Envr):Prop where
 hs:∀ s∈c.strings,s.length<=140737488355328
 n1:c.instrs.length<=9223372036854775807
 n2:e.vars.length<=9223372036854775807
 n3:e.left.length<=9223372036854775807
 n4:c.entries.length<=9223372036854775807
 hv:c.vars≠[]
 clo:e.closed<18446744073709551616
 act:e.active<4294967296
 n5:c.vars.length<=100000
theorem Sized.nv{c:Prg}{e:Envr}{a b:Int}(z:Sized c e)(hb:P8 c e a b=0):e.vars≠[]/\e.vars.length<=100000:=by
 have h:=(A6z hb).1.vl;have h5:=z.n5;exact⟨fun h2=>z.hv (A1T (by rw[<- h,h2];rfl)),by omega⟩
theorem A0c(d:Int){H:Hp}:∃ H2,GL H [.tup [.snil,.snil,I64 0,I64 d]] H2 [exV ([],[],0,d)] :=
 ⟨H,GL.view fun ρ vs hA=>V7 (fun w hw=>by
  obtain⟨b,rfl,hB⟩:=hw.tup_inv;refine .tup _ _ (by rw[<- hB.1];rfl) (fun i x' y' hx hy=>?_);rcases i with _|_|_|_|i
  ·cases hx;exact (hB.2 0 _ y' rfl hy).snil_lst
  ·cases hx;exact (hB.2 1 _ y' rfl hy).snil_lst
  ·cases hx;exact hB.2 2 _ y' rfl hy
  ·cases hx;exact hB.2 3 _ y' rfl hy
  ·cases hx) vs hA⟩
theorem B1m(q:List Int × List Eff × Nat × Int):(exV q).nl=true:=by simp[exV,DV.nl,DV.nlL,G2,A6a]
theorem c_Exec(c:Prg)(e:Envr)(a b:Int)(z:Sized c e):PC Tryz.prog 18 [c.v,I64 a,e.v,I64 b] (exV (F3 c e a b)):=by
 refine PC.ofT A1 rfl (A0E rfl) (by simp[DV.nlL,DV.nl,G2,H6,K4,E4]) (B1m _) ?_;by_cases hb:P8 c e a b=0
 case neg =>
  have cB:=c_begE c e a b z.hs z.n1 z.n2 z.n3 z.n4 hb;have hd:(P8 c e a b != 0)=true:=by simpa using hb
  have ex:F3 c e a b=([],[],0,P8 c e a b):=by unfold F3;rw[if_pos hb]
  rw[ex];repeat' ((with_reducible first|refine wr ?_|refine cpc cB ?_|refine k_cu ?_ ?_|refine wb2 ?_ ?_<;>(intro hb;try simp only[hb])|fail)<;>try simp only[go_sem,seval,hd])
  exact A0c _
 obtain⟨hE,b0,b1,en,hen,hpos,ha⟩:=A6z hb;obtain⟨p,rfl⟩:∃ p:Nat,a=(p:Int):=⟨a.toNat,by omega⟩;obtain⟨k,rfl⟩:∃ k:Nat,b=(k:Int):=⟨b.toNat,by omega⟩;have ex:F3 c e (p:Int) (k:Int)=if (exM c e k (J5 e p) 0).1.done=false\/(exM c e k (J5 e p) 0).1.effs.length>256 then ([],[],0,52) else ((exM c e k (J5 e p) 0).1.vars,(exM c e k (J5 e p) 0).1.effs,(exM c e k (J5 e p) 0).2,0):=by
  unfold F3;rw[if_neg (by rw[hb];simp)];rfl
 rw[ex];obtain⟨hv0,hv9⟩:=z.nv hb;repeat' ((with_reducible first|refine wr ?_|refine k_cu ?_ ?_|refine wb2 ?_ ?_<;>(intro hb;try simp only[hb])|fail)<;>try simp only[go_sem,seval])
 refine AC.call (c_begF c e p k z.hs z.n1 hv9 z.n3 z.n4 hv0 hb _ _) ?_;rintro r H' c1 ⟨m,v,rfl,hm0,hsub⟩ hc1;have hz:((0:Int) != 0)=false:=rfl;simp only[go_sem,seval,hz];repeat' ((with_reducible first|refine wr ?_|refine k_cu ?_ ?_|refine wb2 ?_ ?_<;>(intro hb;try simp only[hb])|fail)<;>try simp only[go_sem,seval,hz])
 refine G5 (fun q:Nat × Nat × Mch × Option Nat × Option Nat × List DV=>[(3,I64 (k:Int)),(12,.ptr m 0),(14,I64 (q.2.1:Int))]) (fun q=>VM c e q.2.2.1 m v q.2.2.2.1 q.2.2.2.2.1 q.2.2.2.2.2)
  (fun q cc=>MN m v q.2.2.2.1 q.2.2.2.2.1 q.2.2.1 cc/\q.2.1+q.1=k/\Inv c q.2.2.1/\q.2.2.1.effs.length<=q.2.1/\exM c e q.1 q.2.2.1 q.2.1=exM c e k (J5 e p) 0) (fun q=>q.1) (k,0,J5 e p,none,none,[])
  (by simp[G0,tm,Tm.upd]) hsub ⟨hm0,by simp,A6c hE hen hpos,by simp[J5],rfl⟩ ?_
 clear hm0 hsub;rintro⟨f,n,x,so,eo,junk⟩ cc ⟨hn,hfk,hI,hle,hex⟩;simp only at hn hfk hI hle hex;simp only;have hM:VM c e x m v so eo junk m=some (vmB c e x v so eo):=Q3 hn;have hlen:=A4c (o:=eo) (n:=x.effs.length) (fun h=>T4 (hn.en h));rw[<- hex];by_cases hd:x.done=true
 ·rw[V0 (.inr (.inl hd))];by_cases h2:x.effs.length>256
  ·have e2:decide ((x.effs.length:Int)>256)=true:=by simp;omega
   rw[if_pos (.inr h2)];repeat' ((with_reducible first|refine wr ?_|refine k_cu ?_ ?_|refine wb2 ?_ ?_<;>(intro hb;try simp only[hb])|fail)<;>try simp only[go_sem,seval,hM,hd,e2,hlen])
   exact A0c _
  ·have e2:decide ((x.effs.length:Int)>256)=false:=by simp;omega
   rw[if_neg (by simp[hd];omega)];have fn:∀ d,VM c e x m v so eo junk (cc+d)=none:=fun d=>F5 hn (by omega);repeat' ((with_reducible first|refine wr ?_|refine k_cu ?_ ?_|refine wb2 ?_ ?_<;>(intro hb;try simp only[hb])|fail)<;>try simp only[go_sem,seval,hM,hd,e2,hlen,fn])
   exact B1g hn _ _
 ·have hd':x.done=false:=by simpa using hd
  by_cases hf:f=0
  ·have e1:decide ((n:Int)<(k:Int))=false:=by simp;omega
   rw[V0 (.inl hf),if_pos (.inl hd')];repeat' ((with_reducible first|refine wr ?_|refine k_cu ?_ ?_|refine wb2 ?_ ?_<;>(intro hb;try simp only[hb])|fail)<;>try simp only[go_sem,seval,hM,hd',e1,hlen])
   exact A0c _
  ·have e1:decide ((n:Int)<(k:Int))=true:=by simp;omega
   by_cases h2:x.effs.length>256
   ·have e2:decide ((x.effs.length:Int)<=256)=false:=by simp;omega
    rw[V0 (.inr (.inr h2)),if_pos (.inl hd')];repeat' ((with_reducible first|refine wr ?_|refine k_cu ?_ ?_|refine wb2 ?_ ?_<;>(intro hb;try simp only[hb])|fail)<;>try simp only[go_sem,seval,hM,hd',e1,e2,hlen])
    exact A0c _
   ·have e2:decide ((x.effs.length:Int)<=256)=true:=by simp;omega
    have hw:IntKind.i64.wrap ((n:Int)+1)=((n+1:Nat):Int):=by rw[w6z (by omega)];omega
    repeat' ((with_reducible first|refine wr ?_|refine k_cu ?_ ?_|refine wb2 ?_ ?_<;>(intro hb;try simp only[hb])|fail)<;>try simp only[go_sem,seval,hM,hd',e1,e2,hlen])
    refine AC.call (c_vstep hn (c.ins x.pc) (hI.ok hE hd' (by omega) z.clo z.act)) ?_;rintro r H' c2 ⟨rfl,so2,eo2,j2,hn2,rfl⟩ hc2;obtain⟨g,rfl⟩:∃ g,f=g+1:=⟨f-1,by omega⟩;have hst:=V3 (c:=c) (e:=e) (x:=x);simp only[go_sem,seval,hw];repeat' ((with_reducible first|refine wr ?_|refine k_cu ?_ ?_|refine wb2 ?_ ?_<;>(intro hb;try simp only[hb])|fail)<;>try simp only[go_sem,seval,hw])
    exact⟨(g,n+1,C8 c e x,so2,eo2,j2),rfl,Sub.refl _,inv ⟨hn2,by simp only;omega,hI.step hE hd',by simp only;omega,by rw[B1n hd' (by omega)]⟩,by simp only;omega⟩
abbrev x12:XT Tryz.prog 12:=mkF (i:=⟨102,.seq (.reg [oV 4 (.bool false)]) (.seq (.reg [oC 16 32 [.k (.string ⟨#[118,97,114,32,118,32,48,59,32,109,111,100,101,32,109,32,49,32,123,32,111,110,32,115,116,97,114,116,32,123,32,114,101,112,101,97,116,32,118,32,123,32,115,99,111,114,101,32,118,59,32,118,32,61,32,48,59,32,125,32,125,32,125]⟩)],oM 15 16,oE 17 15 0,oE 18 15 1,oE 19 15 2,oW 5 (.agg #[.slice none 0 0,.slice none 0 0,.slice none 0 0,.slice none 0 0,.slice none 0 0,.int .i64 0,.int .i64 0]),oS 5 17 7,oM 6 18,oM 7 19]) (.seq (.reg [oM 20 0,oP 21 (.bin .rem (.t 20) (.k (.int .u8 100))),oP 22 (.cvi .i64 (.t 21)),oM 8 22]) (.seq (.seq (.reg [oM 23 1]) (.cond (.t 23) (.reg [oM 24 8,oP 25 (.un .neg (.t 24)),oM 8 25]) .skip)) (.seq (.seq (.reg [oM 26 7,oK 27 26 .neq 0,oM 28 27,hF 29 5 2 28,hL 30 29 28,oR 31 (.len (.t 30)) 28,hK 32 31 28 .neq 1,oO 33 28 32]) (.cond (.t 33) (.seq (.reg [oV 4 (.bool false)]) .ret) .skip)) (.seq (.drw 19 ⟨[oD 35 5 7,oF 36 5 2,oL 37 36,oP 38 (.iad 4 (.t 37) (.k (.int .i64 0))),oF 39 38 3,oL 40 39,oM 41 8,⟨some 42,.new (.bsl 1 1 #[.int .i64 0] [(0,.t 41)]),none⟩,oP 43 (.bld #[.slice none 0 0,.slice none 0 0,.int .u64 0,.int .u32 0,.int .i64 0,.int .i64 0] [(0,1),(1,1),(2,1),(3,1),(4,1),(5,1)] [(0,.t 42)]),oC 44 18 [.t 35,.t 40,.t 43,.k (.int .i64 1000)],oM 34 44,oE 45 34 0,oE 46 34 1,oE 47 34 2,oE 48 34 3,oM 9 45,oM 10 46,oM 11 47,oM 12 48],[],[(0,none),(1,none),(2,none),(3,none),(4,none),(5,none),(6,none),(7,none),(8,none),(9,some []),(10,none),(11,none),(12,none),(13,none),(14,none),(15,some [12,13,14]),(16,some [13,14]),(17,some [14]),(18,some [])]⟩) (.seq (.seq (.reg [oM 49 12,oK 50 49 .neq 0,oM 51 50,hM 52 10 51,oR 53 (.len (.t 52)) 51,hM 54 8 51,oR 55 (.mx (.k (.int .i64 0)) (.t 54)) 51,oR 56 (.bin .neq (.t 53) (.t 55)) 51,oO 57 51 56,oM 58 57,hM 59 9 58,oR 60 (.len (.t 59)) 58,hK 61 60 58 .neq 1,oO 62 58 61,oM 63 62,hM 64 8 63,hK 65 64 63 .gtr 0,hM 66 65 63,gM 67 9 66,oG 68 (.iad 1 (.t 67) (.k (.int .i64 0))) 66,gL 69 68 66,gK 70 69 66 .neq 0,oR 71 (.pick (.t 66) (.t 70) (.k (.bool false))) 63,oO 72 63 71,oM 73 72,hM 74 8 73,hK 75 74 73 .leq 0,hM 76 75 73,gM 77 9 76,oG 78 (.iad 1 (.t 77) (.k (.int .i64 0))) 76,gL 79 78 76,gM 80 8 76,oG 81 (.bin .neq (.t 79) (.t 80)) 76,oR 82 (.pick (.t 76) (.t 81) (.k (.bool false))) 73,oO 83 73 82]) (.cond (.t 83) (.seq (.reg [oV 4 (.bool false)]) .ret) .skip)) (.seq (.seq (.reg [oI 13 0]) (.blk 0 (.loop (.seq (.seq (.reg [oM 84 13,oM 85 10,oH 86 85,oB 87 84 86 .lss]) (.cond (.t 87) .skip (.exit 0))) (.seq (.blk 1 (.seq (.reg [oP 90 (.bld #[.int .i64 0,.int .i64 0,.int .i64 0,.int .i64 0,.string ⟨#[]⟩] [(0,1),(1,1),(2,1),(3,1),(4,1)] [(0,.k (.int .i64 15))]),oW 14 (.agg #[.int .i64 0,.int .i64 0,.int .i64 0,.int .i64 0,.string ⟨#[]⟩]),oS 14 90 5]) (.seq (.seq (.reg [oM 91 13,oK 92 91 .eql 0]) (.cond (.t 92) (.reg [oM 93 8,oF 94 14 2,oS 94 93 1]) .skip)) (.seq (.drw 6 (dQ [oM 95 10,oM 96 13,oA 97 95 96 5,oD 98 97 5,oD 99 14 5,oP 100 (.eqa true [0,0,0,0,2] (.t 98) (.t 99))] 0)) (.cond (.t 100) (.seq (.reg [oV 4 (.bool false)]) .ret) .skip))))) (.reg [oM 88 13,oK 89 88 .add 1,oM 13 89])))))) (.seq (.reg [oC 101 22 [],oM 4 101]) .ret)))))))),[.tmp 4]⟩) (by unfold G8;kernel_rfl) (fun h=>by conv=>lhs;cbv)
instance t12:FT Tryz.prog 12 x12.d:=x12.ft
def B3m:List UInt8:=[118,97,114,32,118,32,48,59,32,109,111,100,101,32,109,32,49,32,123,32,111,110,32,115,116,97,114,116,32,123,32,114,101,112,101,97,116,32,118,32,123,32,115,99,111,114,101,32,118,59,32,118,32,61,32,48,59,32,125,32,125,32,125]
def prV:Prg:=⟨[⟨2,0⟩,⟨14,7⟩,⟨2,0⟩,⟨15,0⟩,⟨1,0⟩,⟨3,0⟩,⟨12,1⟩,⟨31,0⟩],[],[⟨0,1,0,0⟩],[1],[0],0,0⟩
theorem c_bldV:PC Tryz.prog 32 [.str B3m] (B5f (prV,0,0)):=PC.runTF A1 A3d D9 3000 60 15 [2262,2180,2111,2075] _ _ _ rfl rfl (by kernel_rfl)
def evV(k:Int):Envr:=⟨[k],[],0,0,0,0⟩
def efV(k:Nat):List Eff:=match k with
 |0=>[]
 |n+1=>⟨15,0,(n:Int)+1,0,[]⟩ :: List.replicate n ⟨15,0,0,0,[]⟩
theorem B4y:∀ k∈List.range 100,(F3 prV (evV k) 0 1000).1=[0]/\(F3 prV (evV k) 0 1000).2.1=efV k/\(F3 prV (evV k) 0 1000).2.2.2=0:=by decide +kernel
theorem B4z:∀ k∈List.range 100,(F3 prV (evV (-(k:Int))) 0 1000).1=[-(k:Int)]/\(F3 prV (evV (-(k:Int))) 0 1000).2.1=[]/\(F3 prV (evV (-(k:Int))) 0 1000).2.2.2=0:=by decide +kernel
theorem szV(k:Int):Sized prV (evV k):=by
 exact⟨by simp[prV],by decide,by simp[evV],by simp[evV],by decide,by decide,by simp[evV],by simp[evV],by decide⟩
theorem A8j(k:Nat):(efV k).length=k:=by cases k<;>simp[efV]
theorem A8k{k i:Nat}(h:i<k):(efV k)[i]? = some ⟨15,0,if i=0 then (k:Int) else 0,0,[]⟩:=by
 cases k with
 |zero=>omega
 |succ n=>cases i with
  |zero=>simp[efV]
  |succ i=>simp[efV,List.getElem?_replicate];omega
theorem A0u(k:Int){id cc:Nat}{H:Hp}(hb:H id=some ⟨1,true,[I64 k]⟩):
  AC Tryz.prog 18 [.agg [U4 prV.instrs,strs [],A1k [⟨0,1,0,0⟩],I9 [1],I9 [0],I64 0,I64 0],I64 0,.agg [.slc id 0 1,.snil,.int .u64 0,.int .u32 0,I64 0,I64 0],I64 1000] H cc (fun v H' c'=>v=exV (F3 prV (evV k) 0 1000)/\H'=L1 H (some id)/\c'=cc) :=
 AC.ghost ((GL.frzS (id:=id) hb rfl (fun j=>by
  by_cases e:j=id
  ·subst e;exact .inl A0a
  ·exact .inr ⟨e,S0 e⟩)
  (.cons _ _ _ _ (.same _) (.cons _ _ _ _ (.same _) (.cons _ _ _ _ (.agg _ _ (.cons _ _ _ _ (A0d (xs:=[I64 k]) (u:=1) rfl (fun x hx=>by simp at hx;subst hx;rfl) ⟨[],rfl⟩) (FzL.refl _))) (.cons _ _ _ _ (.same _) .nil))))).trans (A6e (b:=[prV.v,I64 0,(evV k).v,I64 1000]) (by simp[leL,leV,B9,Sym.sameL,prV,evV,Prg.v,Prg.cs,Envr.cs,Ins.v,Ent.v]))) ((c_Exec prV (evV k) 0 1000 (szV k)).at _ cc)
theorem c_vrL(k:Int)(l:List Eff)(H:Hp)(c:Nat)(hn:l.length<=1000)(hl:∀ i,i<l.length->l[i]? = some ⟨15,0,if i=0 then k else 0,0,[]⟩):
  IW Tryz.prog 102 (pz Tryz.prog 12 (.i (.i (.i (.i .h))))) ⟨tm [(8,I64 k),(10,P5 l)],H,c⟩ (rt [Eng.RV.tmp 4] fun v H' x => ∃ H2,GL H' [v] H2 [DV.bool true]):=by
 have hs:=c_sane35;repeat' ((with_reducible first|refine wr ?_|refine k_cu ?_ ?_|refine wb2 ?_ ?_<;>(intro hb;try simp only[hb])|fail)<;>try simp only[go_sem,seval])
 refine G5 (fun i:Nat=>[(8,I64 k),(10,P5 l),(13,I64 i)]) (fun _=>Sym.nil) (fun i c=>i<=l.length) (fun i=>l.length-i) 0 (by simp[G0,tm,Tm.upd]) (Sub.nil _) (A2V _) ?_;rintro i c hi;by_cases hlt:i<l.length
 rotate_left
 ·have hd:=dfz hlt;repeat' ((with_reducible first|refine wr ?_|refine k_cu ?_ ?_|refine wb2 ?_ ?_<;>(intro hb;try simp only[hb])|fail)<;>try simp only[go_sem,seval,hd,A1C])
  refine AC.call (hs.at _ _) ?_;rintro _ _ _ ⟨rfl,rfl,rfl⟩ -;simp only[go_sem,seval];repeat' ((with_reducible first|refine wr ?_|refine k_cu ?_ ?_|refine wb2 ?_ ?_<;>(intro hb;try simp only[hb])|fail)<;>try simp only[go_sem,seval])
  exact A4 rfl
 have hd:=dtz hlt;have hw:=w64 (n:=(i:Int)+1);have hg:=hl i hlt;by_cases h0:i=0
 ·subst h0;rw[if_pos rfl]at hg;have hd:decide ((0:Int)<l.length)=true:=by simp;omega
  have hw:IntKind.i64.wrap 1=1:=w6z (by omega);repeat' ((with_reducible first|refine wr ?_|refine k_cu ?_ ?_|refine wb2 ?_ ?_<;>(intro hb;try simp only[hb])|fail)<;>try simp only[go_sem,seval,hd,hg,hw,A7,C4,B5a,A1C])
  exact⟨1,by simp[G0,tm,Tm.upd,hw],Sub.nil _,inv (by omega),by omega⟩
 ·rw[if_neg h0]at hg;have h0':((i:Int) == 0)=false:=by simpa using h0
  repeat' ((with_reducible first|refine wr ?_|refine k_cu ?_ ?_|refine wb2 ?_ ?_<;>(intro hb;try simp only[hb])|fail)<;>try simp only[go_sem,seval,hd,hg,hw,h0',A7,C4,B5a,A1C])
  exact⟨i+1,by simp[G0,tm,Tm.upd],Sub.nil _,inv (by omega),by omega⟩
theorem c_VMRepeats(n:UInt8)(less:Bool):PC Tryz.prog 12 [.int .u8 (n.toNat:Int),.bool less] (.bool true):=by
 have hs:=c_sane35;have hb:=c_bldV;rw[show B5f (prV,0,0)=.tup [.agg [U4 prV.instrs,strs [],A1k [⟨0,1,0,0⟩],I9 [1],I9 [0],I64 0,I64 0],I64 0,I64 0] from rfl]at hb;have hn:=n.toNat_lt;obtain⟨kk,hkk⟩:∃ kk,kk=n.toNat % 100:=⟨_,rfl⟩;have hk:kk<100:=by rw[hkk];exact Nat.mod_lt _ (by decide)
 have hrm:binR .rem (.int .u8 (n.toNat:Int)) (.int .u8 100)=some (.int .u8 (kk:Int)):=by rw[A8x (by decide),hkk];rfl
 have hw1:IntKind.i64.wrap (kk:Int)=(kk:Int):=w6z (by omega);have hw2:IntKind.i64.wrap (0-(kk:Int)) = -(kk:Int):=by rw[w6z (by omega)];omega
 have xp:=B4y kk (A2J.2 hk);have xn:=B4z kk (A2J.2 hk);unfold B3m at hb;refine PC.go A1 ?_;cases less with
 |true =>
  have ex:exV (F3 prV (evV (-(kk:Int))) 0 1000)=.tup [I9 [-(kk:Int)],P5 [],I64 (F3 prV (evV (-(kk:Int))) 0 1000).2.2.1,I64 0]:=by unfold exV;rw[xn.1,xn.2.1,xn.2.2]
  generalize (F3 prV (evV (-(kk:Int))) 0 1000).2.2.1=st at ex;have hmx:(if (0:Int) < -(kk:Int) then -(kk:Int) else 0)=0:=by rw[if_neg (by omega)]
  have hle:decide (-(kk:Int)<=0)=true:=by simp
  have hgt:decide (-(kk:Int)>0)=false:=by simp
  repeat' ((with_reducible first|refine wr ?_|refine cpc hb ?_|refine k_cu ?_ ?_|refine wb2 ?_ ?_<;>(intro hb;try simp only[hb])|fail)<;>try simp only[go_sem,seval,hrm,hw1,hw2])
  refine AC.call (A0u (-(kk:Int)) A7) ?_;rintro _ _ _ ⟨rfl,rfl,rfl⟩ -;rw[ex];simp only[go_sem,seval];generalize hX:L1 _ (some 8)=X;have xf:∀ j,9<=j->X j=none:=fun j hj=>by rw[<- hX];show Hp.del _ 8 j=none;rw[S0 (by omega),hnO,hnO,hnO];rfl
  clear hX;refine⟨⟨xf _ (by omega),xf _ (by omega),xf _ (by omega)⟩,⟨xf _ (by omega),xf _ (by omega)⟩,xf _ (by omega),?_⟩;repeat' ((with_reducible first|refine J0 (p:=IW _ _ (pz Tryz.prog 12 (.i (.i (.i (.i .h))))) _ _) ?_|refine wr ?_|refine k_cu ?_ ?_|refine wb2 ?_ ?_<;>(intro hb;try simp only[hb])|fail)<;>try simp only[go_sem,seval,hmx,hle,hgt])
  exact IW.stage (L:=[(8,I64 (-(kk:Int))),(10,P5 [])]) (by simp[G0,tm,Tm.upd]) (c_vrL _ [] _ _ (by simp) (fun i hi=>by simp at hi))
 |false =>
  have ex:exV (F3 prV (evV (kk:Int)) 0 1000)=.tup [I9 [0],P5 (efV kk),I64 (F3 prV (evV (kk:Int)) 0 1000).2.2.1,I64 0]:=by unfold exV;rw[xp.1,xp.2.1,xp.2.2]
  generalize (F3 prV (evV (kk:Int)) 0 1000).2.2.1=st at ex;have hle2:=A8j kk;have hge:=@A8k kk;generalize efV kk=l at ex hle2 hge;have hmx:(if (0:Int)<(kk:Int) then (kk:Int) else 0)=(l.length:Int):=by split<;>omega
  repeat' ((with_reducible first|refine wr ?_|refine cpc hb ?_|refine k_cu ?_ ?_|refine wb2 ?_ ?_<;>(intro hb;try simp only[hb])|fail)<;>try simp only[go_sem,seval,hrm,hw1,hw2])
  refine AC.call (A0u (kk:Int) A7) ?_;rintro _ _ _ ⟨rfl,rfl,rfl⟩ -;rw[ex];simp only[go_sem,seval];generalize hX:L1 _ (some 8)=X;have xf:∀ j,9<=j->X j=none:=fun j hj=>by rw[<- hX];show Hp.del _ 8 j=none;rw[S0 (by omega),hnO,hnO,hnO];rfl
  clear hX;refine⟨⟨xf _ (by omega),xf _ (by omega),xf _ (by omega)⟩,⟨xf _ (by omega),xf _ (by omega)⟩,xf _ (by omega),?_⟩;by_cases h0:kk=0
  ·subst h0;obtain rfl:l=[]:=List.length_eq_zero_iff.1 hle2;repeat' ((with_reducible first|refine J0 (p:=IW _ _ (pz Tryz.prog 12 (.i (.i (.i (.i .h))))) _ _) ?_|refine wr ?_|refine k_cu ?_ ?_|refine wb2 ?_ ?_<;>(intro hb;try simp only[hb])|fail)<;>try simp only[go_sem,seval,A1C,A1W])
   exact IW.stage (L:=[(8,I64 0),(10,P5 [])]) (by simp[G0,tm,Tm.upd]) (c_vrL 0 [] X 20 (by simp) (fun i hi=>by simp at hi))
  ·have hgt:decide ((kk:Int)>0)=true:=by simp;omega
   have hle:decide ((kk:Int)<=0)=false:=by simp;omega
   repeat' ((with_reducible first|refine J0 (p:=IW _ _ (pz Tryz.prog 12 (.i (.i (.i (.i .h))))) _ _) ?_|refine wr ?_|refine k_cu ?_ ?_|refine wb2 ?_ ?_<;>(intro hb;try simp only[hb])|fail)<;>try simp only[go_sem,seval,hmx,hgt,hle,A1C])
   exact IW.stage (L:=[(8,I64 (kk:Int)),(10,P5 l)]) (by simp[G0,tm,Tm.upd]) (c_vrL (kk:Int) l X 20 (by omega) (fun i hi=>hge (by omega)))
end Go.Proofs.YtkkjpohaffjecaaGreatDoor
end
