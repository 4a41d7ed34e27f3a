/-
  HELPERS of the claim: part 8 of its texts.
-/
import Derived.Test.YthlpinppaclofaaGreatDoorSybg
import Derived.Shelf.LaysC
import Derived.Shelf.Strconv.ParseIntPublic10
import Derived.Test.YthlpinppaclofaaGreatDoorProg
import Derived.Maps.RangeRun
noncomputable section
set_option linter.unusedVariables false
namespace Go.Proofs
open Go.Shelf
def Tryz.laysC174_ren:Go.Shelf.Ren:=⟨fun | 174=>194 | 247=>207 | 245=>208 | 287=>216 | 279=>217 | 280=>218 | 281=>219 | 282=>220 | 321=>223 | 322=>224 | 316=>225 | 171=>57 | 205=>226 | 243=>101 | 246=>152 | 283=>184 | 284=>185 | 285=>186 | 286=>187 | 129=>202 | 317=>201 | 318=>203 | 319=>204 | 320=>205 | 337=>212 | 338=>213|n=>n,fun | 9=>9 | 3=>3 | 2=>2 | 75=>138 | 85=>195 | 4=>4 | 167=>223 | 5=>5 | 53=>184 | 175=>224 | 46=>203 | 168=>226 | 37=>22 | 0=>0 | 210=>235 | 21=>21 | 127=>170 | 145=>239 | 143=>237 | 171=>183 | 173=>187 | 212=>200 | 51=>201 | 20=>20 | 213=>202 | 232=>229 | 233=>230 | 80=>29|n=>n,fun | 15=>6 | 16=>7 | 17=>1 | 18=>4 | 19=>5|n=>n⟩
theorem Tryz.laysC174:Go.Proofs.LaysC.n174 Tryz.prog Tryz.laysC174_ren:={
 mixed:=by kernel_rfl
 f129:=Tryz.func202.trans (congrArg some (by kernel_rfl))
 f171:=Tryz.func57.trans (congrArg some (by kernel_rfl))
 f174:=Tryz.func194.trans (congrArg some (by kernel_rfl))
 f205:=Tryz.func226.trans (congrArg some (by kernel_rfl))
 f243:=Tryz.func101.trans (congrArg some (by kernel_rfl))
 f245:=Tryz.func208.trans (congrArg some (by kernel_rfl))
 f246:=Tryz.func152.trans (congrArg some (by kernel_rfl))
 f247:=Tryz.func207.trans (congrArg some (by kernel_rfl))
 f279:=Tryz.func217.trans (congrArg some (by kernel_rfl))
 f280:=Tryz.func218.trans (congrArg some (by kernel_rfl))
 f281:=Tryz.func219.trans (congrArg some (by kernel_rfl))
 f282:=Tryz.func220.trans (congrArg some (by kernel_rfl))
 f283:=Tryz.func184.trans (congrArg some (by kernel_rfl))
 f284:=Tryz.func185.trans (congrArg some (by kernel_rfl))
 f285:=Tryz.func186.trans (congrArg some (by kernel_rfl))
 f286:=Tryz.func187.trans (congrArg some (by kernel_rfl))
 f287:=Tryz.func216.trans (congrArg some (by kernel_rfl))
 f316:=Tryz.func225.trans (congrArg some (by kernel_rfl))
 f317:=Tryz.func201.trans (congrArg some (by kernel_rfl))
 f318:=Tryz.func203.trans (congrArg some (by kernel_rfl))
 f319:=Tryz.func204.trans (congrArg some (by kernel_rfl))
 f320:=Tryz.func205.trans (congrArg some (by kernel_rfl))
 f321:=Tryz.func223.trans (congrArg some (by kernel_rfl))
 f322:=Tryz.func224.trans (congrArg some (by kernel_rfl))
 f337:=Tryz.func212.trans (congrArg some (by kernel_rfl))
 f338:=Tryz.func213.trans (congrArg some (by kernel_rfl))
 t0:=Tryz.underlying0
 a0:=Tryz.isAgg0
 z0:=Tryz.sizeOf0
 v0:=Tryz.zeroValue0
 t2:=Tryz.underlying2
 a2:=Tryz.isAgg2
 z2:=Tryz.sizeOf2
 v2:=Tryz.zeroValue2
 t3:=Tryz.underlying3
 a3:=Tryz.isAgg3
 z3:=Tryz.sizeOf3
 v3:=Tryz.zeroValue3
 t4:=Tryz.underlying4
 a4:=Tryz.isAgg4
 z4:=Tryz.sizeOf4
 v4:=Tryz.zeroValue4
 t5:=Tryz.underlying5
 a5:=Tryz.isAgg5
 z5:=Tryz.sizeOf5
 v5:=Tryz.zeroValue5
 t9:=Tryz.underlying9
 a9:=Tryz.isAgg9
 z9:=Tryz.sizeOf9
 v9:=Tryz.zeroValue9
 t20:=Tryz.underlying20
 a20:=Tryz.isAgg20
 z20:=Tryz.sizeOf20
 v20:=Tryz.zeroValue20
 t21:=Tryz.underlying21
 a21:=Tryz.isAgg21
 z21:=Tryz.sizeOf21
 v21:=Tryz.zeroValue21
 t37:=Tryz.underlying22
 a37:=Tryz.isAgg22
 z37:=Tryz.sizeOf22
 v37:=Tryz.zeroValue22
 t46:=Tryz.underlying203
 a46:=Tryz.isAgg203
 z46:=Tryz.sizeOf203
 v46:=Tryz.zeroValue203
 t51:=Tryz.underlying201
 a51:=Tryz.isAgg201
 z51:=Tryz.sizeOf201
 v51:=Tryz.zeroValue201
 t53:=Tryz.underlying184
 a53:=Tryz.isAgg184
 z53:=Tryz.sizeOf184
 v53:=Tryz.zeroValue184
 t75:=Tryz.underlying138
 a75:=Tryz.isAgg138
 z75:=Tryz.sizeOf138
 v75:=Tryz.zeroValue138
 t85:=Tryz.underlying195
 a85:=Tryz.isAgg195
 z85:=Tryz.sizeOf195
 v85:=Tryz.zeroValue195
 t127:=Tryz.underlying170
 a127:=Tryz.isAgg170
 z127:=Tryz.sizeOf170
 v127:=Tryz.zeroValue170
 t143:=Tryz.underlying237
 a143:=Tryz.isAgg237
 z143:=Tryz.sizeOf237
 v143:=Tryz.zeroValue237
 t145:=Tryz.underlying239
 a145:=Tryz.isAgg239
 z145:=Tryz.sizeOf239
 v145:=Tryz.zeroValue239
 t167:=Tryz.underlying223
 a167:=Tryz.isAgg223
 z167:=Tryz.sizeOf223
 v167:=Tryz.zeroValue223
 t168:=Tryz.underlying226
 a168:=Tryz.isAgg226
 z168:=Tryz.sizeOf226
 v168:=Tryz.zeroValue226
 t171:=Tryz.underlying183
 a171:=Tryz.isAgg183
 z171:=Tryz.sizeOf183
 v171:=Tryz.zeroValue183
 t173:=Tryz.underlying187
 a173:=Tryz.isAgg187
 z173:=Tryz.sizeOf187
 v173:=Tryz.zeroValue187
 t175:=Tryz.underlying224
 a175:=Tryz.isAgg224
 z175:=Tryz.sizeOf224
 v175:=Tryz.zeroValue224
 t210:=Tryz.underlying235
 a210:=Tryz.isAgg235
 z210:=Tryz.sizeOf235
 v210:=Tryz.zeroValue235
 t212:=Tryz.underlying200
 a212:=Tryz.isAgg200
 z212:=Tryz.sizeOf200
 v212:=Tryz.zeroValue200
 t213:=Tryz.underlying202
 a213:=Tryz.isAgg202
 z213:=Tryz.sizeOf202
 t232:=Tryz.underlying229
 a232:=Tryz.isAgg229
 z232:=Tryz.sizeOf229
 v232:=Tryz.zeroValue229
 t233:=Tryz.underlying230
 a233:=Tryz.isAgg230
 z233:=Tryz.sizeOf230
 v233:=Tryz.zeroValue230
 g15:=by kernel_rfl
 g16:=by kernel_rfl
 g17:=by kernel_rfl
 g18:=by kernel_rfl
 g19:=by kernel_rfl
 t80:=Tryz.underlying29
 a80:=Tryz.isAgg29
 z80:=Tryz.sizeOf29
 v80:=Tryz.zeroValue29
 i0:=by kernel_rfl
 i2:=by kernel_rfl
 i3:=by kernel_rfl
 i4:=by kernel_rfl
 i5:=by kernel_rfl
 i9:=by kernel_rfl
 i20:=by kernel_rfl
 i21:=by kernel_rfl
 i37:=by kernel_rfl
 i46:=by kernel_rfl
 i51:=by kernel_rfl
 i53:=by kernel_rfl
 i75:=by kernel_rfl
 i80:=by kernel_rfl
 i85:=by kernel_rfl
 i127:=by kernel_rfl
 i143:=by kernel_rfl
 i145:=by kernel_rfl
 i167:=by kernel_rfl
 i168:=by kernel_rfl
 i171:=by kernel_rfl
 i173:=by kernel_rfl
 i175:=by kernel_rfl
 i210:=by kernel_rfl
 i212:=by kernel_rfl
 i232:=by kernel_rfl
 i233:=by kernel_rfl
 m15:=by kernel_rfl
 m16:=by kernel_rfl
 m17:=by kernel_rfl
 m18:=by kernel_rfl
 m19:=by kernel_rfl
 c0:=by kernel_rfl
 c2:=by kernel_rfl
 c3:=by kernel_rfl
 c4:=by kernel_rfl
 c5:=by kernel_rfl
 c9:=by kernel_rfl
 c20:=by kernel_rfl
 c21:=by kernel_rfl
 c37:=by kernel_rfl
 c46:=by kernel_rfl
 c51:=by kernel_rfl
 c53:=by kernel_rfl
 c75:=by kernel_rfl
 c80:=by kernel_rfl
 c85:=by kernel_rfl
 c127:=by kernel_rfl
 c143:=by kernel_rfl
 c145:=by kernel_rfl
 c167:=by kernel_rfl
 c168:=by kernel_rfl
 c171:=by kernel_rfl
 c173:=by kernel_rfl
 c175:=by kernel_rfl
 c210:=by kernel_rfl
 c212:=by kernel_rfl
 c213:=by kernel_rfl
 c232:=by kernel_rfl
 c233:=by kernel_rfl }
open Go.RowKit in
theorem Tryz.strconv_ParseInt_10_at64_ok (s:ByteArray) (hmax:s.size<=9223372036854775806) (v:Int) (h:Lib.parseIntB 64 s.data.toList=.ok v) (w:World) :
  Calls Tryz.prog 194 #[.string s,.int .i64 10,.int .i64 64] w fun e w'=>e=.returned (.tuple #[.int .i64 v,.nilIface])/\(w'=w\/∃ t,w'=Lib.bytesWorld w 5 t):=Any.strconv_ParseInt_10_at64_ok Tryz.laysC174 s hmax v h w
open Go.RowKit in
theorem Tryz.strconv_ParseInt_10_at64_range (s:ByteArray) (hlim:s.size<=281474976710656) (h:Lib.parseIntB 64 s.data.toList=.range) (ev:Value) (w:World) (hv:w.cell? ⟨7,0,none⟩=some ev) (hev:ev=.nilIface\/∃ te pe,ev=.iface te pe) :
  Calls Tryz.prog 194 #[.string s,.int .i64 10,.int .i64 64] w fun e w' => ∃ N,e=.returned (.tuple #[.int .i64 (Lib.intSat 64 s.data.toList),.iface 226 (.pointer (some ⟨N,0,none⟩))])/\w.heap.size<=N/\w'.heap[N]? = some (.cells #[.string ⟨#[80,97,114,115,101,73,110,116]⟩,.string s,ev] 235 (0,0))/\Below w.heap.size w w':=Any.strconv_ParseInt_10_at64_range Tryz.laysC174 s hlim h ev w hv hev
end Go.Proofs
set_option maxHeartbeats 4000000
set_option maxRecDepth 100000
set_option linter.unusedSimpArgs false
namespace Go.Proofs.YthlpinppaclofaaGreatDoor
open Go.Eng (IC IOper DReg IFn J0 I2)
open Go.Sym Go.Pb Go.RowKit
theorem D1j:∀ (m u:Nat),u<m->Lib.decDigits u=A5e u:=by
 intro m
 induction m with
 | zero=>intro u h;omega
 | succ m ih =>
  intro u h;unfold Lib.decDigits;by_cases h0:u<10
  ·rw [dif_pos h0,A1k h0];rfl
  ·rw [dif_neg h0,A4x h0,ih (u / 10) (by omega)];rfl
theorem D4y (n:Int):Lib.itoa n=G8 n:=by
 unfold Lib.itoa G8;by_cases h:n<0
 ·rw [if_pos h,if_pos h,D1j (n.natAbs+1) _ (by omega)]
 ·rw [if_neg h,if_neg h,D1j (n.toNat+1) _ (by omega)]
  congr 1;omega
theorem E6s {ρ : Ren} {x:DV} {u:Value} {vs:Array Value} (hA:F2 ρ [x] vs) (h:∀ y,VRel ρ x y->y=u):vs = #[u]:=by
 obtain ⟨y,h1,h2⟩:=hA.get (i:=0) rfl;have hs:vs.size=1:=hA.1.symm;obtain rfl:=h y h2;cases vs with|mk l=>match l,hs,h1 with
  | [a],_,h1=>simp at h1;subst h1;rfl
theorem c_Itoa (n:Int) (h0 : -9223372036854775808<=n) (h1:n<=9223372036854775807):PC Tryz.prog 57 [I64 n] (.str (G8 n)):=by
 refine PC.of_calls (by kernel_rfl) rfl rfl fun ρ w vs hf hA=>?_;have hvs:vs = #[.int .i64 n]:=E6s hA fun y h=>h.int_inv;rw [hvs];obtain ⟨r,hr,rfl⟩ := ρ.tab _ (A0L);obtain ⟨e,fr,hb⟩:=hf _ _ hr;have ht : Lib.TabIs Tryz.prog w "internal/strconv.uint64pow10" .u64 Lib.pow10Tab := by
  unfold Lib.TabIs World.var?;rw [Tryz.laysM171.m17];show (match w.heap[1]? with|some (.cells cs _ _)=>some cs|_=>none)=_;rw [hb]
 refine (Tryz.strconv_Itoa n h0 h1 w ht).mono ?_;rintro e w' ⟨rfl,k,os,rfl⟩;exact ⟨_,rfl,fun ρ'=>by rw [D4y];exact .mkStr,⟨rfl,rfl,rfl,by show w.heap.size<=(w.heap++os).size;rw [A4E];omega,fun j hj=>by
  show (w.heap++os)[j]? = w.heap[j]?;rw [Array.getElem?_append,if_pos hj]⟩⟩
theorem E9p {ρ : Ren} {x x2:DV} {u u2:Value} {vs:Array Value} (hA:F2 ρ [x,x2] vs) (h:∀ y,VRel ρ x y->y=u) (h2:∀ y,VRel ρ x2 y->y=u2):vs = #[u,u2]:=by
 obtain ⟨y,g1,g2⟩:=hA.get (i:=0) rfl;obtain ⟨z,g3,g4⟩:=hA.get (i:=1) rfl;obtain rfl:=h y g2;obtain rfl:=h2 z g4;have hs:vs.size=2:=hA.1.symm;cases vs with|mk r=>match r,hs,g1,g3 with
  | [a,b],_,h1,h3=>simp at h1 h3;subst h1 h3;rfl
theorem E6r {ρ : Ren} {x x2 x3:DV} {u u2 u3:Value} {vs:Array Value} (hA:F2 ρ [x,x2,x3] vs) (h:∀ y,VRel ρ x y->y=u) (h2:∀ y,VRel ρ x2 y->y=u2) (h3:∀ y,VRel ρ x3 y->y=u3):vs = #[u,u2,u3]:=by
 obtain ⟨y,g1,g2⟩:=hA.get (i:=0) rfl;obtain ⟨z,g3,g4⟩:=hA.get (i:=1) rfl;obtain ⟨q,g5,g6⟩:=hA.get (i:=2) rfl;obtain rfl:=h y g2;obtain rfl:=h2 z g4;obtain rfl:=h3 q g6;have hs:vs.size=3:=hA.1.symm;cases vs with|mk r=>match r,hs,g1,g3,g5 with
  | [a,b,c],_,h1,h3,h5=>simp at h1 h3 h5;subst h1 h3 h5;rfl
theorem c_IndexByte (s:List UInt8) (c:UInt8):PC Tryz.prog 195 [.str s,.int .u8 c.toNat] (I64 (Lib.indexByte s c)):=by
 refine PC.of_calls (by kernel_rfl) rfl rfl fun ρ w vs hf hA=>?_;rw [E9p hA (fun y h=>h.str_inv) (fun y h=>h.int_inv)];refine (Tryz.strings_IndexByte _ _ w).mono ?_;rintro e w' ⟨rfl,rfl⟩;refine ⟨_,rfl,fun ρ'=>?_,Below.refl _ _⟩;have:((c.toNat:Int).toNat.toUInt8)=c:=by rw [A2X];exact UInt8.ofNat_toNat
 rw [this];exact .int _ _
theorem c_ParseOk (s:List UInt8) (hs:s.length<=281474976710656) (h:∀ c∈s,dgB c=true) (h0:s≠[]) (hv:J2 s<=9223372036854775807):PC Tryz.prog 194 [.str s,I64 10,I64 64] (.tup [I64 (J2 s),.inil]):=by
 refine PC.of_calls (by kernel_rfl) rfl rfl fun ρ w vs hf hA=>?_;rw [E6r hA (fun y h=>h.str_inv) (fun y h=>h.int_inv) (fun y h=>h.int_inv)];refine (Tryz.strconv_ParseInt_10_at64_ok _ (by show s.toArray.size<=_;rw [A2K];omega) (J2 s:Int) (by have:=pib h h0;rw [if_pos hv] at this;exact this) w).mono ?_;rintro e w' ⟨rfl,hw⟩;refine ⟨_,rfl,fun ρ'=>.tup _ _ rfl (fun i x y hx hy=>?_),?_⟩
 ·match i with
  | 0=>simp at hx hy;subst hx hy;exact .int _ _
  | 1=>simp at hx hy;subst hx hy;exact .inil
  | _+2=>simp at hx
 ·rcases hw with rfl|⟨t,rfl⟩
  ·exact Below.refl _ _
  ·exact ⟨rfl,rfl,rfl,by rw [Lib.bytesWorld_size];omega,fun j hj=>Lib.bytesWorld_at_old _ _ _ _ hj⟩
theorem c_ParseBig (s:List UInt8) (hs:s.length<=281474976710656) (h:∀ c∈s,dgB c=true) (h0:s≠[]) (hv:9223372036854775807<J2 s):PC Tryz.prog 194 [.str s,I64 10,I64 64] (.tup [.bot,.iface 226 .bot]):=by
 refine PC.of_calls (by kernel_rfl) rfl rfl fun ρ w vs hf hA=>?_;rw [E6r hA (fun y h=>h.str_inv) (fun y h=>h.int_inv) (fun y h=>h.int_inv)];obtain ⟨r,hr,te,pe,rfl⟩ := ρ.tab _ (A0J _ (A0J _ A0L));obtain ⟨e,fr,hb⟩:=hf _ _ hr;refine (Tryz.strconv_ParseInt_10_at64_range _ (by show s.toArray.size<=_;rw [A2K];omega) (by have:=pib h h0;rw [if_neg (by omega)] at this;exact this) (.iface te pe) w ?_ (.inr ⟨te,pe,rfl⟩)).mono ?_
 ·simp only [World.cell?];have hb':w.heap[7]? = _:=hb;rw [hb'];rfl
 ·rintro e w' ⟨N,rfl, -, -,hB⟩;refine ⟨_,rfl,fun ρ'=>.tup _ _ rfl (fun i x y hx hy=>?_),hB⟩
  match i with
  | 0=>simp at hx hy;subst hx hy;exact .bot _
  | 1=>simp at hx hy;subst hx hy;exact .iface _ _ _ (.bot _)
  | _+2=>simp at hx
def D2f:List UInt8:=w8 [115,119,105,116,99,104,32,99,111,105,108,32,108,97,109,112,32,115,111,117,110,100,32,115,104,111,119,32,118,97,114,32,116,105,109,101,114,32,101,118,101,110,116,32,109,111,100,101,32,111,110,32,115,116,97,114,116,32,115,116,111,112,32,99,108,111,115,101,32,111,112,101,110,32,105,102,32,101,108,115,101,32,114,101,112,101,97,116,32,115,99,111,114,101,32,102,105,114,101,32,104,111,108,100,32,114,101,108,101,97,115,101,32,108,105,103,104,116,32,98,108,105,110,107,32,98,101,103,105,110,32,101,110,100,32,112,111,115,116,32,112,108,97,121,32,114,117,110,32,104,97,108,116,32,116,101,120,116,32,99,111,110,115,117,109,101,32,99,108,111,115,101,100,32,97,99,116,105,118,101,32,108,101,102,116,32,112,108,97,121,101,114,32,98,97,108,108,32,116,114,117,101,32,102,97,108,115,101]
theorem D7n:Lib.fields D2f=E2:=by kernel_rfl
theorem D7o:D2f.all (fun b=>decide (b.toNat<128))=true:=by kernel_rfl
theorem c_Fields:PC Tryz.prog 160 [.str D2f] (.lst (E2.map DV.str)):=by
 refine PC.of_callsF (by kernel_rfl) rfl (R7 _) fun ρ w vs hf hA=>?_;rw [E6s hA (fun y h=>h.str_inv)];obtain ⟨r,hr,rfl⟩ := ρ.tab _ (A0J _ A0L);obtain ⟨e,fr,hb⟩:=hf _ _ hr;have ht : Lib.TabIs Tryz.prog w "strings.asciiSpace" .u8 Lib.asciiSpaceTab := by
  unfold Lib.TabIs World.var?;rw [show Tryz.prog.globalNamed "strings.asciiSpace" = some 0 by kernel_rfl]
  show (match w.heap[0]? with|some (.cells cs _ _)=>some cs|_=>none)=_;have hb':w.heap[0]? = _:=hb;rw [hb']
 refine (Tryz.strings_Fields _ w (by decide) ?_ ht).mono ?_
 ·intro j b hj;have:=A0Q.1 D7o b (A0Y hj);simpa using this
 ·rintro e w' ⟨rfl,rfl⟩;have hl:Lib.fields (⟨D2f.toArray⟩:ByteArray).data.toList=E2:=D7n;rw [hl];refine ⟨_,w.heap.size,_,9,_,rfl,A0H _,(by show (w.heap.push _)[w.heap.size]? = _;rw [Array.getElem?_push_size]),fun ρ' hρ => VRel.strs hρ rfl (A0H _) (by decide),Below.alloc (Below.refl _ _) (A0H _) _⟩
open Go.Eng (IC IOper DReg IFn J0)
open Go.Sym Go.Pb
theorem c_skip (s:List UInt8) (hs:s.length<=140737488355328):PC Tryz.prog 121 [.str s] (I64 (skM false s)):=by
 refine PC.ofT B2 rfl (A0A rfl) (by simp [DV.nlL,DV.nl]) (by simp [DV.nlL,DV.nl]) ?_;repeat' ((with_reducible first|refine wr ?_|refine A2 ?_ ?_|fail)<;>try simp only [go_sem,seval])
 refine D2 (fun k:Nat=>[(0,.str s),(3,I64 k)]) (fun _=>nil) (fun k _=>k<=s.length/\skM false s=k+skM false (s.drop k)) (fun k=>s.length-k) 0 (by simp [C6,tm,Tm.upd]) (Sub.nil _) (by simp) ?_;rintro k c ⟨hk,he⟩;by_cases hlt:k<s.length
 ·have hd:decide ((k:Int)<s.length)=true:=by simpa using hlt
  have hg:=A0E hlt;have hw:=w64 (n:=(k:Int)+1);have hsl:=B0i (s:=s) (k:=k) hk;have hcm:=c_spanCm (s.drop k) (by rw [A1E];omega);have hle:=T6 (fun c=>decide (c.toNat≠10)) (s.drop k);rw [A1E] at hle;have hw2:=w64 (n:=(k:Int)+(C1 (fun c=>decide (c.toNat≠10)) (s.drop k):Nat)) (by omega) (by omega);have hsep:T9 s[k]=true->∃ b,DV.int IntKind.i64 ((k:Int)+1)=I64 ((b:Nat):Int)/\Sym.Sub Sym.nil Sym.nil/\B1y (fun k _=>k<=s.length/\skM false s=k+skM false (s.drop k)) b c/\s.length-b<s.length-k :=
   fun h=>⟨k+1,rfl,Sub.refl _,inv ⟨by omega,by rw [he,C7n hg h];omega⟩,by omega⟩
  have hc0:∀ n:Nat,((s[k].toNat:Int) == (n:Int))=true->s[k].toNat=n:=fun n h=>by have:=A1G.1 h;omega
  have hc1:∀ n:Nat,((s[k].toNat:Int) == (n:Int))=false->s[k].toNat≠n:=fun n h h2=>by rw [h2] at h;simp at h
  repeat' ((with_reducible first|refine wr ?_|refine cpc hcm ?_|refine A2 ?_ ?_|refine wb2 ?_ ?_<;>(intro hb;try simp only [hb])|fail)<;>try simp only [go_sem,seval,hd,hg,hw,hsl,hw2])
  ·exact hsep (by simp [T9,hc0 9 hb])
  ·exact hsep (by simp [T9,hc0 10 hb])
  ·exact hsep (by simp [T9,hc0 13 hb])
  ·exact hsep (by simp [T9,hc0 32 hb])
  ·have h35:=hc0 35 hb;have h1:=C2o hg h35;exact ⟨k+C1 (fun c=>decide (c.toNat≠10)) (s.drop k),by simp,Sub.refl _,inv ⟨by omega,by rw [he,C7p hg h35];omega⟩,by omega⟩
  ·refine A9 ?_;have h9:=hc1 9 (by assumption);have h10:=hc1 10 (by assumption);have h13:=hc1 13 (by assumption);have h32:=hc1 32 (by assumption);have h35:=hc1 35 (by assumption);rw [he,C2n hg (by simp [T9,h9,h10,h13,h32]) h35];simp
 ·have hd:decide ((k:Int)<s.length)=false:=by simpa using hlt
  repeat' ((with_reducible first|refine wr ?_|refine A2 ?_ ?_|fail)<;>try simp only [go_sem,seval,hd])
  refine A9 ?_;rw [he,C7o (by omega)];simp
theorem D9k (q:Option (List UInt8 × Nat)):(quV q).nl=true:=by cases q<;>rfl
theorem c_quoted (s:List UInt8) (hs:s.length<=10000000):PC Tryz.prog 164 [.str s] (quV (quA [] 1 (quM (s.drop 1)))):=by
 refine PC.ofT B2 rfl (A0A rfl) (by simp [DV.nlL,DV.nl]) (D9k _) ?_;repeat' ((with_reducible first|refine wr ?_|refine A2 ?_ ?_|fail)<;>try simp only [go_sem,seval])
 refine D2 (fun q:Nat × Option Nat × List UInt8=>[(0,.str s),(4,C4 q.2.1 q.2.2.length),(5,I64 q.1)]) (fun q=>D4 Sym.nil q.2.1 ⟨1,true,bytesC q.2.2⟩)
  (fun q c=>1<=q.1/\q.2.2.length<=q.1/\q.1<=s.length+1/\(q.2.1=none->q.2.2=[])/\(∀ i,q.2.1=some i->i<c)/\quA [] 1 (quM (s.drop 1))=quA q.2.2 q.1 (quM (s.drop q.1))) (fun q=>s.length+1-q.1) (1,none,[])
  (by simp [C6,tm,Tm.upd,C4]) (Sub.nil _) ⟨by simp,by simp,by simp,fun _=>rfl,(fun i hi=>by cases hi),rfl⟩ ?_
 rintro ⟨k,o,acc⟩ c ⟨h1,hal,hk,hno,ho,he⟩;simp only at h1 hal hk hno ho he;simp only;rw [he];by_cases hlt:k<s.length
 ·have hd:decide ((k:Int)<s.length)=true:=by simpa using hlt
  have hg:=A0E hlt;have hw:IntKind.i64.wrap ((k:Int)+1)=((k+1:Nat):Int):=by rw [w6z (by omega)];omega
  have hw2:IntKind.i64.wrap (((k+1:Nat):Int)+1)=((k+2:Nat):Int):=by rw [w6z (by omega)];omega
  have hcv:=B7q (H:=D4 Sym.nil o ⟨1,true,bytesC acc⟩) (u:=1) hno (fun i hi=>by subst hi;exact A0);have hc0:∀ n:Nat,((s[k].toNat:Int) == (n:Int))=true->s[k].toNat=n:=fun n h=>by have:=A1G.1 h;omega
  have hc1:∀ n:Nat,((s[k].toNat:Int) == (n:Int))=false->s[k].toNat≠n:=fun n h h2=>by rw [h2] at h;simp at h
  by_cases hlt2:k+1<s.length
  ·have hd2:decide (((k+1:Nat):Int)≥s.length)=false:=by simp;omega
   have hg2:=A0E hlt2;have hc2:∀ n:Nat,((s[k+1].toNat:Int) == (n:Int))=true->s[k+1].toNat=n:=fun n h=>by have:=A1G.1 h;omega
   have hc3:∀ n:Nat,((s[k+1].toNat:Int) == (n:Int))=false->s[k+1].toNat≠n:=fun n h h2=>by rw [h2] at h;simp at h
   have ne0:=X3 c (c+1) (by omega);have hap:=A6m (X:=Sym.nil) hno ho (by omega);repeat' ((with_reducible first|refine wr ?_|refine A2 ?_ ?_|refine wb2 ?_ ?_<;>(intro hb;try simp only [hb])|fail)<;>try simp only [go_sem,seval,hd,hg,hw,hcv,hd2,hg2,hw2,ne0,hap])
   ·refine A9 ?_;rw [A2c hg (hc0 34 hb)];rfl
   ·refine A9 ?_;rw [A3s hg (hc1 34 (by assumption)) (.inl (by have:=of_decide_eq_true hb;omega))];rfl
   ·refine A9 ?_;rw [A3s hg (hc1 34 (by assumption)) (.inr (by have:=of_decide_eq_true hb;omega))];rfl
   ·refine A9 ?_;rw [A9j hg (hc0 92 (by assumption)) (fun d hd=>by
     rw [hg2] at hd;cases hd;exact ⟨D1q (b:=34) (by assumption),D1q (b:=92) hb⟩)];rfl
   ·have hq:=B4x (acc:=acc) hg (hc0 92 (by assumption)) hg2 (.inr (D1r (b:=92) hb));exact ⟨(k+2,some (c+1),acc++[s[k+1]]),⟨by simp only [A0C,A0K];rfl,rfl⟩,O4 rfl,inv ⟨by omega,by simp;omega,by simp only;omega,(fun h=>by cases h),(fun i hi=>by cases hi;omega),hq⟩,by simp only;omega⟩
   ·have hq:=B4x (acc:=acc) hg (hc0 92 (by assumption)) hg2 (.inl (D1r (b:=34) hb));exact ⟨(k+2,some (c+1),acc++[s[k+1]]),⟨by simp only [A0C,A0K];rfl,rfl⟩,O4 rfl,inv ⟨by omega,by simp;omega,by simp only;omega,(fun h=>by cases h),(fun i hi=>by cases hi;omega),hq⟩,by simp only;omega⟩
   ·have hq:=A9k (acc:=acc) hg (hc1 34 (by assumption)) (by have:=of_decide_eq_false (by assumption:decide (((s[k].toNat:Int))<32)=false);omega) (by have:=of_decide_eq_false (by assumption:decide (((s[k].toNat:Int))>126)=false);omega) (hc1 92 (by assumption));exact ⟨(k+1,some (c+1),acc++[s[k]]),⟨by simp only [A0C,A0K];rfl,rfl⟩,O4 rfl,inv ⟨by omega,by simp;omega,by simp only;omega,(fun h=>by cases h),(fun i hi=>by cases hi;omega),hq⟩,by simp only;omega⟩
  ·have hd2:decide (((k+1:Nat):Int)≥s.length)=true:=by simp;omega
   have ne0:=X3 c (c+1) (by omega);have hap:=A6m (X:=Sym.nil) hno ho (by omega);repeat' ((with_reducible first|refine wr ?_|refine A2 ?_ ?_|refine wb2 ?_ ?_<;>(intro hb;try simp only [hb])|fail)<;>try simp only [go_sem,seval,hd,hg,hw,hcv,hd2,ne0,hap])
   ·refine A9 ?_;rw [A2c hg (hc0 34 hb)];rfl
   ·refine A9 ?_;rw [A3s hg (hc1 34 (by assumption)) (.inl (by have:=of_decide_eq_true hb;omega))];rfl
   ·refine A9 ?_;rw [A3s hg (hc1 34 (by assumption)) (.inr (by have:=of_decide_eq_true hb;omega))];rfl
   ·refine A9 ?_;rw [A9j hg (hc0 92 (by assumption)) (fun d hd=>by rw [A1Q (by omega)] at hd;cases hd)];rfl
   ·have hq:=A9k (acc:=acc) hg (hc1 34 (by assumption)) (by have:=of_decide_eq_false (by assumption:decide (((s[k].toNat:Int))<32)=false);omega) (by have:=of_decide_eq_false (by assumption:decide (((s[k].toNat:Int))>126)=false);omega) (hc1 92 (by assumption));exact ⟨(k+1,some (c+1),acc++[s[k]]),⟨by simp only [A0C,A0K];rfl,rfl⟩,O4 rfl,inv ⟨by omega,by simp;omega,by simp only;omega,(fun h=>by cases h),(fun i hi=>by cases hi;omega),hq⟩,by simp only;omega⟩
 ·have hd:decide ((k:Int)<s.length)=false:=by simpa using hlt
  repeat' ((with_reducible first|refine wr ?_|refine A2 ?_ ?_|fail)<;>try simp only [go_sem,seval,hd])
  refine A9 ?_;rw [C8i (by omega)];rfl
theorem c_sign (s:List UInt8) (hs:s.length<=10000000) (h0:s≠[]):PC Tryz.prog 165 [.str s] (I64 (D7 s)):=by
 refine PC.ofT B2 rfl (A0A rfl) (by simp [DV.nlL,DV.nl]) (by simp [DV.nlL,DV.nl]) ?_;have hix:∀ c,decide (Lib.indexByte [123,125,40,41,59,44,61,43,45,42,47,37,33,60,62] c≥0)=A3l c:=fun c=>E0y c
 match s,h0 with
 | [c],_ =>
  have hi:=c_IndexByte [123,125,40,41,59,44,61,43,45,42,47,37,33,60,62] c;have hx:B1c (DV.str [c]) (.int .i64 0)=some (.int .u8 (c.toNat:Int)):=rfl;repeat' ((with_reducible first|refine wr ?_|refine cpc hi ?_|refine A2 ?_ ?_|refine wb2 ?_ ?_<;>(intro hb;try simp only [hb])|fail)<;>try simp only [go_sem,seval,hix,hx])
  all_goals (refine A9 ?_;simp [D7,hb])
 | c :: d :: r,_ =>
  have hi:=c_IndexByte [123,125,40,41,59,44,61,43,45,42,47,37,33,60,62] c;have hx:B1c (DV.str (c :: d :: r)) (.int .i64 0)=some (.int .u8 (c.toNat:Int)):=rfl;have hsl:slsR (c :: d :: r) none (some (DV.int .i64 2))=some (DV.str [c,d]):=B4p (s:=c :: d :: r) (k:=2) (by simp);have hd:decide (((r.length+1+1:Nat):Int)>1)=true:=by simp;omega
  have hk:∀ a b:UInt8,([c,d] == [a,b])=(c == a && d == b):=fun a b=>by simp [A4C]
  have h2:=C2e c d;repeat' ((with_reducible first|refine wr ?_|refine cpc hi ?_|refine A2 ?_ ?_|refine wb2 ?_ ?_<;>(intro hb;try simp only [hb])|fail)<;>try simp only [go_sem,seval,hd,hix,hx,hsl])
  all_goals (refine A9 ?_;simp_all [D7])
theorem c_Fields':PC Tryz.prog 160 [.str [115,119,105,116,99,104,32,99,111,105,108,32,108,97,109,112,32,115,111,117,110,100,32,115,104,111,119,32,118,97,114,32,116,105,109,101,114,32,101,118,101,110,116,32,109,111,100,101,32,111,110,32,115,116,97,114,116,32,115,116,111,112,32,99,108,111,115,101,32,111,112,101,110,32,105,102,32,101,108,115,101,32,114,101,112,101,97,116,32,115,99,111,114,101,32,102,105,114,101,32,104,111,108,100,32,114,101,108,101,97,115,101,32,108,105,103,104,116,32,98,108,105,110,107,32,98,101,103,105,110,32,101,110,100,32,112,111,115,116,32,112,108,97,121,32,114,117,110,32,104,97,108,116,32,116,101,120,116,32,99,111,110,115,117,109,101,32,99,108,111,115,101,100,32,97,99,116,105,118,101,32,108,101,102,116,32,112,108,97,121,101,114,32,98,97,108,108,32,116,114,117,101,32,102,97,108,115,101]] (.lst (E2.map DV.str)):=c_Fields
theorem C4h:∀ k:Nat,k<38->(E2.take k).contains (E2.getD k [])=false:=by decide +kernel
theorem c_words:PC Tryz.prog 120 [] (.mp .s (E2.map DV.str) (E2.map fun _=>DV.bool true)):=by
 refine PC.ofT B2 rfl (A0A rfl) rfl (by simp only [DV.nl];rw [R7,Q5 (fun _=>rfl)];rfl) ?_;have hf:=c_Fields';repeat' ((with_reducible first|refine wr ?_|refine cpc hf ?_|refine A2 ?_ ?_|fail)<;>try simp only [go_sem,seval])
 clear hf;refine D2 (fun k:Nat=>[(1,.mid 0),(5,.lst (E2.map DV.str)),(6,I64 E2.length),(7,I64 k)]) (fun k=>Sym.nil.upd 0 ⟨0,true,[.mpc .s ((E2.take k).map DV.str) ((E2.take k).map fun _=>DV.bool true)]⟩) (fun k _=>k<=E2.length) (fun k=>E2.length-k) 0 (by simp [C6,tm,Tm.upd]) (Sub.refl _) (by simp) ?_;rintro k c hk;have hlen:E2.length=38:=rfl;by_cases hlt:k<E2.length
 ·have hd:decide ((k:Int)<E2.length)=true:=by simpa using hlt
  have hg:=A0E hlt;have hw:IntKind.i64.wrap ((k:Int)+1)=((k+1:Nat):Int):=by rw [w6z (by omega)];omega
  have hn:(E2.take k).contains E2[k]=false:=by
   have:=C4h k (by omega)
   rwa [A0S,hg,A4A] at this
  have hm:=B0t hn 0;have e1:E2.take (k+1)=E2.take k++[E2[k]]:=by rw [A2J,hg];rfl
  repeat' ((with_reducible first|refine wr ?_|refine A2 ?_ ?_|fail)<;>try simp only [go_sem,seval,hd,hg,hw,hm])
  refine ⟨k+1,rfl,?_,inv hlt,by omega⟩;rw [e1,A0Z,A0Z];intro j b hj;by_cases e:j=0
  ·subst e;rw [A0] at hj ⊢;exact hj
  ·rw [A3 e] at hj;cases hj
 ·have hd:decide ((k:Int)<E2.length)=false:=by simpa using hlt
  repeat' ((with_reducible first|refine wr ?_|refine A2 ?_ ?_|fail)<;>try simp only [go_sem,seval,hd])
  rw [A0O (by omega)];exact B5a A0
abbrev A3j:DV:=.mp .s (E2.map DV.str) (E2.map fun _=>DV.bool true)
theorem c_number (c:UInt8) (r:List UInt8) (hs:(c :: r).length<=10000000) (hc:dgB c=true) (hl:ltB c=false):PC Tryz.prog 163 [.str (c :: r)] (nxV (A7 (c :: r))):=by
 have hsp:=c_spanDg (c :: r) (by omega);have hn1:1<=C1 dgB (c :: r):=by simp [C1,hc]
 have hle:=T6 dgB (c :: r);have hall:=B0h (p:=dgB) (c :: r);have hne:(c :: r).take (C1 dgB (c :: r))≠[]:=by
  intro e;have:=congrArg List.length e;rw [A0T,A0F] at this;omega
 have hx:B1c (DV.str (c :: r)) (.int .i64 0)=some (.int .u8 (c.toNat:Int)):=rfl;have hsl:=B4p (s:=c :: r) (k:=C1 dgB (c :: r)) hle;have hlen:((c :: r).take (C1 dgB (c :: r))).length<=281474976710656:=by rw [A0T];omega
 have hM:A7 (c :: r)=if 1<C1 dgB (c :: r)/\c.toNat=48 then nxE 47
   else if 2147483647<J2 ((c :: r).take (C1 dgB (c :: r))) then nxE 5
   else ⟨3,[],(J2 ((c :: r).take (C1 dgB (c :: r))):Int),C1 dgB (c :: r),0⟩:=by
  rw [A7,if_neg (by rw [hl];simp),if_pos hc]
 rw [hM];generalize C1 dgB (c :: r)=n at *;generalize hnv:J2 ((c :: r).take n)=v at *;refine PC.ofT B2 rfl (A0A rfl) rfl (C9c _) ?_;have z1:A3n true 3 .inil (inj .nilIface)=some (.bool false):=rfl;have z2:∀ (t:TypeId) (x:DV),A3n true 3 (.iface t x) (inj .nilIface)=some (.bool true):=fun _ _=>rfl;by_cases hbig:v<=9223372036854775807
 ·have hp:=c_ParseOk _ hlen hall hne (by rw [hnv];exact hbig);rw [hnv] at hp;repeat' ((with_reducible first|refine wr ?_|refine cpc hsp ?_|refine cpc hp ?_|refine A2 ?_ ?_|refine wb2 ?_ ?_<;>(intro hb;try simp only [hb])|fail)<;>try simp only [go_sem,seval,hx,hsl,z1])
  ·rw [D6 (v:=nxV (nxE 47)) rfl];refine A9 (congrArg nxV ?_);rw [if_pos ⟨A8v (by assumption),A6d (b:=48) hb⟩]
  ·rw [D6 (v:=nxV (nxE 5)) rfl];refine A9 (congrArg nxV ?_);rw [if_neg (fun h=>A2k (b:=48) (by assumption) h.2),if_pos (A8v hb)]
  ·rw [D6 (v:=nxV ⟨3,[],(v:Int),n,0⟩) rfl];refine A9 (congrArg nxV ?_);rw [if_neg (fun h=>A2k (b:=48) (by assumption) h.2),if_neg (A3m hb)]
  ·rw [D6 (v:=nxV (nxE 5)) rfl];refine A9 (congrArg nxV ?_);rw [if_neg (fun h=>A3m (a:=n) (b:=1) (by assumption) h.1),if_pos (A8v hb)]
  ·rw [D6 (v:=nxV ⟨3,[],(v:Int),n,0⟩) rfl];refine A9 (congrArg nxV ?_);rw [if_neg (fun h=>A3m (a:=n) (b:=1) (by assumption) h.1),if_neg (A3m hb)]
 ·have hp:=c_ParseBig _ hlen hall hne (by rw [hnv];omega);repeat' ((with_reducible first|refine wr ?_|refine cpc hsp ?_|refine cpc hp ?_|refine A2 ?_ ?_|refine wb2 ?_ ?_<;>(intro hb;try simp only [hb])|fail)<;>try simp only [go_sem,seval,hx,hsl,z2])
  ·rw [D6 (v:=nxV (nxE 47)) rfl];refine A9 (congrArg nxV ?_);rw [if_pos ⟨A8v (by assumption),A6d (b:=48) hb⟩]
  ·rw [D6 (v:=nxV (nxE 5)) rfl];refine A9 (congrArg nxV ?_);rw [if_neg (fun h=>A2k (b:=48) (by assumption) h.2),if_pos (by omega)]
  ·rw [D6 (v:=nxV (nxE 5)) rfl];refine A9 (congrArg nxV ?_);rw [if_neg (fun h=>A3m (a:=n) (b:=1) (by assumption) h.1),if_pos (by omega)]
theorem C9r (w:List UInt8):lkV (.bool false) false (E2.map fun _=>DV.bool true) (L9 (.str w) (E2.map DV.str) 0)=some (.bool (E4 w)):=by
 cases h:E4 w with
 | false=>rw [B0t h 0];rfl
 | true =>
  obtain ⟨j,hj⟩:=C1a h 0;have hlt:=(B8c hj).2;rw [A0I] at hlt;rw [hj,C1d,A1C,A0E (by omega)];rfl
theorem c_next (c:UInt8) (r:List UInt8) (hs:(c :: r).length<=10000000):PC Tryz.prog 122 [.str (c :: r),A3j] (nxV (A7 (c :: r))):=by
 have hx:B1c (DV.str (c :: r)) (.int .i64 0)=some (.int .u8 (c.toNat:Int)):=rfl;have hlt:=c_letter c;have hdg:=c_digit c;have hnl:DV.nlL (E2.map fun _=>DV.bool true)=true:=Q5 (fun _=>rfl) _;refine PC.ofT B2 rfl (A0A rfl) (by simp [DV.nlL,DV.nl,R7,hnl]) (C9c _) ?_;by_cases hl:ltB c=true
 ·have hsp:=c_spanPt (c :: r) (by omega);have hle:=T6 ptB (c :: r);have hsl:=B4p (s:=c :: r) (k:=C1 ptB (c :: r)) hle;have hM:A7 (c :: r)=if 12<C1 ptB (c :: r) then nxE 9 else ⟨if E4 ((c :: r).take (C1 ptB (c :: r)))=true then 2 else 1,(c :: r).take (C1 ptB (c :: r)),0,C1 ptB (c :: r),0⟩:=by
   rw [A7,if_pos hl]
  rw [hM];generalize C1 ptB (c :: r)=n at *;have hlk:=C9r ((c :: r).take n);repeat' ((with_reducible first|refine wr ?_|refine cpc hlt ?_|refine cpc hsp ?_|refine A2 ?_ ?_|refine wb2 ?_ ?_<;>(intro hb;try simp only [hb])|fail)<;>try simp only [go_sem,seval,hl,hx,hsl,hlk])
  ·rw [D6 (v:=nxV (nxE 9)) rfl];refine A9 (congrArg nxV ?_);rw [if_pos (A8v hb)]
  ·rw [D6 (v:=nxV ⟨2,(c :: r).take n,0,n,0⟩) rfl];refine A9 (congrArg nxV ?_);rw [if_neg (A3m (a:=n) (b:=12) (by assumption))];try (rw [hb];rfl)
  ·rw [D6 (v:=nxV ⟨1,(c :: r).take n,0,n,0⟩) rfl];refine A9 (congrArg nxV ?_);rw [if_neg (A3m (a:=n) (b:=12) (by assumption))];try (rw [hb];rfl)
 have hl0:ltB c=false:=by simpa using hl
 by_cases hd:dgB c=true
 ·have hnum:=c_number c r hs hd hl0;obtain ⟨x,hxx⟩:∃ x,x=A7 (c :: r):=⟨_,rfl⟩;rw [<- hxx] at hnum ⊢;have hnum:PC Tryz.prog 163 [.str (c :: r)] (.tup [.agg [I64 x.kind,.str x.text,I64 x.value,I64 0],I64 x.n,I64 x.err]):=hnum;repeat' ((with_reducible first|refine wr ?_|refine cpc hlt ?_|refine cpc hdg ?_|refine cpc hnum ?_|refine A2 ?_ ?_|fail)<;>try simp only [go_sem,seval,hl0,hx,hd])
  rw [D6 (v:=nxV x) rfl];exact A9 rfl
 have hd0:dgB c=false:=by simpa using hd
 by_cases hq:c.toNat=34
 ·have hqu:=c_quoted (c :: r) hs;rw [List.drop_one,List.tail_cons] at hqu;have hb34:((c.toNat:Int) == 34)=true:=by rw [hq];rfl
  cases hqr:quM r with
  | none =>
   have hM:A7 (c :: r)=nxE 48:=by
    rw [A7,if_neg hl,if_neg hd,if_pos hq,hqr]
   rw [hM];rw [hqr] at hqu;have hqu:PC Tryz.prog 164 [.str (c :: r)] (.tup [.str [],I64 0]):=hqu;repeat' ((with_reducible first|refine wr ?_|refine cpc hlt ?_|refine cpc hdg ?_|refine cpc hqu ?_|refine A2 ?_ ?_|fail)<;>try simp only [go_sem,seval,hl0,hx,hd0,hb34])
   rw [D6 (v:=nxV (nxE 48)) rfl];exact A9 rfl
  | some x =>
   obtain ⟨t,m⟩:=x;have hM:A7 (c :: r)=if 32<t.length then nxE 9 else ⟨4,t,0,m+1,0⟩:=by
    rw [A7,if_neg hl,if_neg hd,if_pos hq,hqr]
   rw [hM];rw [hqr] at hqu;have hqu:PC Tryz.prog 164 [.str (c :: r)] (.tup [.str t,I64 ((m+1:Nat):Int)]):=hqu;have hm0:(((m+1:Nat):Int) == 0)=false:=by simp;omega
   repeat' ((with_reducible first|refine wr ?_|refine cpc hlt ?_|refine cpc hdg ?_|refine cpc hqu ?_|refine A2 ?_ ?_|refine wb2 ?_ ?_<;>(intro hb;try simp only [hb])|fail)<;>try simp only [go_sem,seval,hl0,hx,hd0,hb34,hm0])
   ·rw [D6 (v:=nxV (nxE 9)) rfl];refine A9 (congrArg nxV ?_);rw [if_pos (A8v hb)]
   ·rw [D6 (v:=nxV ⟨4,t,0,m+1,0⟩) rfl];refine A9 (congrArg nxV ?_);rw [if_neg (A3m hb)]
 ·have hsg:=c_sign (c :: r) hs (by simp);have hb34:((c.toNat:Int) == 34)=false:=by simpa using (fun h=>hq (by omega))
  have hle:=B7h (c :: r);have hsl:=B4p (s:=c :: r) (k:=D7 (c :: r)) hle;have hM:A7 (c :: r)=if D7 (c :: r)=0 then nxE 47 else ⟨5,(c :: r).take (D7 (c :: r)),0,D7 (c :: r),0⟩:=by
   rw [A7,if_neg hl,if_neg hd,if_neg hq]
  rw [hM];generalize D7 (c :: r)=n at *;repeat' ((with_reducible first|refine wr ?_|refine cpc hlt ?_|refine cpc hdg ?_|refine cpc hsg ?_|refine A2 ?_ ?_|refine wb2 ?_ ?_<;>(intro hb;try simp only [hb])|fail)<;>try simp only [go_sem,seval,hl0,hx,hd0,hb34,hsl])
  ·rw [D6 (v:=nxV (nxE 47)) rfl];refine A9 (congrArg nxV ?_);rw [if_pos (A6d (b:=0) hb)]
  ·rw [D6 (v:=nxV ⟨5,(c :: r).take n,0,n,0⟩) rfl];refine A9 (congrArg nxV ?_);rw [if_neg (A2k (b:=0) hb)]
theorem c_IsWord (s:List UInt8):PC Tryz.prog 145 [.str s] (.bool (E4 s)):=by
 refine PC.ofT B2 rfl (A0A rfl) (by simp [DV.nlL,DV.nl]) (by simp [DV.nlL,DV.nl]) ?_;have hw:=c_words;have hlk:=C9r s;repeat' ((with_reducible first|refine wr ?_|refine cpc hw ?_|refine A2 ?_ ?_|fail)<;>try simp only [go_sem,seval,hlk])
 exact A9 rfl
theorem c_IsName (s:List UInt8) (hs:s.length<=1000000000):PC Tryz.prog 91 [.str s] (.bool (C2 s)):=by
 refine PC.ofT B2 rfl (A0A rfl) (by simp [DV.nlL,DV.nl]) (by simp [DV.nlL,DV.nl]) ?_;have hw:=c_IsWord s;have hsp:=c_spanPt s (by omega);cases s with
 | nil =>
  repeat' ((with_reducible first|refine wr ?_|refine A2 ?_ ?_|fail)<;>try simp only [go_sem,seval])
  exact A9 rfl
 | cons c r =>
  have hx:B1c (DV.str (c :: r)) (.int .i64 0)=some (.int .u8 (c.toNat:Int)):=rfl;have hlt:=c_letter c;have hd1:decide (((r.length+1:Nat):Int)≥1)=true:=by simp;omega
  repeat' ((with_reducible first|refine wr ?_|refine cpc hw ?_|refine cpc hsp ?_|refine cpc hlt ?_|refine A2 ?_ ?_|refine wb2 ?_ ?_<;>(intro hb;try simp only [hb])|fail)<;>try simp only [go_sem,seval,hx,hd1])
  all_goals (refine A9 (congrArg DV.bool ?_);simp_all [C2]<;>omega)
theorem c_Quote (s:List UInt8) (hs:s.length<=1000000):PC Tryz.prog 155 [.str s] (.str (V7 s)):=by
 refine PC.ofT B2 rfl (A0A rfl) (by simp [DV.nlL,DV.nl]) (by simp [DV.nlL,DV.nl]) ?_;repeat' ((with_reducible first|refine wr ?_|refine A2 ?_ ?_|fail)<;>try simp only [go_sem,seval])
 refine D2 (fun q:Nat × Nat=>[(0,.str s),(3,.slc q.2 0 (A2t (s.take q.1)).length),(4,I64 q.1)]) (fun q=>Sym.nil.upd q.2 ⟨1,true,bytesC (A2t (s.take q.1))⟩)
  (fun q c=>q.1<=s.length/\q.2<c) (fun q=>s.length-q.1) (0,0) (by simp [C6,tm,Tm.upd,A2t]) (Sub.refl _) (by simp) ?_
 rintro ⟨k,id⟩ c ⟨hk,hid⟩;simp only at hk hid;simp only;have hal:(A2t (s.take k)).length<=2 * k+1:=by
  have:=B0l (s.take k);rw [A0T] at this;omega
 obtain ⟨acc,hacc⟩:∃ acc,acc=A2t (s.take k):=⟨_,rfl⟩;rw [<- hacc] at hal ⊢;by_cases hlt:k<s.length
 ·have hd:decide ((k:Int)<s.length)=true:=by simpa using hlt
  have hg:=A0E hlt;have hw:IntKind.i64.wrap ((k:Int)+1)=((k+1:Nat):Int):=by rw [w6z (by omega)];omega
  have hA:∀ H c id,apB H c id 1 1 acc.length 1 [.int .u8 92] (some ⟨1,true,bytesC acc⟩)=some (.slc c 0 (acc.length+1),(H.del id).upd c ⟨1,true,bytesC (acc++[92])⟩,c+1):=fun H c id=>B9b (x:=92) rfl (by omega);have hB:∀ H c id,apB H c id 1 1 (acc.length+1) 1 [.int .u8 (s[k].toNat:Int)] (some ⟨1,true,bytesC (acc++[92])⟩)=some (.slc c 0 (acc.length+1+1),(H.del id).upd c ⟨1,true,bytesC (acc++[92]++[s[k]])⟩,c+1):=fun H c id=>B9b (by simp) (by omega);have hC:∀ H c id,apB H c id 1 1 acc.length 1 [.int .u8 (s[k].toNat:Int)] (some ⟨1,true,bytesC acc⟩)=some (.slc c 0 (acc.length+1),(H.del id).upd c ⟨1,true,bytesC (acc++[s[k]])⟩,c+1):=fun H c id=>B9b rfl (by omega);have est:A2t (s.take (k+1))=acc++quB s[k]:=by rw [hacc,B3b hg]
  have ne0:=A0k id c (c+1) (c+2) (c+3) (by omega);repeat' ((with_reducible first|refine wr ?_|refine A2 ?_ ?_|refine wb2 ?_ ?_<;>(intro hb;try simp only [hb])|fail)<;>try simp only [go_sem,seval,hd,hg,hw,ne0,hA,hB,hC])
  ·have e2:quB s[k]=[92,s[k]]:=if_pos (.inl (A6d (b:=34) hb));exact ⟨(k+1,c+1+1+1),⟨by simp only [est,e2,A0C];rfl,rfl⟩,O4 (by simp only [est,e2,A0U];rfl),inv ⟨hlt,by simp only;omega⟩,by simp only;omega⟩
  ·have e2:quB s[k]=[92,s[k]]:=if_pos (.inr (A6d (b:=92) hb));exact ⟨(k+1,c+1+1+1),⟨by simp only [est,e2,A0C];rfl,rfl⟩,O4 (by simp only [est,e2,A0U];rfl),inv ⟨hlt,by simp only;omega⟩,by simp only;omega⟩
  ·have e2:quB s[k]=[s[k]]:=if_neg (fun h=>h.elim (A2k (b:=34) (by assumption)) (A2k (b:=92) hb));exact ⟨(k+1,c+1),⟨by simp only [est,e2,A0C];rfl,rfl⟩,O4 (by simp only [est,e2]),inv ⟨hlt,by simp only;omega⟩,by simp only;omega⟩
 ·have hd:decide ((k:Int)<s.length)=false:=by simpa using hlt
  have hZ:∀ H c id,apB H c id 1 1 acc.length 1 [.int .u8 34] (some ⟨1,true,bytesC acc⟩)=some (.slc c 0 (acc.length+1),(H.del id).upd c ⟨1,true,bytesC (acc++[34])⟩,c+1):=fun H c id=>B9b (x:=34) rfl (by omega);have ne0:=V8 id c (c+1) (by omega);have hcv:∀ (H:Hp) u,A1l (H.upd (c+1) ⟨u,true,bytesC (acc++[34])⟩) (.slc (c+1) 0 (acc.length+1))=some (.str (acc++[34])):=fun H u=>A6b A0 rfl (by simp);repeat' ((with_reducible first|refine wr ?_|refine A2 ?_ ?_|fail)<;>try simp only [go_sem,seval,hd,ne0,hZ,hcv])
  refine A9 ?_;rw [hacc,A0O (by omega)];rfl
theorem c_Scan (s:List UInt8) (hs:s.length<=100000):PC Tryz.prog 68 [.str s] (C2r (C0 s)):=by
 refine PC.ofT B2 rfl (A0A rfl) rfl (B7j _) ?_;have hwd:=c_words;have hsk:=c_skip s (by omega);by_cases h20:20000<s.length
 ·have hd0:decide ((s.length:Int)>20000)=true:=by simp;omega
  have hM:C0 s=([],0,9):=if_pos h20;rw [hM];repeat' ((with_reducible first|refine wr ?_|refine A2 ?_ ?_|fail)<;>try simp only [go_sem,seval,hd0])
  exact A6h
 have hd0:decide ((s.length:Int)>20000)=false:=by simp;omega
 have hM:C0 s=H4 (s.length+1) s (skM false s) []:=if_neg h20;rw [hM];have hle0:=T7 false s;repeat' ((with_reducible first|refine wr ?_|refine cpc hwd ?_|refine cpc hsk ?_|refine A2 ?_ ?_|fail)<;>try simp only [go_sem,seval,hd0])
 refine D2 (fun q:Nat × Nat × Option Nat × List Tok=>[(0,.str s),(5,A3j),(6,C4 q.2.2.1 q.2.2.2.length),(7,I64 q.2.1)]) (fun q=>D4 Sym.nil q.2.2.1 ⟨4,true,A8 (q.2.2.2.map Tok.v)⟩)
  (fun q c=>q.2.1<=s.length/\s.length<q.1+q.2.1/\q.2.2.2.length<=q.2.1/\(q.2.2.1=none->q.2.2.2=[])/\(∀ i,q.2.2.1=some i->i<c)/\H4 (s.length+1) s (skM false s) []=H4 q.1 s q.2.1 q.2.2.2) (fun q=>q.1) (s.length+1,skM false s,none,[])
  (by simp [C6,tm,Tm.upd,C4]) (Sub.nil _) ⟨by simp only;omega,by simp only;omega,by simp,fun _=>rfl,(fun i hi=>by cases hi),rfl⟩ ?_
 rintro ⟨f,at_,o,acc⟩ c ⟨h1,hf,hal,hno,ho,he⟩;simp only at h1 hf hal hno ho he;simp only;rw [he];by_cases hlt:at_<s.length
 ·have hd:decide ((at_:Int)<s.length)=true:=by simpa using hlt
  have hg:=A0E hlt;have hsl:=B0i (s:=s) (k:=at_) h1;have hdr:=N0 hg;have hnx:PC Tryz.prog 122 [.str (s.drop at_),A3j] (nxV (A7 (s.drop at_))):=by
   rw [hdr];exact c_next _ _ (by rw [<- hdr,A1E];omega)
  obtain ⟨f,rfl⟩:∃ g,f=g+1:=⟨f-1,by omega⟩;by_cases hz:(A7 (s.drop at_)).err=0
  ·have hn:=A1e hz;rw [A1E] at hn;have hst:H4 (f+1) s at_ acc=H4 f s (at_+(A7 (s.drop at_)).n+skM false (s.drop (at_+(A7 (s.drop at_)).n))) (acc++[⟨(A7 (s.drop at_)).kind,(A7 (s.drop at_)).text,(A7 (s.drop at_)).value,(at_:Int)⟩]):=by
    rw [H4,if_neg (by omega),if_neg (by simpa using hz)]
   rw [hst];obtain ⟨x,hx⟩:∃ x,x=A7 (s.drop at_):=⟨_,rfl⟩;rw [<- hx] at hnx hz hn ⊢;have hnx:PC Tryz.prog 122 [.str (s.drop at_),A3j] (.tup [.agg [I64 x.kind,.str x.text,I64 x.value,I64 0],I64 x.n,I64 x.err]):=hnx;have hz':(x.err != 0)=false:=by simpa using hz
   have hw1:IntKind.i64.wrap ((at_:Int)+x.n)=((at_+x.n:Nat):Int):=by rw [w6z (by omega)];omega
   have hsl2:=B0i (s:=s) (k:=at_+x.n) (by omega);have hsk2:=c_skip (s.drop (at_+x.n)) (by rw [A1E];omega);have hkl:=T7 false (s.drop (at_+x.n));rw [A1E] at hkl;obtain ⟨z,hzz⟩:∃ z,z=skM false (s.drop (at_+x.n)):=⟨_,rfl⟩;rw [<- hzz] at hsk2 hkl ⊢;have hw2:IntKind.i64.wrap (((at_+x.n:Nat):Int)+z)=((at_+x.n+z:Nat):Int):=by rw [w6z (by omega)];omega
   have ne0:=V8 c (c+1) (c+2) (by omega);repeat' ((with_reducible first|refine wr ?_|refine cpc hnx ?_|refine cpc hsk2 ?_|refine A2 ?_ ?_|fail)<;>try simp only [go_sem,seval,hd,hsl,hz',hw1,hsl2,hw2,ne0])
   refine D0 (L6 (cs:=A8 (acc.map Tok.v)) (fun e=>by rw [hno e];exact ⟨rfl,rfl⟩) (fun i hi=>?_) (by rw [B8 (u:=4) (T1 _)];simp) (by omega) (by omega) (by omega)) ?_
   ·have:=ho i hi;rw [A3 (by omega),A3 (by omega),A3 (by omega),A3 (by omega)];exact B5c hi
   simp only [go_sem,seval,ne0,hw1,hw2];repeat' ((with_reducible first|refine wr ?_|refine cpc hnx ?_|refine cpc hsk2 ?_|refine A2 ?_ ?_|fail)<;>try simp only [go_sem,seval,hd,hsl,hz',hw1,hsl2,hw2,ne0])
   exact ⟨(f,at_+x.n+z,some (c+1+1),acc++[⟨x.kind,x.text,x.value,(at_:Int)⟩]),⟨by simp only [A0C,A0K];rfl,rfl⟩,
    O4 (by simp only [A0Z,H6];rfl),inv ⟨by simp only;omega,by simp only;omega,by simp only [A0C,A0K];omega,(fun h=>by cases h),(fun i hi=>by cases hi;omega),rfl⟩,by simp only;omega⟩
  ·have hst:H4 (f+1) s at_ acc=([],(at_:Int),(A7 (s.drop at_)).err):=by
    rw [H4,if_neg (by omega),if_pos hz]
   rw [hst];obtain ⟨x,hx⟩:∃ x,x=A7 (s.drop at_):=⟨_,rfl⟩;rw [<- hx] at hnx hz ⊢;have hnx:PC Tryz.prog 122 [.str (s.drop at_),A3j] (.tup [.agg [I64 x.kind,.str x.text,I64 x.value,I64 0],I64 x.n,I64 x.err]):=hnx;have hz':(x.err != 0)=true:=by simpa using hz
   have ne0:=X3 c (c+1) (by omega);repeat' ((with_reducible first|refine wr ?_|refine cpc hnx ?_|refine A2 ?_ ?_|fail)<;>try simp only [go_sem,seval,hd,hsl,hz',ne0])
   exact A6h
 ·have hd:decide ((at_:Int)<s.length)=false:=by simpa using hlt
  repeat' ((with_reducible first|refine wr ?_|refine A2 ?_ ?_|fail)<;>try simp only [go_sem,seval,hd])
  have hM2:H4 f s at_ acc=(acc,0,0):=by
   cases f with
   | zero=>rfl
   | succ f=>rw [H4,if_pos (by omega)]
  rw [hM2];exact B7t (fun e=>by rw [hno e];rfl) (by simp) (T1 acc)
theorem c_wordsR:PC Tryz.prog 181 [] (.lst (E2.map DV.str)):=by
 refine PC.ofT B2 rfl (A0A rfl) rfl (R7 _) ?_;repeat' ((with_reducible first|refine wr ?_|refine A2 ?_ ?_|fail)<;>try simp only [go_sem,seval])
 exact A0g (xs:=E2.map DV.str) (u:=1) A0 rfl rfl (R4 _) ⟨[],rfl⟩
theorem c_signsR:PC Tryz.prog 137 [] (.lst (T8.map DV.str)):=by
 refine PC.ofT B2 rfl (A0A rfl) rfl (R7 _) ?_;repeat' ((with_reducible first|refine wr ?_|refine A2 ?_ ?_|fail)<;>try simp only [go_sem,seval])
 exact A0g (xs:=T8.map DV.str) (u:=1) A0 rfl rfl (R4 _) ⟨[],rfl⟩
theorem c_IsWordR (s:List UInt8):PC Tryz.prog 149 [.str s] (.bool (E4 s)):=by
 refine PC.ofT B2 rfl (A0A rfl) (by simp [DV.nlL,DV.nl]) (by simp [DV.nlL,DV.nl]) ?_;have hw:=c_wordsR;repeat' ((with_reducible first|refine wr ?_|refine cpc hw ?_|refine A2 ?_ ?_|fail)<;>try simp only [go_sem,seval])
 refine D2 (fun k:Nat=>[(0,.str s),(3,.lst (E2.map DV.str)),(4,I64 k)]) (fun _=>nil) (fun k _=>k<=E2.length/\(E2.take k).contains s=false) (fun k=>E2.length-k) 0 (by simp [C6,tm,Tm.upd]) (Sub.nil _) (by simp) ?_;rintro k c ⟨hk,he⟩;have hlen:E2.length=38:=rfl;by_cases hlt:k<E2.length
 ·have hd:decide ((k:Int)<E2.length)=true:=by simpa using hlt
  have hg:=A0E hlt;have hw:IntKind.i64.wrap ((k:Int)+1)=((k+1:Nat):Int):=by rw [w6z (by omega)];omega
  repeat' ((with_reducible first|refine wr ?_|refine A2 ?_ ?_|refine wb2 ?_ ?_<;>(intro hb;try simp only [hb])|fail)<;>try simp only [go_sem,seval,hd,hg,hw])
  ·refine A9 (congrArg DV.bool ?_);have:s=E2[k]:=(A1G.1 hb).symm;unfold E4;rw [A2M.2 (by rw [this];exact A1B hlt)]
  ·refine ⟨k+1,rfl,Sub.refl _,inv ⟨hlt,?_⟩,by omega⟩;rw [A2J,hg,List.contains_append,he];have:¬ s=E2[k]:=fun e=>by rw [e] at hb;simp at hb
   simpa using this
 ·have hd:decide ((k:Int)<E2.length)=false:=by simpa using hlt
  repeat' ((with_reducible first|refine wr ?_|refine A2 ?_ ?_|fail)<;>try simp only [go_sem,seval,hd])
  refine A9 (congrArg DV.bool ?_);rw [A0O (by omega)] at he;exact he.symm
theorem c_skipR (s:List UInt8) (hs:s.length<=1000000000) (i:Nat) (hi:i<=s.length):PC Tryz.prog 82 [.str s,I64 i] (I64 ((i+skM false (s.drop i):Nat):Int)):=by
 refine PC.ofT B2 rfl (A0A rfl) (by simp [DV.nlL,DV.nl]) (by simp [DV.nlL,DV.nl]) ?_;repeat' ((with_reducible first|refine wr ?_|refine A2 ?_ ?_|fail)<;>try simp only [go_sem,seval])
 refine D2 (fun k:Nat=>[(0,.str s),(1,I64 k)]) (fun _=>nil) (fun k _=>k<=s.length/\i+skM false (s.drop i)=k+skM false (s.drop k)) (fun k=>s.length-k) i (by simp [C6,tm,Tm.upd]) (Sub.nil _) ⟨hi,rfl⟩ ?_;rintro k c ⟨hk,he⟩;by_cases hlt:k<s.length
 ·have hd:decide ((k:Int)<s.length)=true:=by simpa using hlt
  have hg:=A0E hlt;have hw:=w64 (n:=(k:Int)+1);have hsep:T9 s[k]=true->∃ b,DV.int IntKind.i64 ((k:Int)+1)=I64 ((b:Nat):Int)/\Sym.Sub Sym.nil Sym.nil/\B1y (fun k _=>k<=s.length/\i+skM false (s.drop i)=k+skM false (s.drop k)) b c/\s.length-b<s.length-k :=
   fun h=>⟨k+1,rfl,Sub.refl _,inv ⟨by omega,by rw [he,C7n hg h];omega⟩,by omega⟩
  repeat' ((with_reducible first|refine wr ?_|refine A2 ?_ ?_|refine wb2 ?_ ?_<;>(intro hb;try simp only [hb])|fail)<;>try simp only [go_sem,seval,hd,hg,hw])
  ·have h35:=A6d (b:=35) hb;have h1:=C2o hg h35;have h2:=C7p hg h35;refine D2 (fun j:Nat=>[(0,.str s),(1,I64 ((k+j:Nat):Int))]) (fun _=>nil) (fun j _=>k+j<=s.length/\j<=C1 (fun c=>decide (c.toNat≠10)) (s.drop k)) (fun j=>s.length-(k+j)) 0 (by simp [C6,tm,Tm.upd]) (Sub.nil _) (by simp;omega) ?_;rintro j c ⟨hkj,hej⟩;have hend:C1 (fun c=>decide (c.toNat≠10)) (s.drop k)=j->∃ b,I64 ((k+j:Nat):Int)=I64 ((b:Nat):Int)/\Sym.Sub Sym.nil Sym.nil/\B1y (fun k _=>k<=s.length/\i+skM false (s.drop i)=k+skM false (s.drop k)) b c/\s.length-b<s.length-k:=by
    intro e;rw [e] at h1 h2;exact ⟨k+j,rfl,Sub.refl _,inv ⟨hkj,by rw [he,h2];omega⟩,by omega⟩
   by_cases hlt2:k+j<s.length
   ·have hd2:decide (((k+j:Nat):Int)<s.length)=true:=by simp;omega
    have hg2:=A0E hlt2;have hw2:IntKind.i64.wrap (((k+j:Nat):Int)+1)=((k+(j+1):Nat):Int):=by rw [w6z (by omega)];omega
    have hst:=B0g hg2 hej;repeat' ((with_reducible first|refine wr ?_|refine A2 ?_ ?_|refine wb2 ?_ ?_<;>(intro hb;try simp only [hb])|fail)<;>try simp only [go_sem,seval,hd2,hg2,hw2])
    ·exact ⟨j+1,rfl,Sub.refl _,inv ⟨hlt2,hst.1 (by simpa using D1q (b:=10) hb)⟩,by omega⟩
    ·exact hend (hst.2 (by simpa using D1r (b:=10) hb))
   ·have hd2:decide (((k+j:Nat):Int)<s.length)=false:=by simp;omega
    repeat' ((with_reducible first|refine wr ?_|refine A2 ?_ ?_|fail)<;>try simp only [go_sem,seval,hd2])
    exact hend (A7q (by omega) hej)
  ·exact hsep (by simp [T9,A6d (b:=9) hb])
  ·exact hsep (by simp [T9,A6d (b:=10) hb])
  ·exact hsep (by simp [T9,A6d (b:=13) hb])
  ·exact hsep (by simp [T9,A6d (b:=32) hb])
  ·refine A9 ?_;have h9:=A2k (a:=s[k].toNat) (b:=9) (by assumption);have h10:=A2k (a:=s[k].toNat) (b:=10) (by assumption);have h13:=A2k (a:=s[k].toNat) (b:=13) (by assumption);have h32:=A2k (a:=s[k].toNat) (b:=32) (by assumption);have h35:=A2k (a:=s[k].toNat) (b:=35) (by assumption);rw [he,C2n hg (by simp [T9,h9,h10,h13,h32]) h35];simp
 ·have hd:decide ((k:Int)<s.length)=false:=by simpa using hlt
  repeat' ((with_reducible first|refine wr ?_|refine A2 ?_ ?_|fail)<;>try simp only [go_sem,seval,hd])
  refine A9 ?_;rw [he,C7o (by omega)];simp
theorem c_wordR (s:List UInt8) (hs:s.length<=1000000000) (i:Nat) (hi:i<s.length) (hl:ltB s[i]=true):PC Tryz.prog 133 [.str s,I64 i] (nxR (A7 (s.drop i)) i):=by
 have hM:A7 (s.drop i)=if 12<C1 ptB (s.drop i) then nxE 9 else ⟨if E4 ((s.drop i).take (C1 ptB (s.drop i)))=true then 2 else 1,(s.drop i).take (C1 ptB (s.drop i)),0,C1 ptB (s.drop i),0⟩:=by
  rw [N0 (A0E hi),A7,if_pos hl]
 rw [hM];have hle:=T6 ptB (s.drop i);rw [A1E] at hle;refine PC.ofT B2 rfl (A0A rfl) rfl (C0s _ _) ?_;repeat' ((with_reducible first|refine wr ?_|refine A2 ?_ ?_|fail)<;>try simp only [go_sem,seval])
 refine D2 (fun j:Nat=>[(0,.str s),(1,I64 i),(4,.ptr 0 0),(7,I64 ((i+j:Nat):Int))]) (fun _=>Sym.nil.upd 0 ⟨0,true,[I64 0,.str [],I64 0,I64 0]⟩) (fun j cc=>1<=cc/\i+j<=s.length/\j<=C1 ptB (s.drop i)) (fun j=>s.length-(i+j)) 0 (by simp [C6,tm,Tm.upd]) (Sub.refl _) (by simp;omega) ?_;rintro j c ⟨h1c,hk,he⟩;have hw2:IntKind.i64.wrap (((i+j:Nat):Int)-i)=(j:Int):=by rw [w6z (by omega)];omega
 have hsx:=B7d hk;have hiw:=c_IsWordR ((s.drop i).take j);have hR9:C1 ptB (s.drop i)=j->12<j->X5 9 i=nxR (if 12<C1 ptB (s.drop i) then nxE 9 else ⟨if E4 ((s.drop i).take (C1 ptB (s.drop i)))=true then 2 else 1,(s.drop i).take (C1 ptB (s.drop i)),0,C1 ptB (s.drop i),0⟩) i:=by
  intro e h;rw [e,if_pos h,A6s (by decide)]
 have hRw:C1 ptB (s.drop i)=j->¬ 12<j->E4 ((s.drop i).take j)=true->okN 2 ((s.drop i).take j) 0 i j=nxR (if 12<C1 ptB (s.drop i) then nxE 9 else ⟨if E4 ((s.drop i).take (C1 ptB (s.drop i)))=true then 2 else 1,(s.drop i).take (C1 ptB (s.drop i)),0,C1 ptB (s.drop i),0⟩) i:=by
  intro e h h2;rw [e,if_neg h,B0q,if_pos h2]
 have hRn:C1 ptB (s.drop i)=j->¬ 12<j->E4 ((s.drop i).take j)=false->okN 1 ((s.drop i).take j) 0 i j=nxR (if 12<C1 ptB (s.drop i) then nxE 9 else ⟨if E4 ((s.drop i).take (C1 ptB (s.drop i)))=true then 2 else 1,(s.drop i).take (C1 ptB (s.drop i)),0,C1 ptB (s.drop i),0⟩) i:=by
  intro e h h2;rw [e,if_neg h,B0q,if_neg (by rw [h2];simp)]
 by_cases hlt:i+j<s.length
 ·have hd:decide (((i+j:Nat):Int)<s.length)=true:=by simp;omega
  have hg:=A0E hlt;have hw:IntKind.i64.wrap (((i+j:Nat):Int)+1)=((i+(j+1):Nat):Int):=by rw [w6z (by omega)];omega
  have h1:=c_letterR s[i+j];have h2:=c_digitR s[i+j];have hst:=B0g hg he;have hlp:ptB s[i+j]=true->∃ b,DV.int IntKind.i64 ((i+(j+1):Nat):Int)=I64 ((i+b:Nat):Int)/\Sym.Sub (Sym.nil.upd 0 ⟨0,true,[I64 0,.str [],I64 0,I64 0]⟩) (Sym.nil.upd 0 ⟨0,true,[I64 0,.str [],I64 0,I64 0]⟩) /\
    B1y (fun j cc=>1<=cc/\i+j<=s.length/\j<=C1 ptB (s.drop i)) b c/\s.length-(i+b)<s.length-(i+j) :=
   fun h=>⟨j+1,rfl,Sub.refl _,inv ⟨h1c,hlt,hst.1 h⟩,by omega⟩
  have ne0:=X3 c 0 (by omega);repeat' ((with_reducible first|refine wr ?_|refine cpc h1 ?_|refine cpc h2 ?_|refine cpc hiw ?_|refine A2 ?_ ?_|refine wb2 ?_ ?_<;>(intro hb;try simp only [hb])|fail)<;>try simp only [go_sem,seval,hd,hg,hw,hw2,hsx,ne0])
  ·exact hlp (by simp [ptB,hb])
  ·exact hlp (by simp [ptB,hb])
  ·exact hlp (by simp [ptB,A6d (b:=95) hb])
  ·have hj:=hst.2 (by simp only [ptB];rw [‹ltB s[i+j]=false›, ‹dgB s[i+j]=false›];simpa using A2k (a:=s[i+j].toNat) (b:=95) (by assumption));rw [D6 (v:=X5 9 i) rfl];exact A9 (hR9 hj (A8v hb))
  ·have hj:=hst.2 (by simp only [ptB];rw [‹ltB s[i+j]=false›, ‹dgB s[i+j]=false›];simpa using A2k (a:=s[i+j].toNat) (b:=95) (by assumption));rw [D6 (v:=okN 2 ((s.drop i).take j) 0 i j) rfl];exact A9 (hRw hj (A3m (a:=j) (b:=12) (by assumption)) hb)
  ·have hj:=hst.2 (by simp only [ptB];rw [‹ltB s[i+j]=false›, ‹dgB s[i+j]=false›];simpa using A2k (a:=s[i+j].toNat) (b:=95) (by assumption));rw [D6 (v:=okN 1 ((s.drop i).take j) 0 i j) rfl];exact A9 (hRn hj (A3m (a:=j) (b:=12) (by assumption)) hb)
 ·have hd:decide (((i+j:Nat):Int)<s.length)=false:=by simp;omega
  have hj:=A7q (p:=ptB) (s:=s) (by omega) he;have ne0:=X3 c 0 (by omega);repeat' ((with_reducible first|refine wr ?_|refine cpc hiw ?_|refine A2 ?_ ?_|refine wb2 ?_ ?_<;>(intro hb;try simp only [hb])|fail)<;>try simp only [go_sem,seval,hd,hw2,hsx,ne0])
  ·rw [D6 (v:=X5 9 i) rfl];exact A9 (hR9 hj (A8v hb))
  ·rw [D6 (v:=okN 2 ((s.drop i).take j) 0 i j) rfl];exact A9 (hRw hj (A3m (a:=j) (b:=12) (by assumption)) hb)
  ·rw [D6 (v:=okN 1 ((s.drop i).take j) 0 i j) rfl];exact A9 (hRn hj (A3m (a:=j) (b:=12) (by assumption)) hb)
theorem c_numberR (s:List UInt8) (hs:s.length<=1000000000) (i:Nat) (hi:i<s.length) (hl:ltB s[i]=false) (hg0:dgB s[i]=true):PC Tryz.prog 135 [.str s,I64 i] (nxR (A7 (s.drop i)) i):=by
 have hM:A7 (s.drop i)=if 1<C1 dgB (s.drop i)/\s[i].toNat=48 then nxE 47
   else if 2147483647<J2 ((s.drop i).take (C1 dgB (s.drop i))) then nxE 5
   else ⟨3,[],(J2 ((s.drop i).take (C1 dgB (s.drop i))):Int),C1 dgB (s.drop i),0⟩:=by
  have hdr:=N0 (A0E hi);have:∀ r,s.drop i=s[i] :: r->A7 (s.drop i)=if 1<C1 dgB (s.drop i)/\s[i].toNat=48 then nxE 47
   else if 2147483647<J2 ((s.drop i).take (C1 dgB (s.drop i))) then nxE 5
   else ⟨3,[],(J2 ((s.drop i).take (C1 dgB (s.drop i))):Int),C1 dgB (s.drop i),0⟩:=by
   intro r e;rw [e,A7,if_neg (by rw [hl];simp),if_pos hg0]
  exact this _ hdr
 have hle:=T6 dgB (s.drop i);rw [A1E] at hle;obtain ⟨D,hD⟩:∃ D,D=s.drop i:=⟨_,rfl⟩;refine PC.ofT B2 rfl (A0A rfl) rfl (C0s _ _) ?_;repeat' ((with_reducible first|refine wr ?_|refine A2 ?_ ?_|fail)<;>try simp only [go_sem,seval])
 refine D2 (fun j:Nat=>[(0,.str s),(1,I64 i),(4,.ptr 0 0),(7,I64 ((i+j:Nat):Int)),(8,I64 (smV (D.take j))),(9,.bool (B6i (D.take j)))]) (fun _=>Sym.nil.upd 0 ⟨0,true,[I64 0,.str [],I64 0,I64 0]⟩) (fun j _=>i+j<=s.length/\j<=C1 dgB (s.drop i)) (fun j=>s.length-(i+j)) 0 (by simp [C6,tm,Tm.upd,smV,B6i,J2]) (Sub.refl _) (by simp;omega) ?_;rintro j c ⟨hk,he⟩;have hw2:IntKind.i64.wrap (((i+j:Nat):Int)-i)=(j:Int):=by rw [w6z (by omega)];omega
 have hgi:=A0E hi;have hRz:C1 dgB (s.drop i)=j->1<j->s[i].toNat=48->X5 47 i=nxR (A7 (s.drop i)) i:=by
  intro e h h2;rw [hM,e,if_pos ⟨h,h2⟩,A6s (by decide)]
 have hRb:C1 dgB (s.drop i)=j->¬ (1<j/\s[i].toNat=48)->B6i (D.take j)=true->X5 5 i=nxR (A7 (s.drop i)) i:=by
  intro e h h2;rw [hM,e,if_neg h, <- hD,if_pos (of_decide_eq_true h2),A6s (by decide)]
 have hRk:C1 dgB (s.drop i)=j->¬ (1<j/\s[i].toNat=48)->B6i (D.take j)=false->okN 3 [] (smV (D.take j)) i j=nxR (A7 (s.drop i)) i:=by
  intro e h h2;have h3:=of_decide_eq_false h2;rw [hM,e,if_neg h, <- hD,if_neg h3,B0q,C7l h3]
 by_cases hlt:i+j<s.length
 ·have hd:decide (((i+j:Nat):Int)<s.length)=true:=by simp;omega
  have hg:=A0E hlt;have hw:IntKind.i64.wrap (((i+j:Nat):Int)+1)=((i+(j+1):Nat):Int):=by rw [w6z (by omega)];omega
  have h2:=c_digitR s[i+j];have hst:=B0g hg he;by_cases hdg:dgB s[i+j]=true
  ·rw [hdg] at h2;have hgD:D[j]? = some s[i+j]:=by rw [hD,A1W];exact hg
   have hn:=C4x hgD;have hdd:48<=s[i+j].toNat/\s[i+j].toNat<=57:=by simpa [dgB] using hdg
   obtain ⟨z,hz⟩:∃ z:Nat,z=s[i+j].toNat-48:=⟨_,rfl⟩;rw [<- hz] at hn;have w1:IntKind.i64.wrap (10 * (smV (D.take j):Int))=((10 * smV (D.take j):Nat):Int):=by have:=C7k (D.take j);rw [w6z (by omega)];omega
   have w2:IntKind.u8.wrap ((s[i+j].toNat:Int)-48)=(z:Int):=by rw [wu8 (by omega) (by omega)];omega
   have w3:IntKind.i64.wrap (z:Int)=(z:Int):=w6z (by omega);have w4:IntKind.i64.wrap (((10 * smV (D.take j):Nat):Int)+z)=((10 * smV (D.take j)+z:Nat):Int):=by have:=C7k (D.take j);rw [w6z (by omega)];omega
   by_cases hbg:2147483647<J2 (D.take j)
   ·have hb1:B6i (D.take j)=true:=decide_eq_true hbg;have e1:B6i (D.take (j+1))=true:=decide_eq_true (by omega);have e2:smV (D.take (j+1))=0:=D6i (by omega);rw [hb1];repeat' ((with_reducible first|refine wr ?_|refine cpc h2 ?_|refine A2 ?_ ?_|fail)<;>try simp only [go_sem,seval,hd,hg,hw,w1,w2,w3,w4])
    exact ⟨j+1,⟨rfl,by rw [e2];rfl,by rw [e1]⟩,Sub.refl _,inv ⟨hlt,hst.1 hdg⟩,by omega⟩
   ·have hb1:B6i (D.take j)=false:=decide_eq_false hbg;have hs1:=C7l hbg;rw [hb1];by_cases hbn:2147483647<J2 (D.take (j+1))
    ·have e1:B6i (D.take (j+1))=true:=decide_eq_true hbn;have e2:smV (D.take (j+1))=0:=D6i hbn;have hd5:decide (((10 * smV (D.take j)+z:Nat):Int)>2147483647)=true:=by simp only [A0G];omega
     repeat' ((with_reducible first|refine wr ?_|refine cpc h2 ?_|refine A2 ?_ ?_|fail)<;>try simp only [go_sem,seval,hd,hg,hw,w1,w2,w3,w4,hd5])
     exact ⟨j+1,⟨rfl,by rw [e2];rfl,by rw [e1]⟩,Sub.refl _,inv ⟨hlt,hst.1 hdg⟩,by omega⟩
    ·have e1:B6i (D.take (j+1))=false:=decide_eq_false hbn;have e2:smV (D.take (j+1))=10 * smV (D.take j)+z:=by rw [C7l hbn,hn,hs1]
     have hd5:decide (((10 * smV (D.take j)+z:Nat):Int)>2147483647)=false:=by simp only [A2G];omega
     repeat' ((with_reducible first|refine wr ?_|refine cpc h2 ?_|refine A2 ?_ ?_|fail)<;>try simp only [go_sem,seval,hd,hg,hw,w1,w2,w3,w4,hd5])
     exact ⟨j+1,⟨rfl,by rw [e2],by rw [e1]⟩,Sub.refl _,inv ⟨hlt,hst.1 hdg⟩,by omega⟩
  ·have hdg0:dgB s[i+j]=false:=by simpa using hdg
   rw [hdg0] at h2;have hj:=hst.2 hdg0;repeat' ((with_reducible first|refine wr ?_|refine cpc h2 ?_|refine A2 ?_ ?_|refine wb2 ?_ ?_<;>(intro hb;try simp only [hb])|fail)<;>try simp only [go_sem,seval,hd,hg,hw2,hgi])
   ·rw [D6 (v:=X5 47 i) rfl];exact A9 (hRz hj (A8v hb) (A6d (b:=48) (by assumption)))
   ·rw [D6 (v:=X5 5 i) rfl];exact A9 (hRb hj (fun h=>A3m (a:=j) (b:=1) (by assumption) h.1) hb)
   ·rw [D6 (v:=okN 3 [] (smV (D.take j)) i j) rfl];exact A9 (hRk hj (fun h=>A3m (a:=j) (b:=1) (by assumption) h.1) hb)
   ·rw [D6 (v:=X5 5 i) rfl];exact A9 (hRb hj (fun h=>A2k (b:=48) (by assumption) h.2) hb)
   ·rw [D6 (v:=okN 3 [] (smV (D.take j)) i j) rfl];exact A9 (hRk hj (fun h=>A2k (b:=48) (by assumption) h.2) hb)
 ·have hd:decide (((i+j:Nat):Int)<s.length)=false:=by simp;omega
  have hj:=A7q (p:=dgB) (s:=s) (by omega) he;repeat' ((with_reducible first|refine wr ?_|refine A2 ?_ ?_|refine wb2 ?_ ?_<;>(intro hb;try simp only [hb])|fail)<;>try simp only [go_sem,seval,hd,hw2,hgi])
  ·rw [D6 (v:=X5 47 i) rfl];exact A9 (hRz hj (A8v hb) (A6d (b:=48) (by assumption)))
  ·rw [D6 (v:=X5 5 i) rfl];exact A9 (hRb hj (fun h=>A3m (a:=j) (b:=1) (by assumption) h.1) hb)
  ·rw [D6 (v:=okN 3 [] (smV (D.take j)) i j) rfl];exact A9 (hRk hj (fun h=>A3m (a:=j) (b:=1) (by assumption) h.1) hb)
  ·rw [D6 (v:=X5 5 i) rfl];exact A9 (hRb hj (fun h=>A2k (b:=48) (by assumption) h.2) hb)
  ·rw [D6 (v:=okN 3 [] (smV (D.take j)) i j) rfl];exact A9 (hRk hj (fun h=>A2k (b:=48) (by assumption) h.2) hb)
theorem c_quotedR (s:List UInt8) (hs:s.length<=100000) (i:Nat) (hi:i<s.length):PC Tryz.prog 136 [.str s,I64 i] (quR i (quA [] (i+1) (quM (s.drop (i+1))))):=by
 refine PC.ofT B2 rfl (A0A rfl) rfl (D9l _ _) ?_;have hw0:IntKind.i64.wrap ((i:Int)+1)=((i+1:Nat):Int):=by rw [w6z (by omega)];omega
 repeat' ((with_reducible first|refine wr ?_|refine A2 ?_ ?_|fail)<;>try simp only [go_sem,seval,hw0])
 refine D2 (fun q:Nat × Option Nat × List UInt8=>[(0,.str s),(1,I64 i),(4,.ptr 0 0),(7,C4 q.2.1 q.2.2.length),(8,I64 q.1)]) (fun q=>D4 (Sym.nil.upd 0 D1p) q.2.1 ⟨1,true,bytesC q.2.2⟩)
  (fun q c=>1<=c/\i+1<=q.1/\q.2.2.length<=q.1/\q.1<=s.length+1/\(q.2.1=none->q.2.2=[])/\(∀ i,q.2.1=some i->1<=i/\i<c)/\quA [] (i+1) (quM (s.drop (i+1)))=quA q.2.2 q.1 (quM (s.drop q.1))) (fun q=>s.length+1-q.1) (i+1,none,[])
  (by simp [C6,tm,Tm.upd,C4]) (Sub.refl _) ⟨by simp,by simp,by simp,by simp only;omega,fun _=>rfl,(fun i hi=>by cases hi),rfl⟩ ?_
 rintro ⟨k,o,acc⟩ c ⟨h1c,h1,hal,hk,hno,ho,he⟩;simp only at h1 hal hk hno ho he;simp only;rw [he];have hH0:D4 (Sym.nil.upd 0 D1p) o ⟨1,true,bytesC acc⟩ 0=some ⟨0,true,[I64 0,.str [],I64 0,I64 0]⟩:=by rw [F3 (fun i hi=>by have:=ho i hi;omega),A0];rfl
 have hlt0:=C4r (o:=o) (n:=acc.length) (fun e=>by rw [hno e];rfl);by_cases hlt:k<s.length
 ·have hd:decide ((k:Int)<s.length)=true:=by simpa using hlt
  have hg:=A0E hlt;have hw:IntKind.i64.wrap ((k:Int)+1)=((k+1:Nat):Int):=by rw [w6z (by omega)];omega
  have hw2:IntKind.i64.wrap (((k+1:Nat):Int)+1)=((k+2:Nat):Int):=by rw [w6z (by omega)];omega
  have hcv:=B7q (H:=D4 (Sym.nil.upd 0 D1p) o ⟨1,true,bytesC acc⟩) (u:=1) hno (fun i hi=>by subst hi;exact A0);have hc0:∀ n:Nat,((s[k].toNat:Int) == (n:Int))=true->s[k].toNat=n:=fun n h=>by have:=A1G.1 h;omega
  have hc1:∀ n:Nat,((s[k].toNat:Int) == (n:Int))=false->s[k].toNat≠n:=fun n h h2=>by rw [h2] at h;simp at h
  by_cases hlt2:k+1<s.length
  ·have hd2:decide (((k+1:Nat):Int)≥s.length)=false:=by simp;omega
   have hg2:=A0E hlt2;have hc2:∀ n:Nat,((s[k+1].toNat:Int) == (n:Int))=true->s[k+1].toNat=n:=fun n h=>by have:=A1G.1 h;omega
   have hc3:∀ n:Nat,((s[k+1].toNat:Int) == (n:Int))=false->s[k+1].toNat≠n:=fun n h h2=>by rw [h2] at h;simp at h
   have ne0:=V8 c (c+1) 0 (by omega);have hap:=A6m (X:=Sym.nil.upd 0 D1p) hno (fun i hi=>(ho i hi).2) (by omega);repeat' ((with_reducible first|refine wr ?_|refine A2 ?_ ?_|refine wb2 ?_ ?_<;>(intro hb;try simp only [hb])|fail)<;>try simp only [go_sem,seval,hd,hg,hw,hcv,hlt0,hd2,hg2,hw2,ne0,hap,hH0])
   ·rw [D6 (v:=X5 9 i) rfl];refine A9 ?_;rw [A2c hg (hc0 34 (by assumption)),quR,if_pos (A8v hb)]
   ·rw [D6 (v:=.tup [.agg [I64 4,.str acc,I64 0,I64 i],I64 ((k+1:Nat):Int),I64 0]) rfl];refine A9 ?_;rw [A2c hg (hc0 34 (by assumption)),quR,if_neg (A3m hb)]
   ·rw [D6 (v:=X5 48 i) rfl];refine A9 ?_;rw [A3s hg (hc1 34 (by assumption)) (.inl (by have:=of_decide_eq_true hb;omega))];rfl
   ·rw [D6 (v:=X5 48 i) rfl];refine A9 ?_;rw [A3s hg (hc1 34 (by assumption)) (.inr (by have:=of_decide_eq_true hb;omega))];rfl
   ·rw [D6 (v:=X5 48 i) rfl];refine A9 ?_;rw [A9j hg (hc0 92 (by assumption)) (fun d hd=>by
     rw [hg2] at hd;cases hd;exact ⟨D1q (b:=34) (by assumption),D1q (b:=92) hb⟩)];rfl
   ·have hq:=B4x (acc:=acc) hg (hc0 92 (by assumption)) hg2 (.inr (D1r (b:=92) hb));exact ⟨(k+2,some (c+1),acc++[s[k+1]]),⟨by simp only [A0C,A0K];rfl,rfl⟩,A9f (fun j q=>A9a h1c) (fun i hi=>A8z (by have:=ho i hi;omega)) rfl,inv ⟨by omega,by simp only;omega,by simp;omega,by simp only;omega,(fun h=>by cases h),(fun i hi=>by cases hi;omega),hq⟩,by simp only;omega⟩
   ·have hq:=B4x (acc:=acc) hg (hc0 92 (by assumption)) hg2 (.inl (D1r (b:=34) hb));exact ⟨(k+2,some (c+1),acc++[s[k+1]]),⟨by simp only [A0C,A0K];rfl,rfl⟩,A9f (fun j q=>A9a h1c) (fun i hi=>A8z (by have:=ho i hi;omega)) rfl,inv ⟨by omega,by simp only;omega,by simp;omega,by simp only;omega,(fun h=>by cases h),(fun i hi=>by cases hi;omega),hq⟩,by simp only;omega⟩
   ·have hq:=A9k (acc:=acc) hg (hc1 34 (by assumption)) (by have:=of_decide_eq_false (by assumption:decide (((s[k].toNat:Int))<32)=false);omega) (by have:=of_decide_eq_false (by assumption:decide (((s[k].toNat:Int))>126)=false);omega) (hc1 92 (by assumption));exact ⟨(k+1,some (c+1),acc++[s[k]]),⟨by simp only [A0C,A0K];rfl,rfl⟩,A9f (fun j q=>A9a h1c) (fun i hi=>A8z (by have:=ho i hi;omega)) rfl,inv ⟨by omega,by simp only;omega,by simp;omega,by simp only;omega,(fun h=>by cases h),(fun i hi=>by cases hi;omega),hq⟩,by simp only;omega⟩
  ·have hd2:decide (((k+1:Nat):Int)≥s.length)=true:=by simp;omega
   have ne0:=V8 c (c+1) 0 (by omega);have hap:=A6m (X:=Sym.nil.upd 0 D1p) hno (fun i hi=>(ho i hi).2) (by omega);repeat' ((with_reducible first|refine wr ?_|refine A2 ?_ ?_|refine wb2 ?_ ?_<;>(intro hb;try simp only [hb])|fail)<;>try simp only [go_sem,seval,hd,hg,hw,hcv,hlt0,hd2,ne0,hap,hH0])
   ·rw [D6 (v:=X5 9 i) rfl];refine A9 ?_;rw [A2c hg (hc0 34 (by assumption)),quR,if_pos (A8v hb)]
   ·rw [D6 (v:=.tup [.agg [I64 4,.str acc,I64 0,I64 i],I64 ((k+1:Nat):Int),I64 0]) rfl];refine A9 ?_;rw [A2c hg (hc0 34 (by assumption)),quR,if_neg (A3m hb)]
   ·rw [D6 (v:=X5 48 i) rfl];refine A9 ?_;rw [A3s hg (hc1 34 (by assumption)) (.inl (by have:=of_decide_eq_true hb;omega))];rfl
   ·rw [D6 (v:=X5 48 i) rfl];refine A9 ?_;rw [A3s hg (hc1 34 (by assumption)) (.inr (by have:=of_decide_eq_true hb;omega))];rfl
   ·rw [D6 (v:=X5 48 i) rfl];refine A9 ?_;rw [A9j hg (hc0 92 (by assumption)) (fun d hd=>by rw [A1Q (by omega)] at hd;cases hd)];rfl
   ·have hq:=A9k (acc:=acc) hg (hc1 34 (by assumption)) (by have:=of_decide_eq_false (by assumption:decide (((s[k].toNat:Int))<32)=false);omega) (by have:=of_decide_eq_false (by assumption:decide (((s[k].toNat:Int))>126)=false);omega) (hc1 92 (by assumption));exact ⟨(k+1,some (c+1),acc++[s[k]]),⟨by simp only [A0C,A0K];rfl,rfl⟩,A9f (fun j q=>A9a h1c) (fun i hi=>A8z (by have:=ho i hi;omega)) rfl,inv ⟨by omega,by simp only;omega,by simp;omega,by simp only;omega,(fun h=>by cases h),(fun i hi=>by cases hi;omega),hq⟩,by simp only;omega⟩
 ·have hd:decide ((k:Int)<s.length)=false:=by simpa using hlt
  have ne0:=X3 c 0 (by omega);repeat' ((with_reducible first|refine wr ?_|refine A2 ?_ ?_|fail)<;>try simp only [go_sem,seval,hd,ne0,hH0])
  rw [D6 (v:=X5 48 i) rfl];refine A9 ?_;rw [C8i (by omega)];rfl
theorem c_oneR (s:List UInt8) (hs:s.length<=100000) (i:Nat) (hi:i<s.length):PC Tryz.prog 83 [.str s,I64 i] (nxR (A7 (s.drop i)) i):=by
 refine PC.ofT B2 rfl (A0A rfl) rfl (C0s _ _) ?_;have hg:=A0E hi;have hlt:=c_letterR s[i];have hdg:=c_digitR s[i];obtain ⟨k,t,v,p,n,e,hsh⟩:=C4w (A7 (s.drop i)) i;by_cases hl:ltB s[i]=true
 ·have hw:=c_wordR s (by omega) i hi hl;rw [hsh] at hw ⊢;repeat' ((with_reducible first|refine wr ?_|refine cpc hlt ?_|refine cpc hw ?_|refine A2 ?_ ?_|fail)<;>try simp only [go_sem,seval,hl,hg])
  rw [D6 (v:=.tup [.agg [I64 k,.str t,I64 v,I64 p],I64 n,I64 e]) rfl];exact A9 rfl
 have hl0:ltB s[i]=false:=by simpa using hl
 by_cases hd:dgB s[i]=true
 ·have hw:=c_numberR s (by omega) i hi hl0 hd;rw [hsh] at hw ⊢;repeat' ((with_reducible first|refine wr ?_|refine cpc hlt ?_|refine cpc hdg ?_|refine cpc hw ?_|refine A2 ?_ ?_|fail)<;>try simp only [go_sem,seval,hl0,hd,hg])
  rw [D6 (v:=.tup [.agg [I64 k,.str t,I64 v,I64 p],I64 n,I64 e]) rfl];exact A9 rfl
 have hd0:dgB s[i]=false:=by simpa using hd
 by_cases hq:s[i].toNat=34
 ·have hw:=c_quotedR s hs i hi;rw [C8k hg hl0 hd0 hq,hsh] at hw;rw [hsh];have hb34:((s[i].toNat:Int) == 34)=true:=by rw [hq];rfl
  repeat' ((with_reducible first|refine wr ?_|refine cpc hlt ?_|refine cpc hdg ?_|refine cpc hw ?_|refine A2 ?_ ?_|fail)<;>try simp only [go_sem,seval,hl0,hd0,hg,hb34])
  rw [D6 (v:=.tup [.agg [I64 k,.str t,I64 v,I64 p],I64 n,I64 e]) rfl];exact A9 rfl
 clear hsh;have hb34:((s[i].toNat:Int) == 34)=false:=by simpa using (fun h=>hq (by omega))
 have hM:A7 (s.drop i)=if D7 (s.drop i)=0 then nxE 47 else ⟨5,(s.drop i).take (D7 (s.drop i)),0,D7 (s.drop i),0⟩:=by
  have hdr:=N0 hg;have:∀ r,s.drop i=s[i] :: r->A7 (s.drop i)=if D7 (s.drop i)=0 then nxE 47 else ⟨5,(s.drop i).take (D7 (s.drop i)),0,D7 (s.drop i),0⟩:=by
   intro r e;rw [e,A7,if_neg hl,if_neg hd,if_neg hq]
  exact this _ hdr
 rw [hM];have hsg:=c_signsR;repeat' ((with_reducible first|refine wr ?_|refine cpc hlt ?_|refine cpc hdg ?_|refine cpc hsg ?_|refine A2 ?_ ?_|fail)<;>try simp only [go_sem,seval,hl0,hd0,hg,hb34])
 have hlen:T8.length=21:=rfl;refine D2 (fun k:Nat=>[(0,.str s),(1,I64 i),(4,.ptr 0 0),(8,.lst (T8.map DV.str)),(9,I64 k)]) (fun _=>Sym.nil.upd 0 ⟨0,true,[I64 0,.str [],I64 0,I64 0]⟩) (fun k _=>k<=T8.length/\∀ j,j<k->A7v (T8.getD j []) (s.drop i)=false) (fun k=>T8.length-k) 0 (by simp [C6,tm,Tm.upd]) (Sub.refl _) (by simp) ?_;rintro k c ⟨hk,he⟩;by_cases hkl:k<T8.length
 ·have hd:decide ((k:Int)<T8.length)=true:=by simpa using hkl
  have hgk:=A0E hkl;have hget:T8.getD k []=T8[k]:=by rw [A0S,hgk];rfl
  have hw:IntKind.i64.wrap ((k:Int)+1)=((k+1:Nat):Int):=by rw [w6z (by omega)];omega
  obtain ⟨L,hL⟩:∃ L,L=T8[k]:=⟨_,rfl⟩;rw [<- hL] at hgk hget;have hLl:1<=L.length/\L.length<=2:=by
   have:∀ x∈T8,1<=x.length/\x.length<=2:=by decide
   rw [hL];exact this _ (A1B hkl)
  have hw1:IntKind.i64.wrap ((s.length:Int)-i)=((s.length-i:Nat):Int):=by rw [w6z (by omega)];omega
  have hw2:IntKind.i64.wrap ((i:Int)+L.length)=((i+L.length:Nat):Int):=by rw [w6z (by omega)];omega
  have hnext:A7v L (s.drop i)=false->B1y (fun k _=>k<=T8.length/\∀ j,j<k->A7v (T8.getD j []) (s.drop i)=false) (k+1) c:=fun h=>inv ⟨hkl,fun j hj=>by
   by_cases e:j=k
   ·rw [e,hget];exact h
   ·exact he j (by omega)⟩
  by_cases hln:L.length<=s.length-i
  ·have hd2:decide (((s.length-i:Nat):Int)≥L.length)=true:=by simp only [A0G];omega
   have hsx:=B7d (s:=s) (i:=i) (n:=L.length) (by omega);have hpr:A7v L (s.drop i)=((s.drop i).take L.length == L):=by
    unfold A7v;rw [decide_eq_true (by rw [A1E];exact hln),A1J]
   repeat' ((with_reducible first|refine wr ?_|refine A2 ?_ ?_|refine wb2 ?_ ?_<;>(intro hb;try simp only [hb])|fail)<;>try simp only [go_sem,seval,hd,hgk,hw,hw1,hw2,hd2,hsx])
   ·have hp:=hpr.trans hb;have:=C4n (s:=s.drop i) (k:=k) (by omega) he (by rw [hget];exact hp);rw [hget] at this;rw [D6 (v:=okN 5 L 0 i L.length) rfl];refine A9 ?_;rw [this.1,if_neg (by omega),B0q, <- this.2]
   ·exact ⟨k+1,rfl,Sub.refl _,hnext (hpr.trans hb),by omega⟩
  ·have hd2:decide (((s.length-i:Nat):Int)≥L.length)=false:=by simp only [A2G];omega
   repeat' ((with_reducible first|refine wr ?_|refine A2 ?_ ?_|fail)<;>try simp only [go_sem,seval,hd,hgk,hw,hw1,hd2])
   exact ⟨k+1,rfl,Sub.refl _,hnext (by unfold A7v;rw [decide_eq_false (by rw [A1E];exact hln),A3K]),by omega⟩
 ·have hd:decide ((k:Int)<T8.length)=false:=by simpa using hkl
  repeat' ((with_reducible first|refine wr ?_|refine A2 ?_ ?_|fail)<;>try simp only [go_sem,seval,hd])
  rw [D6 (v:=X5 47 i) rfl];refine A9 ?_;rw [if_pos (C7r fun j hj=>he j (by omega)),A6s (by decide)]
theorem c_ScanR (s:List UInt8) (hs:s.length<=1000000000):PC Tryz.prog 44 [.str s] (C2r (C0 s)):=by
 refine PC.ofT B2 rfl (A0A rfl) rfl (B7j _) ?_;have hsk:=c_skipR s hs 0 (by omega);rw [A3I,A1L] at hsk;by_cases h20:20000<s.length
 ·have hd0:decide ((s.length:Int)>20000)=true:=by simp;omega
  have hM:C0 s=([],0,9):=if_pos h20;rw [hM];repeat' ((with_reducible first|refine wr ?_|refine A2 ?_ ?_|fail)<;>try simp only [go_sem,seval,hd0])
  exact A6h
 have hd0:decide ((s.length:Int)>20000)=false:=by simp;omega
 have hM:C0 s=H4 (s.length+1) s (skM false s) []:=if_neg h20;rw [hM];have hle0:=T7 false s;repeat' ((with_reducible first|refine wr ?_|refine cpc hsk ?_|refine A2 ?_ ?_|fail)<;>try simp only [go_sem,seval,hd0])
 refine D2 (fun q:Nat × Nat × Option Nat × List Tok=>[(0,.str s),(5,C4 q.2.2.1 q.2.2.2.length),(6,I64 q.2.1)]) (fun q=>D4 Sym.nil q.2.2.1 ⟨4,true,A8 (q.2.2.2.map Tok.v)⟩)
  (fun q c=>q.2.1<=s.length/\s.length<q.1+q.2.1/\q.2.2.2.length<=q.2.1/\(q.2.2.1=none->q.2.2.2=[])/\(∀ i,q.2.2.1=some i->i<c)/\H4 (s.length+1) s (skM false s) []=H4 q.1 s q.2.1 q.2.2.2) (fun q=>q.1) (s.length+1,skM false s,none,[])
  (by simp [C6,tm,Tm.upd,C4]) (Sub.nil _) ⟨by simp only;omega,by simp only;omega,by simp,fun _=>rfl,(fun i hi=>by cases hi),rfl⟩ ?_
 rintro ⟨f,at_,o,acc⟩ c ⟨h1,hf,hal,hno,ho,he⟩;simp only at h1 hf hal hno ho he;simp only;rw [he];by_cases hlt:at_<s.length
 ·have hd:decide ((at_:Int)<s.length)=true:=by simpa using hlt
  have hnx:=c_oneR s (by omega) at_ hlt;obtain ⟨f,rfl⟩:∃ g,f=g+1:=⟨f-1,by omega⟩;by_cases hz:(A7 (s.drop at_)).err=0
  ·have hn:=A1e hz;rw [A1E] at hn;have hst:H4 (f+1) s at_ acc=H4 f s (at_+(A7 (s.drop at_)).n+skM false (s.drop (at_+(A7 (s.drop at_)).n))) (acc++[⟨(A7 (s.drop at_)).kind,(A7 (s.drop at_)).text,(A7 (s.drop at_)).value,(at_:Int)⟩]):=by
    rw [H4,if_neg (by omega),if_neg (by simpa using hz)]
   rw [hst];obtain ⟨x,hx⟩:∃ x,x=A7 (s.drop at_):=⟨_,rfl⟩;rw [<- hx] at hnx hz hn ⊢;rw [nxR,if_pos hz,okN] at hnx;have hsk2:=c_skipR s hs (at_+x.n) (by omega);have hkl:=T7 false (s.drop (at_+x.n));rw [A1E] at hkl;obtain ⟨z,hzz⟩:∃ z,z=skM false (s.drop (at_+x.n)):=⟨_,rfl⟩;rw [<- hzz] at hsk2 hkl ⊢;have ne0:=V8 c (c+1) (c+2) (by omega);repeat' ((with_reducible first|refine wr ?_|refine cpc hnx ?_|refine cpc hsk2 ?_|refine A2 ?_ ?_|fail)<;>try simp only [go_sem,seval,hd,ne0])
   refine D0 (L6 (cs:=A8 (acc.map Tok.v)) (fun e=>by rw [hno e];exact ⟨rfl,rfl⟩) (fun i hi=>?_) (by rw [B8 (u:=4) (T1 _)];simp) (by omega) (by omega) (by omega)) ?_
   ·have:=ho i hi;rw [A3 (by omega),A3 (by omega),A3 (by omega)];exact B5c hi
   simp only [go_sem,seval,ne0];repeat' ((with_reducible first|refine wr ?_|refine cpc hnx ?_|refine cpc hsk2 ?_|refine A2 ?_ ?_|fail)<;>try simp only [go_sem,seval,hd,ne0])
   exact ⟨(f,at_+x.n+z,some (c+1+1),acc++[⟨x.kind,x.text,x.value,(at_:Int)⟩]),⟨by simp only [A0C,A0K];rfl,rfl⟩,
    O4 (by simp only [A0Z,H6];rfl),inv ⟨by simp only;omega,by simp only;omega,by simp only [A0C,A0K];omega,(fun h=>by cases h),(fun i hi=>by cases hi;omega),rfl⟩,by simp only;omega⟩
  ·have hst:H4 (f+1) s at_ acc=([],(at_:Int),(A7 (s.drop at_)).err):=by
    rw [H4,if_neg (by omega),if_pos hz]
   rw [hst];obtain ⟨x,hx⟩:∃ x,x=A7 (s.drop at_):=⟨_,rfl⟩;rw [<- hx] at hnx hz ⊢;rw [nxR,if_neg hz,X5] at hnx;have hz':(x.err != 0)=true:=by simpa using hz
   have ne0:=X3 c (c+1) (by omega);repeat' ((with_reducible first|refine wr ?_|refine cpc hnx ?_|refine A2 ?_ ?_|fail)<;>try simp only [go_sem,seval,hd,hz',ne0])
   exact A6h
 ·have hd:decide ((at_:Int)<s.length)=false:=by simpa using hlt
  repeat' ((with_reducible first|refine wr ?_|refine A2 ?_ ?_|fail)<;>try simp only [go_sem,seval,hd])
  have hM2:H4 f s at_ acc=(acc,0,0):=by
   cases f with
   | zero=>rfl
   | succ f=>rw [H4,if_pos (by omega)]
  rw [hM2];exact B7t (fun e=>by rw [hno e];rfl) (by simp) (T1 acc)
theorem c_Dec:∀ (m:Nat) (n:Int),n.natAbs<m -> -9223372036854775808<=n->n<=9223372036854775807->PC Tryz.prog 42 [I64 n] (.str (G8 n)):=by
 intro m
 induction m with
 | zero=>intro n h;omega
 | succ m ih =>
  intro n h h1 h2;have b:=E1t (d:=V2 n) (C3o n);have hl:=C3o n;by_cases h0:n<0
  ·have hd:decide (n<0)=true:=by simpa using h0
   have e1:=D3v h0;have e2:=D3u h0;have hh:=C3t (n:=n) (by omega);have w1:=w64 (n := -((Z4 n:Nat):Int));have w2:=w64 (n:=0 - -((V2 n:Nat):Int));have w3:0 - -((V2 n:Nat):Int)=(V2 n:Int):=by omega
   rw [w3] at w2;have hlen:=N8 (n := -((Z4 n:Nat):Int)) (by omega) (by omega);have a0:=R5 (s:=G8 (-((Z4 n:Nat):Int))) (t:=[W0 (V2 n)]) (by simp;omega);have a2:A1l (nil.upd 5 ⟨1,true,[DV.int .u8 ((W0 (V2 n)).toNat:Int)]⟩) (.slc 5 0 1)=some (.str [W0 (V2 n)]):=A6b A0 rfl rfl;have a1:=R5 (s:=[45]) (t:=[W0 (V2 n)]) (by simp);refine PC.ofT B2 rfl (A0A rfl) (by simp [DV.nlL,DV.nl]) (by simp [DV.nlL,DV.nl]) ?_;repeat' ((first|(with_reducible first|refine wr ?_|refine cpc (ih (-((Z4 n:Nat):Int)) (by omega) (by omega) (by omega)) ?_|refine A2 ?_ ?_)|(with_reducible refine wb2 ?_ ?_<;>(intro hb;try simp only [hb]))|((with_reducible refine D0a (A6b (l:=[W0 (V2 n)]) A0 rfl rfl) ?_))|fail)<;>try simp only [go_sem,seval,hd,B2z,B7p,e1,e2,w1,w3,w2,b,a0,a1,a2])
   ·rw [C5t h0 (by simpa using hb)];exact A9 rfl
   ·rw [D1k h0 (by simpa using hb)];exact A9 rfl
  ·have hd:decide (n<0)=false:=by simpa using h0
   have e1:=D3m (n:=n) (by omega);have e2:=D3l (n:=n) (by omega);have hh:Z4 n<=n.natAbs:=by unfold Z4;omega
   have w1:=w64 (n:=((Z4 n:Nat):Int));have hlen:=N8 (n:=((Z4 n:Nat):Int)) (by omega) (by omega);have a0:=R5 (s:=G8 ((Z4 n:Nat):Int)) (t:=[W0 (V2 n)]) (by simp;omega);by_cases h9:n<10
   ·have hd9:decide (n<10)=true:=by simpa using h9
    refine PC.ofT B2 rfl (A0A rfl) (by simp [DV.nlL,DV.nl]) (by simp [DV.nlL,DV.nl]) ?_;repeat' ((first|(with_reducible first|refine wr ?_|refine A2 ?_ ?_)|((with_reducible refine D0a (A6b (l:=[W0 (V2 n)]) A0 rfl rfl) ?_))|fail)<;>try simp only [go_sem,seval,hd,hd9,B2z,B7p,e1,e2,w1,b])
    rw [A9u (by omega) h9];exact A9 rfl
   ·have hd9:decide (n<10)=false:=by simpa using h9
    have hh:=C3t (n:=n) (by omega);refine PC.ofT B2 rfl (A0A rfl) (by simp [DV.nlL,DV.nl]) (by simp [DV.nlL,DV.nl]) ?_;repeat' ((first|(with_reducible first|refine wr ?_|refine cpc (ih ((Z4 n:Nat):Int) (by omega) (by omega) (by omega)) ?_|refine A2 ?_ ?_)|((with_reducible refine D0a (A6b (l:=[W0 (V2 n)]) A0 rfl rfl) ?_))|fail)<;>try simp only [go_sem,seval,hd,hd9,B2z,B7p,e1,e2,w1,b,a0])
    rw [C4a h9];exact A9 rfl
theorem c_Dec' (n:Int) (h1 : -9223372036854775808<=n) (h2:n<=9223372036854775807):PC Tryz.prog 42 [I64 n] (.str (G8 n)):=c_Dec (n.natAbs+1) n (by omega) h1 h2
theorem c_QuoteR (s:List UInt8) (hs:s.length<=100000):PC Tryz.prog 103 [.str s] (.str (V7 s)):=by
 refine PC.ofT B2 rfl (A0A rfl) (by simp [DV.nlL,DV.nl]) (by simp [DV.nlL,DV.nl]) ?_;repeat' ((with_reducible first|refine wr ?_|refine A2 ?_ ?_|fail)<;>try simp only [go_sem,seval])
 refine D2 (fun q:Nat × Nat=>[(0,.str s),(3,.slc q.2 0 (A2t (s.take q.1)).length),(4,I64 q.1)]) (fun q=>Sym.nil.upd q.2 ⟨1,true,bytesC (A2t (s.take q.1))⟩)
  (fun q c=>q.1<=s.length/\q.2<c) (fun q=>s.length-q.1) (0,0) (by simp [C6,tm,Tm.upd,A2t]) (Sub.refl _) (by simp) ?_
 rintro ⟨k,id⟩ c ⟨hk,hid⟩;simp only at hk hid;simp only;have hal:(A2t (s.take k)).length<=2 * k+1:=by
  have:=B0l (s.take k);rw [A0T] at this;omega
 obtain ⟨acc,hacc⟩:∃ acc,acc=A2t (s.take k):=⟨_,rfl⟩;rw [<- hacc] at hal ⊢;by_cases hlt:k<s.length
 ·have hd:decide ((k:Int)<s.length)=true:=by simpa using hlt
  have hg:=A0E hlt;have hw:IntKind.i64.wrap ((k:Int)+1)=((k+1:Nat):Int):=by rw [w6z (by omega)];omega
  have hA:∀ H c id,apB H c id 1 1 acc.length 1 [.int .u8 92] (some ⟨1,true,bytesC acc⟩)=some (.slc c 0 (acc.length+1),(H.del id).upd c ⟨1,true,bytesC (acc++[92])⟩,c+1):=fun H c id=>B9b (x:=92) rfl (by omega);have hB:∀ H c id,apB H c id 1 1 (acc.length+1) 1 [.int .u8 (s[k].toNat:Int)] (some ⟨1,true,bytesC (acc++[92])⟩)=some (.slc c 0 (acc.length+1+1),(H.del id).upd c ⟨1,true,bytesC (acc++[92]++[s[k]])⟩,c+1):=fun H c id=>B9b (by simp) (by omega);have hC:∀ H c id,apB H c id 1 1 acc.length 1 [.int .u8 (s[k].toNat:Int)] (some ⟨1,true,bytesC acc⟩)=some (.slc c 0 (acc.length+1),(H.del id).upd c ⟨1,true,bytesC (acc++[s[k]])⟩,c+1):=fun H c id=>B9b rfl (by omega);have est:A2t (s.take (k+1))=acc++quB s[k]:=by rw [hacc,B3b hg]
  have ne0:=A0k id c (c+1) (c+2) (c+3) (by omega);repeat' ((with_reducible first|refine wr ?_|refine A2 ?_ ?_|refine wb2 ?_ ?_<;>(intro hb;try simp only [hb])|fail)<;>try simp only [go_sem,seval,hd,hg,hw,ne0,hA,hB,hC])
  ·have e2:quB s[k]=[92,s[k]]:=if_pos (.inl (A6d (b:=34) hb));exact ⟨(k+1,c+1+1+1),⟨by simp only [est,e2,A0C];rfl,rfl⟩,O4 (by simp only [est,e2,A0U];rfl),inv ⟨hlt,by simp only;omega⟩,by simp only;omega⟩
  ·have e2:quB s[k]=[92,s[k]]:=if_pos (.inr (A6d (b:=92) hb));exact ⟨(k+1,c+1+1+1),⟨by simp only [est,e2,A0C];rfl,rfl⟩,O4 (by simp only [est,e2,A0U];rfl),inv ⟨hlt,by simp only;omega⟩,by simp only;omega⟩
  ·have e2:quB s[k]=[s[k]]:=if_neg (fun h=>h.elim (A2k (b:=34) (by assumption)) (A2k (b:=92) hb));exact ⟨(k+1,c+1),⟨by simp only [est,e2,A0C];rfl,rfl⟩,O4 (by simp only [est,e2]),inv ⟨hlt,by simp only;omega⟩,by simp only;omega⟩
 ·have hd:decide ((k:Int)<s.length)=false:=by simpa using hlt
  have hZ:∀ H c id,apB H c id 1 1 acc.length 1 [.int .u8 34] (some ⟨1,true,bytesC acc⟩)=some (.slc c 0 (acc.length+1),(H.del id).upd c ⟨1,true,bytesC (acc++[34])⟩,c+1):=fun H c id=>B9b (x:=34) rfl (by omega);have ne0:=V8 id c (c+1) (by omega);have hcv:∀ (H:Hp) u,A1l (H.upd (c+1) ⟨u,true,bytesC (acc++[34])⟩) (.slc (c+1) 0 (acc.length+1))=some (.str (acc++[34])):=fun H u=>A6b A0 rfl (by simp);repeat' ((with_reducible first|refine wr ?_|refine A2 ?_ ?_|fail)<;>try simp only [go_sem,seval,hd,ne0,hZ,hcv])
  refine A9 ?_;rw [hacc,A0O (by omega)];rfl
theorem c_OneR (t:Tok) (ht:Fit t):PC Tryz.prog 61 [t.v] (.str (K4 t)):=by
 refine PC.ofT B2 rfl (A0A rfl) (by simp [DV.nlL,DV.nl]) (by simp [DV.nlL,DV.nl]) ?_;have hq:=c_QuoteR t.text ht.1;have hd:=c_Dec' t.value ht.2.1 ht.2.2;repeat' ((with_reducible first|refine wr ?_|refine cpc hq ?_|refine cpc hd ?_|refine A2 ?_ ?_|refine wb2 ?_ ?_<;>(intro hb;try simp only [hb])|fail)<;>try simp only [go_sem,seval])
 all_goals (refine A9 (congrArg DV.str ?_);unfold K4;simp_all)
theorem c_TextR (l:List Tok) (hl:l.length<=10000000) (hx:∀ t∈l,Fit t):PC Tryz.prog 45 [S2 l] (.str (T4 l)):=by
 refine PC.ofT B2 rfl (A0A rfl) (by simp only [DV.nlL,DV.nl,B0r,A1T]) rfl ?_;repeat' ((with_reducible first|refine wr ?_|refine A2 ?_ ?_|fail)<;>try simp only [go_sem,seval])
 refine D2 (fun k:Nat=>[(0,S2 l),(3,.str (Q8 spB 0 (l.take k))),(4,I64 k)]) (fun _=>nil) (fun k _=>k<=l.length) (fun k=>l.length-k) 0 (by simp [C6,tm,Tm.upd,Q8]) (Sub.nil _) (by simp) ?_;rintro k c hk;by_cases hlt:k<l.length
 ·have hd:decide ((k:Int)<l.length)=true:=by simpa using hlt
  have hg:=A0E hlt;have hw:IntKind.i64.wrap ((k:Int)+1)=((k+1:Nat):Int):=by rw [w6z (by omega)];omega
  have hst:=C5j (sp:=spB) hg;have hfit:=hx _ (A1B hlt);have hal:(Q8 spB 0 (l.take k)).length<=200025 * (l.take k).length:=A7p (fun x hx'=>hx x (A2S hx'));rw [A0T] at hal;obtain ⟨t,ht⟩:∃ t,t=l[k]:=⟨_,rfl⟩;rw [<- ht] at hg hst hfit;obtain ⟨acc,hacc⟩:∃ acc,acc=Q8 spB 0 (l.take k):=⟨_,rfl⟩;rw [<- hacc] at hst hal ⊢;have h1:=c_OneR t hfit;have h1l:=B7y hfit;by_cases h0:k=0
  ·have hp:decide ((k:Int)>0)=false:=by simp;omega
   have a2:=R5 (s:=acc) (t:=K4 t) (by omega);repeat' ((with_reducible first|refine wr ?_|refine cpc h1 ?_|refine A2 ?_ ?_|fail)<;>try simp only [go_sem,seval,hd,hg,hw,hp,a2])
   exact ⟨k+1,⟨by rw [hst,spB,if_pos h0,A1M],rfl⟩,Sub.nil _,inv hlt,by omega⟩
  ·have hp:decide ((k:Int)>0)=true:=by simp;omega
   have a1:=R5 (s:=acc) (t:=[32]) (by rw [A0K];omega);have a2:=R5 (s:=acc++[32]) (t:=K4 t) (by rw [A0C,A0K];omega);repeat' ((with_reducible first|refine wr ?_|refine cpc h1 ?_|refine A2 ?_ ?_|fail)<;>try simp only [go_sem,seval,hd,hg,hw,hp,a1,a2])
   exact ⟨k+1,⟨by rw [hst,spB,if_neg h0],rfl⟩,Sub.nil _,inv hlt,by omega⟩
 ·have hd:decide ((k:Int)<l.length)=false:=by simpa using hlt
  repeat' ((with_reducible first|refine wr ?_|refine A2 ?_ ?_|fail)<;>try simp only [go_sem,seval,hd])
  refine A9 ?_;rw [A0O (by omega)];rfl
theorem c_Join (l:List (List UInt8)) (sp:List UInt8) (h1:l.length<=140737488355328) (h2:(Lib.join l sp).length<=140737488355328):PC Tryz.prog 64 [strs l,.str sp] (.str (Lib.join l sp)):=by
 refine PC.of_calls (by kernel_rfl) (by simp [DV.nlL,DV.nl,R7]) rfl fun ρ w vs hf hA=>?_;obtain ⟨y,g1,g2⟩:=hA.get (i:=0) rfl;obtain ⟨z,g3,g4⟩:=hA.get (i:=1) rfl;obtain rfl:=g4.str_inv;have hvs:vs = #[y,.string ⟨sp.toArray⟩]:=by
  have hs:vs.size=2:=hA.1.symm;cases vs with|mk r=>match r,hs,g1,g3 with
   | [a,b],_,h1,h3=>simp at h1 h3;subst h1 h3;rfl
 rw [hvs];rcases g2.lst_inv with ⟨e0,e1|⟨a,c,e1⟩⟩|⟨u,b,off,c,row,e1,e2,e3,e4,e5,e6⟩
 ·subst e1;have:l=[]:=by simpa using e0
  subst this;refine (Tryz.strings_Join_none none 0 ⟨sp.toArray⟩ w).mono ?_;rintro e w' ⟨rfl,rfl⟩;exact ⟨_,rfl,fun ρ'=>.mkStr,Below.refl _ _⟩
 ·subst e1;have:l=[]:=by simpa using e0
  subst this;refine (Tryz.strings_Join_none (some a) c ⟨sp.toArray⟩ w).mono ?_;rintro e w' ⟨rfl,rfl⟩;exact ⟨_,rfl,fun ρ'=>.mkStr,Below.refl _ _⟩
 ·subst e1;obtain ⟨e,fr,hb⟩:=hf b row e2;obtain ⟨bs,hbs⟩:∃ bs:List ByteArray,bs=l.map fun s=>(⟨s.toArray⟩:ByteArray):=⟨_,rfl⟩;have hL:(l.map DV.str).length=bs.length:=by rw [hbs];simp
  have hmap:bs.map (fun x=>x.data.toList)=l:=by
   rw [hbs,A3Q];exact (A3S fun s _=>rfl).trans (List.map_id l)
  have hmap2:bs.map (·.data.toList)=l:=hmap;have p1:∀ (j:Nat) x,bs[j]? = some x->w.cell? ⟨b,off+j,none⟩=some (.string x):=by
   intro j x hx;rw [hbs,A1C] at hx;obtain ⟨s,hs,rfl⟩:=A0M.1 hx;have hc:(A8 (l.map DV.str))[j]? = some (DV.str s):=by rw [A1m (fun _=>rfl),A1C,hs];rfl
   obtain ⟨v,v1,v2⟩:=e6.get hc;rw [v2.str_inv] at v1;simp only [World.cell?,hb];exact v1
  have p2:b<w.heap.size:=(A0P.1 hb).1;have p3:bs.length<=140737488355328:=by rw [hbs];simpa using h1
  have p4:bs.length<=c:=by rw [<- hL];exact e3
  have p5:(Lib.join (bs.map (·.data.toList)) (⟨sp.toArray⟩:ByteArray).data.toList).length<=140737488355328:=by
   rw [hmap2];exact h2
  rw [hL];have key:=Tryz.strings_Join b off c bs ⟨sp.toArray⟩ w p1 p2 p3 p4 p5;rw [hmap2] at key;refine key.mono fun e w' hq=>⟨_,hq.1,fun ρ'=>?_,hq.2⟩;exact .mkStr
theorem c_Text (l:List Tok) (hl:l.length<=100000) (hx:∀ t∈l,Fit t):PC Tryz.prog 114 [S2 l] (.str (T4 l)):=by
 refine PC.ofT B2 rfl (A0A rfl) (by simp only [DV.nlL,DV.nl,B0r,A1T]) rfl ?_;have htl:=A7p hx;repeat' ((with_reducible first|refine wr ?_|refine A2 ?_ ?_|fail)<;>try simp only [go_sem,seval])
 refine D2 (fun q:Nat × Option Nat=>[(3,C4 q.2 q.1),(6,S2 l),(7,I64 l.length),(8,I64 q.1)]) (fun q=>D4 Sym.nil q.2 ⟨1,true,A8 (((l.take q.1).map K4).map DV.str)⟩)
  (fun q cc=>q.1<=l.length/\(q.2=none->q.1=0)/\∀ i,q.2=some i->i<cc) (fun q=>l.length-q.1) (0,none)
  (by simp [C6,tm,Tm.upd,C4]) (Sub.nil _) ⟨by simp,by simp,by simp⟩ ?_
 rintro ⟨k,o⟩ c ⟨hk,hno,ho⟩;simp only at hk hno ho;simp only;have hkl:((l.take k).map K4).length=k:=by rw [A0I,A0T];omega
 by_cases hlt:k<l.length
 ·have hd:decide ((k:Int)<l.length)=true:=by simpa using hlt
  have hg:=A0E hlt;have hw:IntKind.i64.wrap ((k:Int)+1)=((k+1:Nat):Int):=by rw [w6z (by omega)];omega
  have hfit:=hx _ (A1B hlt);have est:A8 (((l.take (k+1)).map K4).map DV.str)=A8 (((l.take k).map K4).map DV.str)++[DV.str (K4 l[k])]:=by
   rw [A2J,hg,A4N,A0Z,A0Z,H6];rfl
  obtain ⟨t,ht⟩:∃ t,t=l[k]:=⟨_,rfl⟩;rw [<- ht] at hg hfit est;have h1:=c_Quote t.text (by have:=hfit.1;omega);have h2:=c_Itoa t.value hfit.2.1 hfit.2.2;obtain ⟨cs,hcs⟩:∃ cs,cs=A8 (((l.take k).map K4).map DV.str):=⟨_,rfl⟩;have hcl:cs.length=k * 1:=by rw [hcs,C7d,hkl]
  rw [<- hcs] at est ⊢;have hno2:o=none->k=0/\cs=[]:=fun e=>⟨hno e,by rw [hcs,hno e];rfl⟩;have ne0:=V8 c (c+1) (c+2) (by omega);repeat' ((with_reducible first|refine wr ?_|refine cpc h1 ?_|refine cpc h2 ?_|refine A2 ?_ ?_|refine wb2 ?_ ?_<;>(intro hb;try simp only [hb])|fail)<;>try simp only [go_sem,seval,hd,hg,hw,ne0])
  all_goals
   refine D0 (L6 (cs:=cs) hno2 (fun i hi=>?_) hcl (by omega) (by omega) (by omega)) ?_
   ·have:=ho i hi;rw [A3 (by omega),A3 (by omega),A3 (by omega)];exact B5c hi
   simp only [go_sem,seval,ne0,hw];repeat' ((with_reducible first|refine wr ?_|refine cpc h1 ?_|refine cpc h2 ?_|refine A2 ?_ ?_|fail)<;>try simp only [go_sem,seval,hd,hg,hw,ne0])
   exact ⟨(k+1,some (c+1+1)),⟨rfl,rfl⟩,O4 (by simp only [est];exact congrArg (fun z=>(⟨1,true,cs++[DV.str z]⟩:Blk)) (by unfold K4;simp_all)),inv ⟨hlt,by simp,fun i hi=>by cases hi;omega⟩,by simp only;omega⟩
 ·have hd:decide ((k:Int)<l.length)=false:=by simpa using hlt
  have hj:=c_Join (l.map K4) [32] (by rw [A0I];omega) (by rw [A4f];omega);rw [A4f] at hj;obtain rfl:k=l.length:=by omega
  rw [A3H] at hkl ⊢;rcases o with _|id
  ·have hk0:=hno rfl;have h00:l=[]:=A1S (by omega);repeat' ((with_reducible first|refine wr ?_|refine A2 ?_ ?_|fail)<;>try simp only [go_sem,seval,hd])
   refine AC.call (hj.give (H0:=Sym.nil) ⟨fun _ h=>h,fun ρ w vs h1 h2=>⟨ρ,rfl,h1,?_,Ext.refl _ _ _⟩⟩) ?_
   ·rw [h00];exact ⟨h2.1,fun i x y hx hy=>by
     match i with
     | 0=>cases hx;exact (h2.2 0 _ y rfl hy).snil_lst
     | 1=>cases hx;exact h2.2 1 _ y rfl hy
     | _+2=>cases hx⟩
   ·rintro v H' c' ⟨rfl,rfl,rfl⟩ -;simp only [go_sem,seval];repeat' ((with_reducible first|refine wr ?_|refine A2 ?_ ?_|fail)<;>try simp only [go_sem,seval])
    exact A9 rfl
  ·repeat' ((with_reducible first|refine wr ?_|refine A2 ?_ ?_|fail)<;>try simp only [go_sem,seval,hd])
   refine AC.call (hj.give (H0:=Sym.nil) (GL.one (id:=id) A0 rfl (.cons _ _ _ _ (M9 (u:=1) (by rw [A0I,hkl]) (R4 _) ⟨[],by simp⟩) (.cons _ _ _ _ (.same _) .nil)))) ?_;rintro v H' c' ⟨rfl,rfl,rfl⟩ -;simp only [go_sem,seval];repeat' ((with_reducible first|refine wr ?_|refine A2 ?_ ?_|fail)<;>try simp only [go_sem,seval])
   exact A9 rfl
theorem C8v {H:Hp} {a b:DV}:∃ H2,GL H [.tup [.agg [.snil,.snil],a,b]] H2 [.tup [.agg [.lst [],.lst []],a,b]] :=
 ⟨H,GL.view fun ρ vs hA=>N9 (fun v h=>by
  obtain ⟨b',rfl,k1,k2⟩:=h.tup_inv;refine .tup _ _ k1 fun i x y hx hy=>?_
  match i with
  | 0 =>
   cases hx;obtain ⟨c',rfl,m1,m2⟩:=(k2 0 _ y rfl hy).agg_inv;refine .agg _ _ m1 fun j x z hx hz=>?_
   match j with
   | 0=>cases hx;exact (m2 0 _ z rfl hz).snil_lst
   | 1=>cases hx;exact (m2 1 _ z rfl hz).snil_lst
   | _+2=>cases hx
  | 1=>cases hx;exact k2 1 _ y rfl hy
  | 2=>cases hx;exact k2 2 _ y rfl hy
  | _+3=>cases hx) vs hA⟩
theorem C8w {H:Hp} {a b k z n p:DV}:∃ H2,GL H [.tup [.agg [k,z,n,.snil,p],a,b]] H2 [.tup [.agg [k,z,n,.lst [],p],a,b]] :=
 ⟨H,GL.view fun ρ vs hA=>N9 (fun v h=>by
  obtain ⟨b',rfl,k1,k2⟩:=h.tup_inv;refine .tup _ _ k1 fun i x y hx hy=>?_
  match i with
  | 0=>cases hx;exact E2s (k2 0 _ y rfl hy)
  | 1=>cases hx;exact k2 1 _ y rfl hy
  | 2=>cases hx;exact k2 2 _ y rfl hy
  | _+3=>cases hx) vs hA⟩
end Go.Proofs.YthlpinppaclofaaGreatDoor
set_option maxHeartbeats 8000000
namespace Go.Proofs.YthlpinppaclofaaGreatDoor
open Go.Eng (IC IOper DReg IFn J0)
open Go.Sym Go.Pb
theorem PI0 {L:List Tok}:PI L rd0:=⟨A1H _,A3G 0,(by decide:(0:Int)<=32),A3G 0,(by decide:(0:Int)<=16)⟩
theorem c_PParse (s:List UInt8) (hs:s.length<=100000):PC Tryz.prog 36 [.str s] (C4t (P0 s)):=by
 refine PC.ofT B2 rfl (A0A rfl) rfl (D3o _) ?_;have hsc:=c_Scan s hs;by_cases h0:(C0 s).2.2=0
 ·have hd:((C0 s).2.2 != 0)=false:=by simpa using h0
  repeat' ((with_reducible first|refine wr ?_|refine cpc hsc ?_|refine A2 ?_ ?_|fail)<;>try simp only [go_sem,seval,hd])
  obtain ⟨f,hf⟩:=(A2s (C0 s).1 s.length).get;refine AC.call (c_prules (C0 s).1 s.length (by have:=B4q h0;omega) (C7v h0) (B2v h0) f rd0 _ hf PI0 _ _ 1 rfl (by decide)) ?_;rintro v H' c2 ⟨x,s',rfl,rfl,q1,q2,q3⟩ hc2;have hM:P0 s=if okR (A0y (C0 s).1 s.length).2=false then (Ru0,(A0y (C0 s).1 s.length).2.pos,(A0y (C0 s).1 s.length).2.e) else ((A0y (C0 s).1 s.length).1,0,0):=by
   unfold P0;dsimp only;rw [if_neg (by simpa using h0)]
  rw [hM];generalize A0y (C0 s).1 s.length=w at q1 q2 ⊢;clear hM hf;have ne0:=V8 0 1 c2 (by omega);simp only [go_sem,seval,ne0,A0,A1];repeat' ((with_reducible first|refine wr ?_|refine A2 ?_ ?_|fail)<;>try simp only [go_sem,seval,ne0,A0,A1])
  refine AC.call (c_pok (C0 s).1 s.length s' _ _ 1 (by rw [A3 (by omega)];exact A0) (by omega)) ?_;rintro v H' c3 ⟨rfl,rfl⟩ hc3;cases hok:okR w.2 with
  | true =>
   obtain rfl:=q2 hok;have hok':okR s'=true:=by rw [q1.ok,hok]
   rw [if_neg (by decide)];simp only [go_sem,seval,hok',ne0,A0,A1];repeat' ((with_reducible first|refine wr ?_|refine A2 ?_ ?_|fail)<;>try simp only [go_sem,seval,hok',ne0,A0,A1])
   rw [D6 (v:=C4t (w.1,0,0)) rfl];exact ⟨_,GL.refl _ _⟩
  | false =>
   have hok':okR s'=false:=by rw [q1.ok,hok]
   rw [if_pos rfl, <- q1.p, <- q1.e];simp only [go_sem,seval,hok',ne0,A0,A1];repeat' ((with_reducible first|refine wr ?_|refine A2 ?_ ?_|fail)<;>try simp only [go_sem,seval,hok',ne0,A0,A1])
   repeat refine ⟨by and_intros<;>(repeat rw [A3 (by omega)])<;>rfl,?_⟩
   repeat' ((with_reducible first|refine wr ?_|refine A2 ?_ ?_|fail)<;>try simp only [go_sem,seval,hok',ne0,A0,A1])
   rw [D6 (v:=.tup [.agg [.snil,.snil],I64 s'.pos,I64 s'.e]) rfl];exact C8v
 ·have hd:((C0 s).2.2 != 0)=true:=by simpa using h0
  have hM:P0 s=(Ru0,(C0 s).2.1,(C0 s).2.2):=by
   unfold P0;dsimp only;rw [if_pos h0]
  rw [hM];repeat' ((with_reducible first|refine wr ?_|refine cpc hsc ?_|refine A2 ?_ ?_|fail)<;>try simp only [go_sem,seval,hd])
  rw [D6 (v:=.tup [.agg [.snil,.snil],I64 (C0 s).2.1,I64 (C0 s).2.2]) rfl];exact C8v
theorem c_PParseE (s:List UInt8) (hs:s.length<=100000):PC Tryz.prog 33 [.str s] (C8z (B5b s)):=by
 refine PC.ofT B2 rfl (A0A rfl) rfl (C8y _) ?_;have hsc:=c_Scan s hs;by_cases h0:(C0 s).2.2=0
 ·have hd:((C0 s).2.2 != 0)=false:=by simpa using h0
  repeat' ((with_reducible first|refine wr ?_|refine cpc hsc ?_|refine A2 ?_ ?_|fail)<;>try simp only [go_sem,seval,hd])
  obtain ⟨f,hf⟩:=(C6g (C0 s).1 s.length).get;refine AC.call (c_pexpr (C0 s).1 s.length (by have:=B4q h0;omega) (B2v h0) f rd0 rd0 _ (.refl _) hf (A1H _) _ _ 1 rfl (by decide)) ?_;rintro v H' c2 ⟨x,s',rfl,rfl,q1,q2,q3⟩ hc2;obtain ⟨w,hw⟩:∃ w,w=D2d (C0 s).1 s.length:=⟨_,rfl⟩;obtain ⟨z,hz⟩:∃ z,z=(if okR w.2=true/\w.2.i<(C0 s).1.length then P2 (C0 s).1 s.length w.2 else w.2):=⟨_,rfl⟩;have hM:B5b s=if okR z=false then (Ex0,z.pos,z.e) else (w.1,0,0):=by
   unfold B5b;dsimp only;rw [if_neg (by simpa using h0), <- hw, <- hz]
  rw [<- hw] at q1 q2;rw [hM];have hq:Eqv (if s'.i<(C0 s).1.length then pfl (C0 s).1 s.length s' 4 else s') z/\(okR z=true->x=w.1):=by
   rw [hz];rcases q1.cas with ⟨e1,e2⟩|⟨e1,e2⟩
   ·rw [e1];by_cases hlt:w.2.i<(C0 s).1.length
    ·rw [if_pos hlt,if_pos ⟨e2,hlt⟩];exact ⟨.refl _,fun k=>(by rw [V5] at k;cases k)⟩
    ·rw [if_neg hlt,if_neg (fun h=>hlt h.2)];exact ⟨.refl _,q2⟩
   ·rw [show (if s'.i<(C0 s).1.length then pfl (C0 s).1 s.length s' 4 else s')=s' by rw [Y9 e1];split<;>rfl,if_neg (fun h=>by rw [e2] at h;cases h.1)];exact ⟨q1,fun k=>by rw [e2] at k;cases k⟩
  clear hM hf hz hw;have ne0:=V8 0 1 c2 (by omega);simp only [go_sem,seval,ne0,A0,A1,Ex.v_w];repeat' ((with_reducible first|refine wr ?_|refine A2 ?_ ?_|fail)<;>try simp only [go_sem,seval,ne0,A0,A1])
  refine AC.call (c_pend (C0 s).1 s.length s' _ _ 1 (by rw [A3 (by omega)];exact A0) (by omega)) ?_;rintro v H' c3 ⟨rfl,rfl⟩ hc3;generalize (if s'.i<(C0 s).1.length then pfl (C0 s).1 s.length s' 4 else s')=u at hq ⊢;obtain ⟨r1,r2⟩:=hq;simp only [go_sem,seval,ne0,A0,A1];repeat' ((with_reducible first|refine wr ?_|refine A2 ?_ ?_|fail)<;>try simp only [go_sem,seval,ne0,A0,A1])
  refine AC.call (c_pok (C0 s).1 s.length u _ _ 1 A0 (by omega)) ?_;rintro v H' c4 ⟨rfl,rfl⟩ hc4;cases hok:okR z with
  | true =>
   obtain rfl:=r2 hok;have hok':okR u=true:=by rw [r1.ok,hok]
   rw [if_neg (by decide)];simp only [go_sem,seval,hok',ne0,A0,A1];repeat' ((with_reducible first|refine wr ?_|refine A2 ?_ ?_|fail)<;>try simp only [go_sem,seval,hok',ne0,A0,A1])
   rw [D6 (v:=.tup [w.1.w,I64 0,I64 0]) rfl];exact ⟨_,by rw [<- Ex.v_w];exact GL.refl _ _⟩
  | false =>
   have hok':okR u=false:=by rw [r1.ok,hok]
   rw [if_pos rfl, <- r1.p, <- r1.e];simp only [go_sem,seval,hok',ne0,A0,A1];repeat' ((with_reducible first|refine wr ?_|refine A2 ?_ ?_|fail)<;>try simp only [go_sem,seval,hok',ne0,A0,A1])
   repeat refine ⟨by and_intros<;>(repeat rw [A3 (by omega)])<;>rfl,?_⟩
   repeat' ((with_reducible first|refine wr ?_|refine A2 ?_ ?_|fail)<;>try simp only [go_sem,seval,hok',ne0,A0,A1])
   rw [D6 (v:=.tup [.agg [I64 0,I64 0,.str [],.snil,I64 0],I64 u.pos,I64 u.e]) rfl];exact C8w
 ·have hd:((C0 s).2.2 != 0)=true:=by simpa using h0
  have hM:B5b s=(Ex0,(C0 s).2.1,(C0 s).2.2):=by
   unfold B5b;dsimp only;rw [if_pos h0]
  rw [hM];repeat' ((with_reducible first|refine wr ?_|refine cpc hsc ?_|refine A2 ?_ ?_|fail)<;>try simp only [go_sem,seval,hd])
  rw [D6 (v:=.tup [.agg [I64 0,I64 0,.str [],.snil,I64 0],I64 (C0 s).2.1,I64 (C0 s).2.2]) rfl];exact C8w
end Go.Proofs.YthlpinppaclofaaGreatDoor
set_option linter.unusedSectionVars false
namespace Go.Sym
variable [Go.Sym.Tab]
open Go.Eng (Opd FOp AOp EOp IOp IOper DReg IC RV IFn trC trR B0b J0 opd A5b trO trF trA trE trI B2a trG trL A2g KKey Rg rgT C4q)
open Go.ChangeMaps (setBlock)
section
variable {P:Program} {N:Nat} {ρ ρ' ρ1:Ren} {s s' s1:St} {w w' w1:World} {a:Act} {ops:Array Oper}
theorem B6n {o:Oper} (h:o.guard=none) (y:Nat->Option Bool):Region.wanted o y=true:=by simp [Region.wanted,h]
theorem A8y {Q:Exit->Act->World->Prop} {o:Oper} {rest:List Oper} {v:Value} (hg:o.guard=none) (h:(execOp a.eval o).run P w=.ok (.value v) w') (k:wpList P ops Q rest (a.put o.dst v) w') :
  wpList P ops Q (o :: rest) a w:=by
 unfold wpList;rw [B6n hg,if_pos rfl];left;unfold Oper.wp;rw [h];exact k
theorem A5o {Q:Exit->Act->World->Prop} {Q':St->Prop} (rest:List Oper):∀ (os:List Oper) (is:List IOper) {ρ : Ren} {s:St} {a:Act} {w:World},trL P N ops os=some is->Sim N ρ s a w ->
  rwp P Q' is s->(∀ ρ' s' a' w',Q' s'->Sim N ρ' s' a' w'->Step ρ s w ρ' s' w'->wpList P ops Q rest a' w')->wpList P ops Q (os++rest) a w
 | [],is, ρ,s,a,w,htr,hS,h,hq=>by
  simp only [trL,Option.some.injEq] at htr;subst htr;exact hq ρ s a w h hS (Step.refl _ _ _)
 | o :: os,is, ρ,s,a,w,htr,hS,h,hq=>by
  simp only [trL] at htr;split at htr
  ·rename_i i is' ho his;cases htr;unfold trO at ho;split at ho
   ·rename_i op g hop hg hd;cases ho;rw [A1N];unfold wpList;simp only [rwp] at h;split at h
    ·rename_i hw;rw [W8 hS hg rfl hw];rw [if_pos rfl];left;refine A7x hS hop h fun v v' H' c' ρ' w' hk d=>?_;obtain ⟨hS',hst⟩:=hS.did hd d;exact A5o rest os is' his hS' hk fun ρ2 s2 a2 w2 q2 hS2 hst2=>hq ρ2 s2 a2 w2 q2 hS2 (hst.trans hst2)
    ·rename_i hw;rw [W8 hS hg rfl hw];rw [if_neg A2B];have d:Did ρ s.H s.c w undef w (.tup []) s.H s.c ρ := ⟨A1y ρ,hS.rep,hS.fresh,A0H _,fun _ _ h=>h,fun _ _=>rfl,Ext.refl _ _ _⟩;obtain ⟨hS',hst⟩:=hS.did hd d;exact A5o rest os is' his hS' h fun ρ2 s2 a2 w2 q2 hS2 hst2=>hq ρ2 s2 a2 w2 q2 hS2 (hst.trans hst2)
    ·exact h.elim
   ·cases ho
  ·cases htr
structure Kp (ρ : Ren) (s:St) (w:World) (r id:Nat) (o:Obj):Prop where
 nm : ρ.nm id=some ⟨r,0,0,0,false⟩
 lt:id<s.c
 no:s.H id=none
 obj:w.heap[r]? = some o
 blk:∀ j b t,s.H j=some b -> ρ.nm j=some t->t.block≠r
 fz : ρ.fz r=none
 fm : ρ.fm r=none
theorem Kp.step {r id:Nat} {o:Obj} (h:Kp ρ s w r id o) (st:Step ρ s w ρ' s' w'):Kp ρ' s' w' r id o:=by
 have hr:r<w.heap.size:=(A0P.1 h.obj).1;refine ⟨(st.same id h.lt).trans h.nm,A4O h.lt st.up,?_,?_,fun j b t hb ht=>?_,?_,?_⟩
 ·cases hn:s'.H id with
  | none=>rfl
  | some x=>exact absurd h.no (st.dom id h.lt (by rw [hn];simp))
 ·rw [st.ext.keep r hr fun j b t hb _ ht=>h.blk j b t hb ht];exact h.obj
 ·rcases st.ext.mine j b t hb ht with h1|⟨i,b0,t0,e1, -,e2,e3⟩
  ·omega
  ·rw [<- e3];exact h.blk i b0 t0 e1 e2
 ·cases hf : ρ'.fz r with
  | none=>rfl
  | some x =>
   rcases st.ext.fzn r x hf with h1|h1|⟨i,b0,t0,e1, -,e2,e3⟩
   ·rw [h.fz] at h1;cases h1
   ·omega
   ·exact absurd e3 (h.blk i b0 t0 e1 e2)
 ·cases hf : ρ'.fm r with
  | none=>rfl
  | some x =>
   rcases st.ext.fmn r x hf with h1|h1|⟨i,b0,t0,e1, -,e2,e3⟩
   ·rw [h.fm] at h1;cases h1
   ·omega
   ·exact absurd e3 (h.blk i b0 t0 e1 e2)
theorem Kp.set {r id:Nat} {o o':Obj} (h:Kp ρ s w r id o) (hw:∀ k,k≠r->w'.heap[k]? = w.heap[k]?) (ho:w'.heap[r]? = some o'):Kp ρ s w' r id o' :=
 ⟨h.nm,h.lt,h.no,ho,h.blk,h.fz,h.fm⟩
theorem Sim.setKp {r id:Nat} {o:Obj} (hS:Sim N ρ s a w) (h:Kp ρ s w r id o) (hw:∀ k,k≠r->w'.heap[k]? = w.heap[k]?):Sim N ρ s a w':=by
 refine ⟨hS.tm,⟨fun j b hb=>?_,hS.rep.sep,fun k x hk=>?_,hS.rep.dis,fun k es hk=>?_⟩,hS.fresh,hS.size,hS.dfr⟩
 ·obtain ⟨t,h1,h2⟩:=hS.rep.blk j b hb;exact ⟨t,h1,h2.world (hw _ (h.blk j b t hb h1))⟩
 ·obtain ⟨e,fr,h1⟩:=hS.rep.frz k x hk;exact ⟨e,fr,by rw [hw k (fun e=>by rw [e,h.fz] at hk;cases hk)];exact h1⟩
 ·obtain ⟨⟨cl,h1,h2⟩,h3⟩:=hS.rep.frm k es hk;exact ⟨⟨cl,by rw [hw k (fun e=>by rw [e,h.fm] at hk;cases hk)];exact h1,h2⟩,h3⟩
theorem Step.set {r:Nat} (st:Step ρ1 s1 w1 ρ s w) (hr:w1.heap.size<=r) (hw:∀ k,k≠r->w'.heap[k]? = w.heap[k]?) (h1:w'.os=w.os) (h2:w'.tape=w.tape) (h3:w'.output=w.output) (h4:w'.heap.size=w.heap.size) :
  Step ρ1 s1 w1 ρ s w' :=
 ⟨st.up,st.dom,st.same,⟨st.ext.le,h1.trans st.ext.os,h2.trans st.ext.tape,h3.trans st.ext.output,h4▸st.ext.size,fun k hk hno=>(hw k (by omega)).trans (st.ext.keep k hk hno),st.ext.mine,st.ext.fzn,st.ext.fmn⟩⟩
theorem Sim.new (hS:Sim N ρ s a w) (o:Obj):Did ρ s.H s.c w (.pointer (some ⟨w.heap.size,0,none⟩)) (w.alloc o) (.ptr s.c 0) s.H (s.c+1) (ρ.upd s.c ⟨w.heap.size,0,0,0,false⟩) /\
  ∀ T,Kp (ρ.upd s.c ⟨w.heap.size,0,0,0,false⟩) ⟨T,s.H,s.c+1⟩ (w.alloc o) w.heap.size s.c o:=by
 have hid:=hS.fresh s.c (A0H _);have hle : ρ.le (ρ.upd s.c ⟨w.heap.size,0,0,0,false⟩):=Ren.le_upd hid;have hno:s.H s.c=none:=by
  cases h:s.H s.c with
  | none=>rfl
  | some b=>obtain ⟨t,h1, -⟩:=hS.rep.blk _ _ h;rw [hid] at h1;cases h1
 have nmj:∀ j b,s.H j=some b->(ρ.upd s.c ⟨w.heap.size,0,0,0,false⟩).nm j = ρ.nm j:=fun j b hb=>by
  have:j≠s.c:=fun e=>by rw [e,hno] at hb;cases hb
  simp only [Ren.upd,this,if_false]
 have lt:∀ j b t,s.H j=some b -> ρ.nm j=some t->t.block<w.heap.size:=fun j b t hb ht=>by
  obtain ⟨t',h1,h2⟩:=hS.rep.blk j b hb;rw [ht] at h1;cases h1;exact h2.lt
 have fzn : ρ.fz w.heap.size=none:=by
  cases hf : ρ.fz w.heap.size with
  | none=>rfl
  | some x=>exact absurd (hS.rep.flt hf) (Nat.lt_irrefl _)
 have fmn : ρ.fm w.heap.size=none:=by
  cases hf : ρ.fm w.heap.size with
  | none=>rfl
  | some x =>
   obtain ⟨⟨cl,h1, -⟩, -⟩:=hS.rep.frm _ _ hf;exact absurd (A0P.1 h1).1 (Nat.lt_irrefl _)
 refine ⟨⟨.ptr s.c 0 _ (Ren.upd_same _ _ _) rfl,⟨fun j b hb=>?_,fun i j bi bj ti tj hi hj hij h1 h2 ho=>?_,fun k x hk=>?_,fun j b t hb ho ht=>?_,fun k es hk=>?_⟩,fun j hj=>?_,A3F _,fun _ _ h=>h,fun j hj=>?_,?_⟩,fun T=>⟨Ren.upd_same _ _ _,A2H _,hno,heap_alloc_new w o,fun j b t hb ht=>?_,fzn,fmn⟩⟩
 ·obtain ⟨t,h1,h2⟩:=hS.rep.blk j b hb;exact ⟨t,hle.nm _ _ h1,(h2.mono hle).world (heap_alloc_old w o h2.lt)⟩
 ·rw [nmj i bi hi] at h1;rw [nmj j bj hj] at h2;exact hS.rep.sep i j bi bj ti tj hi hj hij h1 h2 ho
 ·obtain ⟨e,fr,h1⟩:=hS.rep.frz k x hk;exact ⟨e,fr,by rw [heap_alloc_old w o (hS.rep.flt hk)];exact h1⟩
 ·rw [nmj j b hb] at ht;exact hS.rep.dis j b t hb ho ht
 ·obtain ⟨⟨cl,h1,h2⟩,h3⟩:=hS.rep.frm k es hk;refine ⟨⟨cl,by rw [heap_alloc_old w o (A0P.1 h1).1];exact h1,h2⟩,fun j b t hb ho ht=>?_⟩;rw [nmj j b hb] at ht;exact h3 j b t hb ho ht
 ·simp only [Ren.upd,show j≠s.c by omega,if_false];exact hS.fresh j (by omega)
 ·simp only [Ren.upd,show j≠s.c by omega,if_false]
 ·refine ⟨hle,rfl,rfl,rfl,by simp,fun k hk _=>heap_alloc_old w o hk,fun j b t hb ht=>?_,fun k r hk=>.inl hk,fun k r hk=>.inl hk⟩;rw [nmj j b hb] at ht;exact .inr ⟨j,b,t,hb,fun h=>h,ht,rfl⟩
 ·rw [nmj j b hb] at ht;have:=lt j b t hb ht;omega
theorem A9d {c:Code} {x y:IC} (h:trC P N c=some (.seq x y)):∃ a b,c=.seq a b/\trC P N a=some x/\trC P N b=some y:=by
 cases c<;>simp only [trC] at h<;>(try (cases h;done))
 case seq a b =>
  split at h
  ·rename_i x' y' hx hy;cases h;exact ⟨a,b,rfl,hx,hy⟩
  ·cases h
 all_goals (repeat' (split at h))<;>(try (cases h;done))
 all_goals simp at h
theorem C2f {c:Code} {i:Nat} {x:IC} (h:trC P N c=some (.blk i x)):∃ b,c=.block i b/\trC P N b=some x:=by
 cases c<;>simp only [trC] at h<;>(try (cases h;done))
 case block j b =>
  simp only [A0M] at h;obtain ⟨x',hx,he⟩:=h;cases he;exact ⟨b,rfl,hx⟩
 all_goals (repeat' (split at h))<;>(try (cases h;done))
 all_goals simp at h
theorem C6u {c:Code} {x:IC} (h:trC P N c=some (.loop x)):∃ b,c=.loop b/\trC P N b=some x:=by
 cases c<;>simp only [trC] at h<;>(try (cases h;done))
 case loop b =>
  simp only [A0M] at h;obtain ⟨x',hx,he⟩:=h;cases he;exact ⟨b,rfl,hx⟩
 all_goals (repeat' (split at h))<;>(try (cases h;done))
 all_goals simp at h
theorem C6v {c:Code} {o:Opd} {x y:IC} (h:trC P N c=some (.cond o x y)):∃ c0 a b,c=.cond c0 a b/\opd c0=some o/\trC P N a=some x/\trC P N b=some y:=by
 cases c<;>simp only [trC] at h<;>(try (cases h;done))
 case cond c0 a b =>
  split at h
  ·rename_i c' x' y' hc0 hx hy;cases h;exact ⟨c0,a,b,rfl,hc0,hx,hy⟩
  ·cases h
 all_goals (repeat' (split at h))<;>(try (cases h;done))
 all_goals simp at h
theorem B9r {c:Code} {r:Rg} (h:trC P N c=some (.rg r)):∃ id ops d,c=.region id ops d/\rgT P N ops d=r:=by
 cases c<;>simp only [trC] at h<;>(try (cases h;done))
 case region id ops d =>
  split at h
  ·split at h
   ·cases h
   ·split at h<;>cases h
  ·cases h;exact ⟨id,ops,d,rfl,rfl⟩
 all_goals (repeat' (split at h))<;>(try (cases h;done))
 all_goals simp at h
theorem C1v {a b:Nat} (h:a.blt b=true):a<b:=by simpa [Nat.blt_eq] using h
theorem C2x {ops:Array Oper}:(∀ {i n io},C4q P N ops≠.r2 i n io)/\∀ {i n io},C4q P N ops≠.r3 i n io:=by
 constructor<;>intro i n io h<;>unfold C4q at h<;>(repeat' (split at h))<;>cases h
theorem D3h {ops:Array Oper} {d:Bool} {io:List IOper} {m it:Nat} (h:rgT P N ops d=.r1 io m it) :
  d=false/\∃ pre ty x p f k e,ops.toList=pre++[⟨some it,.range ty (.tmp m),x,p,f,none⟩]/\trL P N ops pre=some io/\P.underlying ty=some (.map k e)/\it<N:=by
 unfold rgT at h;split at h
 ·cases h
 ·refine ⟨rfl,?_⟩;split at h
  ·split at h<;>cases h
  ·split at h<;>cases h
  ·unfold C4q at h;split at h
   ·rename_i it' ty m' x p f pre hops;split at h
    ·rename_i k e io' hu hl hb;cases h;refine ⟨pre.reverse,ty,x,p,f,k,e,?_,hl,hu,C1v hb⟩;have:=congrArg List.reverse hops;simpa using this
    ·cases h
   ·cases h
theorem D3g {ops:Array Oper} {d:Bool} {io:List IOper} {it n:Nat} (h:rgT P N ops d=.r2 it n io) :
  d=false/\∃ rest x p f,ops.toList=⟨some n,.next (.tmp it) false,x,p,f,none⟩ :: rest/\trL P N ops rest=some io/\n<N:=by
 unfold rgT at h;split at h
 ·cases h
 ·refine ⟨rfl,?_⟩;split at h
  ·rename_i n' it' x p f rest hops;split at h
   ·rename_i io' hl hb;cases h;exact ⟨rest,x,p,f,hops,hl,C1v hb⟩
   ·cases h
  ·split at h<;>cases h
  ·exact absurd h C2x.1
theorem D3f {ops:Array Oper} {d:Bool} {io:List IOper} {it n:Nat} (h:rgT P N ops d=.r3 it n io) :
  d=false/\∃ rest x p f,ops.toList=⟨some n,.entry (.tmp it),x,p,f,none⟩ :: rest/\trL P N ops rest=some io/\n<N:=by
 unfold rgT at h;split at h
 ·cases h
 ·refine ⟨rfl,?_⟩;split at h
  ·split at h<;>cases h
  ·rename_i n' it' x p f rest hops;split at h
   ·rename_i io' hl hb;cases h;exact ⟨rest,x,p,f,hops,hl,C1v hb⟩
   ·cases h
  ·exact absurd h C2x.2
end
structure RgI (P:Program) (N:Nat) (ks vs:List DV) (it n e id b1 b2:Nat) (ok:Opd) (io2 io3:List IOper) (Y:IC) (Q:Exit->St->Prop) (I:List Nat->St->Prop):Prop where
 hit:∀ L s,I L s->s.T it=.ptr id 0
 fin:∀ L s,I L s->(∀ i<ks.length,i∈L)->rwp P (fun s3=>ev s3.T ok=.bool false/\Q .normal s3) io2 ⟨s.T.upd n (.tup [.bool false]),s.H,s.c⟩
 rnd:∀ L s i k v,I L s->L.Nodup->(∀ j∈L,j<ks.length)->i ∉ L->ks[i]? = some k->vs[i]? = some v ->
  rwp P (fun s3=>ev s3.T ok=.bool true/\s3.T it=.ptr id 0/\rwp P (fun s4=>IW P N Y s4 (B1p b2 (A8k (fun s5=>I (i :: L) s5) (B1p b1 Q)))) io3 ⟨s3.T.upd e (.tup [k,v]),s3.H,s3.c⟩) io2 ⟨s.T.upd n (.tup [.bool true,k,v]),s.H,s.c⟩
theorem IW.range {P:Program} {N:Nat} {io1 io2 io3:List IOper} {m it n e b1 b2:Nat} {ok:Opd} {Y:IC} {s:St} {Q:Exit->St->Prop}
  (h:rwp P (fun s1 => ∃ kd ks vs,s1.T m=.mp kd ks vs/\∃ I:List Nat->St->Prop,I [] ⟨s1.T.upd it (.ptr s1.c 0),s1.H,s1.c+1⟩/\RgI P N ks vs it n e s1.c b1 b2 ok io2 io3 Y Q I) io1 s) :
  IW P N (.seq (.rg (.r1 io1 m it)) (.blk b1 (.loop (.seq (.rg (.r2 it n io2)) (.seq (.cond ok .skip (.exit b1)) (.blk b2 (.seq (.rg (.r3 it e io3)) Y))))))) s Q:=by
 intro hm c hc;obtain ⟨cA,c2,rfl,hA,h2⟩:=A9d hc;obtain ⟨c3,rfl,h3⟩:=C2f h2;obtain ⟨c4,rfl,h4⟩:=C6u h3;obtain ⟨cB,c5,rfl,hB,h5⟩:=A9d h4;obtain ⟨c6,c7,rfl,h6,h7⟩:=A9d h5;obtain ⟨cc,cs,ce,rfl,hcc,hcs,hce⟩:=C6v h6;obtain ⟨c8,rfl,h8⟩:=C2f h7;obtain ⟨cC,cY,rfl,hC,hY⟩:=A9d h8;obtain ⟨iA,opsA,dA,rfl,eA⟩:=B9r hA;obtain ⟨iB,opsB,dB,rfl,eB⟩:=B9r hB;obtain ⟨iC,opsC,dC,rfl,eC⟩:=B9r hC;obtain ⟨rfl,pre,ty,xA,pA,fA,kt,et,hopsA,hlA,hu,hitN⟩:=D3h eA;obtain ⟨rfl,rB,xB,pB,fB,hopsB,hlB,hnN⟩:=D3g eB;obtain ⟨rfl,rC,xC,pC,fC,hopsC,hlC,heN⟩:=D3f eC;intro ρ a w hS;refine wp_seq (wp_region_list ?_);rw [hopsA];refine A5o _ pre io1 hlA hS h fun ρ1 s1 a1 w1 hh hS1 hst1=>?_;obtain ⟨kd,ks,vs,hTm,I,hI0,hI⟩:=hh;have rm:=hS1.tm m;rw [hTm] at rm;obtain ⟨bm,es,hfm,q1,q2,q3,q4,q5⟩:∃ bm es, ρ1.fm bm=some es/\ks.length=es.size/\vs.length=es.size/\(∀ (i:Nat) x (e:MapEntry),ks[i]? = some x->es[i]? = some e->VRel ρ1 x e.key) /\
   (∀ (i:Nat) x (e:MapEntry),vs[i]? = some x->es[i]? = some e->VRel ρ1 x e.val)/\a1.eval (.tmp m)=.map (some bm):=by
  generalize hv:a1.tmps.getD m undef=v at rm;cases rm with
  | mp _ _ _ b es h0 h1 h2 h3 h4 h5=>exact ⟨b,es,h0,h2,h3,h4,h5,hv⟩
 obtain ⟨⟨cl,hbm,hnd,E3⟩,hown⟩:=hS1.rep.frm bm es hfm;have run1:(execOp a1.eval ⟨some it,.range ty (.tmp m),xA,pA,fA,none⟩).run P w1=.ok (.value (.pointer (some ⟨w1.heap.size,0,none⟩))) (w1.alloc (.mapIter (some bm) cl #[] cl)):=by
  simp only [execOp,Sem.run_bind,q5,run_range_map w1 ty kt et bm es cl hu hbm,Result.andThen_ok,Sem.run_pure]
 refine A8y rfl run1 ?_;obtain ⟨d2,hkp2⟩:=hS1.new (.mapIter (some bm) cl #[] cl);obtain ⟨hS2,hst2⟩:=hS1.did (d:=some it) (by simp [A2g];omega) d2;unfold wpList;refine wp_block ?_;have hst12:=hst1.trans hst2;have hbmne:bm≠w1.heap.size:=fun e1=>by
  have:=(A0P.1 hbm).1;omega
 have hbm2:(w1.alloc (.mapIter (some bm) cl #[] cl)).heap[bm]? = some (.map es cl):=by rw [heap_alloc_old _ _ (A0P.1 hbm).1];exact hbm
 have map_keep:∀ {ρa:Ren} {sa:St} {wa:World} {ρb:Ren} {sb:St} {wb:World},Rep ρa sa.H wa -> ρa.fm bm=some es->wa.heap[bm]? = some (.map es cl)->Step ρa sa wa ρb sb wb->wb.heap[bm]? = some (.map es cl):=by
  intro ρa sa wa ρb sb wb hR hf hb st;rw [st.ext.keep bm (A0P.1 hb).1 fun id b t h1 h2 h3=>(hR.frm bm es hf).2 id b t h1 h2 h3];exact hb
 refine wp_loop_ghost (fun μ a' w' => ∃ ρ' s' L seen,I L s'/\L.Nodup/\(∀ i∈L,i<ks.length)/\Sim N ρ' s' a' w'/\Step ρ1 s1 w1 ρ' s' w'/\Kp ρ' s' w' w1.heap.size s1.c (.mapIter (some bm) cl seen cl) /\
   w'.heap[bm]? = some (.map es cl)/\(∀ (i:Nat) (e:MapEntry),es[i]? = some e->(seen.contains e.born=true↔i∈L)) /\ μ = (leftOf es seen).size) _
  ⟨_,_,[], #[],hI0,List.nodup_nil,fun i hi=>(by cases hi),hS2,hst2,hkp2 _,hbm2,fun i e _=>by simp,rfl⟩ ?_
 rintro μ a' w' ⟨ρ',s',L,seen,hIL,hLn,hLb,hS',hst',hkp,hb',hsn,rfl⟩;have hfm' : ρ'.fm bm=some es:=hst'.ext.le.fm _ _ hfm;have rit:=hS'.tm it;rw [hI.hit L s' hIL] at rit;obtain ⟨t,ht, -,rit⟩:=rit.ptr_inv;rw [hkp.nm] at ht;cases ht;have eit:a'.eval (.tmp it)=.pointer (some ⟨w1.heap.size,0,none⟩):=rit;refine wp_seq (wp_region_list ?_);rw [hopsB];rcases run_next_at (P:=P) w' xB w1.heap.size bm cl cl seen es cl hkp.obj hb' E3 (A0H _) with ⟨h0,hrun⟩|⟨en,hen,wx,hal,hrun⟩
 ·have run2:(execOp a'.eval ⟨some n,.next (.tmp it) false,xB,pB,fB,none⟩).run P w'=.ok (.value (.tuple #[.bool false])) w':=by
   simp only [execOp,Sem.run_bind,eit,hrun,Result.andThen_ok,Sem.run_pure]
  refine A8y rfl run2 ?_;have d:Did ρ' s'.H s'.c w' (.tuple #[.bool false]) w' (.tup [.bool false]) s'.H s'.c ρ':=⟨.tup _ _ rfl (by
    intro i x y hx hy
    match i with
    | 0=>cases hx;cases hy;exact .bool _
    | _+1=>cases hx),hS'.rep,hS'.fresh,A0H _,fun _ _ h=>h,fun _ _=>rfl,Ext.refl _ _ _⟩
  obtain ⟨hS3,hst3⟩:=hS'.did (d:=some n) (by simp [A2g];omega) d;refine Z7 rB io2 hlB hS3 (hI.fin L s' hIL fun i hi=>?_) fun ρ4 s4 a4 w4 hq hS4 hst4=>?_
  ·have hi':i<es.size:=q1▸hi;have:=all_seen es seen h0 es[i] (by simp);exact (hsn i es[i] (by simp [hi'])).1 this
  ·obtain ⟨hok,hQ⟩:=hq;have hr:=B5 hS4.tm hcc;rw [hok] at hr;refine wp_seq (wp_cond hr.bool_inv ?_);rw [if_neg A2B];refine wp_mono (IW.of (ic:=.exit b1) (Q:=fun e s=>e=.exit b1/\s=s4) ⟨rfl,rfl⟩ hm ce hce ρ4 a4 w4 hS4) ?_;rintro e5 a5 w5 ⟨ρ5,s5,⟨rfl,rfl⟩,hS5,hst5⟩;show (if b1=b1 then B9f N ρ s w Q .normal a5 w5 else _);rw [if_pos rfl];exact ⟨ρ5,s5,hQ,hS5,(((hst1.trans hst').trans hst3).trans hst4).trans hst5⟩
 ·obtain ⟨hmem,hfr⟩:=mem_left hen;obtain ⟨i,hi⟩:=List.getElem?_of_mem hmem;have hi2:es[i]? = some en:=by simpa using hi
  have his:i<es.size:=(A0P.1 hi2).1;have hk:ks[i]? = some ks[i]:=A0E (by omega);have hv:vs[i]? = some vs[i]:=A0E (by omega);have hiL:i ∉ L:=fun hh=>by rw [(hsn i en hi2).2 hh] at hfr;cases hfr
  have rk:=(q3 i _ en hk hi2).mono hst'.ext.le;have rv:=(q4 i _ en hv hi2).mono hst'.ext.le;have hxh:wx.heap=w'.heap:=by rcases hal with rfl|rfl<;>rfl
  obtain ⟨w2,hw2⟩:∃ w2,w2=setBlock wx w1.heap.size (.mapIter (some bm) cl (seen.push en.born) cl):=⟨_,rfl⟩;rw [<- hw2] at hrun;have hrs:w1.heap.size<w'.heap.size:=(A0P.1 hkp.obj).1;have k1:∀ k,k≠w1.heap.size->w2.heap[k]? = w'.heap[k]? := fun k hk=>by
   rw [hw2];simp only [setBlock,hxh];rw [A3D,if_neg (Ne.symm hk)]
  have k2:w2.heap[w1.heap.size]? = some (.mapIter (some bm) cl (seen.push en.born) cl):=by
   rw [hw2];simp only [setBlock,hxh];rw [A3D,if_pos rfl,if_pos hrs]
  have k3:w2.os=w'.os/\w2.tape=w'.tape/\w2.output=w'.output/\w2.heap.size=w'.heap.size:=by
   rw [hw2];rcases hal with rfl|rfl<;>exact ⟨rfl,rfl,rfl,by simp [setBlock]⟩
  have hSx:=hS'.setKp hkp k1;have hkx:=hkp.set k1 k2;have hstx:=hst'.set (A0H _) k1 k3.1 k3.2.1 k3.2.2.1 k3.2.2.2;have hbx:w2.heap[bm]? = some (.map es cl):=(k1 bm hbmne).trans hb';have run2:(execOp a'.eval ⟨some n,.next (.tmp it) false,xB,pB,fB,none⟩).run P w'=.ok (.value (.tuple #[.bool true,en.key,en.val])) w2:=by
   simp only [execOp,Sem.run_bind,eit,hrun,Result.andThen_ok,Sem.run_pure]
  refine A8y rfl run2 ?_;have d:Did ρ' s'.H s'.c w2 (.tuple #[.bool true,en.key,en.val]) w2 (.tup [.bool true,ks[i],vs[i]]) s'.H s'.c ρ':=⟨.tup _ _ rfl (by
    intro j x y hx hy
    match j with
    | 0=>cases hx;cases hy;exact .bool _
    | 1=>cases hx;cases hy;exact rk
    | 2=>cases hx;cases hy;exact rv
    | _+3=>cases hx),hSx.rep,hSx.fresh,A0H _,fun _ _ h=>h,fun _ _=>rfl,Ext.refl _ _ _⟩
  obtain ⟨hS3,hst3⟩:=hSx.did (d:=some n) (by simp [A2g];omega) d;have hk3:=hkx.step hst3;have hb3:=map_keep hSx.rep hfm' hbx hst3;have hf3:=hst3.ext.le.fm _ _ hfm';refine Z7 rB io2 hlB hS3 (hI.rnd L s' i _ _ hIL hLn hLb hiL hk hv) fun ρ4 s4 a4 w4 hq hS4 hst4=>?_;obtain ⟨hok,hit4,hQ⟩:=hq;have hk4:=hk3.step hst4;have hb4:=map_keep hS3.rep hf3 hb3 hst4;have hf4:=hst4.ext.le.fm _ _ hf3;have hr:=B5 hS4.tm hcc;rw [hok] at hr;refine wp_seq (wp_cond hr.bool_inv ?_);rw [if_pos rfl];refine wp_mono (IW.of (ic:=.skip) (Q:=fun e s=>e=.normal/\s=s4) ⟨rfl,rfl⟩ hm cs hcs ρ4 a4 w4 hS4) ?_;rintro e5 a5 w5 ⟨ρ5,s5,⟨rfl,rfl⟩,hS5,hst5⟩;have hk5:=hk4.step hst5;have hb5:=map_keep hS4.rep hf4 hb4 hst5;have hf5:=hst5.ext.le.fm _ _ hf4;refine wp_block (wp_seq (wp_region_list ?_));rw [hopsC];have rit5:=hS5.tm it;rw [hit4] at rit5;obtain ⟨t,ht, -,rit5⟩:=rit5.ptr_inv;rw [hk5.nm] at ht;cases ht;have eit5:a5.eval (.tmp it)=.pointer (some ⟨w1.heap.size,0,none⟩):=rit5;have run3:(execOp a5.eval ⟨some e,.entry (.tmp it),xC,pC,fC,none⟩).run P w5=.ok (.value (.tuple #[en.key,en.val])) w5:=by
   simp only [execOp,Sem.run_bind,eit5,run_entry_at (P:=P) w5 w1.heap.size bm cl seen es cl en hk5.obj hb5 hmem hnd,Result.andThen_ok,Sem.run_pure]
  refine A8y rfl run3 ?_;have hst35:=(hst3.trans hst4).trans hst5;have d:Did ρ5 s5.H s5.c w5 (.tuple #[en.key,en.val]) w5 (.tup [ks[i],vs[i]]) s5.H s5.c ρ5:=⟨.tup _ _ rfl (by
    intro j x y hx hy
    match j with
    | 0=>cases hx;cases hy;exact rk.mono hst35.ext.le
    | 1=>cases hx;cases hy;exact rv.mono hst35.ext.le
    | _+2=>cases hx),hS5.rep,hS5.fresh,A0H _,fun _ _ h=>h,fun _ _=>rfl,Ext.refl _ _ _⟩
  obtain ⟨hS6,hst6⟩:=hS5.did (d:=some e) (by simp [A2g];omega) d;have hk6:=hk5.step hst6;have hb6:=map_keep hS5.rep hf5 hb5 hst6;have hf6:=hst6.ext.le.fm _ _ hf5;refine Z7 rC io3 hlC hS6 hQ fun ρ7 s7 a7 w7 hY7 hS7 hst7=>?_;have hk7:=hk6.step hst7;have hb7:=map_keep hS6.rep hf6 hb6 hst7;have hf7:=hst7.ext.le.fm _ _ hf6;have hst17:=(((hstx.trans hst35).trans hst6).trans hst7);refine wp_mono (hY7 hm cY hY ρ7 a7 w7 hS7) ?_;rintro e8 a8 w8 ⟨ρ8,s8,hq8,hS8,hst8⟩;have hst18:=hst17.trans hst8;have hk8:=hk7.step hst8;have hb8:=map_keep hS7.rep hf7 hb7 hst8;have next:I (i :: L) s8->∃ n',n'<(leftOf es seen).size/\∃ ρ' s' L seen,I L s'/\L.Nodup/\(∀ i∈L,i<ks.length)/\Sim N ρ' s' a8 w8/\Step ρ1 s1 w1 ρ' s' w8/\Kp ρ' s' w8 w1.heap.size s1.c (.mapIter (some bm) cl seen cl) /\
   w8.heap[bm]? = some (.map es cl)/\(∀ (i:Nat) (e:MapEntry),es[i]? = some e->(seen.contains e.born=true↔i∈L))/\n'=(leftOf es seen).size:=fun hI8=>by
   refine ⟨_,left_shrinks es seen en hen, ρ8,s8,i :: L,seen.push en.born,hI8,List.nodup_cons.2 ⟨hiL,hLn⟩,fun j hj=>?_,hS8,hst18,hk8,hb8,fun j e' hj=>?_,rfl⟩
   ·rcases A1D.1 hj with rfl|hj
    ·omega
    ·exact hLb j hj
   ·rw [contains_push,A0W,A1D,hsn j e' hj];constructor
    ·rintro (h1|h1)
     ·exact .inr h1
     ·refine .inl ?_;have h2:=A1G.1 h1;have h3:(es.toList.map (·.born))[j]? = some en.born:=by rw [A1C,show es.toList[j]? = some e' by simpa using hj];simp [h2]
      have h4:(es.toList.map (·.born))[i]? = some en.born:=by rw [A1C,hi];rfl
      exact (List.getElem?_inj (A0V.1 h3).1 hnd).1 (h3.trans h4.symm)
    ·rintro (rfl|h1)
     ·rw [hi2] at hj;cases hj;exact .inr (beq_self_eq_true _)
     ·exact .inl h1
  have hend:Step ρ s w ρ8 s8 w8:=hst1.trans hst18;cases e8 with
  | normal=>exact next hq8
  | exit j =>
   simp only [B1p] at hq8;simp only [Exit.inBlock];split at hq8
   ·rename_i hj;rw [if_pos hj];exact next hq8
   ·rename_i hj;rw [if_neg hj];simp only [A8k,B1p] at hq8;show (if j=b1 then B9f N ρ s w Q .normal a8 w8 else B9f N ρ s w Q (.exit j) a8 w8);split at hq8
    ·rename_i hj1;rw [if_pos hj1];exact ⟨ρ8,s8,hq8,hS8,hend⟩
    ·rename_i hj1;rw [if_neg hj1];exact ⟨ρ8,s8,hq8,hS8,hend⟩
  | _=>exact ⟨ρ8,s8,hq8,hS8,hend⟩
theorem N3 {n:Nat} {v:DV}:∀ {l:List (Nat × DV)} {T:Tm},C6 l T->(∀ p∈l,p.1≠n)->C6 l (T.upd n v)
 | [],_,_,_=>trivial
 | (k,x) :: r,T,⟨h1,h2⟩,h=>⟨by simp only [Tm.upd,h (k,x) A0L,if_false];exact h1,N3 h2 fun p hp=>h p (A0J _ hp)⟩
theorem B2n (T:Tm) (n:Nat) (v:DV):(T.upd n v) n=v:=by simp [Tm.upd]
theorem R3 (T:Tm) {n k:Nat} (v:DV) (h:k≠n):(T.upd n v) k=T k:=by simp [Tm.upd,h]
def lpR {σ : Type} (it:Nat) (x:DV) (L : σ -> List (Nat × DV)) (h : σ -> Hp) (J:List Nat -> σ -> Nat->Prop) (D:List Nat) (Q:Exit->St->Prop):Exit->St->Prop
 | .normal,⟨T,H,c⟩=>T it=x/\∃ b,C6 (L b) T/\Sub (h b) H/\J D b c
 | e,s=>Q e s
theorem E4n {σ : Type} {it:Nat} {x:DV} {L : σ -> List (Nat × DV)} {h : σ -> Hp} {J:List Nat -> σ -> Nat->Prop} {D:List Nat} {Q:Exit->St->Prop} {T:Tm} {H:Hp} {c:Nat} :
  lpR it x L h J D Q .normal ⟨T,H,c⟩=(T it=x/\∃ b,C6 (L b) T/\Sub (h b) H/\B1y (J D) b c):=propext Iff.rfl
theorem E4m {σ : Type} {it:Nat} {x:DV} {L : σ -> List (Nat × DV)} {h : σ -> Hp} {J:List Nat -> σ -> Nat->Prop} {D:List Nat} {Q:Exit->St->Prop} {s:St}:lpR it x L h J D Q .ret s=Q .ret s:=propext Iff.rfl
attribute [go_sem] E4n E4m
theorem B5y {P:Program} {N f:Nat} {D:(Ps->IC)->TD} [F:FT P f D] {p0 p1 p2 p3 p4 p5:Ps} {g m it n ok e x y k v b1 b2:Nat} {Y z:IC} {L0 L1 L2 L3 L4 L5:List Nat}
  [g0:LkD (D (pz P f)) p0 (.Q (.rg (.r1 [⟨some m,.call g [],none⟩] m it)) (pz P f p1) L0)] [g1:LkD (D (pz P f)) p1 (.J (.loop (pz P f p2)) b1 L1)]
  [g2:LkD (D (pz P f)) p2 (.Q (.rg (.r2 it n [⟨some ok,.pur (.ext (.t n) 0),none⟩])) (pz P f p3) L2)] [g3:LkD (D (pz P f)) p3 (.C .skip (pz P f p4) (.exit b1) (.t ok) L3)]
  [g4:LkD (D (pz P f)) p4 (.J (pz P f p5) b2 L4)]
  [g5:LkD (D (pz P f)) p5 (.Q (.rg (.r3 it e [⟨some x,.pur (.ext (.t e) 0),none⟩,⟨some y,.pur (.ext (.t e) 1),none⟩,⟨some k,.pur (.mv (.t x)),none⟩,⟨some v,.pur (.mv (.t y)),none⟩])) Y L5)]
  {T:Tm} {H:Hp} {c:Nat} {Q0:Exit->St->Prop} {kd:KKey} {ks vs:List DV} (hc:PC P g [] (.mp kd ks vs)) {σ : Type} (L : σ -> List (Nat × DV)) (h : σ -> Hp) (J:List Nat -> σ -> Nat->Prop) (a : σ)
  (hd:[k,v,it,m,n,ok,e,x,y].Nodup) (hA:∀ b,((L b).map Prod.fst).all (fun q => !([k,v,it,m,n,ok,e,x,y].contains q))=true) (h0:C6 (L a) T) (hH:Sub (h a) H) (hJ:J [] a (c+1))
  (fin:∀ D b c,J D b c->(∀ i<ks.length,i∈D)->IW P N z ⟨tm (L b),h b,c⟩ Q0)
  (rnd:∀ it' D b c i kk vv,J D b c->D.Nodup->(∀ j∈D,j<ks.length)->i ∉ D->ks[i]? = some kk->vs[i]? = some vv ->
   IW P N Y ⟨tm ((it,it') :: (k,kk) :: (v,vv) :: L b),h b,c⟩ (bk b2 (lpR it it' L h J (i :: D) (bk b1 (sq P N z Q0))))) :
  IW P N (pz P f p0) ⟨T,H,c⟩ (sq P N z Q0):=by
 rw [wz g0.get,show PD.ic (.Q (.rg (.r1 [⟨some m,.call g [],none⟩] m it)) (pz P f p1) L0)=.seq (.rg (.r1 [⟨some m,.call g [],none⟩] m it)) (pz P f p1) from rfl,wz g1.get,show PD.ic (.J (.loop (pz P f p2)) b1 L1)=.blk b1 (.loop (pz P f p2)) from rfl,wz g2.get];show IW P N (.seq (.rg (.r1 [⟨some m,.call g [],none⟩] m it)) (.blk b1 (.loop (.seq (.rg (.r2 it n [⟨some ok,.pur (.ext (.t n) 0),none⟩])) (pz P f p3))))) _ _;rw [wz g3.get];show IW P N (.seq (.rg (.r1 [⟨some m,.call g [],none⟩] m it)) (.blk b1 (.loop (.seq (.rg (.r2 it n [⟨some ok,.pur (.ext (.t n) 0),none⟩])) (.seq (.cond (.t ok) .skip (.exit b1)) (pz P f p4)))))) _ _;rw [wz g4.get];show IW P N (.seq (.rg (.r1 [⟨some m,.call g [],none⟩] m it)) (.blk b1 (.loop (.seq (.rg (.r2 it n [⟨some ok,.pur (.ext (.t n) 0),none⟩])) (.seq (.cond (.t ok) .skip (.exit b1)) (.blk b2 (pz P f p5))))))) _ _;rw [wz g5.get];have hL:∀ b, ∀ p∈L b,p.1 ∉ [k,v,it,m,n,ok,e,x,y]:=fun b p hp hh=>by
  have h1:=A0Q.1 (hA b) p.1 (A1I.2 ⟨p,hp,rfl⟩);rw [A2M.2 hh] at h1;cases h1
 simp only [List.nodup_cons,A1D,A2I,or_false,not_or] at hd hL;obtain ⟨⟨d1,d2,d3,d4,d5,d6,d7,d8⟩,⟨d9,d10,d11,d12,d13,d14,d15⟩,⟨d16,d17,d18,d19,d20,d21⟩,⟨d22,d23,d24,d25,d26⟩,⟨d27,d28,d29,d30⟩,⟨d31,d32,d33⟩,⟨d34,d35⟩,d36, -⟩:=hd;refine IW.range ?_;simp only [rwp,K8,N6,A1Z];refine cpc hc ⟨kd,ks,vs,B2n _ _ _,fun D s=>s.T it=.ptr c 0/\∃ b,C6 (L b) s.T/\Sub (h b) s.H/\J D b s.c,⟨B2n _ _ _,a,?_,hH,hJ⟩,fun D s q=>q.1,?_,?_⟩
 ·exact N3 (N3 h0 fun p hp=>(hL a p hp).2.2.2.1) fun p hp=>(hL a p hp).2.2.1
 ·rintro D s ⟨q1,b,q2,q3,q4⟩ hall;simp only [rwp,K8,N6,D0s,ev,B2n,C8h,A2U,F7];refine ⟨trivial,?_⟩;exact IW.weaken (X0 (N3 (N3 q2 fun p hp=>(hL b p hp).2.2.2.2.1) fun p hp=>(hL b p hp).2.2.2.2.2.1)) q3 (fin D b _ q4 hall)
 ·rintro D s i kk vv ⟨q1,b,q2,q3,q4⟩ hn hb hi hk hv;simp only [rwp,K8,N6,D0s,ev,B2n,C8h,A2U,A2V,F7,fev,R3 _ _ d36,R3 _ _ (Ne.symm d36),R3 _ _ d35,R3 _ _ d34,R3 _ _ (Ne.symm d34),R3 _ _ d7,R3 _ _ (Ne.symm d7),R3 _ _ (Ne.symm d8),R3 _ _ d15,R3 _ _ d14,R3 _ _ d18,R3 _ _ d19];refine ⟨trivial,by rw [R3 _ _ d17];exact q1,?_⟩;refine IW.weaken (T':=tm ((it,.ptr c 0) :: (k,kk) :: (v,vv) :: L b)) (X0 ⟨?_,?_,?_,?_⟩) q3 ((rnd (.ptr c 0) D b s.c i kk vv q4 hn hb hi hk hv).mono ?_)
  ·rw [R3 _ _ (Ne.symm d9),R3 _ _ (Ne.symm d2),R3 _ _ d21,R3 _ _ d20,R3 _ _ d19,R3 _ _ d18,R3 _ _ d17];exact q1
  ·rw [R3 _ _ d1,B2n]
  ·exact B2n _ _ _
  ·refine N3 (N3 (N3 (N3 (N3 (N3 (N3 q2 ?_) ?_) ?_) ?_) ?_) ?_) ?_<;>intro p hp<;>have h9:=hL b p hp
   ·exact h9.2.2.2.2.1
   ·exact h9.2.2.2.2.2.1
   ·exact h9.2.2.2.2.2.2.1
   ·exact h9.2.2.2.2.2.2.2.1
   ·exact h9.2.2.2.2.2.2.2.2
   ·exact h9.1
   ·exact h9.2.1
  ·rintro e5 ⟨T5,H5,c5⟩ q5;have key:∀ e6,lpR it (.ptr c 0) L h J (i :: D) (bk b1 (sq P N z Q0)) e6 ⟨T5,H5,c5⟩->A8k (fun s5=>s5.T it=.ptr c 0/\∃ b,C6 (L b) s5.T/\Sub (h b) s5.H/\J (i :: D) b s5.c) (B1p b1 (sq P N z Q0)) e6 ⟨T5,H5,c5⟩:=by
    intro e6 q6;cases e6<;>exact q6
   cases e5 with
   | exit j =>
    simp only [bk,B1p] at q5;simp only [B1p];split at q5
    ·rename_i hj;rw [if_pos hj];exact key _ q5
    ·rename_i hj;rw [if_neg hj];exact key _ q5
   | normal=>exact key .normal q5
   | ret=>exact key .ret q5
   | goto l=>exact key (.goto l) q5
   | panic l=>exact key (.panic l) q5
   | outgrown=>exact key .outgrown q5
end Go.Sym
set_option maxHeartbeats 4000000
namespace Go.Proofs.YthlpinppaclofaaGreatDoor
open Go.Eng (IC IOper DReg IFn J0)
open Go.Sym
abbrev x113:XT Tryz.prog 113:=mkF
instance t113:FT Tryz.prog 113 x113.d:=x113.ft
abbrev x154:XT Tryz.prog 154:=mkF
instance t154:FT Tryz.prog 154 x154.d:=x154.ft
abbrev x65:XT Tryz.prog 65:=mkF
instance t65:FT Tryz.prog 65 x65.d:=x65.ft
abbrev x110:XT Tryz.prog 110:=mkF
instance t110:FT Tryz.prog 110 x110.d:=x110.ft
abbrev x29:XT Tryz.prog 29:=mkF
instance t29:FT Tryz.prog 29 x29.d:=x29.ft
abbrev x60:XT Tryz.prog 60:=mkF
instance t60:FT Tryz.prog 60 x60.d:=x60.ft
abbrev x59:XT Tryz.prog 59:=mkF
instance t59:FT Tryz.prog 59 x59.d:=x59.ft
abbrev x102:XT Tryz.prog 102:=mkF
instance t102:FT Tryz.prog 102 x102.d:=x102.ft
abbrev x25:XT Tryz.prog 25:=mkF
instance t25:FT Tryz.prog 25 x25.d:=x25.ft
end Go.Proofs.YthlpinppaclofaaGreatDoor
namespace Go.Pb
variable [Go.Sym.Tab]
open Go.Sym
mutual
def Ex.sz:Ex->Nat
 | .mk k v n a p=>1+n.length+Ex.szs a
def Ex.szs:List Ex->Nat
 | []=>0
 | e :: l=>e.sz+Ex.szs l
end
mutual
def St.sz:St->Nat
 | .mk k n t a x y p=>1+n.length+t.length+Ex.szs a+St.szs x+St.szs y
def St.szs:List St->Nat
 | []=>0
 | e :: l=>e.sz+St.szs l
end
def Dc.sz (d:Dc):Nat:=1+d.name.length
def Hd.sz (h:Hd):Nat:=1+h.name.length+St.szs h.body
def Md.sz (m:Md):Nat:=1+m.name.length+(m.hds.map Hd.sz).sum
def Ru.sz (r:Ru):Nat:=(r.decls.map Dc.sz).sum+(r.modes.map Md.sz).sum
theorem Ex.szs_map:∀ l:List Ex,Ex.szs l=(l.map Ex.sz).sum
 | []=>rfl
 | e :: l=>by rw [Ex.szs,Ex.szs_map l];rfl
theorem St.szs_map:∀ l:List St,St.szs l=(l.map St.sz).sum
 | []=>rfl
 | e :: l=>by rw [St.szs,St.szs_map l];rfl
theorem O3 {α : Type} {f : α -> Nat} {x : α}:∀ {l:List α},x∈l->f x<=(l.map f).sum
 | a :: l,h=>by
  rw [A0N,A3R];rcases A1D.1 h with rfl|h
  ·omega
  ·have:=O3 (f:=f) h;omega
theorem M6 {α : Type} {f : α -> Nat}:∀ {l:List α},(∀ x∈l,1<=f x)->l.length<=(l.map f).sum
 | [],h=>A1H _
 | a :: l,h=>by
  have:=M6 (f:=f) (l:=l) fun x hx=>h x (A0J _ hx);have:=h a A0L;rw [A0N,A3R,A0B];omega
theorem Ex.sz_pos (e:Ex):1<=e.sz:=by cases e with|mk k v n a p=>rw [Ex.sz];omega
theorem St.sz_pos (e:St):1<=e.sz:=by cases e with|mk k n t a x y p=>rw [St.sz];omega
theorem Ex.sz_arg {e x:Ex} (h:x∈e.args):x.sz<e.sz:=by
 cases e with|mk k v n a p =>
 have:=O3 (f:=Ex.sz) h;rw [Ex.sz,Ex.szs_map];have h':(Ex.mk k v n a p).args=a:=rfl;rw [h'] at this;omega
theorem Ex.sz_name (e:Ex):e.name.length<e.sz:=by
 cases e with|mk k v n a p=>rw [Ex.sz];show n.length<_;omega
theorem Ex.sz_args (e:Ex):e.args.length<e.sz:=by
 cases e with|mk k v n a p =>
 have:=M6 (f:=Ex.sz) (l:=a) fun x _=>x.sz_pos;rw [Ex.sz,Ex.szs_map];show a.length<_;omega
theorem St.sz_name (e:St):e.name.length<e.sz:=by
 cases e with|mk k n t a x y p=>rw [St.sz];show n.length<_;omega
theorem St.sz_text (e:St):e.text.length<e.sz:=by
 cases e with|mk k n t a x y p=>rw [St.sz];show t.length<_;omega
theorem St.sz_arg {e:St} {x:Ex} (h:x∈e.args):x.sz<e.sz:=by
 cases e with|mk k n t a u w p =>
 have:=O3 (f:=Ex.sz) h;have h':(St.mk k n t a u w p).args=a:=rfl;rw [h'] at this;rw [St.sz,Ex.szs_map];omega
theorem St.sz_args (e:St):e.args.length<e.sz:=by
 cases e with|mk k n t a u w p =>
 have:=M6 (f:=Ex.sz) (l:=a) fun x _=>x.sz_pos;rw [St.sz,Ex.szs_map];show a.length<_;omega
theorem St.sz_thn (e:St):St.szs e.thn<e.sz:=by
 cases e with|mk k n t a u w p=>rw [St.sz];show St.szs u<_;omega
theorem St.sz_els (e:St):St.szs e.els<e.sz:=by
 cases e with|mk k n t a u w p=>rw [St.sz];show St.szs w<_;omega
theorem St.szs_len (l:List St):l.length<=St.szs l:=by rw [St.szs_map];exact M6 fun x _=>x.sz_pos
theorem St.szs_mem {l:List St} {x:St} (h:x∈l):x.sz<=St.szs l:=by rw [St.szs_map];exact O3 h
theorem Ex.szs_mem {l:List Ex} {x:Ex} (h:x∈l):x.sz<=Ex.szs l:=by rw [Ex.szs_map];exact O3 h
theorem Ex.szs_len (l:List Ex):l.length<=Ex.szs l:=by rw [Ex.szs_map];exact M6 fun x _=>x.sz_pos
theorem D8 (s:List UInt8):(D1 s).length=1:=by unfold D1;split<;>rfl
theorem P4 (n:Int):(X2 n).length=1:=by unfold X2;split<;>rfl
theorem A1z (s:List UInt8):(A1c s).length=1:=by unfold A1c;split<;>rfl
theorem A7w (q:Int × List Tok) (n:Int):q.2.length<=(E1 q n).length/\(E1 q n).length<=q.2.length+2:=by
 unfold E1;split
 ·simp only [A0C,A0K];omega
 ·omega
theorem B1k:∀ l:List Ex,A5d l=l.map fun e=>(e.kind,exT e)
 | []=>rfl
 | e :: l=>by rw [A5d,B1k l];rfl
set_option maxHeartbeats 2000000 in
theorem C1u {k v:Int} {n:List UInt8} {as1:List (Int × List Tok)}:1<=(F4 k v n as1).length/\(F4 k v n as1).length<=5+(as1.map fun q=>q.2.length).sum:=by
 unfold F4
 match as1 with
 | [] =>
  dsimp only;repeat' split
  all_goals simp only [A0C,A0K,D8,P4]
  all_goals omega
 | [q] =>
  have:=A7w q 6;dsimp only;repeat' split
  all_goals simp only [A0C,A0K,D8,P4,A0N,A1Z,A3R,List.sum_nil]
  all_goals omega
 | [q,r] =>
  have h1:=A7w q (if B4 k=3 then 4 else B4 k);have h2:=A7w r (B4 k+1);dsimp only;generalize E1 q (if B4 k=3 then 4 else B4 k)=A at h1 ⊢;generalize E1 r (B4 k+1)=B at h2 ⊢;generalize A5 (B7.getD (k-12).toNat [])=W;generalize B4 k=lv;repeat' split
  all_goals simp only [A0C,A0K,D8,P4,A0N,A1Z,A3R,List.sum_nil]
  all_goals omega
 | q :: r :: w :: l =>
  dsimp only;repeat' split
  all_goals simp only [A0C,A0K,D8,P4]
  all_goals omega
theorem B5z:∀ e:Ex,1<=(exT e).length/\(exT e).length<=5 * e.sz
 | .mk k v n a p=>by
  have ih:∀ x∈a,(exT x).length<=5 * x.sz:=fun x hx=>(B5z x).2;have h:=C1u (k:=k) (v:=v) (n:=n) (as1:=A5d a);rw [exT];refine ⟨h.1,?_⟩;have h2:((A5d a).map fun q=>q.2.length).sum<=5 * Ex.szs a:=by
   rw [B1k,A3Q,Ex.szs_map];clear h
   induction a with
   | nil=>simp
   | cons x l ihl =>
    have h1:=ih x A0L;have h2:=ihl fun y hy=>ih y (A0J _ hy);simp only [A0N,A3R,Function.comp] at h2 ⊢;omega
  rw [Ex.sz];omega
theorem D1z (l:List Ex) (i:Nat):1<=(agT l i).length/\(agT l i).length<=1+5 * Ex.szs l:=by
 unfold agT;cases h:l[i]? with
 | none=>exact ⟨A0H _,by show 1<=_;omega⟩
 | some e =>
  have h1:=B5z e;have h2:=Ex.szs_mem (A0Y h);dsimp only;omega
mutual
theorem A9g:∀ s:St,1<=(stT s).length/\(stT s).length<=11 * s.sz
 | .mk k n t a x y p=>by
  have h0:=D1z a 0;have h1:=D1z a 1;have hx:=A3q x;have hy:∀ l,l=y->(O9 l).length<=11 * St.szs l:=fun l h=>by subst h;exact A3q l
  have hq:∀ q,y=[q]->(stT q).length<=11 * q.sz:=fun q h=>by subst h;exact (A9g q).2
  rw [St.sz];unfold stT;dsimp only;generalize agT a 0=A at h0 ⊢;generalize agT a 1=B at h1 ⊢;generalize O9 x=X at hx ⊢;generalize A5 (B3.getD (k-2).toNat [])=W
  match y,hy,hq with
  | [],hy,hq =>
   dsimp only;rw [St.szs];repeat' split
   all_goals simp only [A0C,A0K,D8,A1z]
   all_goals omega
  | [q],hy,hq =>
   have hq:=hq q rfl;dsimp only;rw [St.szs,St.szs];generalize stT q=Q at hq ⊢;repeat' split
   all_goals simp only [A0C,A0K,D8,A1z]
   all_goals omega
  | q :: q2 :: r,hy,hq =>
   have hy:=hy _ rfl;dsimp only;generalize O9 (q :: q2 :: r)=Y at hy ⊢;generalize St.szs (q :: q2 :: r)=z at hy ⊢;repeat' split
   all_goals simp only [A0C,A0K,D8,A1z]
   all_goals omega
theorem A3q:∀ l:List St,(O9 l).length<=11 * St.szs l
 | []=>A1H _
 | s :: l=>by
  have h1:=A9g s;have h2:=A3q l;rw [O9,St.szs,A0C];omega
end
theorem B6g (l:List St):1<=(blT l).length/\(blT l).length<=11 * St.szs l+2:=by
 have:=A3q l;unfold blT;simp only [A0C,A0K];omega
theorem D5r (d:Dc):1<=(dcT d).length/\(dcT d).length<=6:=by
 unfold dcT;dsimp only;generalize A5 (C3.getD (d.kind-1).toNat [])=W;repeat' split
 all_goals simp only [A0C,A0K,D8,P4]
 all_goals (first|omega|simp)
theorem D5g (h:Hd):1<=(hdT h).length/\(hdT h).length<=11 * h.sz:=by
 have:=B6g h.body;unfold hdT Hd.sz;generalize A5 (C8.getD (h.trig-1).toNat [])=W;split
 ·simp only [A0C,A0B,A0F,D8];omega
 ·simp only [A0C,A0B,A0F];omega
theorem A9s {α : Type} {f : α -> List Tok} {g : α -> Nat} {c:Nat}:∀ {l:List α},(∀ x∈l,(f x).length<=c * g x)->(l.flatMap f).length<=c * (l.map g).sum
 | [],_=>by simp
 | a :: l,h=>by
  have h1:=h a A0L;have h2:=A9s (l:=l) fun x hx=>h x (A0J _ hx);rw [A1F,A0C,A0N,A3R,Nat.mul_add];omega
theorem D4g (m:Md):1<=(mdT m).length/\(mdT m).length<=11 * m.sz:=by
 have:=A9s (l:=m.hds) (f:=hdT) (g:=Hd.sz) (c:=11) fun x _=>(D5g x).2;unfold mdT Md.sz;simp only [A0C,A0K,D8,P4];omega
theorem D3a (r:Ru):(ruT r).length<=11 * r.sz+1/\(r.decls.flatMap dcT++r.modes.flatMap mdT).length<=11 * r.sz:=by
 have h1:=A9s (l:=r.decls) (f:=dcT) (g:=Dc.sz) (c:=11) fun x _=>by have:=D5r x;unfold Dc.sz;omega
 have h2:=A9s (l:=r.modes) (f:=mdT) (g:=Md.sz) (c:=11) fun x _=>(D4g x).2;have h3:(r.decls.flatMap dcT++r.modes.flatMap mdT).length<=11 * r.sz:=by
  unfold Ru.sz;rw [A0C];omega
 refine ⟨?_,h3⟩;unfold ruT;split
 ·show 1<=_;omega
 ·omega
end Go.Pb
namespace Go.Pb
variable [Go.Sym.Tab]
open Go.Sym
section
variable {L:List Tok} {E:Int}
theorem C3i {s:List UInt8} (h:C2 s=true):s.length<=12:=by
 unfold C2 at h;simp only [A0D,A0G] at h;exact h.1.1.1.2
theorem A4g (hG:∀ t∈L,I7 t) {s:Rd}:(B1 L E s 1).1.text.length<=12:=by
 cases h:F9 L E s 1 with
 | false=>unfold B1;rw [if_pos h];exact A1H _
 | true =>
  unfold B1;rw [if_neg (by rw [h];decide)];exact C3i ((hG _ (G2 (by decide) (G4 h).2).1).1 (G4 h).2)
theorem D2m (hG:∀ t∈L,I7 t) {s:Rd}:(B1 L E s 4).1.text.length<=32:=by
 cases h:F9 L E s 4 with
 | false=>unfold B1;rw [if_pos h];exact A1H _
 | true =>
  unfold B1;rw [if_neg (by rw [h];decide)];have:=(hG _ (G2 (by decide) (G4 h).2).1).2.2 (G4 h).2;unfold N7 at this;simp only [A0D,A0G] at this;exact this.2
theorem D3k (hG:∀ t∈L,I7 t) {s:Rd}:(G0 L E s).1.sz+13 * s.i<=13 * (G0 L E s).2.i+1:=by
 have hge:=C3b (L:=L) (E:=E) (s:=s);have h2:(B9 L E { s with ops:=s.ops+1 } (s.ops+1) 32 9).i=s.i:=H8;unfold G0 at hge ⊢;dsimp only at hge ⊢;split
 ·rename_i hc;rw [if_pos hc] at hge;show 1+0+0+_<=_;have:s.i<=(P2 L E s).i:=hge;show 1+0+0+13 * s.i<=13 * (P2 L E s).i+1;omega
 ·rename_i hc;rw [if_neg hc] at hge;split
  ·show 1+0+0+13 * s.i<=13 * (B9 L E { s with ops:=s.ops+1 } (s.ops+1) 32 9).i+1;omega
  ·have h3:(A6 (B9 L E { s with ops:=s.ops+1 } (s.ops+1) 32 9)).i=s.i+1:=by show (B9 L E { s with ops:=s.ops+1 } (s.ops+1) 32 9).i+1=_;rw [h2]
   generalize A6 (B9 L E { s with ops:=s.ops+1 } (s.ops+1) 32 9)=s3 at h3;have h4:=J4 (L:=L) (E:=E) (s:=s3) (x:=1);have h5:=A4g (L:=L) (E:=E) hG (s:=s3);split
   ·split
    ·show 1+(B1 L E s3 1).1.text.length+0+13 * s.i<=13 * (B1 L E s3 1).2.i+1;omega
    ·show 1+0+0+13 * s.i<=13 * s3.i+1;omega
   ·rename_i hk;split
    ·show 1+0+0+13 * s.i<=13 * s3.i+1;omega
    ·rename_i hk3;have h1k:F9 L E s 1=true:=by
      cases hz:F9 L E s 1 with
      | true=>rfl
      | false =>
       refine absurd ⟨by omega,?_,hz⟩ hc;cases hy:F9 L E s 3 with
       | false=>rfl
       | true=>exact absurd (G4 hy).2 hk3
     have:=C3i ((hG _ (G2 (by decide) (G4 h1k).2).1).1 (G4 h1k).2);show 1+(A4 L E s).text.length+0+13 * s.i<=13 * s3.i+1;omega
theorem EZ.all (hG:∀ t∈L,I7 t):∀ f:Nat,(∀ n s r,F1 L E f n s=some r->r.1.sz+13 * s.i<=13 * r.2.i+1)/\(∀ n e s r,I5 L E f n e s=some r->r.1.sz+13 * s.i<=13 * r.2.i+e.sz)/\(∀ s r,K9 L E f s=some r->r.1.sz+13 * s.i<=13 * r.2.i+1)
 | 0=>⟨fun n s r h=>by simp [F1] at h,fun n e s r h=>by simp [I5] at h,fun s r h=>by simp [K9] at h⟩
 | f+1=>by
  obtain ⟨i1,i2,i3⟩:=EZ.all hG f;refine ⟨fun n s r h=>?_,fun n e s r h=>?_,fun s r h=>?_⟩
  ·unfold F1 at h;split at h
   ·exact i3 _ _ h
   ·split at h
    ·cases h
    ·rename_i hb;have h1:=i1 _ _ _ hb;have h2:=i2 _ _ _ _ h;dsimp only at h1;omega
  ·unfold I5 at h;dsimp only at h;split at h
   ·cases h;dsimp only;omega
   ·split at h
    ·cases h
    ·rename_i x s1 hb;have h1:=i1 _ _ _ hb;have h1:x.sz+13 * (s.i+1)<=13 * s1.i+1:=h1;have h3:(Ex.mk (12+B6 L E s B7) 0 [] [e,x] (A4 L E s).pos).sz=1+e.sz+x.sz:=by rw [Ex.sz,Ex.szs,Ex.szs,Ex.szs];simp;omega
     split at h
     ·cases h;rw [h3];show 1+e.sz+x.sz+13 * s.i<=13 * s1.i+e.sz;omega
     ·have h2:=i2 _ _ _ _ h;rw [h3] at h2;omega
  ·unfold K9 at h;dsimp only at h;split at h
   ·cases h;exact D3k hG
   ·split at h
    ·cases h;show 1+0+0+13 * s.i<=13 * (B9 L E s (s.par+1) 16 50).i+1;rw [H8];omega
    ·rename_i hl;have hl:okR (B9 L E s (s.par+1) 16 50)=true:=by simpa using hl
     obtain ⟨-, -,h3⟩:=J7 (by decide) hl;rw [h3] at h;split at h
     ·split at h
      ·cases h
      ·rename_i e s3 hb;cases h;have h1:=i1 _ _ _ hb;have h1:e.sz+13 * (s.i+1)<=13 * s3.i+1:=h1;have h2:=E5 (L:=L) (E:=E) (s:=s3) (x:=[41]);show e.sz+13 * s.i<=13 * (C5 L E s3 [41]).i+1;omega
     ·split at h
      ·cases h
      ·rename_i e s3 hb;cases h;have h1:=i3 _ _ hb;have h1:e.sz+13 * (s.i+1)<=13 * s3.i+1:=h1;have h4:(Ex.mk (10+B6 L E s K0) 0 [] [e] (A4 L E s).pos).sz=1+e.sz:=by rw [Ex.sz,Ex.szs,Ex.szs];simp
       rw [h4];show 1+e.sz+13 * s.i<=13 * s3.i+1;omega
theorem A4w (hG:∀ t∈L,I7 t) {f:Nat} {s:Rd} {r:Ex × Rd} (h:H7 L E f s=some r):r.1.sz+13 * s.i<=13 * r.2.i+1:=(EZ.all hG f).1 1 { s with ops:=0,par:=0 } r h
theorem A5f (k p:Int) (n t:List UInt8) (a:List Ex) (x y:List St):(St.mk k n t a x y p).sz=1+n.length+t.length+Ex.szs a+St.szs x+St.szs y:=by rw [St.sz]
theorem D2o (hG:∀ t∈L,I7 t) {f:Nat} {k p:Int} {s:Rd} {r:St × Rd} (h:G9 L E f k p s=some r):r.1.sz+100 * s.i<=100 * r.2.i+40:=by
 have t1:=A4g (L:=L) (E:=E) hG (s:=s);have t4:=D2m (L:=L) (E:=E) hG (s:=s);have g1:=J4 (L:=L) (E:=E) (s:=s) (x:=1);have g4:=J4 (L:=L) (E:=E) (s:=s) (x:=4);unfold G9 at h;dsimp only at h;split at h
 ·split at h
  ·cases h
  ·rename_i e s1 he;cases h;have h1:=A4w hG he;have h2:=E5 (L:=L) (E:=E) (s:=s1) (x:=[59]);rw [A5f,Ex.szs,Ex.szs,St.szs];simp only [A0F] at h1 ⊢;omega
 split at h
 ·split at h
  ·cases h
  ·rename_i e s1 he;cases h;have h1:=A4w hG he;have h2:=E5 (L:=L) (E:=E) (s:=s1) (x:=[59]);have h3:=E5 (L:=L) (E:=E) (s:=(B1 L E s 4).2) (x:=[44]);rw [A5f,Ex.szs,Ex.szs,St.szs];simp only [A0F] at h1 ⊢;omega
 split at h
 ·cases h;have h2:=E5 (L:=L) (E:=E) (s:=s) (x:=[59]);rw [A5f,Ex.szs,St.szs];simp only [A0F];omega
 split at h
 ·split at h
  ·cases h
  ·rename_i e s1 he;have h1:=A4w hG he;split at h
   ·split at h
    ·cases h
    ·rename_i e2 s2 he2;cases h;have h4:=A4w hG he2;have h2:=E5 (L:=L) (E:=E) (s:=s2) (x:=[59]);have h3:=E5 (L:=L) (E:=E) (s:=s1) (x:=[44]);rw [A5f,Ex.szs,Ex.szs,Ex.szs,St.szs];simp only [A0F] at h1 h4 ⊢;omega
   ·cases h;have h2:=E5 (L:=L) (E:=E) (s:=s1) (x:=[59]);rw [A5f,Ex.szs,Ex.szs,St.szs];simp only [A0F] at h1 ⊢;omega
 ·cases h;have h2:=E5 (L:=L) (E:=E) (s:=(B1 L E s 1).2) (x:=[59]);rw [A5f,Ex.szs,St.szs];simp only [A0F];omega
theorem C2h:∀ (l:List St) (x:St),St.szs (l++[x])=St.szs l+x.sz
 | [],x=>by simp [St.szs]
 | a :: l,x=>by rw [A1N,St.szs,St.szs,C2h l x];omega
theorem SZ.all (hG:∀ t∈L,I7 t):∀ f:Nat,(∀ d s r,F6 L E f d s=some r->St.szs r.1+100 * s.i<=100 * r.2.i+40) /\
  (∀ d l s r,J3 L E f d l s=some r->St.szs r.1+100 * s.i<=100 * r.2.i+St.szs l+40/\(okR s=false->St.szs r.1<=St.szs l)) /\
  (∀ d s r,K7 L E f d s=some r->r.1.sz+100 * s.i<=100 * r.2.i+40/\(r.1.sz+100 * s.i<=100 * r.2.i\/okR r.2=false/\r.1.sz<=40)/\s.i<=r.2.i) /\
  (∀ d s r,N5 L E f d s=some r->St.szs r.1+100 * s.i<=100 * r.2.i+40)
 | 0=>⟨fun d s r h=>by simp [F6] at h,fun d l s r h=>by simp [J3] at h,fun d s r h=>by simp [K7] at h,fun d s r h=>by simp [N5] at h⟩
 | f+1=>by
  obtain ⟨i1,i2,i3,i4⟩:=SZ.all hG f;refine ⟨fun d s r h=>?_,fun d l s r h=>?_,fun d s r h=>?_,fun d s r h=>?_⟩
  ·unfold F6 at h;have h1:=(i2 _ _ _ _ h).1;have h2:=E5 (L:=L) (E:=E) (s:=s) (x:=[123]);rw [St.szs] at h1;omega
  ·unfold J3 at h;split at h
   ·rename_i hc;refine ⟨?_,fun h0=>by rw [h0] at hc;cases hc.1⟩;split at h
    ·cases h;show St.szs []+100 * s.i<=100 * (P2 L E s).i+St.szs l+40;rw [X1,St.szs];omega
    ·split at h
     ·cases h
     ·rename_i x s1 he;obtain ⟨h1,h2⟩:=i2 _ _ _ _ h;obtain ⟨h3,h4,h5⟩:=i3 _ _ _ he;rw [H8] at h3 h4 h5;rw [C2h] at h1 h2;dsimp only at h3 h4 h5;rcases h4 with h4|⟨h4,h6⟩
      ·omega
      ·have h7:=h2 h4;have h8:s1.i<=r.2.i:=by
        obtain ⟨N,hN⟩:=(ST.all (L:=L) (E:=E) _).2 d (l++[x]) s1 (A0H _);obtain ⟨⟨M,hM⟩,hg⟩:=hN;have h9:okR s1=false:=h4;have hfr:Z6 L E d (l++[x]) s1 (l++[x],C5 L E s1 [125]):=Z6.stop (by rw [h9];simp);cases f with
        | zero=>simp [J3] at h
        | succ f =>
         rw [J3,if_neg (by rw [h9];simp)] at h;cases h;exact E5
       omega
   ·rename_i hc;cases h;have h2:=E5 (L:=L) (E:=E) (s:=s) (x:=[125]);exact ⟨by dsimp only;omega,fun _=>A0H _⟩
  ·have hst:=(ST.all (L:=L) (E:=E) (L.length-s.i)).1 d s (A0H _);unfold K7 at h;dsimp only at h;split at h
   ·rename_i hl;cases h;have e1:St0.sz=1:=by unfold St0;rw [A5f,Ex.szs,St.szs];rfl
    refine ⟨?_,.inr ⟨hl,by show St0.sz<=40;omega⟩,?_⟩
    ·show St0.sz+100 * s.i<=100 * (B9 L E s d 8 50).i+40;rw [H8];omega
    ·show s.i<=(B9 L E s d 8 50).i;rw [H8];exact A0H _
   rename_i hl;have hl:okR (B9 L E s d 8 50)=true:=by simpa using hl
   obtain ⟨hs,hd,hle⟩:=J7 (by decide) hl;rw [hle] at h;split at h
   ·split at h
    ·cases h
    ·rename_i e s1 he;cases h;have h1:=A4w hG he;have h2:=E5 (L:=L) (E:=E) (s:=s1) (x:=[59]);have h3:=E5 (L:=L) (E:=E) (s:=(B1 L E s 1).2) (x:=[61]);have h4:=J4 (L:=L) (E:=E) (s:=s) (x:=1);have h5:=A4g (L:=L) (E:=E) hG (s:=s);have hsz:(St.mk 1 (B1 L E s 1).1.text [] [e] [] [] (A4 L E s).pos).sz=1+(B1 L E s 1).1.text.length+e.sz:=by
      rw [A5f,Ex.szs,Ex.szs,St.szs];simp
     rw [hsz];dsimp only at h1 ⊢;refine ⟨by omega,?_,by omega⟩;by_cases ht:F9 L E s 1=true
     ·have h6:(B1 L E s 1).2.i=s.i+1:=by unfold B1;rw [if_neg (by rw [ht];decide)];rfl
      exact .inl (by omega)
     ·have ht:F9 L E s 1=false:=by simpa using ht
      have h6:(B1 L E s 1).2=P2 L E s:=by unfold B1;rw [if_pos ht]
      by_cases hp:1<=(C5 L E s1 [59]).i-s.i
      ·exact .inl (by omega)
      ·refine .inr ⟨?_,by omega⟩;cases hz:okR (C5 L E s1 [59]) with
       | false=>rfl
       | true =>
        have h7:=(A5z hz).2;have h8:(C5 L E s1 [59]).i=s1.i+1:=by rw [h7];rfl
        omega
   ·rename_i hk;obtain ⟨-,hi, -,hk18⟩:=I4 (show 0<=B6 L E s B3 by omega);have hn:(A6 s).i=s.i+1:=rfl;split at h
    ·split at h
     ·cases h
     ·rename_i e s2 he;split at h
      ·cases h
      ·rename_i t s3 ht;have h1:=A4w hG he;have h2:=i1 _ _ _ ht;rw [hn] at h1;dsimp only at h1 h2;split at h
       ·split at h
        ·cases h
        ·rename_i o s4 ho;cases h;have h3:=i4 _ _ _ ho;have h3:St.szs o+100 * (s3.i+1)<=100 * s4.i+40:=h3;have hsz:(St.mk 2 [] [] [e] t o (A4 L E s).pos).sz=1+e.sz+St.szs t+St.szs o:=by
          rw [A5f,Ex.szs,Ex.szs];simp
         rw [hsz];dsimp only;exact ⟨by omega,.inl (by omega),by omega⟩
       ·cases h;have hsz:(St.mk (2+B6 L E s B3) [] [] [e] t [] (A4 L E s).pos).sz=1+e.sz+St.szs t:=by
         rw [A5f,Ex.szs,Ex.szs,St.szs];simp
        rw [hsz];dsimp only;exact ⟨by omega,.inl (by omega),by omega⟩
    ·have h1:=D2o hG h;rw [hn] at h1;exact ⟨by omega,.inl (by omega),by omega⟩
  ·unfold N5 at h;split at h
   ·split at h
    ·cases h
    ·rename_i x s1 he;cases h;have h1:=(i3 _ _ _ he).1;rw [St.szs,St.szs];dsimp only at h1 ⊢;omega
   ·exact i1 _ _ _ h
end
end Go.Pb
namespace Go.Pb
variable [Go.Sym.Tab]
open Go.Sym
section
variable {L:List Tok} {E:Int}
theorem E1u (hG:∀ t∈L,I7 t) {k:Int} {s:Rd}:(Q7 L E k s).1.sz<=13:=by
 have h:=A4g (L:=L) (E:=E) hG (s:=A6 s);unfold Q7 Dc.sz;dsimp only;split
 ·dsimp only;omega
 ·dsimp only;omega
theorem B4n {α : Type} (f : α -> Nat) (l:List α) (x : α):((l++[x]).map f).sum=(l.map f).sum+f x:=by simp
theorem C9l (hG:∀ t∈L,I7 t):∀ (f:Nat) (l:List Hd) (s:Rd) (r:List Hd × Rd),K5 L E f l s=some r->(r.1.map Hd.sz).sum+100 * s.i<=100 * r.2.i+(l.map Hd.sz).sum
 | 0,l,s,r,h=>by simp [K5] at h
 | f+1,l,s,r,h=>by
  unfold K5 at h;dsimp only at h;split at h
  ·split at h
   ·cases h;show (l.map Hd.sz).sum+100 * s.i<=100 * (P2 L E s).i+_;rw [X1];omega
   ·have h1:(B9 L E s ((l.length:Int)+1) 32 9).i=s.i:=H8;generalize B9 L E s ((l.length:Int)+1) 32 9=s1 at h h1;split at h
    ·cases h;have h2:=E5 (L:=L) (E:=E) (s:=s1) (x:=[111,110]);show (l.map Hd.sz).sum+100 * s.i<=100 * (P2 L E (C5 L E s1 [111,110])).i+_;rw [X1];omega
    ·rename_i hk;obtain ⟨hok,hi, -⟩:=I4 (show 0<=B6 L E (C5 L E s1 [111,110]) C8 by omega);have h3:(C5 L E s1 [111,110]).i=s1.i+1:=by rw [(A5z hok).2];rfl
     generalize C5 L E s1 [111,110]=s2 at h hk h3;have h4:=J4 (L:=L) (E:=E) (s:=A6 s2) (x:=1);have h5:=A4g (L:=L) (E:=E) hG (s:=A6 s2);have h6:(A6 s2).i=s2.i+1:=rfl;split at h
     ·cases h
     ·rename_i b s5 hb;have h7:=(SZ.all hG f).1 _ _ _ hb;have h8:=C9l hG f _ _ _ h;rw [B4n] at h8;have h9:s2.i+1<=(if 2<=B6 L E s2 C8 then (B1 L E (A6 s2) 1).2 else A6 s2).i:=by
       split
       ·omega
       ·omega
      have h10:(if 2<=B6 L E s2 C8 then (B1 L E (A6 s2) 1).1.text else []).length<=12:=by
       split
       ·exact h5
       ·exact A1H _
      have h11:Hd.sz ⟨1+B6 L E s2 C8,if 2<=B6 L E s2 C8 then (B1 L E (A6 s2) 1).1.text else [],b,(A4 L E s1).pos⟩<=13+St.szs b:=by
       unfold Hd.sz;dsimp only;omega
      dsimp only at h7 h8;omega
  ·cases h;have h2:=E5 (L:=L) (E:=E) (s:=s) (x:=[125]);dsimp only;omega
theorem E0f (hG:∀ t∈L,I7 t) {f:Nat} {s:Rd} {r:Md × Rd} (h:A0l L E f s=some r) (hm:isR L E s [109,111,100,101]=true):r.1.sz+100 * s.i<=100 * r.2.i:=by
 unfold A0l at h;dsimp only at h;split at h
 ·cases h
 ·rename_i l s3 hml;cases h;have h1:=C9l hG _ _ _ _ hml;have h2:(C5 L E s [109,111,100,101]).i=s.i+1:=by unfold C5;rw [if_neg (by rw [hm];decide)];rfl
  generalize C5 L E s [109,111,100,101]=s1 at h1 h2 ⊢;have h3:=A4g (L:=L) (E:=E) hG (s:=s1);have h4:=J4 (L:=L) (E:=E) (s:=s1) (x:=1);have h5:=J4 (L:=L) (E:=E) (s:=(B1 L E s1 1).2) (x:=3);have h6:=E5 (L:=L) (E:=E) (s:=(B1 L E (B1 L E s1 1).2 3).2) (x:=[123]);unfold Md.sz;dsimp only at h1 ⊢;simp only [A1Z,List.sum_nil] at h1;omega
theorem C0f (hG:∀ t∈L,I7 t):∀ (f:Nat) (l:List Dc) (s:Rd) (r:List Dc × Rd),J9 L E f l s=some r->(r.1.map Dc.sz).sum+100 * s.i<=100 * r.2.i+(l.map Dc.sz).sum
 | 0,l,s,r,h=>by simp [J9] at h
 | f+1,l,s,r,h=>by
  unfold J9 at h;dsimp only at h;split at h
  ·cases h;dsimp only;omega
  ·have h1:(B9 L E s ((l.length:Int)+1) 128 9).i=s.i:=H8;split at h
   ·have h2:=C0f hG f _ _ _ h;rw [B4n] at h2;have h3:=E1u (L:=L) (E:=E) hG (k:=B6 L E s C3) (s:=B9 L E s ((l.length:Int)+1) 128 9);have h4:=D1l (L:=L) (E:=E) (k:=B6 L E s C3) (s:=B9 L E s ((l.length:Int)+1) 128 9);omega
   ·have h2:=C0f hG f _ _ _ h;omega
theorem C0e (hG:∀ t∈L,I7 t):∀ (f:Nat) (l:List Md) (s:Rd) (r:List Md × Rd),I9 L E f l s=some r->(r.1.map Md.sz).sum+100 * s.i<=100 * r.2.i+(l.map Md.sz).sum
 | 0,l,s,r,h=>by simp [I9] at h
 | f+1,l,s,r,h=>by
  unfold I9 at h;dsimp only at h;split at h
  ·split at h
   ·cases h;show (l.map Md.sz).sum+100 * s.i<=100 * (P2 L E s).i+_;rw [X1];omega
   ·rename_i hm;have hm:isR L E s [109,111,100,101]=true:=by simpa using hm
    split at h
    ·rename_i hl;have e0:=(J7 (by decide) hl).2.2;rw [e0] at h;split at h
     ·cases h
     ·rename_i m s2 hmd;have h1:=E0f hG hmd hm;have h2:=C0e hG f _ _ _ h;rw [B4n] at h2;dsimp only at h1;omega
    ·have h1:(B9 L E s ((l.length:Int)+1) 16 9).i=s.i:=H8;have h2:=C0e hG f _ _ _ h;omega
  ·cases h;dsimp only;omega
theorem D8j (hG:∀ t∈L,I7 t) {f:Nat} {s:Rd} {r:Ru × Rd} (h:Y8 L E f s=some r) (hi:s.i<=L.length):r.1.sz<=100 * L.length:=by
 unfold Y8 at h;split at h
 ·cases h
 ·rename_i d s1 hd;split at h
  ·cases h
  ·rename_i m s2 hm;cases h;have h1:=C0f hG _ _ _ _ hd;have h2:=C0e hG _ _ _ _ hm;have h3:=C8b _ _ _ _ hm (C8d _ _ _ _ hd hi);unfold Ru.sz;simp only [A1Z,List.sum_nil] at h1 h2 h3 ⊢;omega
end
theorem D2y {L:List Tok} {E:Int} (hG:∀ t∈L,I7 t):(A0y L E).1.sz<=100 * L.length:=by
 obtain ⟨f,hf⟩:=(A2s L E).get;exact D8j hG hf (A1H _)
theorem C3d (s:List UInt8):(P0 s).1.sz<=2000000:=by
 unfold P0;dsimp only;split
 ·show 0+0<=_;omega
 ·rename_i h;have h:(C0 s).2.2=0:=by simpa using h
  have h1:=B4q h;split
  ·show 0+0<=_;omega
  ·have:=D2y (E:=s.length) (B0j h);dsimp only;omega
mutual
theorem Ex.plain_sz:∀ e:Ex,e.plain.sz=e.sz
 | .mk k v n a p=>by rw [Ex.plain,Ex.sz,Ex.sz,Ex.plains_sz a]
theorem Ex.plains_sz:∀ l:List Ex,Ex.szs (Ex.plains l)=Ex.szs l
 | []=>rfl
 | e :: l=>by rw [Ex.plains,Ex.szs,Ex.szs,Ex.plain_sz e,Ex.plains_sz l]
end
mutual
theorem St.plain_sz:∀ e:St,e.plain.sz=e.sz
 | .mk k n t a x y p=>by rw [St.plain,St.sz,St.sz,Ex.plains_sz a,St.plains_sz x,St.plains_sz y]
theorem St.plains_sz:∀ l:List St,St.szs (St.plains l)=St.szs l
 | []=>rfl
 | e :: l=>by rw [St.plains,St.szs,St.szs,St.plain_sz e,St.plains_sz l]
end
theorem Md.plain_sz (m:Md):m.plain.sz=m.sz:=by
 unfold Md.sz Md.plain;dsimp only;rw [A3Q]
 congr 2
 refine A3S fun h _=>?_;show Hd.sz h.plain=Hd.sz h;unfold Hd.sz Hd.plain;dsimp only;rw [St.plains_sz]
theorem Ru.plain_sz (r:Ru):r.plain.sz=r.sz:=by
 unfold Ru.sz Ru.plain;dsimp only;rw [A3Q,A3Q]
 congr 2
 exact A3S fun m _=>Md.plain_sz m
end Go.Pb
namespace Go.Pb
variable [Go.Sym.Tab]
open Go.Sym
def S8 (t:Tok):Bool:=t.kind == 5 || t.kind == 2
def ixA:Nat->List (List UInt8)->List UInt8->Int
 | _,[],_ => -1
 | k,t :: l,x=>if x == t then (k:Int) else ixA (k+1) l x
def amT (t:Tok) (l:List (List UInt8)):Int:=if S8 t=true then ixA 0 l t.text else -1
def hd0 (E:Int) (ts:List Tok):Tok:=ts.headD ⟨0,[],0,E⟩
def S6 (t:Tok):Int:=if amT t B7<0 then 0 else B4 (12+amT t B7)
abbrev lvo (E:Int) (ts:List Tok):Int:=S6 (hd0 E ts)
section
variable {L:List Tok} {E:Int}
theorem A9l (s:Rd):A4 L E s=hd0 E (L.drop s.i):=by
 unfold A4 hd0;rw [A0S, <- List.head?_drop];cases L.drop s.i<;>rfl
theorem C7 {s:Rd} {t:Tok} {ts:List Tok} (h:L.drop s.i=t :: ts):A4 L E s=t:=by rw [A9l,h];rfl
theorem E7 {s:Rd} {t:Tok} {ts:List Tok} (h:L.drop s.i=t :: ts):L.drop (s.i+1)=ts:=by
 rw [<- A3J,h];rfl
theorem G5 {i:Nat} {a b:List Tok} (h:L.drop i=a++b):L.drop (i+a.length)=b:=by
 rw [<- A3J,h,List.drop_left]
theorem D7i {s:Rd} (hok:okR s=true):∀ (l:List (List UInt8)) (k:Nat),U9 L E s k l=if S8 (A4 L E s)=true then ixA k l (A4 L E s).text else -1
 | [],k=>by simp [U9,ixA]
 | t :: l,k=>by
  have ih:=D7i hok l (k+1);have hi:isR L E s t=(S8 (A4 L E s) && (A4 L E s).text == t):=by unfold isR S8;rw [hok,A1J]
  rw [U9,ixA,ih,hi];by_cases hs:S8 (A4 L E s)=true
  ·rw [hs,if_pos rfl,A1J,if_pos rfl]
  ·have hs:S8 (A4 L E s)=false:=by simpa using hs
   rw [hs,A3K,if_neg (by decide),if_neg (by decide),if_neg (by decide)]
theorem X6 {s:Rd} (hok:okR s=true) (l:List (List UInt8)):B6 L E s l=amT (A4 L E s) l:=D7i hok l 0
theorem A5c {s:Rd} (hok:okR s=true) (t:List UInt8):isR L E s t=(S8 (A4 L E s) && (A4 L E s).text == t):=by unfold isR S8;rw [hok,A1J]
theorem B3o {s:Rd} (hok:okR s=true) (k:Int):F9 L E s k=((A4 L E s).kind == k):=by unfold F9;rw [hok,A1J]
theorem D7b {s:Rd} {t:List UInt8} (hok:okR s=true) (h1:S8 (A4 L E s)=true) (h2:(A4 L E s).text=t):C5 L E s t=A6 s:=by
 unfold C5;rw [A5c hok,h1,h2,if_neg (by simp)]
theorem B4m {s:Rd} {k:Int} (hok:okR s=true) (h1:(A4 L E s).kind=k):B1 L E s k=(A4 L E s,A6 s):=by
 unfold B1;rw [B3o hok,if_neg (by simp [h1])]
def adv (s:Rd) (k:Nat) (o:Nat):Rd:={ s with i:=s.i+k,ops:=s.ops+(o:Int) }
theorem A4d {s:Rd} {k o:Nat} (h:okR s=true):okR (adv s k o)=true:=h
theorem A0m {n:Int} {e:Ex} {s:Rd} (hok:okR s=true) (hn:1<=n) (h:lvo E (L.drop s.i)≠n):Lop L E n e s (e,s):=by
 refine Lop.stop ?_;rw [X6 hok,A9l];unfold lvo S6 at h;by_cases hk:amT (hd0 E (L.drop s.i)) B7<0
 ·exact .inl hk
 ·rw [if_neg hk] at h;exact .inr h
theorem B1q {s s1:Rd} {e:Ex} (hok:okR s1=true):∀ (j:Nat) {m n:Int} {r:Ex × Rd},m-n<=j->Bin L E m s (e,s1)->1<=n->n<m->m<=6->lvo E (L.drop s1.i)<=n->Lop L E n e s1 r->Bin L E n s r
 | 0,m,n,r,hj,h,h1,h2,h3,h4,hr=>by omega
 | j+1,m,n,r,hj,h,h1,h2,h3,h4,hr=>by
  by_cases he:n+1=m
  ·exact Bin.go (by omega) (by rw [he];exact h) hr
  ·refine Bin.go (by omega) ?_ hr;exact B1q hok j (m:=m) (n:=n+1) (by omega) h (by omega) (by omega) h3 (by omega) (A0m hok (by omega) (by omega))
theorem B4h {s s1:Rd} {e:Ex} {n:Int} {r:Ex × Rd} (hok:okR s1=true) (h:Un L E s (e,s1)) (h1:1<=n) (h2:n<=5) (h4:lvo E (L.drop s1.i)<=n) (hr:Lop L E n e s1 r):Bin L E n s r :=
 B1q hok 6 (m:=6) (by omega) (Bin.un (by decide) h) h1 (by omega) (by omega) h4 hr
theorem D7t {s s1:Rd} {e:Ex} {n:Int} (hok:okR s1=true) (h:Un L E s (e,s1)) (h1:1<=n) (h2:n<=5) (h4:lvo E (L.drop s1.i)<n):Bin L E n s (e,s1) :=
 B4h hok h h1 h2 (by omega) (A0m hok h1 (by omega))
theorem C4g {t:Tok} (l:List (List UInt8)) (h:S8 t=false):amT t l = -1:=by unfold amT;rw [if_neg (by rw [h];decide)]
theorem C8q {s:Rd} {v:Int} {ts:List Tok} (hok:okR s=true) (h:L.drop s.i=⟨3,[],v,0⟩ :: ts) (ho:s.ops+1<=32):Un L E s (.mk 1 v [] [] 0,adv s 1 1):=by
 have hp:=C7 (E:=E) h;have ha:∀ l,B6 L E s l = -1:=fun l=>by rw [X6 hok,hp];exact C4g l rfl
 have h1:=Un.prim (L:=L) (E:=E) (s:=s) (by rw [ha];decide);have h2:G0 L E s=(.mk 1 v [] [] 0,adv s 1 1):=by
  unfold G0;dsimp only;rw [ha,hp,B3o hok,B3o hok,hp,if_neg (by simp),show B9 L E { s with ops:=s.ops+1 } (s.ops+1) 32 9 = { s with ops:=s.ops+1 } from if_neg (by omega),if_neg (by show ¬ okR s=false;rw [hok];decide),if_neg (by decide),if_pos rfl];rfl
 rw [h2] at h1;exact h1
theorem C8p {s:Rd} {n:List UInt8} {ts:List Tok} (hok:okR s=true) (h:L.drop s.i=⟨1,n,0,0⟩ :: ts) (ho:s.ops+1<=32):Un L E s (.mk 2 0 n [] 0,adv s 1 1):=by
 have hp:=C7 (E:=E) h;have ha:∀ l,B6 L E s l = -1:=fun l=>by rw [X6 hok,hp];exact C4g l rfl
 have h1:=Un.prim (L:=L) (E:=E) (s:=s) (by rw [ha];decide);have h2:G0 L E s=(.mk 2 0 n [] 0,adv s 1 1):=by
  unfold G0;dsimp only;rw [ha,hp,B3o hok,B3o hok,hp,if_neg (by simp),show B9 L E { s with ops:=s.ops+1 } (s.ops+1) 32 9 = { s with ops:=s.ops+1 } from if_neg (by omega),if_neg (by show ¬ okR s=false;rw [hok];decide),if_neg (by decide),if_neg (by show ¬ (1:Int)=3;decide)];rfl
 rw [h2] at h1;exact h1
theorem A4n {s:Rd} {w:List UInt8} {ts:List Tok} {j:Nat} (hok:okR s=true) (h:L.drop s.i=A5 w :: ts) (ho:s.ops+1<=32) (hj:j<4) (hi:amT (A5 w) C9=(j:Int)) (hpre:amT (A5 w) K0<0) :
  Un L E s (.mk (F8.getD j 0) 0 [] [] 0,adv s 1 1):=by
 have hp:=C7 (E:=E) h;have h1:=Un.prim (L:=L) (E:=E) (s:=s) (by rw [X6 hok,hp];exact hpre);have ha:B6 L E s C9=(j:Int):=by rw [X6 hok,hp];exact hi
 have h2:G0 L E s=(.mk (F8.getD j 0) 0 [] [] 0,adv s 1 1):=by
  unfold G0;dsimp only;rw [ha,hp,if_neg (by omega),show B9 L E { s with ops:=s.ops+1 } (s.ops+1) 32 9 = { s with ops:=s.ops+1 } from if_neg (by omega),if_neg (by show ¬ okR s=false;rw [hok];decide),if_pos (by omega),if_neg (by omega)];rfl
 rw [h2] at h1;exact h1
theorem A7u {s:Rd} {w n:List UInt8} {ts:List Tok} {j:Nat} (hok:okR s=true) (h:L.drop s.i=A5 w :: ⟨1,n,0,0⟩ :: ts) (ho:s.ops+1<=32) (hj4:4<=j) (hj:j<7) (hi:amT (A5 w) C9=(j:Int)) (hpre:amT (A5 w) K0<0) :
  Un L E s (.mk (F8.getD j 0) 0 n [] 0,adv s 2 1):=by
 have hp:=C7 (E:=E) h;have hd:=E7 h;have h1:=Un.prim (L:=L) (E:=E) (s:=s) (by rw [X6 hok,hp];exact hpre);have ha:B6 L E s C9=(j:Int):=by rw [X6 hok,hp];exact hi
 have hp2:A4 L E (A6 { s with ops:=s.ops+1 })=⟨1,n,0,0⟩:=C7 hd;have ht:B1 L E (A6 { s with ops:=s.ops+1 }) 1=(⟨1,n,0,0⟩,A6 (A6 { s with ops:=s.ops+1 })):=by
  rw [B4m (show okR (A6 { s with ops:=s.ops+1 })=true from hok) (by rw [hp2]),hp2]
 have h2:G0 L E s=(.mk (F8.getD j 0) 0 n [] 0,adv s 2 1):=by
  unfold G0;dsimp only;rw [ha,hp,if_neg (by omega),show B9 L E { s with ops:=s.ops+1 } (s.ops+1) 32 9 = { s with ops:=s.ops+1 } from if_neg (by omega),if_neg (by show ¬ okR s=false;rw [hok];decide),if_pos (by omega),if_pos (by omega),ht];rfl
 rw [h2] at h1;exact h1
def CE (L:List Tok) (E:Int) (e:Ex):Prop:=∀ o d,msM e=some (o,d)->∀ (s:Rd) (post:List Tok),L.drop s.i=exT e++post->okR s=true->s.ops+(o:Int)<=32->s.par+(d:Int)<=16 ->
 ∃ e',e'.plain=e.plain/\(6<=B4 e.kind->Un L E s (e',adv s (exT e).length o)) /\
  (∀ n,1<=n->n<=5->n<=B4 e.kind->lvo E post<=n->(n=3->lvo E post≠3)->∀ r,Lop L E n e' (adv s (exT e).length o) r->Bin L E n s r)
theorem E2e:amT (A5 [40]) K0=2:=by decide +kernel
theorem D1x:amT (A5 [45]) K0=0:=by decide +kernel
theorem D5z:amT (A5 [33]) K0=1:=by decide +kernel
theorem C3l:S6 (A5 [41])=0:=by decide +kernel
theorem D2v:S8 (A5 [41])=true:=by decide +kernel
theorem A5v {s:Rd} {n m e:Int} (h:n<=m):B9 L E s n m e=s:=if_neg (by omega)
theorem D6p {x:Ex} (hx:CE L E x) {o d:Nat} (hm:msM x=some (o,d)) {s:Rd} {post:List Tok} (h:L.drop s.i=[A5 [40]]++exT x++[A5 [41]]++post) (hok:okR s=true) (ho:s.ops+(o:Int)<=32) (hp:s.par+((d+1:Nat):Int)<=16) :
  ∃ x',x'.plain=x.plain/\Un L E s (x',adv s ([A5 [40]]++exT x++[A5 [41]]).length o):=by
 have h0:L.drop s.i=A5 [40] :: (exT x++([A5 [41]]++post)):=by rw [h];simp
 have h1:=E7 h0;have hpk:=C7 (E:=E) h0;obtain ⟨x',e1, -,e3⟩:=hx o d hm { s with i:=s.i+1,par:=s.par+1 } ([A5 [41]]++post) h1 hok ho (by show s.par+1+(d:Int)<=16;omega);have hd2:L.drop (s.i+1+(exT x).length)=A5 [41] :: post:=G5 h1;have hb:=e3 1 (by decide) (by decide) (by have:=Z9 x.kind;omega) (by show S6 (A5 [41])<=1;rw [C3l];decide) (fun h=>absurd h (by decide)) _ (A0m (show okR s=true from hok) (by decide) (by show S6 (hd0 E (L.drop (s.i+1+(exT x).length)))≠1;rw [hd2];show S6 (A5 [41])≠1;rw [C3l];decide));have hu:=Un.par (by rw [X6 hok,hpk];exact E2e) (by rw [A5v (by omega)];exact hok) hb;refine ⟨x',e1,?_⟩;have hpk2:A4 L E (adv { s with i:=s.i+1,par:=s.par+1 } (exT x).length o)=A5 [41]:=C7 hd2;rw [D7b (show okR (adv { s with i:=s.i+1,par:=s.par+1 } (exT x).length o)=true from hok) (by rw [hpk2];exact D2v) (by rw [hpk2];rfl)] at hu;have e4:({ A6 (adv { s with i:=s.i+1,par:=s.par+1 } (exT x).length o) with par:=(A6 (adv { s with i:=s.i+1,par:=s.par+1 } (exT x).length o)).par-1 }:Rd)=adv s ([A5 [40]]++exT x++[A5 [41]]).length o:=by
  have a1:s.i+1+(exT x).length+1=s.i+([A5 [40]]++exT x++[A5 [41]]).length:=by simp;omega
  have a2:s.par+1-1=s.par:=by omega
  show Rd.mk (s.i+1+(exT x).length+1) s.e s.pos (s.ops+(o:Int)) (s.par+1-1)=Rd.mk (s.i+([A5 [40]]++exT x++[A5 [41]]).length) s.e s.pos (s.ops+(o:Int)) s.par;rw [a1,a2]
 rw [e4] at hu;exact hu
theorem B5e {x:Ex} (hx:CE L E x) {o d:Nat} {least:Int} (hm:msM x=some (o,d)) {s:Rd} {post:List Tok} (h:L.drop s.i=E1 (x.kind,exT x) least++post) (hok:okR s=true) (ho:s.ops+(o:Int)<=32) (hp:s.par+((if B4 x.kind<least then d+1 else d:Nat):Int)<=16) (h1:1<=least) (h6:least<=6) (hl:lvo E post<least) :
  ∃ x',x'.plain=x.plain/\(least<=5->Bin L E least s (x',adv s (E1 (x.kind,exT x) least).length o))/\(least=6->Un L E s (x',adv s (E1 (x.kind,exT x) least).length o)):=by
 have hdp:=G5 h;unfold E1 at h hdp ⊢;dsimp only at h hdp ⊢;by_cases hlt:B4 x.kind<least
 ·rw [if_pos hlt] at h hp hdp ⊢;obtain ⟨x',e1,e2⟩:=D6p hx hm h hok ho hp;exact ⟨x',e1,fun h5=>D7t (A4d hok) e2 h1 h5 (by show lvo E (L.drop (s.i+_))<least;rw [hdp];exact hl),fun _=>e2⟩
 ·rw [if_neg hlt] at h hp hdp ⊢;obtain ⟨x',e1,e2,e3⟩:=hx o d hm s post h hok ho hp;refine ⟨x',e1,fun h5=>?_,fun h=>e2 (by omega)⟩;refine e3 least h1 h5 (by omega) (by omega) (by omega) _ (A0m (A4d hok) h1 ?_);show lvo E (L.drop (s.i+_))≠least;rw [hdp];omega
theorem D4n {x:Ex} (hx:CE L E x) {o d:Nat} {q:Int} (hm:msM x=some (o,d)) {s:Rd} {post:List Tok} (h:L.drop s.i=E1 (x.kind,exT x) (if q=3 then 4 else q)++post) (hok:okR s=true) (ho:s.ops+(o:Int)<=32) (hp:s.par+((if B4 x.kind<(if q=3 then 4 else q) then d+1 else d:Nat):Int)<=16) (h1:1<=q) (h5:q<=5) (hl:lvo E post=q) :
  ∃ x',x'.plain=x.plain/\∀ r,Lop L E q x' (adv s (E1 (x.kind,exT x) (if q=3 then 4 else q)).length o) r->Bin L E q s r:=by
 have hdp:=G5 h;by_cases h3:q=3
 ·subst h3;rw [if_pos rfl] at h hp hdp ⊢;obtain ⟨x',e1,e2, -⟩:=B5e hx hm h hok ho hp (by decide) (by decide) (by omega);exact ⟨x',e1,fun r hr=>Bin.go (by decide) (e2 (by decide)) hr⟩
 ·rw [if_neg h3] at h hp hdp ⊢;unfold E1 at h hdp ⊢;dsimp only at h hdp ⊢;by_cases hlt:B4 x.kind<q
  ·rw [if_pos hlt] at h hp hdp ⊢;obtain ⟨x',e1,e2⟩:=D6p hx hm h hok ho hp;exact ⟨x',e1,fun r hr=>B4h (A4d hok) e2 h1 h5 (by show lvo E (L.drop (s.i+_))<=q;rw [hdp];omega) hr⟩
  ·rw [if_neg hlt] at h hp hdp ⊢;obtain ⟨x',e1,e2,e3⟩:=hx o d hm s post h hok ho hp;exact ⟨x',e1,e3 q h1 h5 (by omega) (by omega) (fun h=>absurd h h3)⟩
theorem B5l {k v:Int} {n:List UInt8} {a:List Ex} {p:Int} {o d:Nat} (h:msM (.mk k v n a p)=some (o,d)) :
  kOk k=true/\a.length=I0 k/\A0j k n=true/\A0w k v=true/\(I0 k=0->o=1/\d=0)/\(I0 k≠0->∃ d',msL k 0 a=some (o,d')/\d=if I0 k=1 then d'+1 else d'):=by
 unfold msM at h;split at h
 ·cases h
 ·rename_i hc;have h1:kOk k=true:=by cases hz:kOk k with|true=>rfl|false=>exact absurd (.inl hz) hc
  have h2:a.length=I0 k:=Classical.byContradiction fun hz=>hc (.inr (.inl hz));have h3:A0j k n=true:=by cases hz:A0j k n with|true=>rfl|false=>exact absurd (.inr (.inr (.inl hz))) hc
  have h4:A0w k v=true:=by cases hz:A0w k v with|true=>rfl|false=>exact absurd (.inr (.inr (.inr hz))) hc
  refine ⟨h1,h2,h3,h4,?_,?_⟩
  ·intro h0;rw [if_pos h0] at h;cases h;exact ⟨rfl,rfl⟩
  ·intro h0;rw [if_neg h0] at h;split at h
   ·cases h
   ·rename_i o' d' hm;cases h;exact ⟨d',hm,rfl⟩
theorem C7q:∀ j:Nat,j<13->amT (A5 (B7.getD j [])) B7=(j:Int)/\S8 (A5 (B7.getD j []))=true:=by decide +kernel
theorem nm0 {k:Int} {n:List UInt8} (h:A0j k n=true) (h2:k≠2) (h5:A1t k=false):n=[]:=by
 unfold A0j at h;rw [if_neg (by rw [h5];simp [h2])] at h;simpa using h
theorem vl0 {k v:Int} (h:A0w k v=true) (h1:k≠1):v=0:=by
 unfold A0w at h;simp only [A0W,A0D,A1G,A0G] at h;rcases h with h|h
 ·exact h
 ·exact absurd h.1 h1
theorem B5t {α : Type} {l:List α} (h:l.length=2):∃ x y,l=[x,y]:=by
 match l,h with
 | [x,y],_=>exact ⟨x,y,rfl⟩
theorem B8q:∀ (m:Nat) (e:Ex),e.sz<m->CE L E e:=by
 intro m
 induction m with
 | zero=>intro e h;omega
 | succ m ih =>
 intro e hm o d hms s post h hok ho hp;cases e with|mk k v n a p =>
 obtain ⟨h1,h2,h3,h4,h5,h6⟩:=B5l hms;have hlr:=Z9 k
 have viaUn:∀ e':Ex,e'.plain=(Ex.mk k v n a p).plain->Un L E s (e',adv s (exT (.mk k v n a p)).length o) ->
   ∃ e',e'.plain=(Ex.mk k v n a p).plain/\(6<=B4 k->Un L E s (e',adv s (exT (.mk k v n a p)).length o)) /\
    (∀ n',1<=n'->n'<=5->n'<=B4 k->lvo E post<=n'->(n'=3->lvo E post≠3)->∀ r,Lop L E n' e' (adv s (exT (.mk k v n a p)).length o) r->Bin L E n' s r):=fun e' he hu =>
  ⟨e',he,fun _=>hu,fun n' q1 q2 _ q4 _ r hr=>B4h (A4d hok) hu q1 q2 (by show lvo E (L.drop (s.i+_))<=n';rw [G5 h];exact q4) hr⟩
 by_cases hc0:I0 k=0
 ·obtain ⟨rfl,rfl⟩:=h5 hc0;have ha:a=[]:=A1S (by omega);subst ha;have hl7:B4 k=7:=by
   unfold I0 at hc0;split at hc0
   ·omega
   ·split at hc0<;>omega
  have hk9:1<=k/\k<=9:=by
   unfold kOk at h1;simp only [A0W,A0D,A0G] at h1;have hk24:1<=k/\k<=24:=by omega
   refine ⟨hk24.1,?_⟩;apply Classical.byContradiction;intro hc;unfold B4 at hl7;repeat' split at hl7
   all_goals omega
  refine (show ∃ e',_ from ?_);have hT:exT (.mk k v n [] p)=F4 k v n []:=by rw [exT,A5d]
  rw [hT] at h viaUn ⊢;have ho1:s.ops+1<=32:=ho;have:k=1\/k=2\/k=3\/k=4\/k=5\/k=6\/k=7\/k=8\/k=9:=by omega
  rcases this with rfl|rfl|rfl|rfl|rfl|rfl|rfl|rfl|rfl
  ·have hn:=nm0 h3 (by decide) (by decide);subst hn;have hv:¬ (v<0\/2147483647<v):=by
    unfold A0w at h4;simp only [A0W,A0D,A1G,A0G] at h4;omega
   have hb:F4 1 v [] []=[⟨3,[],v,0⟩]:=by unfold F4;dsimp only;rw [if_pos rfl];unfold X2;rw [if_neg hv]
   rw [hb] at h viaUn ⊢;exact viaUn (.mk 1 v [] [] 0) rfl (C8q hok h ho1)
  ·have hv:=vl0 h4 (by decide);subst hv;have hn:C2 n=true:=h3;have hb:F4 2 0 n []=[⟨1,n,0,0⟩]:=by unfold F4;dsimp only;rw [if_neg (by decide),if_pos rfl];unfold D1;rw [if_neg (by rw [hn];decide)]
   rw [hb] at h viaUn ⊢;exact viaUn (.mk 2 0 n [] 0) rfl (C8p hok h ho1)
  ·have hv:=vl0 h4 (by decide);have hn:=nm0 h3 (by decide) (by decide);subst hv hn;have hb:F4 3 0 [] []=[A5 [116,114,117,101]]:=rfl;rw [hb] at h viaUn ⊢;exact viaUn (.mk 3 0 [] [] 0) rfl (A4n (j:=0) hok h ho1 (by decide) (by decide +kernel) (by decide +kernel))
  ·have hv:=vl0 h4 (by decide);have hn:=nm0 h3 (by decide) (by decide);subst hv hn;have hb:F4 4 0 [] []=[A5 [102,97,108,115,101]]:=rfl;rw [hb] at h viaUn ⊢;exact viaUn (.mk 4 0 [] [] 0) rfl (A4n (j:=1) hok h ho1 (by decide) (by decide +kernel) (by decide +kernel))
  ·have hv:=vl0 h4 (by decide);subst hv;have hn:C2 n=true:=h3;have hb:F4 5 0 n []=[A5 [99,108,111,115,101,100],⟨1,n,0,0⟩]:=by
    show [A5 [99,108,111,115,101,100]]++D1 n=_;unfold D1;rw [if_neg (by rw [hn];decide)];rfl
   rw [hb] at h viaUn ⊢;exact viaUn (.mk 5 0 n [] 0) rfl (A7u (j:=4) hok h ho1 (by decide) (by decide) (by decide +kernel) (by decide +kernel))
  ·have hv:=vl0 h4 (by decide);subst hv;have hn:C2 n=true:=h3;have hb:F4 6 0 n []=[A5 [97,99,116,105,118,101],⟨1,n,0,0⟩]:=by
    show [A5 [97,99,116,105,118,101]]++D1 n=_;unfold D1;rw [if_neg (by rw [hn];decide)];rfl
   rw [hb] at h viaUn ⊢;exact viaUn (.mk 6 0 n [] 0) rfl (A7u (j:=5) hok h ho1 (by decide) (by decide) (by decide +kernel) (by decide +kernel))
  ·have hv:=vl0 h4 (by decide);subst hv;have hn:C2 n=true:=h3;have hb:F4 7 0 n []=[A5 [108,101,102,116],⟨1,n,0,0⟩]:=by
    show [A5 [108,101,102,116]]++D1 n=_;unfold D1;rw [if_neg (by rw [hn];decide)];rfl
   rw [hb] at h viaUn ⊢;exact viaUn (.mk 7 0 n [] 0) rfl (A7u (j:=6) hok h ho1 (by decide) (by decide) (by decide +kernel) (by decide +kernel))
  ·have hv:=vl0 h4 (by decide);have hn:=nm0 h3 (by decide) (by decide);subst hv hn;have hb:F4 8 0 [] []=[A5 [112,108,97,121,101,114]]:=rfl;rw [hb] at h viaUn ⊢;exact viaUn (.mk 8 0 [] [] 0) rfl (A4n (j:=2) hok h ho1 (by decide) (by decide +kernel) (by decide +kernel))
  ·have hv:=vl0 h4 (by decide);have hn:=nm0 h3 (by decide) (by decide);subst hv hn;have hb:F4 9 0 [] []=[A5 [98,97,108,108]]:=rfl;rw [hb] at h viaUn ⊢;exact viaUn (.mk 9 0 [] [] 0) rfl (A4n (j:=3) hok h ho1 (by decide) (by decide +kernel) (by decide +kernel))
 obtain ⟨d',hl,hd'⟩:=h6 hc0;clear h5 h6;have hv:=vl0 h4 (by rintro rfl;exact hc0 rfl);have hn:=nm0 h3 (by rintro rfl;exact hc0 rfl) (by
  cases hz:A1t k with
  | false=>rfl
  | true =>
   unfold A1t at hz;simp only [A0W,A1G] at hz;rcases hz with rfl|rfl|rfl<;>exact absurd rfl hc0)
 subst hv hn;by_cases hl6:B4 k=6
 ·
  have hk:k=10\/k=11:=by
   unfold B4 at hl6;repeat' split at hl6
   all_goals omega
  have hc1:I0 k=1:=by unfold I0;rw [if_pos hl6]
  rw [hc1] at h2 hd';rw [if_pos rfl] at hd';obtain ⟨x,rfl⟩:∃ x,a=[x]:=A2D.1 h2;have hxc:=ih x (by rw [Ex.sz,Ex.szs,Ex.szs] at hm;omega);unfold msL at hl;cases hx:msM x with
  | none=>rw [hx] at hl;cases hl
  | some q =>
   obtain ⟨o1,d1⟩:=q;rw [hx] at hl;dsimp only at hl;unfold msL at hl;dsimp only at hl;simp only [Option.some.injEq,Prod.mk.injEq,A3E,Nat.max_zero] at hl;obtain ⟨rfl,hd1⟩:=hl;have hwr:R1 k x.kind 0=decide (B4 x.kind<6):=by
    unfold R1;rw [hl6];simp
   rw [hwr] at hd1;have hT:exT (.mk k 0 [] [x] p)=[A5 (if k=10 then [45] else [33])]++E1 (x.kind,exT x) 6:=by
    rw [exT,A5d,A5d];rcases hk with rfl|rfl<;>rfl
   rw [hT] at h viaUn ⊢;have h0:L.drop s.i=A5 (if k=10 then [45] else [33]) :: (E1 (x.kind,exT x) 6++post):=by rw [h];simp
   have hdn:=E7 h0;have hpk:=C7 (E:=E) h0;have ham:B6 L E s K0=k-10:=by
    rw [X6 hok,hpk];rcases hk with rfl|rfl
    ·exact D1x
    ·exact D5z
   have hlt6:lvo E post<6:=by
    unfold lvo S6;split
    ·decide
    ·rename_i hz;have:=Z9 (12+amT (hd0 E post) B7);have h13:amT (hd0 E post) B7<13:=by
      have gen:∀ (l:List (List UInt8)) (j:Nat) (w:List UInt8),ixA j l w<((j+l.length:Nat):Int):=by
       intro l
       induction l with
       | nil=>intro j w;simp [ixA];omega
       | cons a l ih =>
        intro j w;have:=ih (j+1) w;simp only [ixA,A0B];split<;>omega
      unfold amT;split
      ·exact gen B7 0 _
      ·decide
     exact D4m (by omega) h13
   obtain ⟨x',e1, -,e3⟩:=B5e (least:=6) hxc hx (s:={ s with i:=s.i+1,par:=s.par+1 }) hdn hok ho (by
    show s.par+1+_<=16;have:((if B4 x.kind<6 then d1+1 else d1:Nat):Int)=(d':Int):=by
     rw [<- hd1];by_cases hz:B4 x.kind<6
     ·rw [if_pos hz,if_pos (by simpa using hz)]
     ·rw [if_neg hz,if_neg (by simpa using hz)]
    rw [this];omega) (by decide) (by decide) hlt6
   have hu:=Un.pre (L:=L) (E:=E) (s:=s) (by rw [ham];omega) (by rw [ham];omega) (by rw [A5v (by omega)];exact hok) (e3 rfl);rw [ham,hpk] at hu;have e4:({ adv { s with i:=s.i+1,par:=s.par+1 } (E1 (x.kind,exT x) 6).length o1 with par:=(adv { s with i:=s.i+1,par:=s.par+1 } (E1 (x.kind,exT x) 6).length o1).par-1 }:Rd)=adv s ([A5 (if k=10 then [45] else [33])]++E1 (x.kind,exT x) 6).length o1:=by
    have a1:s.i+1+(E1 (x.kind,exT x) 6).length=s.i+([A5 (if k=10 then [45] else [33])]++E1 (x.kind,exT x) 6).length:=by simp;omega
    have a2:s.par+1-1=s.par:=by omega
    show Rd.mk (s.i+1+(E1 (x.kind,exT x) 6).length) s.e s.pos (s.ops+(o1:Int)) (s.par+1-1)=Rd.mk (s.i+_) s.e s.pos (s.ops+(o1:Int)) s.par;rw [a1,a2]
   rw [e4] at hu;refine viaUn _ ?_ hu;rw [Ex.plain,Ex.plain,Ex.plains,Ex.plains,Ex.plains,Ex.plains,e1]
   congr 1
   omega
 ·
  have hl5:B4 k<=5:=by
   unfold I0 at hc0;rw [if_neg hl6] at hc0;split at hc0
   ·omega
   ·exact absurd rfl hc0
  have hc2:I0 k=2:=by unfold I0;rw [if_neg hl6,if_pos (by omega)]
  rw [hc2] at h2 hd';rw [if_neg (by decide)] at hd';subst hd';obtain ⟨x,y,rfl⟩:∃ x y,a=[x,y]:=B5t h2;have hxc:=ih x (by rw [Ex.sz,Ex.szs,Ex.szs] at hm;omega);have hyc:=ih y (by rw [Ex.sz,Ex.szs,Ex.szs,Ex.szs] at hm;omega);unfold msL at hl;cases hx:msM x with
  | none=>rw [hx] at hl;cases hl
  | some q =>
   obtain ⟨o1,d1⟩:=q;rw [hx] at hl;dsimp only at hl;unfold msL at hl;cases hy:msM y with
   | none=>rw [hy] at hl;cases hl
   | some q2 =>
    obtain ⟨o2,d2⟩:=q2;rw [hy] at hl;dsimp only at hl;unfold msL at hl;dsimp only at hl;simp only [Option.some.injEq,Prod.mk.injEq,A3E,Nat.max_zero] at hl;obtain ⟨rfl,hdd⟩:=hl;have hlk:=B5s (k:=k) (by omega);have hk12:12<=k:=by
     apply Classical.byContradiction;intro hc;have:k=10\/k=11:=by omega
     exact hl6 (Z3 this)
    obtain ⟨j,hj⟩:∃ j:Nat,k=12+(j:Int):=⟨(k-12).toNat,by omega⟩;have hj13:j<13:=by omega
    have hjn:(k-12).toNat=j:=by omega
    obtain ⟨hs1,hs2⟩:=C7q j hj13;have hT:exT (.mk k 0 [] [x,y] p)=E1 (x.kind,exT x) (if B4 k=3 then 4 else B4 k)++[A5 (B7.getD j [])]++E1 (y.kind,exT y) (B4 k+1):=by
     rw [exT,A5d,A5d,A5d];unfold F4;dsimp only;rw [if_neg (by omega),if_neg (by omega),if_neg (by omega),if_neg (by omega),if_neg (by omega),if_neg (by omega),if_neg (by omega),if_neg (by omega),if_neg (by omega),if_pos (by omega),hjn]
    rw [hT] at h ⊢;generalize A5 (B7.getD j [])=sg at hs1 hs2 hT h ⊢;have hsl:S6 sg=B4 k:=by unfold S6;rw [hs1,if_neg (by omega), <- hj]
    have hdx:((if B4 x.kind<(if B4 k=3 then 4 else B4 k) then d1+1 else d1:Nat):Int)<=(d:Int):=by
     have hwr:(R1 k x.kind 0=true)↔B4 x.kind<(if B4 k=3 then 4 else B4 k):=by
      unfold R1;simp only [A0W,A0D,A0G,A1G];by_cases h3:B4 k=3
      ·rw [if_pos h3];omega
      ·rw [if_neg h3];omega
     by_cases hz:B4 x.kind<(if B4 k=3 then 4 else B4 k)
     ·rw [if_pos hz];rw [if_pos (hwr.2 hz)] at hdd;omega
     ·rw [if_neg hz];rw [if_neg (fun h=>hz (hwr.1 h))] at hdd;omega
    have hdy:((if B4 y.kind<B4 k+1 then d2+1 else d2:Nat):Int)<=(d:Int):=by
     have hwr:(R1 k y.kind (0+1)=true)↔B4 y.kind<B4 k+1:=by
      unfold R1;rw [show ((0+1:Nat) == 1)=true from rfl,Bool.true_or,A1T];simp only [A0W,A0G,A1G];omega
     by_cases hz:B4 y.kind<B4 k+1
     ·rw [if_pos hz];rw [if_pos (hwr.2 hz)] at hdd;omega
     ·rw [if_neg hz];rw [if_neg (fun h=>hz (hwr.1 h))] at hdd;omega
    have h0:L.drop s.i=E1 (x.kind,exT x) (if B4 k=3 then 4 else B4 k)++(sg :: (E1 (y.kind,exT y) (B4 k+1)++post)):=by rw [h];simp
    obtain ⟨x',e1,e2⟩:=D4n hxc hx h0 hok (by omega) (by omega) hlr.1 hl5 (by show S6 sg=B4 k;exact hsl);have hd1:=G5 h0;have hpk:A4 L E (adv s (E1 (x.kind,exT x) (if B4 k=3 then 4 else B4 k)).length o1)=sg:=C7 hd1;have hd2:=E7 (s:=adv s (E1 (x.kind,exT x) (if B4 k=3 then 4 else B4 k)).length o1) hd1;have ham:B6 L E (adv s (E1 (x.kind,exT x) (if B4 k=3 then 4 else B4 k)).length o1) B7=(j:Int):=by rw [X6 (A4d hok),hpk];exact hs1
    have hfin:s.i+(E1 (x.kind,exT x) (if B4 k=3 then 4 else B4 k)).length+1+(E1 (y.kind,exT y) (B4 k+1)).length=s.i+(E1 (x.kind,exT x) (if B4 k=3 then 4 else B4 k)++[sg]++E1 (y.kind,exT y) (B4 k+1)).length:=by simp only [A0C,A0K];omega
    have hadv:adv (A6 (adv s (E1 (x.kind,exT x) (if B4 k=3 then 4 else B4 k)).length o1)) (E1 (y.kind,exT y) (B4 k+1)).length o2=adv s (E1 (x.kind,exT x) (if B4 k=3 then 4 else B4 k)++[sg]++E1 (y.kind,exT y) (B4 k+1)).length (o1+o2):=by
     have a2:s.ops+(o1:Int)+(o2:Int)=s.ops+((o1+o2:Nat):Int):=by omega
     show Rd.mk (s.i+_+1+_) s.e s.pos (s.ops+(o1:Int)+(o2:Int)) s.par=Rd.mk (s.i+_) s.e s.pos (s.ops+((o1+o2:Nat):Int)) s.par;rw [hfin,a2]
    have hdr:=G5 h;have main:lvo E post<=B4 k->∃ y',y'.plain=y.plain/\Bin L E (B4 k+1) (A6 (adv s (E1 (x.kind,exT x) (if B4 k=3 then 4 else B4 k)).length o1)) (y',adv s (E1 (x.kind,exT x) (if B4 k=3 then 4 else B4 k)++[sg]++E1 (y.kind,exT y) (B4 k+1)).length (o1+o2)):=by
     intro hlv;obtain ⟨y',f1,f2,f3⟩:=B5e (least:=B4 k+1) hyc hy (s:=A6 (adv s (E1 (x.kind,exT x) (if B4 k=3 then 4 else B4 k)).length o1)) hd2 hok (by show s.ops+(o1:Int)+(o2:Int)<=32;omega) (by show s.par+_<=16;omega) (by omega) (by omega) (by omega);rw [hadv] at f2 f3;refine ⟨y',f1,?_⟩;by_cases h5':B4 k+1<=5
     ·exact f2 h5'
     ·exact Bin.un (by omega) (f3 (by omega))
    by_cases hlv:lvo E post<=B4 k
    ·obtain ⟨y',f1,f2⟩:=main hlv;refine ⟨.mk k 0 [] [x',y'] sg.pos,?_,fun h=>absurd h (by show ¬ 6<=B4 k;omega),?_⟩
     ·rw [Ex.plain,Ex.plain,Ex.plains,Ex.plains,Ex.plains,Ex.plains,Ex.plains,Ex.plains,e1,f1]
     ·intro n' q1 q2 q3 q4 q5 r hr;have q3:n'<=B4 k:=q3;have key:∀ r',Lop L E (B4 k) (.mk k 0 [] [x',y'] sg.pos) (adv s (E1 (x.kind,exT x) (if B4 k=3 then 4 else B4 k)++[sg]++E1 (y.kind,exT y) (B4 k+1)).length (o1+o2)) r'->(B4 k=3->lvo E post≠3)->Bin L E (B4 k) s r':=by
       intro r' hr' h33;refine e2 r' ?_;by_cases h3:B4 k=3
       ·have hst:=A0m (L:=L) (E:=E) (n:=B4 k) (e:=.mk k 0 [] [x',y'] sg.pos) (s:=adv s (E1 (x.kind,exT x) (if B4 k=3 then 4 else B4 k)++[sg]++E1 (y.kind,exT y) (B4 k+1)).length (o1+o2)) (A4d hok) hlr.1 (by show lvo E (L.drop (s.i+_))≠B4 k;rw [hdr,h3];exact h33 h3);have:=Evt.uniq hr' hst;rw [this];have ht:=Lop.three (L:=L) (E:=E) (n:=B4 k) (e:=x') (x:=y') (s:=adv s (E1 (x.kind,exT x) (if B4 k=3 then 4 else B4 k)).length o1) (by rw [ham];omega) (by rw [ham, <- hj]) h3 f2;rw [ham, <- hj,hpk] at ht;exact ht
       ·refine Lop.more (by rw [ham];omega) (by rw [ham, <- hj]) h3 f2 ?_;rw [ham, <- hj,hpk];exact hr'
      by_cases hnq:n'=B4 k
      ·subst hnq;exact key r hr q5
      ·refine B1q (A4d hok) 6 (m:=B4 k) (by omega) (key _ (A0m (A4d hok) hlr.1 ?_) (by omega)) q1 (by omega) (by omega) ?_ hr
       ·show lvo E (L.drop (s.i+_))≠B4 k;rw [hdr];omega
       ·show lvo E (L.drop (s.i+_))<=n';rw [hdr];exact q4
    ·refine ⟨.mk k 0 [] [x,y] p,rfl,fun h=>absurd h (by show ¬ 6<=B4 k;omega),?_⟩;intro n' q1 q2 q3 q4 q5 r hr;have q3:n'<=B4 k:=q3;omega
theorem M1 {e:Ex} (hv:V1 e=true) {s:Rd} {post:List Tok} (h:L.drop s.i=exT e++post) (hok:okR s=true) (hl:lvo E post=0) :
  ∃ e' s',e'.plain=e.plain/\Xpn L E s (e',s')/\s'.i=s.i+(exT e).length/\okR s'=true:=by
 unfold V1 at hv;cases hms:msM e with
 | none=>rw [hms] at hv;cases hv
 | some q =>
  obtain ⟨o,d⟩:=q;rw [hms] at hv;simp only [A0D,A0G] at hv;obtain ⟨e',e1, -,e3⟩:=B8q (L:=L) (E:=E) (e.sz+1) e (by omega) o d hms { s with ops:=0,par:=0 } post h hok (by show (0:Int)+(o:Int)<=32;omega) (by show (0:Int)+(d:Int)<=16;omega);refine ⟨e',adv { s with ops:=0,par:=0 } (exT e).length o,e1,?_,rfl,hok⟩;refine e3 1 (by decide) (by decide) (Z9 _).1 (by omega) (fun h=>absurd h (by decide)) _ (A0m (show okR s=true from hok) (by decide) ?_);show lvo E (L.drop (s.i+_))≠1;rw [G5 h];omega
end
end Go.Pb
namespace Go.Pb
variable [Go.Sym.Tab]
open Go.Sym
section
variable {L:List Tok} {E:Int}
theorem U6 {s:Rd} {w:List UInt8} {ts:List Tok} (h:L.drop s.i=A5 w :: ts) (hok:okR s=true) (hs:S8 (A5 w)=true):C5 L E s w=A6 s :=
 D7b hok (by rw [C7 h];exact hs) (by rw [C7 h];rfl)
theorem A5m {s:Rd} {n:List UInt8} {ts:List Tok} (h:L.drop s.i=D1 n++ts) (hok:okR s=true) (hn:C2 n=true):B1 L E s 1=(⟨1,n,0,0⟩,A6 s):=by
 have h0:L.drop s.i=⟨1,n,0,0⟩ :: ts:=by rw [h];unfold D1;rw [if_neg (by rw [hn];decide)];rfl
 rw [B4m hok (by rw [C7 h0]),C7 h0]
theorem B4k {s:Rd} {v:Int} {ts:List Tok} (h:L.drop s.i=X2 v++ts) (hok:okR s=true) (h0:0<=v) (h1:v<=2147483647):B1 L E s 3=(⟨3,[],v,0⟩,A6 s):=by
 have h2:L.drop s.i=⟨3,[],v,0⟩ :: ts:=by rw [h];unfold X2;rw [if_neg (by omega)];rfl
 rw [B4m hok (by rw [C7 h2]),C7 h2]
theorem D2n {s:Rd} {t:List UInt8} {ts:List Tok} (h:L.drop s.i=A1c t++ts) (hok:okR s=true) (ht:N7 t=true):B1 L E s 4=(⟨4,t,0,0⟩,A6 s):=by
 unfold N7 at ht;simp only [A0D,A0G] at ht;have h0:L.drop s.i=⟨4,t,0,0⟩ :: ts:=by rw [h];unfold A1c;rw [if_neg (by rw [ht.1];simp;omega)];rfl
 rw [B4m hok (by rw [C7 h0]),C7 h0]
theorem A0t {s:Rd} {a ts:List Tok} (h:L.drop s.i=a++ts) (ha:a.length=1):L.drop (s.i+1)=ts:=by
 rw [<- ha];exact G5 h
def D5l (E:Int) (ts:List Tok):Bool:=S8 (hd0 E ts) && (hd0 E ts).text == [101,108,115,101]
theorem B9x:∀ j:Nat,j<18->amT (A5 (B3.getD j [])) B3=(j:Int)/\S8 (A5 (B3.getD j []))=true/\(A5 (B3.getD j [])).text≠[125]/\(A5 (B3.getD j [])).text≠[101,108,115,101]:=by decide +kernel
theorem w61:S8 (A5 [61])=true:=by decide +kernel
theorem w59:S8 (A5 [59])=true/\S6 (A5 [59])=0:=by decide +kernel
theorem w44:S8 (A5 [44])=true/\S6 (A5 [44])=0:=by decide +kernel
theorem w123:S8 (A5 [123])=true/\S6 (A5 [123])=0/\(A5 [123]).text≠[105,102]:=by decide +kernel
theorem w125:S8 (A5 [125])=true/\(A5 [125]).text≠[101,108,115,101]:=by decide +kernel
theorem D7p:S8 (A5 [101,108,115,101])=true:=by decide +kernel
def HdS (t:Tok):Prop:=t.kind=1\/∃ j,j<18/\t=A5 (B3.getD j [])
theorem HdS.facts {t:Tok} (h:HdS t):(S8 t && t.text == [125])=false/\(S8 t && t.text == [101,108,115,101])=false/\(0<=amT t B3\/t.kind=1):=by
 rcases h with h|⟨j,hj,rfl⟩
 ·have:S8 t=false:=by unfold S8;rw [h];rfl
  exact ⟨by rw [this];rfl,by rw [this];rfl,.inr h⟩
 ·obtain ⟨h1,h2,h3,h4⟩:=B9x j hj;refine ⟨?_,?_,.inl (by omega)⟩
  ·rw [h2,A1J];simpa using h3
  ·rw [h2,A1J];simpa using h4
theorem B9i {d:Nat} {k p:Int} {n t:List UInt8} {a:List Ex} {x y:List St} (h:R2 d (.mk k n t a x y p)=true) :
  (1<=k/\k<=19)/\(a.length=(G7 k).args/\a.all V1=true)/\((if (G7 k).name=true then C2 n else n == [])=true/\(if (G7 k).text=true then N7 t else t == [])=true) /\
   (((G7 k).thn=true\/x=[])/\((G7 k).els=true\/y=[]))/\O8 x (d+1)=true/\O8 y (d+1)=true:=by
 unfold R2 at h;simp only [A0D,A0G,A1G,A0W,A4G] at h;obtain ⟨⟨⟨⟨⟨h1,h2⟩,h3,h4⟩,h5,h6⟩,h7,h8⟩,h9,h10⟩:=h;refine ⟨⟨h1,h2⟩,⟨h3,h4⟩,⟨h5,h6⟩,⟨h7,h8⟩,?_,?_⟩
 ·unfold O8;simp only [A0D,A0G,A0W,A4G];exact h9
 ·unfold O8;simp only [A0D,A0G,A0W,A4G];exact h10
theorem C2k {d:Nat} {x:St} (h:R2 d x=true):∃ t ts,stT x=t :: ts/\HdS t:=by
 cases x with|mk k n t a x y p =>
 obtain ⟨⟨k1,k2⟩, -,⟨hn, -⟩, -⟩:=B9i h;unfold stT;by_cases h1:k=1
 ·subst h1;rw [if_pos rfl];have hn:C2 n=true:=hn;refine ⟨⟨1,n,0,0⟩,[A5 [61]]++agT a 0++[A5 [59]],?_,.inl rfl⟩;unfold D1;rw [if_neg (by rw [hn];decide)];simp
 rw [if_neg h1,if_neg (by omega)];dsimp only;have hw:HdS (A5 (B3.getD (k-2).toNat [])):=.inr ⟨(k-2).toNat,by omega,rfl⟩;generalize A5 (B3.getD (k-2).toNat [])=w at hw;by_cases h23:k=2\/k=3
 ·rw [if_pos h23]
  match y with
  | []=>exact ⟨w,_,rfl,hw⟩
  | [q] =>
   dsimp only;split
   ·exact ⟨w,_,rfl,hw⟩
   ·exact ⟨w,_,rfl,hw⟩
  | q :: q2 :: l=>exact ⟨w,_,rfl,hw⟩
 rw [if_neg h23];repeat' split
 all_goals exact ⟨w,_,rfl,hw⟩
def CSt (L:List Tok) (E:Int) (x:St):Prop:=∀ (d:Nat) (s:Rd) (post:List Tok),R2 d x=true->d<=8->L.drop s.i=stT x++post->okR s=true->D5l E post=false ->
 ∃ x' s',x'.plain=x.plain/\O2 L E d s (x',s')/\s'.i=s.i+(stT x).length/\okR s'=true
theorem A5h:∀ (l:List St),(∀ x∈l,CSt L E x)->∀ (acc:List St) (d:Nat) (s:Rd) (post:List Tok),J5 d l=true->acc.length+l.length<=64->(l=[]\/d<=8)->L.drop s.i=O9 l++([A5 [125]]++post)->okR s=true ->
  ∃ l' s',St.plains l'=St.plains l/\Z6 L E d acc s (acc++l',s')/\s'.i=s.i+(O9 l).length+1/\okR s'=true
 | [],_,acc,d,s,post,hv,hl,hd,h,hok=>by
  have h0:L.drop s.i=A5 [125] :: post:=by rw [h];rfl
  have hi:isR L E s [125]=true:=by rw [A5c hok,C7 h0,w125.1];rfl
  have hb:=Z6.stop (L:=L) (E:=E) (d:=d) (l:=acc) (s:=s) (by rw [hi];simp);rw [U6 h0 hok w125.1] at hb;exact ⟨[],A6 s,rfl,by rw [A1M];exact hb,rfl,hok⟩
 | x :: l,hx,acc,d,s,post,hv,hl,hd,h,hok=>by
  rw [J5,A0D] at hv;have hd8:d<=8:=hd.resolve_left (by simp);obtain ⟨t,ts,e1,e2⟩:=C2k hv.1;obtain ⟨f1,f2,f3⟩:=e2.facts;have h0:L.drop s.i=stT x++(O9 l++([A5 [125]]++post)):=by rw [h,O9,A0U]
  have hp:A4 L E s=t:=C7 (ts:=ts++(O9 l++([A5 [125]]++post))) (by rw [h0,e1];rfl);have hels:D5l E (O9 l++([A5 [125]]++post))=false:=by
   unfold D5l;cases l with
   | nil =>
    show (S8 (A5 [125]) && (A5 [125]).text == [101,108,115,101])=false;rw [w125.1,A1J];simpa using w125.2
   | cons y l =>
    have hv2:=hv.2;rw [J5,A0D] at hv2;obtain ⟨u,us,g1,g2⟩:=C2k hv2.1;rw [O9,g1];exact g2.facts.2.1
  obtain ⟨x',s1,p1,p2,p3,p4⟩:=hx x A0L d s _ hv.1 hd8 h0 hok hels;have hdr:L.drop s1.i=O9 l++([A5 [125]]++post):=by rw [p3];exact G5 h0
  obtain ⟨l',s',q1,q2,q3,q4⟩:=A5h l (fun y hy=>hx y (A0J _ hy)) (acc++[x']) d s1 post hv.2 (by simp only [A0C,A0B,A0F] at hl ⊢;omega) (.inr hd8) hdr p4;refine ⟨x' :: l',s',by rw [St.plains,St.plains,p1,q1],?_,by rw [q3,p3,O9,A0C];omega,q4⟩;refine Z6.more (s1:=s1) (x:=x') ⟨hok,by rw [A5c hok,hp];exact f1⟩ ?_ ?_ (by rw [A0U] at q2;exact q2)
  ·rintro ⟨g1,g2⟩;rw [X6 hok,hp] at g1;rw [B3o hok,hp] at g2;rcases f3 with f3|f3
   ·omega
   ·rw [f3] at g2;simp at g2
  ·rw [A5v (by simp only [A0B] at hl;omega)];exact p2
theorem U8 {l:List St} (hx:∀ x∈l,CSt L E x) {d:Nat} {s:Rd} {post:List Tok} (hv:O8 l d=true) (h:L.drop s.i=blT l++post) (hok:okR s=true) :
  ∃ l' s',St.plains l'=St.plains l/\A7m L E d s (l',s')/\s'.i=s.i+(blT l).length/\okR s'=true:=by
 unfold O8 at hv;simp only [A0D,A0G,A0W,A4G] at hv;have h0:L.drop s.i=A5 [123] :: (O9 l++([A5 [125]]++post)):=by rw [h];unfold blT;simp
 have he:=U6 (E:=E) h0 hok w123.1;obtain ⟨l',s',q1,q2,q3,q4⟩:=A5h l hx [] d (A6 s) post hv.2 (by simp only [A0F];omega) hv.1.2 (E7 h0) hok;refine ⟨l',s',q1,A7m.mk (by rw [he];exact q2),?_,q4⟩;rw [q3];unfold blT;simp only [A0C,A0K];show s.i+1+_+1=_;omega
theorem A7j {a:List Ex} (h:a.length=1) (hv:a.all V1=true):∃ e,a=[e]/\V1 e=true:=by
 obtain ⟨e,rfl⟩:=A2D.1 h;exact ⟨e,rfl,by simpa using hv⟩
theorem ag0 (e:Ex) (l:List Ex):agT (e :: l) 0=exT e:=rfl
theorem ag1 (e e2:Ex) (l:List Ex):agT (e :: e2 :: l) 1=exT e2:=rfl
theorem B2t {k:Int} (h1:k≠1) (h2:k≠2) (h3:k≠3) (h4:k≠4) (h8:k≠8) (h9:k≠9) (h10:k≠10) (h18:k≠18) (h19:k≠19):G7 k=⟨true,false,0,false,false⟩:=by
 unfold G7;rw [if_neg (by omega),if_neg h9,if_neg h2,if_neg h3,if_neg h4,if_neg h18,if_neg h19]
def C2y:List St->List Tok
 | []=>[]
 | [q]=>if q.kind=2 then [A5 [101,108,115,101]]++stT q else [A5 [101,108,115,101]]++blT [q]
 | q :: q2 :: r=>[A5 [101,108,115,101]]++blT (q :: q2 :: r)
theorem B7b:∀ (m:Nat) (x:St),x.sz<m->CSt L E x:=by
 intro m
 induction m with
 | zero=>intro x h;omega
 | succ m ih =>
 intro x hm d s post hv hd h hok hels;cases x with|mk k n t a x y p =>
 obtain ⟨⟨k1,k2⟩,⟨ha,hav⟩,⟨hn,ht⟩,⟨hx,hy⟩,hbx,hby⟩:=B9i hv;have hcx:∀ q∈x,CSt L E q:=fun q hq=>ih q (by rw [St.sz] at hm;have:=St.szs_mem hq;omega);have hcy:∀ q∈y,CSt L E q:=fun q hq=>ih q (by rw [St.sz] at hm;have:=St.szs_mem hq;omega);have hlim:okR (B9 L E s (d:Int) 8 50)=true:=by rw [A5v (by omega)];exact hok
 have hcast:((d+1:Nat):Int)=(d:Int)+1:=by omega
 by_cases hk1:k=1
 ·
  subst hk1;have hn:C2 n=true:=hn;have ht:t=[]:=by have h':(t == [])=true:=ht;simpa using h'
  have hx:x=[]:=hx.resolve_left (by decide);have hy:y=[]:=hy.resolve_left (by decide);subst ht hx hy;obtain ⟨e,rfl,he⟩:=A7j ha hav;have hT:stT (.mk 1 n [] [e] [] [] p)=D1 n++[A5 [61]]++exT e++[A5 [59]]:=by unfold stT;rw [if_pos rfl,ag0]
  rw [hT] at h ⊢;have h0:L.drop s.i=D1 n++(A5 [61] :: (exT e++(A5 [59] :: post))):=by rw [h];simp
  have h1:=A0t h0 (D8 n);have hpk:A4 L E s=⟨1,n,0,0⟩:=C7 (ts:=A5 [61] :: (exT e++(A5 [59] :: post))) (by rw [h0];unfold D1;rw [if_neg (by rw [hn];decide)];rfl);have htk:=A5m (E:=E) h0 hok hn;have h2:=E7 (s:=A6 s) h1;have he1:=U6 (E:=E) (s:=A6 s) h1 hok w61;obtain ⟨e',s1,p1,p2,p3,p4⟩:=M1 (L:=L) (E:=E) he (s:=A6 (A6 s)) h2 hok (by show S6 (A5 [59])=0;exact w59.2);have h3:L.drop s1.i=A5 [59] :: post:=by rw [p3];exact G5 h2
  have hst:=O2.set (L:=L) (E:=E) (d:=d) (s:=s) (s1:=s1) (e:=e') hlim (by rw [X6 hok,hpk];exact (by decide:(-1:Int)<0)) (by rw [htk,he1];exact p2);rw [htk,U6 h3 p4 w59.1] at hst;refine ⟨_,_,?_,hst,?_,p4⟩
  ·rw [St.plain,St.plain,Ex.plains,Ex.plains,Ex.plains,Ex.plains,p1]
  ·show s1.i+1=_;rw [p3];simp only [A0C,A0K,D8];show s.i+1+1+_+1=_;omega
 obtain ⟨j,hj⟩:∃ j:Nat,k=2+(j:Int):=⟨(k-2).toNat,by omega⟩;have hj18:j<18:=by omega
 have hjn:(k-2).toNat=j:=by omega
 obtain ⟨a1,a2, -, -⟩:=B9x j hj18;by_cases h23:k=2\/k=3
 ·
  have hsh:(G7 k).args=1/\(G7 k).name=false/\(G7 k).text=false/\(k=3->(G7 k).els=false):=by
   rcases h23 with rfl|rfl
   ·exact ⟨rfl,rfl,rfl,fun h=>absurd h (by decide)⟩
   ·exact ⟨rfl,rfl,rfl,fun _=>rfl⟩
  rw [hsh.1] at ha;rw [hsh.2.1] at hn;rw [hsh.2.2.1] at ht;have hn:n=[]:=by have h':(n == [])=true:=hn;simpa using h'
  have ht:t=[]:=by have h':(t == [])=true:=ht;simpa using h'
  subst hn ht;have hy3:k=3->y=[]:=fun h=>hy.resolve_left (by rw [hsh.2.2.2 h];decide);obtain ⟨e,rfl,he⟩:=A7j ha hav;obtain ⟨rest,hrest,hT⟩:∃ rest,rest=C2y y/\stT (.mk k [] [] [e] x y p)=[A5 (B3.getD j [])]++exT e++blT x++rest:=by
   refine ⟨_,rfl,?_⟩;clear hy hy3 hv hm h hby hcy;rw [stT,if_neg hk1,if_neg (by omega)];dsimp only;rw [if_pos h23,hjn,ag0]
   match y with
   | []=>simp [blT,C2y]
   | [q] =>
    unfold C2y;dsimp only;split
    ·simp [blT]
    ·simp [blT,O9]
   | q :: q2 :: r=>simp [blT,C2y]
  rw [hT] at h ⊢;generalize A5 (B3.getD j [])=w at a1 a2 h hT ⊢;have h0:L.drop s.i=w :: (exT e++(blT x++(rest++post))):=by rw [h];simp
  have hpk:=C7 (E:=E) h0;have ham:B6 L E s B3=(j:Int):=by rw [X6 hok,hpk];exact a1
  have h1:=E7 h0;obtain ⟨e',s2,p1,p2,p3,p4⟩:=M1 (L:=L) (E:=E) he (s:=A6 s) h1 hok (by unfold blT;show S6 (A5 [123])=0;exact w123.2.1);have h2:L.drop s2.i=blT x++(rest++post):=by rw [p3];exact G5 h1
  obtain ⟨t',s3,b1,b2,b3,b4⟩:=U8 hcx hbx h2 p4;rw [hcast] at b2;have h3:L.drop s3.i=rest++post:=by rw [b3];exact G5 h2
  have hi3:s3.i=s.i+1+(exT e).length+(blT x).length:=by rw [b3,p3];rfl
  have blkCase:¬ (B6 L E s B3=0/\isR L E s3 [101,108,115,101]=true)->y=[]->rest=[]->∃ x' s',x'.plain=(St.mk k [] [] [e] x y p).plain/\O2 L E d s (x',s')/\s'.i=s.i+([w]++exT e++blT x++rest).length/\okR s'=true:=by
   intro hc hy0 hr0;subst hy0 hr0;have hst:=O2.blk (L:=L) (E:=E) (d:=d) (s:=s) hlim (by rw [ham];omega) p2 b2 hc;refine ⟨_,_,?_,hst,?_,b4⟩
   ·rw [ham, <- hj,St.plain,St.plain,Ex.plains,Ex.plains,Ex.plains,Ex.plains,p1,b1]
   ·rw [hi3];simp only [A0C,A0K,A0F];omega
  by_cases hk3:k=3
  ·have hy0:=hy3 hk3;subst hy0;exact blkCase (by rw [ham];omega) rfl hrest
  ·have hk2:k=2:=by omega
   have hj0:j=0:=by omega
   have hd1:y≠[]->d+1<=8:=fun hne=>by
    unfold O8 at hby;simp only [A0D,A0G,A0W,A4G] at hby;exact hby.1.2.resolve_left hne
   have elsCase:∀ (o':List St) (s4:Rd),St.plains o'=St.plains y->A7k L E d (A6 s3) (o',s4)->isR L E s3 [101,108,115,101]=true->s4.i=s3.i+rest.length->okR s4=true->∃ x' s',x'.plain=(St.mk k [] [] [e] x y p).plain/\O2 L E d s (x',s')/\s'.i=s.i+([w]++exT e++blT x++rest).length/\okR s'=true:=by
    intro o' s4 c1 c2 c3 c4 c5;have hst:=O2.els (L:=L) (E:=E) (d:=d) (s:=s) hlim (by rw [ham,hj0];rfl) p2 b2 c3 c2;refine ⟨_,_,?_,hst,?_,c5⟩
    ·rw [hk2,St.plain,St.plain,Ex.plains,Ex.plains,Ex.plains,Ex.plains,p1,b1,c1]
    ·rw [c4,hi3];simp only [A0C,A0K];omega
   clear hy hy3 hv hm hT h h0
   match y,hcy,hby,hd1,hrest,blkCase,elsCase with
   | [],_,_,_,hrest,blkCase,_ =>
    refine blkCase ?_ rfl hrest;rintro ⟨-,g⟩;rw [hrest] at h3;rw [A5c b4,A9l,h3] at g;have g:D5l E post=true:=g;rw [hels] at g;cases g
   | [q],hcy,hby,hd1,hrest,_,elsCase =>
    have hrest:rest=if q.kind=2 then [A5 [101,108,115,101]]++stT q else [A5 [101,108,115,101]]++blT [q]:=hrest
    have hd1:=hd1 (by simp);by_cases hq2:q.kind=2
    ·rw [if_pos hq2] at hrest;subst hrest;have h4:L.drop s3.i=A5 [101,108,115,101] :: (stT q++post):=by rw [h3];simp
     have hi:isR L E s3 [101,108,115,101]=true:=by rw [A5c b4,C7 h4,D7p];rfl
     have hvq:R2 (d+1) q=true:=by
      unfold O8 at hby;simp only [A0D] at hby;have:=hby.2;rw [J5,A0D] at this;exact this.1
     obtain ⟨q',s4,c1,c2,c3,c4⟩:=hcy q A0L (d+1) (A6 s3) post hvq hd1 (E7 h4) b4 hels;rw [hcast] at c2;have hif:isR L E (A6 s3) [105,102]=true:=by
      have h5:=E7 h4;have:∃ ts,stT q=A5 (B3.getD 0 []) :: ts:=by
       cases q with|mk kq nq tq aq xq yq pq =>
       have hq2:kq=2:=hq2;subst hq2;unfold stT;rw [if_neg (by decide),if_neg (by decide)];dsimp only;rw [if_pos (.inl rfl)]
       match yq with
       | []=>exact ⟨_,rfl⟩
       | [q3] =>
        dsimp only;split
        ·exact ⟨_,rfl⟩
        ·exact ⟨_,rfl⟩
       | _ :: _ :: _=>exact ⟨_,rfl⟩
      obtain ⟨ts,hts⟩:=this;rw [A5c (show okR (A6 s3)=true from b4),C7 (s:=A6 s3) (t:=A5 (B3.getD 0 [])) (ts:=ts++post) (by show L.drop (s3.i+1)=_;rw [h5,hts];rfl),(B9x 0 (by decide)).2.1];rfl
     refine elsCase [q'] s4 (by rw [St.plains,St.plains,St.plains,St.plains,c1]) (A7k.iff hif c2) hi ?_ c4;rw [c3];simp only [A0C,A0K];show s3.i+1+_=_;omega
    ·rw [if_neg hq2] at hrest;subst hrest;have h4:L.drop s3.i=A5 [101,108,115,101] :: (blT [q]++post):=by rw [h3];simp
     have hi:isR L E s3 [101,108,115,101]=true:=by rw [A5c b4,C7 h4,D7p];rfl
     obtain ⟨o',s4,c1,c2,c3,c4⟩:=U8 hcy hby (s:=A6 s3) (E7 h4) b4;rw [hcast] at c2;have hif:isR L E (A6 s3) [105,102]=false:=by
      rw [A5c (show okR (A6 s3)=true from b4),C7 (s:=A6 s3) (t:=A5 [123]) (ts:=O9 [q]++[A5 [125]]++post) (by show L.drop (s3.i+1)=_;rw [E7 h4];unfold blT;simp),w123.1,A1J];simpa using w123.2.2
     refine elsCase o' s4 c1 (A7k.blk hif c2) hi ?_ c4;rw [c3];simp only [A0C,A0K];show s3.i+1+_=_;omega
   | q :: q2 :: r,hcy,hby,hd1,hrest,_,elsCase =>
    have hrest:rest=[A5 [101,108,115,101]]++blT (q :: q2 :: r):=hrest;subst hrest;have h4:L.drop s3.i=A5 [101,108,115,101] :: (blT (q :: q2 :: r)++post):=by rw [h3];simp
    have hi:isR L E s3 [101,108,115,101]=true:=by rw [A5c b4,C7 h4,D7p];rfl
    obtain ⟨o',s4,c1,c2,c3,c4⟩:=U8 hcy hby (s:=A6 s3) (E7 h4) b4;rw [hcast] at c2;have hif:isR L E (A6 s3) [105,102]=false:=by
     rw [A5c (show okR (A6 s3)=true from b4),C7 (s:=A6 s3) (t:=A5 [123]) (ts:=O9 (q :: q2 :: r)++[A5 [125]]++post) (by show L.drop (s3.i+1)=_;rw [E7 h4];unfold blT;simp),w123.1,A1J];simpa using w123.2.2
    refine elsCase o' s4 c1 (A7k.blk hif c2) hi ?_ c4;rw [c3];simp only [A0C,A0K];show s3.i+1+_=_;omega
 have hshx:(G7 k).thn=false/\(G7 k).els=false:=by
  unfold G7;repeat' split
  all_goals first|exact ⟨rfl,rfl⟩|omega
 have hx:x=[]:=hx.resolve_left (by rw [hshx.1];decide);have hy:y=[]:=hy.resolve_left (by rw [hshx.2];decide);subst hx hy;have tailGo:∀ (toks:List Tok) (n' t':List UInt8) (a':List Ex) (s':Rd),stT (.mk k n t a [] [] p)=[A5 (B3.getD j [])]++toks->n'=n->t'=t->Ex.plains a'=Ex.plains a->s'.i=s.i+1+toks.length->okR s'=true ->
   (L.drop (s.i+1)=toks++post->Evt (fun f=>G9 L E f k (A4 L E s).pos (A6 s)) (.mk k n' t' a' [] [] (A4 L E s).pos,s'))->∃ x' s',x'.plain=(St.mk k n t a [] [] p).plain/\O2 L E d s (x',s')/\s'.i=s.i+(stT (.mk k n t a [] [] p)).length/\okR s'=true:=by
  intro toks n' t' a' s' c1 c2 c3 c4 c5 c6 c7;subst c2 c3;rw [c1] at h ⊢;have h0:L.drop s.i=A5 (B3.getD j []) :: (toks++post):=by rw [h];simp
  have hpk:=C7 (E:=E) h0;have ham:B6 L E s B3=(j:Int):=by rw [X6 hok,hpk];exact a1
  have hst:=O2.tail (L:=L) (E:=E) (d:=d) (s:=s) hlim (by rw [ham];omega) (by rw [ham, <- hj];exact c7 (E7 h0));refine ⟨_,_,?_,hst,?_,c6⟩
  ·rw [St.plain,St.plain,c4]
  ·rw [c5];simp only [A0C,A0K];omega
 have hT:stT (.mk k n t a [] [] p)=[A5 (B3.getD j [])]++(if k=4 then agT a 0++[A5 [59]] else if k=18 then A1c t++[A5 [44]]++agT a 0++[A5 [59]] else if k=8\/k=10 then D1 n++agT a 0++[A5 [59]] else if k=9 then D1 n++agT a 0++[A5 [44]]++agT a 1++[A5 [59]] else if k=19 then [A5 [59]] else D1 n++[A5 [59]]):=by
  unfold stT;rw [if_neg hk1,if_neg (by omega)];dsimp only;rw [if_neg h23,hjn];repeat' split
  all_goals simp
 by_cases h4:k=4
 ·subst h4;have hn:n=[]:=by have h':(n == [])=true:=hn;simpa using h'
  have ht:t=[]:=by have h':(t == [])=true:=ht;simpa using h'
  subst hn ht;obtain ⟨e,rfl,he⟩:=A7j ha hav;rw [if_pos rfl,ag0] at hT;have h0:L.drop (s.i+1)=exT e++(A5 [59] :: post):=by
   rw [hT] at h;have:L.drop s.i=A5 (B3.getD j []) :: (exT e++(A5 [59] :: post)):=by rw [h];simp
   exact E7 this
  obtain ⟨e',s1,p1,p2,p3,p4⟩:=M1 (L:=L) (E:=E) he (s:=A6 s) h0 hok (by show S6 (A5 [59])=0;exact w59.2);have h3:L.drop s1.i=A5 [59] :: post:=by rw [p3];exact G5 h0
  refine tailGo _ [] [] [e'] (A6 s1) hT rfl rfl (by rw [Ex.plains,Ex.plains,Ex.plains,Ex.plains,p1]) (by show s1.i+1=_;rw [p3];simp only [A0C,A0K];show s.i+1+_+1=_;omega) p4 (fun _=>p2.map fun f hf=>?_);unfold G9;rw [if_pos rfl,hf];dsimp only;rw [U6 h3 p4 w59.1]
 rw [if_neg h4] at hT;by_cases h18:k=18
 ·subst h18;have hn:n=[]:=by have h':(n == [])=true:=hn;simpa using h'
  have ht:N7 t=true:=ht;subst hn;obtain ⟨e,rfl,he⟩:=A7j ha hav;rw [if_pos rfl,ag0] at hT;have h0:L.drop (s.i+1)=A1c t++(A5 [44] :: (exT e++(A5 [59] :: post))):=by
   rw [hT] at h;have:L.drop s.i=A5 (B3.getD j []) :: (A1c t++(A5 [44] :: (exT e++(A5 [59] :: post)))):=by rw [h];simp
   exact E7 this
  have htk:=D2n (E:=E) (s:=A6 s) h0 hok ht;have h1:=A0t (s:=A6 s) h0 (A1z t);have he1:=U6 (E:=E) (s:=A6 (A6 s)) h1 hok w44.1;have h2:=E7 (s:=A6 (A6 s)) h1;obtain ⟨e',s1,p1,p2,p3,p4⟩:=M1 (L:=L) (E:=E) he (s:=A6 (A6 (A6 s))) h2 hok (by show S6 (A5 [59])=0;exact w59.2);have h3:L.drop s1.i=A5 [59] :: post:=by rw [p3];exact G5 h2
  refine tailGo _ [] t [e'] (A6 s1) hT rfl rfl (by rw [Ex.plains,Ex.plains,Ex.plains,Ex.plains,p1]) (by show s1.i+1=_;rw [p3];simp only [A0C,A0K,A1z];show s.i+1+1+1+_+1=_;omega) p4 (fun _=>p2.map fun f hf=>?_);unfold G9;rw [if_neg (by decide),if_pos rfl,htk,he1,hf];dsimp only;rw [U6 h3 p4 w59.1]
 rw [if_neg h18] at hT;by_cases h8:k=8\/k=10
 ·have hsh:G7 k=⟨true,false,1,false,false⟩:=by rcases h8 with rfl|rfl<;>rfl
  rw [hsh] at ha hn ht;have hn:C2 n=true:=hn;have ht:t=[]:=by have h':(t == [])=true:=ht;simpa using h'
  subst ht;obtain ⟨e,rfl,he⟩:=A7j ha hav;rw [if_pos h8,ag0] at hT;have h0:L.drop (s.i+1)=D1 n++(exT e++(A5 [59] :: post)):=by
   rw [hT] at h;have:L.drop s.i=A5 (B3.getD j []) :: (D1 n++(exT e++(A5 [59] :: post))):=by rw [h];simp
   exact E7 this
  have htk:=A5m (E:=E) (s:=A6 s) h0 hok hn;have h1:=A0t (s:=A6 s) h0 (D8 n);obtain ⟨e',s1,p1,p2,p3,p4⟩:=M1 (L:=L) (E:=E) he (s:=A6 (A6 s)) h1 hok (by show S6 (A5 [59])=0;exact w59.2);have h3:L.drop s1.i=A5 [59] :: post:=by rw [p3];exact G5 h1
  refine tailGo _ n [] [e'] (A6 s1) hT rfl rfl (by rw [Ex.plains,Ex.plains,Ex.plains,Ex.plains,p1]) (by show s1.i+1=_;rw [p3];simp only [A0C,A0K,D8];show s.i+1+1+_+1=_;omega) p4 (fun _=>p2.map fun f hf=>?_);unfold G9;rw [if_neg h4,if_neg h18,if_neg (by omega)];dsimp only;rw [if_pos (by omega),htk];dsimp only;rw [hf];dsimp only;rw [if_neg (by omega),U6 h3 p4 w59.1]
 rw [if_neg h8] at hT;by_cases h9:k=9
 ·subst h9;have hn:C2 n=true:=hn;have ht:t=[]:=by have h':(t == [])=true:=ht;simpa using h'
  subst ht;obtain ⟨e,e2,rfl⟩:=B5t ha;simp only [A2N,List.all_nil,A1T,A0D] at hav;rw [if_pos rfl,ag0,ag1] at hT;have h0:L.drop (s.i+1)=D1 n++(exT e++(A5 [44] :: (exT e2++(A5 [59] :: post)))):=by
   rw [hT] at h;have:L.drop s.i=A5 (B3.getD j []) :: (D1 n++(exT e++(A5 [44] :: (exT e2++(A5 [59] :: post))))):=by rw [h];simp
   exact E7 this
  have htk:=A5m (E:=E) (s:=A6 s) h0 hok hn;have h1:=A0t (s:=A6 s) h0 (D8 n);obtain ⟨e',s1,p1,p2,p3,p4⟩:=M1 (L:=L) (E:=E) hav.1 (s:=A6 (A6 s)) h1 hok (by show S6 (A5 [44])=0;exact w44.2);have h3:L.drop s1.i=A5 [44] :: (exT e2++(A5 [59] :: post)):=by rw [p3];exact G5 h1
  have hx1:=U6 (E:=E) h3 p4 w44.1;obtain ⟨e2',s2,r1,r2,r3,r4⟩:=M1 (L:=L) (E:=E) hav.2 (s:=A6 s1) (E7 h3) p4 (by show S6 (A5 [59])=0;exact w59.2);have h5:L.drop s2.i=A5 [59] :: post:=by rw [r3];exact G5 (E7 h3)
  refine tailGo _ n [] [e',e2'] (A6 s2) hT rfl rfl (by rw [Ex.plains,Ex.plains,Ex.plains,Ex.plains,Ex.plains,Ex.plains,p1,r1]) (by show s2.i+1=_;rw [r3];show s1.i+1+_+1=_;rw [p3];simp only [A0C,A0K,D8];show s.i+1+1+_+1+_+1=_;omega) r4 (fun _=>p2.map2 r2 fun f hf hf2=>?_);unfold G9;rw [if_neg h4,if_neg h18,if_neg (by decide)];dsimp only;rw [if_pos (by decide),htk];dsimp only;rw [hf];dsimp only;rw [if_pos rfl,hx1,hf2];dsimp only;rw [U6 h5 r4 w59.1]
 rw [if_neg h9] at hT;by_cases h19:k=19
 ·subst h19;have hn:n=[]:=by have h':(n == [])=true:=hn;simpa using h'
  have ht:t=[]:=by have h':(t == [])=true:=ht;simpa using h'
  have ha:a=[]:=A1S ha;subst hn ht ha;rw [if_pos rfl] at hT;have h0:L.drop (s.i+1)=A5 [59] :: post:=by
   rw [hT] at h;have:L.drop s.i=A5 (B3.getD j []) :: (A5 [59] :: post):=by rw [h];simp
   exact E7 this
  refine tailGo _ [] [] [] (A6 (A6 s)) hT rfl rfl rfl rfl hok (fun _=>Evt.one fun f=>?_);unfold G9;rw [if_neg (by decide),if_neg (by decide),if_pos rfl,U6 (s:=A6 s) h0 hok w59.1]
 rw [if_neg h19] at hT;have hsh:=B2t hk1 (fun h=>h23 (.inl h)) (fun h=>h23 (.inr h)) h4 (fun h=>h8 (.inl h)) h9 (fun h=>h8 (.inr h)) h18 h19;rw [hsh] at ha hn ht;have hn:C2 n=true:=hn;have ht:t=[]:=by have h':(t == [])=true:=ht;simpa using h'
 have ha:a=[]:=A1S ha;subst ht ha;have h0:L.drop (s.i+1)=D1 n++(A5 [59] :: post):=by
  rw [hT] at h;have:L.drop s.i=A5 (B3.getD j []) :: (D1 n++(A5 [59] :: post)):=by rw [h];simp
  exact E7 this
 have htk:=A5m (E:=E) (s:=A6 s) h0 hok hn;have h1:=A0t (s:=A6 s) h0 (D8 n);refine tailGo _ n [] [] (A6 (A6 (A6 s))) hT rfl rfl rfl (by simp only [A0C,A0K,D8];show s.i+1+1+1=_;omega) hok (fun _=>Evt.one fun f=>?_);unfold G9;rw [if_neg h4,if_neg h18,if_neg h19];dsimp only;rw [if_neg (by omega),htk];dsimp only;rw [U6 (s:=A6 (A6 s)) h1 hok w59.1]
theorem B6f {l:List St} {d:Nat} {s:Rd} {post:List Tok} (hv:O8 l d=true) (h:L.drop s.i=blT l++post) (hok:okR s=true) :
  ∃ l' s',St.plains l'=St.plains l/\A7m L E d s (l',s')/\s'.i=s.i+(blT l).length/\okR s'=true :=
 U8 (fun x hx=>B7b (x.sz+1) x (by omega)) hv h hok
end
end Go.Pb
namespace Go.Pb
variable [Go.Sym.Tab]
open Go.Sym
section
variable {L:List Tok} {E:Int}
theorem E1w:∀ j:Nat,j<8->amT (A5 (C3.getD j [])) C3=(j:Int):=by decide +kernel
theorem D7z:∀ j:Nat,j<6->amT (A5 (C8.getD j [])) C8=(j:Int):=by decide +kernel
theorem C6h:S8 (A5 [109,111,100,101])=true/\amT (A5 [109,111,100,101]) C3 = -1:=by decide +kernel
theorem won:S8 (A5 [111,110])=true/\(A5 [111,110]).text≠[125]:=by decide +kernel
theorem E7e:S8 (A5 [45])=true:=by decide +kernel
theorem C1q {d:Dc} {k v:Int} {n:List UInt8} (h1:k=d.kind) (h2:n=d.name) (h3:v=d.value) {p:Int}:Dc.plain ⟨k,n,v,p⟩=d.plain:=by
 subst h1 h2 h3;rfl
theorem B6c {d:Dc} (hv:A1q d=true) {s:Rd} {post:List Tok} (h:L.drop s.i=dcT d++post) (hok:okR s=true) :
  B6 L E s C3=d.kind-1/\(Q7 L E (d.kind-1) s).1.plain=d.plain/\(Q7 L E (d.kind-1) s).2.i=s.i+(dcT d).length/\okR (Q7 L E (d.kind-1) s).2=true:=by
 unfold A1q at hv;simp only [A0D,A0G] at hv;obtain ⟨⟨⟨⟨k1,k8⟩,hn⟩,v0⟩,v1⟩:=hv;obtain ⟨j,hj⟩:∃ j:Nat,d.kind=1+(j:Int):=⟨(d.kind-1).toNat,by omega⟩;have hj8:j<8:=by omega
 have hjn:(d.kind-1).toNat=j:=by omega
 have a1:=E1w j hj8;have hT:dcT d=[A5 (C3.getD j [])]++D1 d.name++(if 6<d.kind then [] else if d.value<0 then [A5 [45]]++X2 (-d.value) else X2 d.value)++[A5 [59]]:=by
  unfold dcT;rw [if_neg (by omega)];dsimp only;rw [hjn];by_cases h6:6<d.kind
  ·rw [if_pos h6,if_pos h6];simp
  ·rw [if_neg h6,if_neg h6];by_cases hneg:d.value<0
   ·have hk6:d.kind=6:=by
     by_cases hz:d.kind=6
     ·exact hz
     ·rw [if_neg hz] at v0;omega
    rw [if_pos hk6] at v0;rw [if_pos ⟨hneg,v0,hk6⟩,if_pos hneg];simp
   ·rw [if_neg (fun h=>hneg h.1),if_neg hneg]
 rw [hT] at h ⊢;have h0:L.drop s.i=A5 (C3.getD j []) :: (D1 d.name++((if 6<d.kind then [] else if d.value<0 then [A5 [45]]++X2 (-d.value) else X2 d.value)++(A5 [59] :: post))):=by rw [h];simp
 have hpk:=C7 (E:=E) h0;have h1:=E7 h0;have htk:=A5m (E:=E) (s:=A6 s) h1 hok hn;have h2:=A0t (s:=A6 s) h1 (D8 d.name);refine ⟨by rw [X6 hok,hpk,a1];omega,?_⟩;unfold Q7;dsimp only;rw [htk];dsimp only;by_cases h6:6<d.kind
 ·rw [if_pos h6] at h2 ⊢;rw [if_neg (by omega)];have h2:L.drop (A6 (A6 s)).i=A5 [59] :: post:=h2;rw [U6 h2 hok w59.1];refine ⟨C1q (by omega) rfl ?_,?_,hok⟩
  ·rw [if_neg (by omega)] at v0;rw [if_pos (by omega)] at v1;omega
  ·simp only [A0C,A0K,D8,A0F];show s.i+1+1+1=_;omega
 ·rw [if_neg h6] at h2 ⊢;rw [if_pos (by omega)];rw [if_neg (by omega)] at v1;by_cases hneg:d.value<0
  ·have hk6:d.kind=6:=by
    by_cases hz:d.kind=6
    ·exact hz
    ·rw [if_neg hz] at v0;omega
   rw [if_pos hk6] at v0;rw [if_pos hneg] at h2 ⊢;have h3:L.drop (A6 (A6 s)).i=A5 [45] :: (X2 (-d.value)++(A5 [59] :: post)):=by rw [show L.drop (A6 (A6 s)).i=_ from h2];simp
   have hm:(d.kind-1+1 == 6 && isR L E (A6 (A6 s)) [45])=true:=by
    rw [A5c (show okR (A6 (A6 s))=true from hok),C7 h3,E7e,hk6];rfl
   rw [if_pos hm,if_pos hm];have h4:=E7 h3;have htk2:=B4k (E:=E) (s:=A6 (A6 (A6 s))) h4 hok (by omega) (by omega);rw [htk2];have h5:=A0t (s:=A6 (A6 (A6 s))) h4 (P4 _);have h5:L.drop (A6 (A6 (A6 (A6 s)))).i=A5 [59] :: post:=h5;dsimp only;rw [U6 h5 hok w59.1];refine ⟨C1q (by omega) rfl (by omega),?_,hok⟩;simp only [A0C,A0K,D8,P4];show s.i+1+1+1+1+1=_;omega
  ·rw [if_neg hneg] at h2 ⊢;have h3:L.drop (A6 (A6 s)).i=X2 d.value++(A5 [59] :: post):=h2;have hp3:A4 L E (A6 (A6 s))=⟨3,[],d.value,0⟩:=C7 (ts:=A5 [59] :: post) (by rw [h3];unfold X2;rw [if_neg (by omega)];rfl);have hm:(d.kind-1+1 == 6 && isR L E (A6 (A6 s)) [45])=false:=by
    rw [A5c (show okR (A6 (A6 s))=true from hok),hp3];simp [S8]
   rw [hm];simp only [A2C,if_false];have htk2:=B4k (E:=E) (s:=A6 (A6 s)) h3 hok (by omega) (by omega);rw [htk2];have h5:=A0t (s:=A6 (A6 s)) h3 (P4 _);have h5:L.drop (A6 (A6 (A6 s))).i=A5 [59] :: post:=h5;dsimp only;rw [U6 h5 hok w59.1];refine ⟨C1q (by omega) rfl rfl,?_,hok⟩;simp only [A0C,A0K,D8,P4];show s.i+1+1+1+1=_;omega
theorem A6k:∀ (l acc:List Dc) (s:Rd) (post:List Tok),l.all A1q=true->acc.length+l.length<=128->amT (hd0 E post) C3<0->L.drop s.i=l.flatMap dcT++post->okR s=true ->
  ∃ l' s',l'.map Dc.plain=l.map Dc.plain/\Evt (fun f=>J9 L E f acc s) (acc++l',s')/\L.drop s'.i=post/\okR s'=true
 | [],acc,s,post,hv,hl,hp,h,hok=>by
  have h:L.drop s.i=post:=h;refine ⟨[],s,rfl,Evt.one fun f=>?_,h,hok⟩;rw [J9];dsimp only;rw [X6 hok,A9l,h,if_pos hp,A1M]
 | d :: l,acc,s,post,hv,hl,hp,h,hok=>by
  simp only [A2N,A0D] at hv;have h0:L.drop s.i=dcT d++(l.flatMap dcT++post):=by rw [h,A1F,A0U]
  obtain ⟨e1,e2,e3,e4⟩:=B6c (E:=E) hv.1 h0 hok;have hk1:1<=d.kind:=by
   have:=hv.1;unfold A1q at this;simp only [A0D,A0G] at this;omega
  obtain ⟨l',s',q1,q2,q3,q4⟩:=A6k l (acc++[(Q7 L E (d.kind-1) s).1]) (Q7 L E (d.kind-1) s).2 post hv.2 (by simp only [A0C,A0B,A0F] at hl ⊢;omega) hp (by rw [e3];exact G5 h0) e4;refine ⟨(Q7 L E (d.kind-1) s).1 :: l',s',by rw [A0N,A0N,e2,q1],?_,q3,q4⟩;rw [A0U] at q2;refine q2.ext fun f hf=>?_;rw [J9];dsimp only;rw [e1,if_neg (by omega),A5v (by simp only [A0B] at hl;omega),if_pos hok];exact hf
theorem hdp {h:Hd} {b:List St} (hb:St.plains b=St.plains h.body) {k:Int} {n:List UInt8} {p:Int} (hk:k=h.trig) (hn:n=h.name):Hd.plain ⟨k,n,b,p⟩=h.plain:=by
 unfold Hd.plain;dsimp only;rw [hb,hk,hn]
theorem A6v:∀ (l acc:List Hd) (s:Rd) (post:List Tok),l.all X9=true->acc.length+l.length<=32->L.drop s.i=l.flatMap hdT++([A5 [125]]++post)->okR s=true ->
  ∃ l' s',l'.map Hd.plain=l.map Hd.plain/\Evt (fun f=>K5 L E f acc s) (acc++l',s')/\L.drop s'.i=post/\okR s'=true
 | [],acc,s,post,hv,hl,h,hok=>by
  have h:L.drop s.i=A5 [125] :: post:=h;have hi:isR L E s [125]=true:=by rw [A5c hok,C7 h,w125.1];rfl
  refine ⟨[],A6 s,rfl,Evt.one fun f=>?_,E7 h,hok⟩;rw [K5,if_neg (by rw [hi];simp),U6 h hok w125.1,A1M]
 | x :: l,acc,s,post,hv,hl,h,hok=>by
  simp only [A2N,A0D] at hv;have hx:=hv.1;unfold X9 at hx;simp only [A0D,A0G] at hx;obtain ⟨⟨⟨t1,t6⟩,hn⟩,hb⟩:=hx;obtain ⟨j,hj⟩:∃ j:Nat,x.trig=1+(j:Int):=⟨(x.trig-1).toNat,by omega⟩;have hj6:j<6:=by omega
  have hjn:(x.trig-1).toNat=j:=by omega
  have h0:L.drop s.i=A5 [111,110] :: (A5 (C8.getD j []) :: ((if 2<x.trig then D1 x.name else [])++(blT x.body++(l.flatMap hdT++([A5 [125]]++post))))):=by
   rw [h,A1F];unfold hdT;rw [hjn];simp
  have hpk:=C7 (E:=E) h0;have hi:isR L E s [125]=false:=by rw [A5c hok,hpk,won.1,A1J];simpa using won.2
  have hon:isR L E s [111,110]=true:=by rw [A5c hok,hpk,won.1];rfl
  have he:=U6 (E:=E) h0 hok won.1;have h1:=E7 h0;have h1:L.drop (A6 s).i=_:=h1;have ham:B6 L E (A6 s) C8=(j:Int):=by rw [X6 (show okR (A6 s)=true from hok),C7 h1];exact D7z j hj6
  have h2:=E7 h1;have h2:L.drop (A6 (A6 s)).i=_:=h2;have key:∃ s4,s4=(if 2<=(j:Int) then (B1 L E (A6 (A6 s)) 1).2 else A6 (A6 s))/\okR s4=true/\(if 2<=(j:Int) then (B1 L E (A6 (A6 s)) 1).1.text else [])=x.name/\L.drop s4.i=blT x.body++(l.flatMap hdT++([A5 [125]]++post)):=by
   refine ⟨_,rfl,?_⟩;by_cases h2j:2<=(j:Int)
   ·rw [if_pos h2j,if_pos h2j];rw [if_pos (by omega)] at hn h2;rw [A5m (E:=E) h2 hok hn];exact ⟨hok,rfl,A0t (s:=A6 (A6 s)) h2 (D8 _)⟩
   ·rw [if_neg h2j,if_neg h2j];rw [if_neg (by omega)] at hn h2;exact ⟨hok,by have:x.name=[]:=(by simpa using hn);rw [this],h2⟩
  obtain ⟨s4,k1,k2,k3,k4⟩:=key;obtain ⟨b',s5,b1,b2,b3,b4⟩:=B6f (L:=L) (E:=E) (d:=1) hb k4 k2;obtain ⟨l',s',q1,q2,q3,q4⟩:=A6v l (acc++[⟨1+(j:Int),x.name,b',(A4 L E s).pos⟩]) s5 post hv.2 (by simp only [A0C,A0B,A0F] at hl ⊢;omega) (by rw [b3];exact G5 k4) b4;refine ⟨⟨1+(j:Int),x.name,b',(A4 L E s).pos⟩ :: l',s',by rw [A0N,A0N,hdp b1 hj.symm rfl,q1],?_,q3,q4⟩;rw [A0U] at q2;refine Evt.ext2 b2 q2 fun f hf hf2=>?_;rw [K5,if_pos ⟨hok,hi⟩,if_neg (by rw [hon];decide)];dsimp only;rw [A5v (by simp only [A0B] at hl;omega),he,ham,if_neg (by omega), <- k1,k3];rw [show ((1:Nat):Int)=1 from rfl] at hf;rw [hf];exact hf2
theorem B5n {m:Md} (hv:S7 m=true) {s:Rd} {post:List Tok} (h:L.drop s.i=mdT m++post) (hok:okR s=true) :
  isR L E s [109,111,100,101]=true/\∃ m' s',m'.plain=m.plain/\Evt (fun f=>A0l L E f s) (m',s')/\L.drop s'.i=post/\okR s'=true:=by
 unfold S7 at hv;simp only [A0D,A0G] at hv;obtain ⟨⟨⟨⟨hn,p0⟩,p1⟩,hl⟩,hh⟩:=hv;have h0:L.drop s.i=A5 [109,111,100,101] :: (D1 m.name++(X2 m.prio++(A5 [123] :: (m.hds.flatMap hdT++([A5 [125]]++post))))):=by
  rw [h];unfold mdT;simp
 have hpk:=C7 (E:=E) h0;have he:=U6 (E:=E) h0 hok C6h.1;have h1:L.drop (A6 s).i=_:=E7 h0;have htk:=A5m (E:=E) h1 hok hn;have h2:L.drop (A6 (A6 s)).i=_:=A0t (s:=A6 s) h1 (D8 _);have htk2:=B4k (E:=E) h2 hok p0 p1;have h3:L.drop (A6 (A6 (A6 s))).i=_:=A0t (s:=A6 (A6 s)) h2 (P4 _);have he3:=U6 (E:=E) h3 hok w123.1;have h4:L.drop (A6 (A6 (A6 (A6 s)))).i=_:=E7 h3;obtain ⟨l',s',q1,q2,q3,q4⟩:=A6v (L:=L) (E:=E) m.hds [] _ post hh (by simp only [A0F];omega) h4 hok;refine ⟨by rw [A5c hok,hpk,C6h.1];rfl,⟨m.name,m.prio,l',(A4 L E s).pos⟩,s',?_,q2.map fun f hf=>?_,q3,q4⟩
 ·unfold Md.plain;dsimp only;rw [q1]
 ·unfold A0l;dsimp only;rw [he,htk];dsimp only;rw [htk2];dsimp only;rw [he3,hf];rfl
theorem A6j:∀ (l acc:List Md) (s:Rd),l.all S7=true->acc.length+l.length<=16->L.drop s.i=l.flatMap mdT->okR s=true ->
  ∃ l' s',l'.map Md.plain=l.map Md.plain/\Evt (fun f=>I9 L E f acc s) (acc++l',s')/\okR s'=true
 | [],acc,s,hv,hl,h,hok=>by
  have hi:¬ s.i<L.length:=fun hlt=>by
   have:=List.drop_eq_nil_iff.1 (show L.drop s.i=[] from h);omega
  refine ⟨[],s,rfl,Evt.one fun f=>?_,hok⟩;rw [I9,if_neg (fun h=>hi h.2),A1M]
 | m :: l,acc,s,hv,hl,h,hok=>by
  simp only [A2N,A0D] at hv;have h0:L.drop s.i=mdT m++l.flatMap mdT:=by rw [h,A1F]
  obtain ⟨hm,m',s1,e1,e2,e3,e4⟩:=B5n (E:=E) hv.1 h0 hok;obtain ⟨l',s',q1,q2,q4⟩:=A6j l (acc++[m']) s1 hv.2 (by simp only [A0C,A0B,A0F] at hl ⊢;omega) e3 e4;refine ⟨m' :: l',s',by rw [A0N,A0N,e1,q1],?_,q4⟩;rw [A0U] at q2;refine Evt.ext2 e2 q2 fun f hf hf2=>?_;rw [I9,if_pos ⟨hok,(A1g hm).2⟩,if_neg (by rw [hm];decide)];dsimp only;rw [A5v (by simp only [A0B] at hl;omega),if_pos hok,hf];exact hf2
end
theorem C3u {h:Hd} (hv:X9 h=true):A7a h=false:=by
 unfold X9 at hv;simp only [A0D,A0G] at hv;unfold A7a;simp only [A4I,A2G];omega
theorem B7n {r:Ru} (hv:A1x r=true) (E:Int):okR (A0y (ruT r) E).2=true/\(A0y (ruT r) E).1.plain=r.plain:=by
 unfold A1x at hv;simp only [A0D,A0G] at hv;obtain ⟨⟨⟨h1,h2⟩,h3⟩,h4⟩:=hv;have hbad:(r.modes.any fun m=>m.hds.any A7a)=false:=by
  rw [A3Y];intro m hm;have:=A0Q.1 h4 m hm;unfold S7 at this;simp only [A0D] at this;rw [Bool.not_eq_true,A3Y];intro h hh;rw [C3u (A0Q.1 this.2 h hh)];decide
 have hT:ruT r=r.decls.flatMap dcT++r.modes.flatMap mdT:=by unfold ruT;rw [if_neg (by rw [hbad];decide)]
 have hp:amT (hd0 E (r.modes.flatMap mdT)) C3<0:=by
  cases hm:r.modes with
  | nil=>exact (by decide:(-1:Int)<0)
  | cons m l =>
   have:hd0 E ((m :: l).flatMap mdT)=A5 [109,111,100,101]:=by rw [A1F];unfold mdT;rfl
   rw [this,C6h.2];decide
 obtain ⟨ld,s1,a1,a2,a3,a4⟩:=A6k (L:=ruT r) (E:=E) r.decls [] rd0 (r.modes.flatMap mdT) h3 (by simpa using h1) hp (by rw [hT];rfl) rfl;obtain ⟨lm,s2,b1,b2,b4⟩:=A6j (L:=ruT r) (E:=E) r.modes [] s1 h4 (by simpa using h2) a3 a4;have hr:Evt (fun f=>Y8 (ruT r) E f rd0) (⟨ld,lm⟩,s2):=a2.map2 b2 fun f h1 h2=>by
  unfold Y8;rw [h1];dsimp only;rw [h2];rfl
 rw [(A2s (ruT r) E).uniq hr];refine ⟨b4,?_⟩;unfold Ru.plain;dsimp only;rw [a1,b1]
mutual
theorem B3h:∀ e:Ex,msM e.plain=msM e
 | .mk k v n a p=>by
  rw [Ex.plain,msM,msM,B3i k 0 a,Ex.plains_map,A0I]
theorem B3i:∀ (k:Int) (i:Nat) (l:List Ex),msL k i (Ex.plains l)=msL k i l
 | k,i,[]=>rfl
 | k,i,e :: l=>by
  have hk:e.plain.kind=e.kind:=by cases e;rfl
  rw [Ex.plains,msL,msL,B3h e,B3i k (i+1) l,hk]
end
theorem B9m (e:Ex):V1 e.plain=V1 e:=by unfold V1;rw [B3h]
theorem A5s {l:List St}:(St.plains l).isEmpty=l.isEmpty:=by cases l<;>rfl
theorem A0f (l:List St):(St.plains l).length=l.length:=by rw [St.plains_map,A0I]
mutual
theorem B9j:∀ (d:Nat) (s:St),R2 d s.plain=R2 d s
 | d,.mk k n t a x y p=>by
  have ha:(Ex.plains a).all V1=a.all V1:=by
   rw [Ex.plains_map,List.all_map]
   congr 1
   funext e
   exact B9m e
  rw [St.plain,R2,R2,A1b (d+1) x,A1b (d+1) y,ha,Ex.plains_map,A0I,A5s,A5s,A0f,A0f]
theorem A1b:∀ (d:Nat) (l:List St),J5 d (St.plains l)=J5 d l
 | d,[]=>rfl
 | d,s :: l=>by rw [St.plains,J5,J5,B9j d s,A1b d l]
end
theorem B9l (h:Hd):X9 h.plain=X9 h:=by
 unfold X9 Hd.plain O8;dsimp only;rw [A1b,A0f,A5s]
theorem B9k (m:Md):S7 m.plain=S7 m:=by
 unfold S7 Md.plain;dsimp only;rw [A0I,List.all_map]
 congr 2
 funext h
 exact B9l h
theorem A9z (r:Ru):A1x r.plain=A1x r:=by
 unfold A1x Ru.plain;dsimp only;rw [A0I,A0I,List.all_map,List.all_map]
 congr 2
 funext m
 exact B9k m
end Go.Pb
namespace Go.Pb
variable [Go.Sym.Tab]
open Go.Sym
mutual
theorem D6t:∀ (e:Ex) (o d:Nat),msM e=some (o,d)->o<=e.sz/\d+1<=2 * e.sz
 | .mk k v n a p,o,d,h=>by
  have hs:(Ex.mk k v n a p).sz=1+n.length+Ex.szs a:=by rw [Ex.sz]
  obtain ⟨h1,h2,h3,h4,h5,h6⟩:=B5l h;by_cases hc:I0 k=0
  ·obtain ⟨rfl,rfl⟩:=h5 hc;omega
  ·obtain ⟨d',hl,hd⟩:=h6 hc;have:=C0v k 0 a o d' hl;rw [hd];split<;>omega
theorem C0v:∀ (k:Int) (i:Nat) (l:List Ex) (o d:Nat),msL k i l=some (o,d)->o<=Ex.szs l/\d<=2 * Ex.szs l
 | k,i,[],o,d,h=>by simp [msL] at h;omega
 | k,i,e :: l,o,d,h=>by
  rw [msL] at h;have hs:Ex.szs (e :: l)=e.sz+Ex.szs l:=by rw [Ex.szs]
  have hp:=e.sz_pos;cases he:msM e with
  | none=>rw [he] at h;cases h
  | some q =>
   obtain ⟨o1,d1⟩:=q;have h1:=D6t e o1 d1 he;rw [he] at h;dsimp only at h;cases hl:msL k (i+1) l with
   | none=>rw [hl] at h;cases h
   | some q2 =>
    obtain ⟨o2,d2⟩:=q2;have h2:=C0v k (i+1) l o2 d2 hl;rw [hl] at h;dsimp only at h;have h3:=Option.some.inj h;have h4:o1+o2=o:=congrArg Prod.fst h3;have h5:max (if R1 k e.kind i=true then d1+1 else d1) d2=d:=congrArg Prod.snd h3;rw [hs];split at h5<;>omega
end
def msV:Option (Nat × Nat)->DV
 | none=>.tup [I64 0,I64 0,.bool false]
 | some (o,d)=>.tup [I64 o,I64 d,.bool true]
theorem E0e (q:Option (Nat × Nat)):(msV q).nl=true:=by cases q<;>rfl
theorem C9i {k:Int} {a:List Ex} {i:Nat} {x:Ex} (h:a[i]? = some x):msL k i (a.drop i)=match msM x with
  | none=>none
  | some (o,d)=>match msL k (i+1) (a.drop (i+1)) with
   | none=>none
   | some (o2,d2)=>some (o+o2,max (if R1 k x.kind i=true then d+1 else d) d2):=by
 have hlt:=(A0V.1 h).1;rw [A1V hlt,(A0V.1 h).2,msL];try rfl
end Go.Pb
end
