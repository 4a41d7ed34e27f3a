/-
  HELPERS of the claim: part 8 of its texts.
-/
import Derived.Test.YthlpinppaclofaaGreatDoorSyfg
import Derived.Shelf.LaysC
import Derived.Shelf.Strconv.ParseIntPublic10
import Derived.Test.YthlpinppaclofaaGreatDoorProg
import Derived.KernelRfl
import Derived.Lib.Join
noncomputable section
set_option linter.unusedVariables false
namespace Go.Proofs
open Go.Shelf
def Tryz.laysC174_ren:Go.Shelf.Ren:=⟨fun | 174=>194 | 247=>207 | 245=>208 | 287=>216 | 279=>217 | 280=>218 | 281=>219 | 282=>220 | 321=>223 | 322=>224 | 316=>225 | 171=>57 | 205=>226 | 243=>101 | 246=>152 | 283=>184 | 284=>185 | 285=>186 | 286=>187 | 129=>202 | 317=>201 | 318=>203 | 319=>204 | 320=>205 | 337=>212 | 338=>213|n=>n,fun | 9=>9 | 3=>3 | 2=>2 | 75=>138 | 85=>195 | 4=>4 | 167=>223 | 5=>5 | 53=>184 | 175=>224 | 46=>203 | 168=>226 | 37=>22 | 0=>0 | 210=>235 | 21=>21 | 127=>170 | 145=>239 | 143=>237 | 171=>183 | 173=>187 | 212=>200 | 51=>201 | 20=>20 | 213=>202 | 232=>229 | 233=>230 | 80=>29|n=>n,fun | 15=>6 | 16=>7 | 17=>1 | 18=>4 | 19=>5|n=>n⟩
theorem Tryz.laysC174:Go.Proofs.LaysC.n174 Tryz.prog Tryz.laysC174_ren:={
 mixed:=by kernel_rfl
 f129:=Tryz.func202.trans (congrArg some (by kernel_rfl))
 f171:=Tryz.func57.trans (congrArg some (by kernel_rfl))
 f174:=Tryz.func194.trans (congrArg some (by kernel_rfl))
 f205:=Tryz.func226.trans (congrArg some (by kernel_rfl))
 f243:=Tryz.func101.trans (congrArg some (by kernel_rfl))
 f245:=Tryz.func208.trans (congrArg some (by kernel_rfl))
 f246:=Tryz.func152.trans (congrArg some (by kernel_rfl))
 f247:=Tryz.func207.trans (congrArg some (by kernel_rfl))
 f279:=Tryz.func217.trans (congrArg some (by kernel_rfl))
 f280:=Tryz.func218.trans (congrArg some (by kernel_rfl))
 f281:=Tryz.func219.trans (congrArg some (by kernel_rfl))
 f282:=Tryz.func220.trans (congrArg some (by kernel_rfl))
 f283:=Tryz.func184.trans (congrArg some (by kernel_rfl))
 f284:=Tryz.func185.trans (congrArg some (by kernel_rfl))
 f285:=Tryz.func186.trans (congrArg some (by kernel_rfl))
 f286:=Tryz.func187.trans (congrArg some (by kernel_rfl))
 f287:=Tryz.func216.trans (congrArg some (by kernel_rfl))
 f316:=Tryz.func225.trans (congrArg some (by kernel_rfl))
 f317:=Tryz.func201.trans (congrArg some (by kernel_rfl))
 f318:=Tryz.func203.trans (congrArg some (by kernel_rfl))
 f319:=Tryz.func204.trans (congrArg some (by kernel_rfl))
 f320:=Tryz.func205.trans (congrArg some (by kernel_rfl))
 f321:=Tryz.func223.trans (congrArg some (by kernel_rfl))
 f322:=Tryz.func224.trans (congrArg some (by kernel_rfl))
 f337:=Tryz.func212.trans (congrArg some (by kernel_rfl))
 f338:=Tryz.func213.trans (congrArg some (by kernel_rfl))
 t0:=Tryz.underlying0
 a0:=Tryz.isAgg0
 z0:=Tryz.sizeOf0
 v0:=Tryz.zeroValue0
 t2:=Tryz.underlying2
 a2:=Tryz.isAgg2
 z2:=Tryz.sizeOf2
 v2:=Tryz.zeroValue2
 t3:=Tryz.underlying3
 a3:=Tryz.isAgg3
 z3:=Tryz.sizeOf3
 v3:=Tryz.zeroValue3
 t4:=Tryz.underlying4
 a4:=Tryz.isAgg4
 z4:=Tryz.sizeOf4
 v4:=Tryz.zeroValue4
 t5:=Tryz.underlying5
 a5:=Tryz.isAgg5
 z5:=Tryz.sizeOf5
 v5:=Tryz.zeroValue5
 t9:=Tryz.underlying9
 a9:=Tryz.isAgg9
 z9:=Tryz.sizeOf9
 v9:=Tryz.zeroValue9
 t20:=Tryz.underlying20
 a20:=Tryz.isAgg20
 z20:=Tryz.sizeOf20
 v20:=Tryz.zeroValue20
 t21:=Tryz.underlying21
 a21:=Tryz.isAgg21
 z21:=Tryz.sizeOf21
 v21:=Tryz.zeroValue21
 t37:=Tryz.underlying22
 a37:=Tryz.isAgg22
 z37:=Tryz.sizeOf22
 v37:=Tryz.zeroValue22
 t46:=Tryz.underlying203
 a46:=Tryz.isAgg203
 z46:=Tryz.sizeOf203
 v46:=Tryz.zeroValue203
 t51:=Tryz.underlying201
 a51:=Tryz.isAgg201
 z51:=Tryz.sizeOf201
 v51:=Tryz.zeroValue201
 t53:=Tryz.underlying184
 a53:=Tryz.isAgg184
 z53:=Tryz.sizeOf184
 v53:=Tryz.zeroValue184
 t75:=Tryz.underlying138
 a75:=Tryz.isAgg138
 z75:=Tryz.sizeOf138
 v75:=Tryz.zeroValue138
 t85:=Tryz.underlying195
 a85:=Tryz.isAgg195
 z85:=Tryz.sizeOf195
 v85:=Tryz.zeroValue195
 t127:=Tryz.underlying170
 a127:=Tryz.isAgg170
 z127:=Tryz.sizeOf170
 v127:=Tryz.zeroValue170
 t143:=Tryz.underlying237
 a143:=Tryz.isAgg237
 z143:=Tryz.sizeOf237
 v143:=Tryz.zeroValue237
 t145:=Tryz.underlying239
 a145:=Tryz.isAgg239
 z145:=Tryz.sizeOf239
 v145:=Tryz.zeroValue239
 t167:=Tryz.underlying223
 a167:=Tryz.isAgg223
 z167:=Tryz.sizeOf223
 v167:=Tryz.zeroValue223
 t168:=Tryz.underlying226
 a168:=Tryz.isAgg226
 z168:=Tryz.sizeOf226
 v168:=Tryz.zeroValue226
 t171:=Tryz.underlying183
 a171:=Tryz.isAgg183
 z171:=Tryz.sizeOf183
 v171:=Tryz.zeroValue183
 t173:=Tryz.underlying187
 a173:=Tryz.isAgg187
 z173:=Tryz.sizeOf187
 v173:=Tryz.zeroValue187
 t175:=Tryz.underlying224
 a175:=Tryz.isAgg224
 z175:=Tryz.sizeOf224
 v175:=Tryz.zeroValue224
 t210:=Tryz.underlying235
 a210:=Tryz.isAgg235
 z210:=Tryz.sizeOf235
 v210:=Tryz.zeroValue235
 t212:=Tryz.underlying200
 a212:=Tryz.isAgg200
 z212:=Tryz.sizeOf200
 v212:=Tryz.zeroValue200
 t213:=Tryz.underlying202
 a213:=Tryz.isAgg202
 z213:=Tryz.sizeOf202
 t232:=Tryz.underlying229
 a232:=Tryz.isAgg229
 z232:=Tryz.sizeOf229
 v232:=Tryz.zeroValue229
 t233:=Tryz.underlying230
 a233:=Tryz.isAgg230
 z233:=Tryz.sizeOf230
 v233:=Tryz.zeroValue230
 g15:=by kernel_rfl
 g16:=by kernel_rfl
 g17:=by kernel_rfl
 g18:=by kernel_rfl
 g19:=by kernel_rfl
 t80:=Tryz.underlying29
 a80:=Tryz.isAgg29
 z80:=Tryz.sizeOf29
 v80:=Tryz.zeroValue29
 i0:=by kernel_rfl
 i2:=by kernel_rfl
 i3:=by kernel_rfl
 i4:=by kernel_rfl
 i5:=by kernel_rfl
 i9:=by kernel_rfl
 i20:=by kernel_rfl
 i21:=by kernel_rfl
 i37:=by kernel_rfl
 i46:=by kernel_rfl
 i51:=by kernel_rfl
 i53:=by kernel_rfl
 i75:=by kernel_rfl
 i80:=by kernel_rfl
 i85:=by kernel_rfl
 i127:=by kernel_rfl
 i143:=by kernel_rfl
 i145:=by kernel_rfl
 i167:=by kernel_rfl
 i168:=by kernel_rfl
 i171:=by kernel_rfl
 i173:=by kernel_rfl
 i175:=by kernel_rfl
 i210:=by kernel_rfl
 i212:=by kernel_rfl
 i232:=by kernel_rfl
 i233:=by kernel_rfl
 m15:=by kernel_rfl
 m16:=by kernel_rfl
 m17:=by kernel_rfl
 m18:=by kernel_rfl
 m19:=by kernel_rfl
 c0:=by kernel_rfl
 c2:=by kernel_rfl
 c3:=by kernel_rfl
 c4:=by kernel_rfl
 c5:=by kernel_rfl
 c9:=by kernel_rfl
 c20:=by kernel_rfl
 c21:=by kernel_rfl
 c37:=by kernel_rfl
 c46:=by kernel_rfl
 c51:=by kernel_rfl
 c53:=by kernel_rfl
 c75:=by kernel_rfl
 c80:=by kernel_rfl
 c85:=by kernel_rfl
 c127:=by kernel_rfl
 c143:=by kernel_rfl
 c145:=by kernel_rfl
 c167:=by kernel_rfl
 c168:=by kernel_rfl
 c171:=by kernel_rfl
 c173:=by kernel_rfl
 c175:=by kernel_rfl
 c210:=by kernel_rfl
 c212:=by kernel_rfl
 c213:=by kernel_rfl
 c232:=by kernel_rfl
 c233:=by kernel_rfl }
open Go.RowKit in
theorem Tryz.strconv_ParseInt_10_at64_ok (s:ByteArray) (hmax:s.size<=9223372036854775806) (v:Int) (h:Lib.parseIntB 64 s.data.toList=.ok v) (w:World) :
  Calls Tryz.prog 194 #[.string s,.int .i64 10,.int .i64 64] w fun e w'=>e=.returned (.tuple #[.int .i64 v,.nilIface])/\(w'=w\/∃ t,w'=Lib.bytesWorld w 5 t):=Any.strconv_ParseInt_10_at64_ok Tryz.laysC174 s hmax v h w
open Go.RowKit in
theorem Tryz.strconv_ParseInt_10_at64_range (s:ByteArray) (hlim:s.size<=281474976710656) (h:Lib.parseIntB 64 s.data.toList=.range) (ev:Value) (w:World) (hv:w.cell? ⟨7,0,none⟩=some ev) (hev:ev=.nilIface\/∃ te pe,ev=.iface te pe) :
  Calls Tryz.prog 194 #[.string s,.int .i64 10,.int .i64 64] w fun e w' => ∃ N,e=.returned (.tuple #[.int .i64 (Lib.intSat 64 s.data.toList),.iface 226 (.pointer (some ⟨N,0,none⟩))])/\w.heap.size<=N/\w'.heap[N]? = some (.cells #[.string ⟨#[80,97,114,115,101,73,110,116]⟩,.string s,ev] 235 (0,0))/\Below w.heap.size w w':=Any.strconv_ParseInt_10_at64_range Tryz.laysC174 s hlim h ev w hv hev
end Go.Proofs
set_option maxHeartbeats 4000000
set_option maxRecDepth 100000
set_option linter.unusedSimpArgs false
namespace Go.Proofs.YthlpinppaclofaaGreatDoor
open Go.Eng (IC IOper DReg IFn C2 I8)
open Go.Sym Go.Pb Go.RowKit
theorem C3d:∀ (m u:Nat),u<m->Lib.decDigits u=A6y u:=by
 intro m
 induction m with
 | zero=>intro u h;omega
 | succ m ih =>
  intro u h;unfold Lib.decDigits;by_cases h0:u<10
  ·rw [dif_pos h0,A3m h0];rfl
  ·rw [dif_neg h0,A5k h0,ih (u / 10) (by omega)];rfl
theorem C6a (n:Int):Lib.itoa n=M0 n:=by
 unfold Lib.itoa M0;by_cases h:n<0
 ·rw [if_pos h,if_pos h,C3d (n.natAbs+1) _ (by omega)]
 ·rw [if_neg h,if_neg h,C3d (n.toNat+1) _ (by omega)]
  congr 1;omega
theorem arg1 {ρ : Ren} {x:DV} {u:Value} {vs:Array Value} (hA:G3 ρ [x] vs) (h:∀ y,VRel ρ x y->y=u):vs = #[u]:=by
 obtain ⟨y,h1,h2⟩:=hA.get (i:=0) rfl;have hs:vs.size=1:=hA.1.symm;obtain rfl:=h y h2;cases vs with|mk l=>match l,hs,h1 with
  | [a],_,h1=>simp at h1;subst h1;rfl
theorem c_Itoa (n:Int) (h0 : -9223372036854775808<=n) (h1:n<=9223372036854775807):PC Tryz.prog 57 [I64 n] (.str (M0 n)):=by
 refine PC.of_calls (by kernel_rfl) rfl rfl fun ρ w vs hf hA=>?_;have hvs:vs = #[.int .i64 n]:=arg1 hA fun y h=>h.int_inv;rw [hvs];obtain ⟨r,hr,rfl⟩ := ρ.tab _ (A0K);obtain ⟨e,fr,hb⟩:=hf _ _ hr;have ht : Lib.TabIs Tryz.prog w "internal/strconv.uint64pow10" .u64 Lib.pow10Tab := by
  unfold Lib.TabIs World.var?;rw [Tryz.laysM171.m17];show (match w.heap[1]? with|some (.cells cs _ _)=>some cs|_=>none)=_;rw [hb]
 refine (Tryz.strconv_Itoa n h0 h1 w ht).mono ?_;rintro e w' ⟨rfl,k,os,rfl⟩;exact ⟨_,rfl,fun ρ'=>by rw [C6a];exact .mkStr,⟨rfl,rfl,rfl,by show w.heap.size<=(w.heap++os).size;rw [A3X];omega,fun j hj=>by
  show (w.heap++os)[j]? = w.heap[j]?;rw [Array.getElem?_append,if_pos hj]⟩⟩
theorem D9i {ρ : Ren} {x x2:DV} {u u2:Value} {vs:Array Value} (hA:G3 ρ [x,x2] vs) (h:∀ y,VRel ρ x y->y=u) (h2:∀ y,VRel ρ x2 y->y=u2):vs = #[u,u2]:=by
 obtain ⟨y,g1,g2⟩:=hA.get (i:=0) rfl;obtain ⟨z,g3,g4⟩:=hA.get (i:=1) rfl;obtain rfl:=h y g2;obtain rfl:=h2 z g4;have hs:vs.size=2:=hA.1.symm;cases vs with|mk r=>match r,hs,g1,g3 with
  | [a,b],_,h1,h3=>simp at h1 h3;subst h1 h3;rfl
theorem D6j {ρ : Ren} {x x2 x3:DV} {u u2 u3:Value} {vs:Array Value} (hA:G3 ρ [x,x2,x3] vs) (h:∀ y,VRel ρ x y->y=u) (h2:∀ y,VRel ρ x2 y->y=u2) (h3:∀ y,VRel ρ x3 y->y=u3):vs = #[u,u2,u3]:=by
 obtain ⟨y,g1,g2⟩:=hA.get (i:=0) rfl;obtain ⟨z,g3,g4⟩:=hA.get (i:=1) rfl;obtain ⟨q,g5,g6⟩:=hA.get (i:=2) rfl;obtain rfl:=h y g2;obtain rfl:=h2 z g4;obtain rfl:=h3 q g6;have hs:vs.size=3:=hA.1.symm;cases vs with|mk r=>match r,hs,g1,g3,g5 with
  | [a,b,c],_,h1,h3,h5=>simp at h1 h3 h5;subst h1 h3 h5;rfl
theorem c_IndexByte (s:List UInt8) (c:UInt8):PC Tryz.prog 195 [.str s,.int .u8 c.toNat] (I64 (Lib.indexByte s c)):=by
 refine PC.of_calls (by kernel_rfl) rfl rfl fun ρ w vs hf hA=>?_;rw [D9i hA (fun y h=>h.str_inv) (fun y h=>h.int_inv)];refine (Tryz.strings_IndexByte _ _ w).mono ?_;rintro e w' ⟨rfl,rfl⟩;refine ⟨_,rfl,fun ρ'=>?_,Below.refl _ _⟩;have:((c.toNat:Int).toNat.toUInt8)=c:=by rw [A3C];exact UInt8.ofNat_toNat
 rw [this];exact .int _ _
theorem c_ParseOk (s:List UInt8) (hs:s.length<=281474976710656) (h:∀ c∈s,dgB c=true) (h0:s≠[]) (hv:A2q s<=9223372036854775807):PC Tryz.prog 194 [.str s,I64 10,I64 64] (.tup [I64 (A2q s),.inil]):=by
 refine PC.of_calls (by kernel_rfl) rfl rfl fun ρ w vs hf hA=>?_;rw [D6j hA (fun y h=>h.str_inv) (fun y h=>h.int_inv) (fun y h=>h.int_inv)];refine (Tryz.strconv_ParseInt_10_at64_ok _ (by show s.toArray.size<=_;rw [A2J];omega) (A2q s:Int) (by have:=pib h h0;rw [if_pos hv] at this;exact this) w).mono ?_;rintro e w' ⟨rfl,hw⟩;refine ⟨_,rfl,fun ρ'=>.tup _ _ rfl (fun i x y hx hy=>?_),?_⟩
 ·match i with
  | 0=>simp at hx hy;subst hx hy;exact .int _ _
  | 1=>simp at hx hy;subst hx hy;exact .inil
  | _+2=>simp at hx
 ·rcases hw with rfl|⟨t,rfl⟩
  ·exact Below.refl _ _
  ·exact ⟨rfl,rfl,rfl,by rw [Lib.bytesWorld_size];omega,fun j hj=>Lib.bytesWorld_at_old _ _ _ _ hj⟩
theorem c_ParseBig (s:List UInt8) (hs:s.length<=281474976710656) (h:∀ c∈s,dgB c=true) (h0:s≠[]) (hv:9223372036854775807<A2q s):PC Tryz.prog 194 [.str s,I64 10,I64 64] (.tup [.bot,.iface 226 .bot]):=by
 refine PC.of_calls (by kernel_rfl) rfl rfl fun ρ w vs hf hA=>?_;rw [D6j hA (fun y h=>h.str_inv) (fun y h=>h.int_inv) (fun y h=>h.int_inv)];obtain ⟨r,hr,te,pe,rfl⟩ := ρ.tab _ (A0J _ (A0J _ A0K));obtain ⟨e,fr,hb⟩:=hf _ _ hr;refine (Tryz.strconv_ParseInt_10_at64_range _ (by show s.toArray.size<=_;rw [A2J];omega) (by have:=pib h h0;rw [if_neg (by omega)] at this;exact this) (.iface te pe) w ?_ (.inr ⟨te,pe,rfl⟩)).mono ?_
 ·simp only [World.cell?];have hb':w.heap[7]? = _:=hb;rw [hb'];rfl
 ·rintro e w' ⟨N,rfl, -, -,hB⟩;refine ⟨_,rfl,fun ρ'=>.tup _ _ rfl (fun i x y hx hy=>?_),hB⟩
  match i with
  | 0=>simp at hx hy;subst hx hy;exact .bot _
  | 1=>simp at hx hy;subst hx hy;exact .iface _ _ _ (.bot _)
  | _+2=>simp at hx
def C3p:List UInt8:=w8 [115,119,105,116,99,104,32,99,111,105,108,32,108,97,109,112,32,115,111,117,110,100,32,115,104,111,119,32,118,97,114,32,116,105,109,101,114,32,101,118,101,110,116,32,109,111,100,101,32,111,110,32,115,116,97,114,116,32,115,116,111,112,32,99,108,111,115,101,32,111,112,101,110,32,105,102,32,101,108,115,101,32,114,101,112,101,97,116,32,115,99,111,114,101,32,102,105,114,101,32,104,111,108,100,32,114,101,108,101,97,115,101,32,108,105,103,104,116,32,98,108,105,110,107,32,98,101,103,105,110,32,101,110,100,32,112,111,115,116,32,112,108,97,121,32,114,117,110,32,104,97,108,116,32,116,101,120,116,32,99,111,110,115,117,109,101,32,99,108,111,115,101,100,32,97,99,116,105,118,101,32,108,101,102,116,32,112,108,97,121,101,114,32,98,97,108,108,32,116,114,117,101,32,102,97,108,115,101]
theorem C8f:Lib.fields C3p=E9:=by kernel_rfl
theorem C8g:C3p.all (fun b=>decide (b.toNat<128))=true:=by kernel_rfl
theorem c_Fields:PC Tryz.prog 160 [.str C3p] (.lst (E9.map DV.str)):=by
 refine PC.of_callsF (by kernel_rfl) rfl (L8 _) fun ρ w vs hf hA=>?_;rw [arg1 hA (fun y h=>h.str_inv)];obtain ⟨r,hr,rfl⟩ := ρ.tab _ (A0J _ A0K);obtain ⟨e,fr,hb⟩:=hf _ _ hr;have ht : Lib.TabIs Tryz.prog w "strings.asciiSpace" .u8 Lib.asciiSpaceTab := by
  unfold Lib.TabIs World.var?;rw [show Tryz.prog.globalNamed "strings.asciiSpace" = some 0 by kernel_rfl]
  show (match w.heap[0]? with|some (.cells cs _ _)=>some cs|_=>none)=_;have hb':w.heap[0]? = _:=hb;rw [hb']
 refine (Tryz.strings_Fields _ w (by decide) ?_ ht).mono ?_
 ·intro j b hj;have:=A0P.1 C8g b (A0W hj);simpa using this
 ·rintro e w' ⟨rfl,rfl⟩;have hl:Lib.fields (⟨C3p.toArray⟩:ByteArray).data.toList=E9:=C8f;rw [hl];refine ⟨_,w.heap.size,_,9,_,rfl,A0E _,(by show (w.heap.push _)[w.heap.size]? = _;rw [Array.getElem?_push_size]),fun ρ' hρ => VRel.strs hρ rfl (A0E _) (by decide),Below.alloc (Below.refl _ _) (A0E _) _⟩
open Go.Eng (IC IOper DReg IFn C2)
open Go.Sym Go.Pb
theorem c_skip (s:List UInt8) (hs:s.length<=140737488355328):PC Tryz.prog 121 [.str s] (I64 (skM false s)):=by
 refine PC.ofT B1 rfl (A0B rfl) (by simp [DV.nlL,DV.nl]) (by simp [DV.nlL,DV.nl]) ?_;repeat' ((with_reducible first|refine wr ?_|refine A2 ?_ ?_|fail)<;>try simp only [go_sem,seval])
 refine D8 (fun k:Nat=>[(0,.str s),(3,I64 k)]) (fun _=>nil) (fun k _=>k<=s.length/\skM false s=k+skM false (s.drop k)) (fun k=>s.length-k) 0 (by simp [C9,tm,Tm.upd]) (Sub.nil _) (by simp) ?_;rintro k c ⟨hk,he⟩;by_cases hlt:k<s.length
 ·have hd:decide ((k:Int)<s.length)=true:=by simpa using hlt
  have hg:=A0C hlt;have hw:=w64 (n:=(k:Int)+1) (by omega) (by omega);have hsl:=A7y (s:=s) (k:=k) hk;have hcm:=c_spanCm (s.drop k) (by rw [A2C];omega);have hle:=X6 (fun c=>decide (c.toNat≠10)) (s.drop k);rw [A2C] at hle;have hw2:=w64 (n:=(k:Int)+(F2 (fun c=>decide (c.toNat≠10)) (s.drop k):Nat)) (by omega) (by omega);have hsep:A6u s[k]=true->∃ b,DV.int IntKind.i64 ((k:Int)+1)=I64 ((b:Nat):Int)/\Sym.Sub Sym.nil Sym.nil/\B4k (fun k _=>k<=s.length/\skM false s=k+skM false (s.drop k)) b c/\s.length-b<s.length-k :=
   fun h=>⟨k+1,rfl,Sub.refl _,inv ⟨by omega,by rw [he,C8y hg h];omega⟩,by omega⟩
  have hc0:∀ n:Nat,((s[k].toNat:Int) == (n:Int))=true->s[k].toNat=n:=fun n h=>by have:=A1F.1 h;omega
  have hc1:∀ n:Nat,((s[k].toNat:Int) == (n:Int))=false->s[k].toNat≠n:=fun n h h2=>by rw [h2] at h;simp at h
  repeat' ((with_reducible first|refine wr ?_|refine cpc hcm ?_|refine A2 ?_ ?_|refine wb2 ?_ ?_<;>(intro hb;try simp only [hb])|fail)<;>try simp only [go_sem,seval,hd,hg,hw,hsl,hw2])
  ·exact hsep (by simp [A6u,hc0 9 hb])
  ·exact hsep (by simp [A6u,hc0 10 hb])
  ·exact hsep (by simp [A6u,hc0 13 hb])
  ·exact hsep (by simp [A6u,hc0 32 hb])
  ·have h35:=hc0 35 hb;have h1:=C4h hg h35;exact ⟨k+F2 (fun c=>decide (c.toNat≠10)) (s.drop k),by simp,Sub.refl _,inv ⟨by omega,by rw [he,C9a hg h35];omega⟩,by omega⟩
  ·refine B3 ?_;have h9:=hc1 9 (by assumption);have h10:=hc1 10 (by assumption);have h13:=hc1 13 (by assumption);have h32:=hc1 32 (by assumption);have h35:=hc1 35 (by assumption);rw [he,C4g hg (by simp [A6u,h9,h10,h13,h32]) h35];simp
 ·have hd:decide ((k:Int)<s.length)=false:=by simpa using hlt
  repeat' ((with_reducible first|refine wr ?_|refine A2 ?_ ?_|fail)<;>try simp only [go_sem,seval,hd])
  refine B3 ?_;rw [he,C8z (by omega)];simp
theorem D0c (q:Option (List UInt8 × Nat)):(quV q).nl=true:=by cases q<;>rfl
theorem c_quoted (s:List UInt8) (hs:s.length<=10000000):PC Tryz.prog 164 [.str s] (quV (quA [] 1 (quM (s.drop 1)))):=by
 refine PC.ofT B1 rfl (A0B rfl) (by simp [DV.nlL,DV.nl]) (D0c _) ?_;repeat' ((with_reducible first|refine wr ?_|refine A2 ?_ ?_|fail)<;>try simp only [go_sem,seval])
 refine D8 (fun q:Nat × Option Nat × List UInt8=>[(0,.str s),(4,B6 q.2.1 q.2.2.length),(5,I64 q.1)]) (fun q=>C5 Sym.nil q.2.1 ⟨1,true,F4 q.2.2⟩)
  (fun q c=>1<=q.1/\q.2.2.length<=q.1/\q.1<=s.length+1/\(q.2.1=none->q.2.2=[])/\(∀ i,q.2.1=some i->i<c)/\quA [] 1 (quM (s.drop 1))=quA q.2.2 q.1 (quM (s.drop q.1))) (fun q=>s.length+1-q.1) (1,none,[])
  (by simp [C9,tm,Tm.upd,B6]) (Sub.nil _) ⟨by simp,by simp,by simp,fun _=>rfl,(fun i hi=>by cases hi),rfl⟩ ?_
 rintro ⟨k,o,acc⟩ c ⟨h1,hal,hk,hno,ho,he⟩;simp only at h1 hal hk hno ho he;simp only;rw [he];by_cases hlt:k<s.length
 ·have hd:decide ((k:Int)<s.length)=true:=by simpa using hlt
  have hg:=A0C hlt;have hw:IntKind.i64.wrap ((k:Int)+1)=((k+1:Nat):Int):=by rw [w64 (by omega) (by omega)];omega
  have hw2:IntKind.i64.wrap (((k+1:Nat):Int)+1)=((k+2:Nat):Int):=by rw [w64 (by omega) (by omega)];omega
  have hcv:=C0v (H:=C5 Sym.nil o ⟨1,true,F4 acc⟩) (u:=1) hno (fun i hi=>by subst hi;exact A0);have hc0:∀ n:Nat,((s[k].toNat:Int) == (n:Int))=true->s[k].toNat=n:=fun n h=>by have:=A1F.1 h;omega
  have hc1:∀ n:Nat,((s[k].toNat:Int) == (n:Int))=false->s[k].toNat≠n:=fun n h h2=>by rw [h2] at h;simp at h
  by_cases hlt2:k+1<s.length
  ·have hd2:decide (((k+1:Nat):Int)≥s.length)=false:=by simp;omega
   have hg2:=A0C hlt2;have hc2:∀ n:Nat,((s[k+1].toNat:Int) == (n:Int))=true->s[k+1].toNat=n:=fun n h=>by have:=A1F.1 h;omega
   have hc3:∀ n:Nat,((s[k+1].toNat:Int) == (n:Int))=false->s[k+1].toNat≠n:=fun n h h2=>by rw [h2] at h;simp at h
   have ne0:=A2i c (c+1) (by omega);have hap:=B3e (X:=Sym.nil) hno ho (by omega);repeat' ((with_reducible first|refine wr ?_|refine A2 ?_ ?_|refine wb2 ?_ ?_<;>(intro hb;try simp only [hb])|fail)<;>try simp only [go_sem,seval,hd,hg,hw,hcv,hd2,hg2,hw2,ne0,hap])
   ·refine B3 ?_;rw [B3f hg (hc0 34 hb)];rfl
   ·refine B3 ?_;rw [B1j hg (hc1 34 (by assumption)) (.inl (by have:=of_decide_eq_true hb;omega))];rfl
   ·refine B3 ?_;rw [B1j hg (hc1 34 (by assumption)) (.inr (by have:=of_decide_eq_true hb;omega))];rfl
   ·refine B3 ?_;rw [B7i hg (hc0 92 (by assumption)) (fun d hd=>by
     rw [hg2] at hd;cases hd;exact ⟨D2f (b:=34) (by assumption),D2f (b:=92) hb⟩)];rfl
   ·have hq:=C0w (acc:=acc) hg (hc0 92 (by assumption)) hg2 (.inr (D6e (b:=92) hb));exact ⟨(k+2,some (c+1),acc++[s[k+1]]),⟨by simp only [A0A,A0F];rfl,rfl⟩,J5 rfl,inv ⟨by omega,by simp;omega,by simp only;omega,(fun h=>by cases h),(fun i hi=>by cases hi;omega),hq⟩,by simp only;omega⟩
   ·have hq:=C0w (acc:=acc) hg (hc0 92 (by assumption)) hg2 (.inl (D6e (b:=34) hb));exact ⟨(k+2,some (c+1),acc++[s[k+1]]),⟨by simp only [A0A,A0F];rfl,rfl⟩,J5 rfl,inv ⟨by omega,by simp;omega,by simp only;omega,(fun h=>by cases h),(fun i hi=>by cases hi;omega),hq⟩,by simp only;omega⟩
   ·have hq:=B7j (acc:=acc) hg (hc1 34 (by assumption)) (by have:=of_decide_eq_false (by assumption:decide (((s[k].toNat:Int))<32)=false);omega) (by have:=of_decide_eq_false (by assumption:decide (((s[k].toNat:Int))>126)=false);omega) (hc1 92 (by assumption));exact ⟨(k+1,some (c+1),acc++[s[k]]),⟨by simp only [A0A,A0F];rfl,rfl⟩,J5 rfl,inv ⟨by omega,by simp;omega,by simp only;omega,(fun h=>by cases h),(fun i hi=>by cases hi;omega),hq⟩,by simp only;omega⟩
  ·have hd2:decide (((k+1:Nat):Int)≥s.length)=true:=by simp;omega
   have ne0:=A2i c (c+1) (by omega);have hap:=B3e (X:=Sym.nil) hno ho (by omega);repeat' ((with_reducible first|refine wr ?_|refine A2 ?_ ?_|refine wb2 ?_ ?_<;>(intro hb;try simp only [hb])|fail)<;>try simp only [go_sem,seval,hd,hg,hw,hcv,hd2,ne0,hap])
   ·refine B3 ?_;rw [B3f hg (hc0 34 hb)];rfl
   ·refine B3 ?_;rw [B1j hg (hc1 34 (by assumption)) (.inl (by have:=of_decide_eq_true hb;omega))];rfl
   ·refine B3 ?_;rw [B1j hg (hc1 34 (by assumption)) (.inr (by have:=of_decide_eq_true hb;omega))];rfl
   ·refine B3 ?_;rw [B7i hg (hc0 92 (by assumption)) (fun d hd=>by rw [A1R (by omega)] at hd;cases hd)];rfl
   ·have hq:=B7j (acc:=acc) hg (hc1 34 (by assumption)) (by have:=of_decide_eq_false (by assumption:decide (((s[k].toNat:Int))<32)=false);omega) (by have:=of_decide_eq_false (by assumption:decide (((s[k].toNat:Int))>126)=false);omega) (hc1 92 (by assumption));exact ⟨(k+1,some (c+1),acc++[s[k]]),⟨by simp only [A0A,A0F];rfl,rfl⟩,J5 rfl,inv ⟨by omega,by simp;omega,by simp only;omega,(fun h=>by cases h),(fun i hi=>by cases hi;omega),hq⟩,by simp only;omega⟩
 ·have hd:decide ((k:Int)<s.length)=false:=by simpa using hlt
  repeat' ((with_reducible first|refine wr ?_|refine A2 ?_ ?_|fail)<;>try simp only [go_sem,seval,hd])
  refine B3 ?_;rw [D0b (by omega)];rfl
theorem c_sign (s:List UInt8) (hs:s.length<=10000000) (h0:s≠[]):PC Tryz.prog 165 [.str s] (I64 (S2 s)):=by
 refine PC.ofT B1 rfl (A0B rfl) (by simp [DV.nlL,DV.nl]) (by simp [DV.nlL,DV.nl]) ?_;have hix:∀ c,decide (Lib.indexByte [123,125,40,41,59,44,61,43,45,42,47,37,33,60,62] c≥0)=C1o c:=fun c=>D1g c
 match s,h0 with
 | [c],_ =>
  have hi:=c_IndexByte [123,125,40,41,59,44,61,43,45,42,47,37,33,60,62] c;have hx:A6w (DV.str [c]) (.int .i64 0)=some (.int .u8 (c.toNat:Int)):=rfl;repeat' ((with_reducible first|refine wr ?_|refine cpc hi ?_|refine A2 ?_ ?_|refine wb2 ?_ ?_<;>(intro hb;try simp only [hb])|fail)<;>try simp only [go_sem,seval,hix,hx])
  all_goals (refine B3 ?_;simp [S2,hb])
 | c :: d :: r,_ =>
  have hi:=c_IndexByte [123,125,40,41,59,44,61,43,45,42,47,37,33,60,62] c;have hx:A6w (DV.str (c :: d :: r)) (.int .i64 0)=some (.int .u8 (c.toNat:Int)):=rfl;have hsl:slsR (c :: d :: r) none (some (DV.int .i64 2))=some (DV.str [c,d]):=B1f (s:=c :: d :: r) (k:=2) (by simp);have hd:decide (((r.length+1+1:Nat):Int)>1)=true:=by simp;omega
  have hk:∀ a b:UInt8,([c,d] == [a,b])=(c == a && d == b):=fun a b=>by simp [A3U]
  have h2:=C3t c d;repeat' ((with_reducible first|refine wr ?_|refine cpc hi ?_|refine A2 ?_ ?_|refine wb2 ?_ ?_<;>(intro hb;try simp only [hb])|fail)<;>try simp only [go_sem,seval,hd,hix,hx,hsl])
  all_goals (refine B3 ?_;simp_all [S2])
theorem c_Fields':PC Tryz.prog 160 [.str [115,119,105,116,99,104,32,99,111,105,108,32,108,97,109,112,32,115,111,117,110,100,32,115,104,111,119,32,118,97,114,32,116,105,109,101,114,32,101,118,101,110,116,32,109,111,100,101,32,111,110,32,115,116,97,114,116,32,115,116,111,112,32,99,108,111,115,101,32,111,112,101,110,32,105,102,32,101,108,115,101,32,114,101,112,101,97,116,32,115,99,111,114,101,32,102,105,114,101,32,104,111,108,100,32,114,101,108,101,97,115,101,32,108,105,103,104,116,32,98,108,105,110,107,32,98,101,103,105,110,32,101,110,100,32,112,111,115,116,32,112,108,97,121,32,114,117,110,32,104,97,108,116,32,116,101,120,116,32,99,111,110,115,117,109,101,32,99,108,111,115,101,100,32,97,99,116,105,118,101,32,108,101,102,116,32,112,108,97,121,101,114,32,98,97,108,108,32,116,114,117,101,32,102,97,108,115,101]] (.lst (E9.map DV.str)):=c_Fields
theorem B8g:∀ k:Nat,k<38->(E9.take k).contains (E9.getD k [])=false:=by decide +kernel
theorem c_words:PC Tryz.prog 120 [] (.mp .s (E9.map DV.str) (E9.map fun _=>DV.bool true)):=by
 refine PC.ofT B1 rfl (A0B rfl) rfl (by simp only [DV.nl];rw [L8,Q4 (fun _=>rfl)];rfl) ?_;have hf:=c_Fields';repeat' ((with_reducible first|refine wr ?_|refine cpc hf ?_|refine A2 ?_ ?_|fail)<;>try simp only [go_sem,seval])
 clear hf;refine D8 (fun k:Nat=>[(1,.mid 0),(5,.lst (E9.map DV.str)),(6,I64 E9.length),(7,I64 k)]) (fun k=>Sym.nil.upd 0 ⟨0,true,[.mpc .s ((E9.take k).map DV.str) ((E9.take k).map fun _=>DV.bool true)]⟩) (fun k _=>k<=E9.length) (fun k=>E9.length-k) 0 (by simp [C9,tm,Tm.upd]) (Sub.refl _) (by simp) ?_;rintro k c hk;have hlen:E9.length=38:=rfl;by_cases hlt:k<E9.length
 ·have hd:decide ((k:Int)<E9.length)=true:=by simpa using hlt
  have hg:=A0C hlt;have hw:IntKind.i64.wrap ((k:Int)+1)=((k+1:Nat):Int):=by rw [w64 (by omega) (by omega)];omega
  have hn:(E9.take k).contains E9[k]=false:=by
   have:=B8g k (by omega)
   rwa [A0T,hg,A3N] at this
  have hm:=A8f hn 0;have e1:E9.take (k+1)=E9.take k++[E9[k]]:=by rw [A1D,hg];rfl
  repeat' ((with_reducible first|refine wr ?_|refine A2 ?_ ?_|fail)<;>try simp only [go_sem,seval,hd,hg,hw,hm])
  refine ⟨k+1,rfl,?_,inv hlt,by omega⟩;rw [e1,A0M,A0M];intro j b hj;by_cases e:j=0
  ·subst e;rw [A0] at hj ⊢;exact hj
  ·rw [A3 e] at hj;cases hj
 ·have hd:decide ((k:Int)<E9.length)=false:=by simpa using hlt
  repeat' ((with_reducible first|refine wr ?_|refine A2 ?_ ?_|fail)<;>try simp only [go_sem,seval,hd])
  rw [A0I (by omega)];exact B1m A0
abbrev A2f:DV:=.mp .s (E9.map DV.str) (E9.map fun _=>DV.bool true)
theorem c_number (c:UInt8) (r:List UInt8) (hs:(c :: r).length<=10000000) (hc:dgB c=true) (hl:ltB c=false):PC Tryz.prog 163 [.str (c :: r)] (nxV (D0 (c :: r))):=by
 have hsp:=c_spanDg (c :: r) (by omega);have hn1:1<=F2 dgB (c :: r):=by simp [F2,hc]
 have hle:=X6 dgB (c :: r);have hall:=B2w (p:=dgB) (c :: r);have hne:(c :: r).take (F2 dgB (c :: r))≠[]:=by
  intro e;have:=congrArg List.length e;rw [A1B,A1C] at this;omega
 have hx:A6w (DV.str (c :: r)) (.int .i64 0)=some (.int .u8 (c.toNat:Int)):=rfl;have hsl:=B1f (s:=c :: r) (k:=F2 dgB (c :: r)) hle;have hlen:((c :: r).take (F2 dgB (c :: r))).length<=281474976710656:=by rw [A1B];omega
 have hM:D0 (c :: r)=if 1<F2 dgB (c :: r)/\c.toNat=48 then nxE 47
   else if 2147483647<A2q ((c :: r).take (F2 dgB (c :: r))) then nxE 5
   else ⟨3,[],(A2q ((c :: r).take (F2 dgB (c :: r))):Int),F2 dgB (c :: r),0⟩:=by
  rw [D0,if_neg (by rw [hl];simp),if_pos hc]
 rw [hM];generalize F2 dgB (c :: r)=n at *;generalize hnv:A2q ((c :: r).take n)=v at *;refine PC.ofT B1 rfl (A0B rfl) rfl (C1q _) ?_;have z1:A2k true 3 .inil (inj .nilIface)=some (.bool false):=rfl;have z2:∀ (t:TypeId) (x:DV),A2k true 3 (.iface t x) (inj .nilIface)=some (.bool true):=fun _ _=>rfl;by_cases hbig:v<=9223372036854775807
 ·have hp:=c_ParseOk _ hlen hall hne (by rw [hnv];exact hbig);rw [hnv] at hp;repeat' ((with_reducible first|refine wr ?_|refine cpc hsp ?_|refine cpc hp ?_|refine A2 ?_ ?_|refine wb2 ?_ ?_<;>(intro hb;try simp only [hb])|fail)<;>try simp only [go_sem,seval,hx,hsl,z1])
  ·rw [D9 (v:=nxV (nxE 47)) rfl];refine B3 (congrArg nxV ?_);rw [if_pos ⟨B9c (by assumption),B6n (b:=48) hb⟩]
  ·rw [D9 (v:=nxV (nxE 5)) rfl];refine B3 (congrArg nxV ?_);rw [if_neg (fun h=>B4h (b:=48) (by assumption) h.2),if_pos (B9c hb)]
  ·rw [D9 (v:=nxV ⟨3,[],(v:Int),n,0⟩) rfl];refine B3 (congrArg nxV ?_);rw [if_neg (fun h=>B4h (b:=48) (by assumption) h.2),if_neg (B3u hb)]
  ·rw [D9 (v:=nxV (nxE 5)) rfl];refine B3 (congrArg nxV ?_);rw [if_neg (fun h=>B3u (a:=n) (b:=1) (by assumption) h.1),if_pos (B9c hb)]
  ·rw [D9 (v:=nxV ⟨3,[],(v:Int),n,0⟩) rfl];refine B3 (congrArg nxV ?_);rw [if_neg (fun h=>B3u (a:=n) (b:=1) (by assumption) h.1),if_neg (B3u hb)]
 ·have hp:=c_ParseBig _ hlen hall hne (by rw [hnv];omega);repeat' ((with_reducible first|refine wr ?_|refine cpc hsp ?_|refine cpc hp ?_|refine A2 ?_ ?_|refine wb2 ?_ ?_<;>(intro hb;try simp only [hb])|fail)<;>try simp only [go_sem,seval,hx,hsl,z2])
  ·rw [D9 (v:=nxV (nxE 47)) rfl];refine B3 (congrArg nxV ?_);rw [if_pos ⟨B9c (by assumption),B6n (b:=48) hb⟩]
  ·rw [D9 (v:=nxV (nxE 5)) rfl];refine B3 (congrArg nxV ?_);rw [if_neg (fun h=>B4h (b:=48) (by assumption) h.2),if_pos (by omega)]
  ·rw [D9 (v:=nxV (nxE 5)) rfl];refine B3 (congrArg nxV ?_);rw [if_neg (fun h=>B3u (a:=n) (b:=1) (by assumption) h.1),if_pos (by omega)]
theorem C1y (w:List UInt8):lkV (.bool false) false (E9.map fun _=>DV.bool true) (O1 (.str w) (E9.map DV.str) 0)=some (.bool (F6 w)):=by
 cases h:F6 w with
 | false=>rw [A8f h 0];rfl
 | true =>
  obtain ⟨j,hj⟩:=B5y h 0;have hlt:=(B3p hj).2;rw [A0G] at hlt;rw [hj,B6b,A1A,A0C (by omega)];rfl
theorem c_next (c:UInt8) (r:List UInt8) (hs:(c :: r).length<=10000000):PC Tryz.prog 122 [.str (c :: r),A2f] (nxV (D0 (c :: r))):=by
 have hx:A6w (DV.str (c :: r)) (.int .i64 0)=some (.int .u8 (c.toNat:Int)):=rfl;have hlt:=c_letter c;have hdg:=c_digit c;have hnl:DV.nlL (E9.map fun _=>DV.bool true)=true:=Q4 (fun _=>rfl) _;refine PC.ofT B1 rfl (A0B rfl) (by simp [DV.nlL,DV.nl,L8,hnl]) (C1q _) ?_;by_cases hl:ltB c=true
 ·have hsp:=c_spanPt (c :: r) (by omega);have hle:=X6 ptB (c :: r);have hsl:=B1f (s:=c :: r) (k:=F2 ptB (c :: r)) hle;have hM:D0 (c :: r)=if 12<F2 ptB (c :: r) then nxE 9 else ⟨if F6 ((c :: r).take (F2 ptB (c :: r)))=true then 2 else 1,(c :: r).take (F2 ptB (c :: r)),0,F2 ptB (c :: r),0⟩:=by
   rw [D0,if_pos hl]
  rw [hM];generalize F2 ptB (c :: r)=n at *;have hlk:=C1y ((c :: r).take n);repeat' ((with_reducible first|refine wr ?_|refine cpc hlt ?_|refine cpc hsp ?_|refine A2 ?_ ?_|refine wb2 ?_ ?_<;>(intro hb;try simp only [hb])|fail)<;>try simp only [go_sem,seval,hl,hx,hsl,hlk])
  ·rw [D9 (v:=nxV (nxE 9)) rfl];refine B3 (congrArg nxV ?_);rw [if_pos (B9c hb)]
  ·rw [D9 (v:=nxV ⟨2,(c :: r).take n,0,n,0⟩) rfl];refine B3 (congrArg nxV ?_);rw [if_neg (B3u (a:=n) (b:=12) (by assumption))];try (rw [hb];rfl)
  ·rw [D9 (v:=nxV ⟨1,(c :: r).take n,0,n,0⟩) rfl];refine B3 (congrArg nxV ?_);rw [if_neg (B3u (a:=n) (b:=12) (by assumption))];try (rw [hb];rfl)
 have hl0:ltB c=false:=by simpa using hl
 by_cases hd:dgB c=true
 ·have hnum:=c_number c r hs hd hl0;obtain ⟨x,hxx⟩:∃ x,x=D0 (c :: r):=⟨_,rfl⟩;rw [<- hxx] at hnum ⊢;have hnum:PC Tryz.prog 163 [.str (c :: r)] (.tup [.agg [I64 x.kind,.str x.text,I64 x.value,I64 0],I64 x.n,I64 x.err]):=hnum;repeat' ((with_reducible first|refine wr ?_|refine cpc hlt ?_|refine cpc hdg ?_|refine cpc hnum ?_|refine A2 ?_ ?_|fail)<;>try simp only [go_sem,seval,hl0,hx,hd])
  rw [D9 (v:=nxV x) rfl];exact B3 rfl
 have hd0:dgB c=false:=by simpa using hd
 by_cases hq:c.toNat=34
 ·have hqu:=c_quoted (c :: r) hs;rw [List.drop_one,List.tail_cons] at hqu;have hb34:((c.toNat:Int) == 34)=true:=by rw [hq];rfl
  cases hqr:quM r with
  | none =>
   have hM:D0 (c :: r)=nxE 48:=by
    rw [D0,if_neg hl,if_neg hd,if_pos hq,hqr]
   rw [hM];rw [hqr] at hqu;have hqu:PC Tryz.prog 164 [.str (c :: r)] (.tup [.str [],I64 0]):=hqu;repeat' ((with_reducible first|refine wr ?_|refine cpc hlt ?_|refine cpc hdg ?_|refine cpc hqu ?_|refine A2 ?_ ?_|fail)<;>try simp only [go_sem,seval,hl0,hx,hd0,hb34])
   rw [D9 (v:=nxV (nxE 48)) rfl];exact B3 rfl
  | some x =>
   obtain ⟨t,m⟩:=x;have hM:D0 (c :: r)=if 32<t.length then nxE 9 else ⟨4,t,0,m+1,0⟩:=by
    rw [D0,if_neg hl,if_neg hd,if_pos hq,hqr]
   rw [hM];rw [hqr] at hqu;have hqu:PC Tryz.prog 164 [.str (c :: r)] (.tup [.str t,I64 ((m+1:Nat):Int)]):=hqu;have hm0:(((m+1:Nat):Int) == 0)=false:=by simp;omega
   repeat' ((with_reducible first|refine wr ?_|refine cpc hlt ?_|refine cpc hdg ?_|refine cpc hqu ?_|refine A2 ?_ ?_|refine wb2 ?_ ?_<;>(intro hb;try simp only [hb])|fail)<;>try simp only [go_sem,seval,hl0,hx,hd0,hb34,hm0])
   ·rw [D9 (v:=nxV (nxE 9)) rfl];refine B3 (congrArg nxV ?_);rw [if_pos (B9c hb)]
   ·rw [D9 (v:=nxV ⟨4,t,0,m+1,0⟩) rfl];refine B3 (congrArg nxV ?_);rw [if_neg (B3u hb)]
 ·have hsg:=c_sign (c :: r) hs (by simp);have hb34:((c.toNat:Int) == 34)=false:=by simpa using (fun h=>hq (by omega))
  have hle:=B2y (c :: r);have hsl:=B1f (s:=c :: r) (k:=S2 (c :: r)) hle;have hM:D0 (c :: r)=if S2 (c :: r)=0 then nxE 47 else ⟨5,(c :: r).take (S2 (c :: r)),0,S2 (c :: r),0⟩:=by
   rw [D0,if_neg hl,if_neg hd,if_neg hq]
  rw [hM];generalize S2 (c :: r)=n at *;repeat' ((with_reducible first|refine wr ?_|refine cpc hlt ?_|refine cpc hdg ?_|refine cpc hsg ?_|refine A2 ?_ ?_|refine wb2 ?_ ?_<;>(intro hb;try simp only [hb])|fail)<;>try simp only [go_sem,seval,hl0,hx,hd0,hb34,hsl])
  ·rw [D9 (v:=nxV (nxE 47)) rfl];refine B3 (congrArg nxV ?_);rw [if_pos (B6n (b:=0) hb)]
  ·rw [D9 (v:=nxV ⟨5,(c :: r).take n,0,n,0⟩) rfl];refine B3 (congrArg nxV ?_);rw [if_neg (B4h (b:=0) hb)]
theorem c_IsWord (s:List UInt8):PC Tryz.prog 145 [.str s] (.bool (F6 s)):=by
 refine PC.ofT B1 rfl (A0B rfl) (by simp [DV.nlL,DV.nl]) (by simp [DV.nlL,DV.nl]) ?_;have hw:=c_words;have hlk:=C1y s;repeat' ((with_reducible first|refine wr ?_|refine cpc hw ?_|refine A2 ?_ ?_|fail)<;>try simp only [go_sem,seval,hlk])
 exact B3 rfl
theorem c_IsName (s:List UInt8) (hs:s.length<=1000000000):PC Tryz.prog 91 [.str s] (.bool (C8 s)):=by
 refine PC.ofT B1 rfl (A0B rfl) (by simp [DV.nlL,DV.nl]) (by simp [DV.nlL,DV.nl]) ?_;have hw:=c_IsWord s;have hsp:=c_spanPt s (by omega);cases s with
 | nil =>
  repeat' ((with_reducible first|refine wr ?_|refine A2 ?_ ?_|fail)<;>try simp only [go_sem,seval])
  exact B3 rfl
 | cons c r =>
  have hx:A6w (DV.str (c :: r)) (.int .i64 0)=some (.int .u8 (c.toNat:Int)):=rfl;have hlt:=c_letter c;have hd1:decide (((r.length+1:Nat):Int)≥1)=true:=by simp;omega
  repeat' ((with_reducible first|refine wr ?_|refine cpc hw ?_|refine cpc hsp ?_|refine cpc hlt ?_|refine A2 ?_ ?_|refine wb2 ?_ ?_<;>(intro hb;try simp only [hb])|fail)<;>try simp only [go_sem,seval,hx,hd1])
  all_goals (refine B3 (congrArg DV.bool ?_);simp_all [C8]<;>omega)
theorem c_Quote (s:List UInt8) (hs:s.length<=1000000):PC Tryz.prog 155 [.str s] (.str (T2 s)):=by
 refine PC.ofT B1 rfl (A0B rfl) (by simp [DV.nlL,DV.nl]) (by simp [DV.nlL,DV.nl]) ?_;repeat' ((with_reducible first|refine wr ?_|refine A2 ?_ ?_|fail)<;>try simp only [go_sem,seval])
 refine D8 (fun q:Nat × Nat=>[(0,.str s),(3,.slc q.2 0 (A2g (s.take q.1)).length),(4,I64 q.1)]) (fun q=>Sym.nil.upd q.2 ⟨1,true,F4 (A2g (s.take q.1))⟩)
  (fun q c=>q.1<=s.length/\q.2<c) (fun q=>s.length-q.1) (0,0) (by simp [C9,tm,Tm.upd,A2g]) (Sub.refl _) (by simp) ?_
 rintro ⟨k,id⟩ c ⟨hk,hid⟩;simp only at hk hid;simp only;have hal:(A2g (s.take k)).length<=2 * k+1:=by
  have:=A8a (s.take k);rw [A1B] at this;omega
 obtain ⟨acc,hacc⟩:∃ acc,acc=A2g (s.take k):=⟨_,rfl⟩;rw [<- hacc] at hal ⊢;by_cases hlt:k<s.length
 ·have hd:decide ((k:Int)<s.length)=true:=by simpa using hlt
  have hg:=A0C hlt;have hw:IntKind.i64.wrap ((k:Int)+1)=((k+1:Nat):Int):=by rw [w64 (by omega) (by omega)];omega
  have hA:∀ H c id,apB H c id 1 1 acc.length 1 [.int .u8 92] (some ⟨1,true,F4 acc⟩)=some (.slc c 0 (acc.length+1),(H.del id).upd c ⟨1,true,F4 (acc++[92])⟩,c+1):=fun H c id=>B4i (x:=92) rfl (by omega);have hB:∀ H c id,apB H c id 1 1 (acc.length+1) 1 [.int .u8 (s[k].toNat:Int)] (some ⟨1,true,F4 (acc++[92])⟩)=some (.slc c 0 (acc.length+1+1),(H.del id).upd c ⟨1,true,F4 (acc++[92]++[s[k]])⟩,c+1):=fun H c id=>B4i (by simp) (by omega);have hC:∀ H c id,apB H c id 1 1 acc.length 1 [.int .u8 (s[k].toNat:Int)] (some ⟨1,true,F4 acc⟩)=some (.slc c 0 (acc.length+1),(H.del id).upd c ⟨1,true,F4 (acc++[s[k]])⟩,c+1):=fun H c id=>B4i rfl (by omega);have est:A2g (s.take (k+1))=acc++quB s[k]:=by rw [hacc,A9z hg]
  have ne0:=P0 id c (c+1) (c+2) (c+3) (by omega);repeat' ((with_reducible first|refine wr ?_|refine A2 ?_ ?_|refine wb2 ?_ ?_<;>(intro hb;try simp only [hb])|fail)<;>try simp only [go_sem,seval,hd,hg,hw,ne0,hA,hB,hC])
  ·have e2:quB s[k]=[92,s[k]]:=if_pos (.inl (B6n (b:=34) hb));exact ⟨(k+1,c+1+1+1),⟨by simp only [est,e2,A0A];rfl,rfl⟩,J5 (by simp only [est,e2,A0V];rfl),inv ⟨hlt,by simp only;omega⟩,by simp only;omega⟩
  ·have e2:quB s[k]=[92,s[k]]:=if_pos (.inr (B6n (b:=92) hb));exact ⟨(k+1,c+1+1+1),⟨by simp only [est,e2,A0A];rfl,rfl⟩,J5 (by simp only [est,e2,A0V];rfl),inv ⟨hlt,by simp only;omega⟩,by simp only;omega⟩
  ·have e2:quB s[k]=[s[k]]:=if_neg (fun h=>h.elim (B4h (b:=34) (by assumption)) (B4h (b:=92) hb));exact ⟨(k+1,c+1),⟨by simp only [est,e2,A0A];rfl,rfl⟩,J5 (by simp only [est,e2]),inv ⟨hlt,by simp only;omega⟩,by simp only;omega⟩
 ·have hd:decide ((k:Int)<s.length)=false:=by simpa using hlt
  have hZ:∀ H c id,apB H c id 1 1 acc.length 1 [.int .u8 34] (some ⟨1,true,F4 acc⟩)=some (.slc c 0 (acc.length+1),(H.del id).upd c ⟨1,true,F4 (acc++[34])⟩,c+1):=fun H c id=>B4i (x:=34) rfl (by omega);have ne0:=O0 id c (c+1) (by omega);have hcv:∀ (H:Hp) u,A0j (H.upd (c+1) ⟨u,true,F4 (acc++[34])⟩) (.slc (c+1) 0 (acc.length+1))=some (.str (acc++[34])):=fun H u=>A4m A0 rfl (by simp);repeat' ((with_reducible first|refine wr ?_|refine A2 ?_ ?_|fail)<;>try simp only [go_sem,seval,hd,ne0,hZ,hcv])
  refine B3 ?_;rw [hacc,A0I (by omega)];rfl
theorem c_Scan (s:List UInt8) (hs:s.length<=100000):PC Tryz.prog 68 [.str s] (C0l (E7 s)):=by
 refine PC.ofT B1 rfl (A0B rfl) rfl (C0k _) ?_;have hwd:=c_words;have hsk:=c_skip s (by omega);by_cases h20:20000<s.length
 ·have hd0:decide ((s.length:Int)>20000)=true:=by simp;omega
  have hM:E7 s=([],0,9):=if_pos h20;rw [hM];repeat' ((with_reducible first|refine wr ?_|refine A2 ?_ ?_|fail)<;>try simp only [go_sem,seval,hd0])
  exact B2z
 have hd0:decide ((s.length:Int)>20000)=false:=by simp;omega
 have hM:E7 s=S9 (s.length+1) s (skM false s) []:=if_neg h20;rw [hM];have hle0:=A1p false s;repeat' ((with_reducible first|refine wr ?_|refine cpc hwd ?_|refine cpc hsk ?_|refine A2 ?_ ?_|fail)<;>try simp only [go_sem,seval,hd0])
 refine D8 (fun q:Nat × Nat × Option Nat × List Tok=>[(0,.str s),(5,A2f),(6,B6 q.2.2.1 q.2.2.2.length),(7,I64 q.2.1)]) (fun q=>C5 Sym.nil q.2.2.1 ⟨4,true,A4 (q.2.2.2.map Tok.v)⟩)
  (fun q c=>q.2.1<=s.length/\s.length<q.1+q.2.1/\q.2.2.2.length<=q.2.1/\(q.2.2.1=none->q.2.2.2=[])/\(∀ i,q.2.2.1=some i->i<c)/\S9 (s.length+1) s (skM false s) []=S9 q.1 s q.2.1 q.2.2.2) (fun q=>q.1) (s.length+1,skM false s,none,[])
  (by simp [C9,tm,Tm.upd,B6]) (Sub.nil _) ⟨by simp only;omega,by simp only;omega,by simp,fun _=>rfl,(fun i hi=>by cases hi),rfl⟩ ?_
 rintro ⟨f,at_,o,acc⟩ c ⟨h1,hf,hal,hno,ho,he⟩;simp only at h1 hf hal hno ho he;simp only;rw [he];by_cases hlt:at_<s.length
 ·have hd:decide ((at_:Int)<s.length)=true:=by simpa using hlt
  have hg:=A0C hlt;have hsl:=A7y (s:=s) (k:=at_) h1;have hdr:=U3 hg;have hnx:PC Tryz.prog 122 [.str (s.drop at_),A2f] (nxV (D0 (s.drop at_))):=by
   rw [hdr];exact c_next _ _ (by rw [<- hdr,A2C];omega)
  obtain ⟨f,rfl⟩:∃ g,f=g+1:=⟨f-1,by omega⟩;by_cases hz:(D0 (s.drop at_)).err=0
  ·have hn:=B1s hz;rw [A2C] at hn;have hst:S9 (f+1) s at_ acc=S9 f s (at_+(D0 (s.drop at_)).n+skM false (s.drop (at_+(D0 (s.drop at_)).n))) (acc++[⟨(D0 (s.drop at_)).kind,(D0 (s.drop at_)).text,(D0 (s.drop at_)).value,(at_:Int)⟩]):=by
    rw [S9,if_neg (by omega),if_neg (by simpa using hz)]
   rw [hst];obtain ⟨x,hx⟩:∃ x,x=D0 (s.drop at_):=⟨_,rfl⟩;rw [<- hx] at hnx hz hn ⊢;have hnx:PC Tryz.prog 122 [.str (s.drop at_),A2f] (.tup [.agg [I64 x.kind,.str x.text,I64 x.value,I64 0],I64 x.n,I64 x.err]):=hnx;have hz':(x.err != 0)=false:=by simpa using hz
   have hw1:IntKind.i64.wrap ((at_:Int)+x.n)=((at_+x.n:Nat):Int):=by rw [w64 (by omega) (by omega)];omega
   have hsl2:=A7y (s:=s) (k:=at_+x.n) (by omega);have hsk2:=c_skip (s.drop (at_+x.n)) (by rw [A2C];omega);have hkl:=A1p false (s.drop (at_+x.n));rw [A2C] at hkl;obtain ⟨z,hzz⟩:∃ z,z=skM false (s.drop (at_+x.n)):=⟨_,rfl⟩;rw [<- hzz] at hsk2 hkl ⊢;have hw2:IntKind.i64.wrap (((at_+x.n:Nat):Int)+z)=((at_+x.n+z:Nat):Int):=by rw [w64 (by omega) (by omega)];omega
   have ne0:=O0 c (c+1) (c+2) (by omega);repeat' ((with_reducible first|refine wr ?_|refine cpc hnx ?_|refine cpc hsk2 ?_|refine A2 ?_ ?_|fail)<;>try simp only [go_sem,seval,hd,hsl,hz',hw1,hsl2,hw2,ne0])
   refine C4 (E6 (cs:=A4 (acc.map Tok.v)) (fun e=>by rw [hno e];exact ⟨rfl,rfl⟩) (fun i hi=>?_) (by rw [B5 (u:=4) (F0 _)];simp) (by omega) (by omega) (by omega)) ?_
   ·have:=ho i hi;rw [A3 (by omega),A3 (by omega),A3 (by omega),A3 (by omega)];exact A0r hi
   simp only [go_sem,seval,ne0,hw1,hw2];repeat' ((with_reducible first|refine wr ?_|refine cpc hnx ?_|refine cpc hsk2 ?_|refine A2 ?_ ?_|fail)<;>try simp only [go_sem,seval,hd,hsl,hz',hw1,hsl2,hw2,ne0])
   exact ⟨(f,at_+x.n+z,some (c+1+1),acc++[⟨x.kind,x.text,x.value,(at_:Int)⟩]),⟨by simp only [A0A,A0F];rfl,rfl⟩,
    J5 (by simp only [A0M,C6];rfl),inv ⟨by simp only;omega,by simp only;omega,by simp only [A0A,A0F];omega,(fun h=>by cases h),(fun i hi=>by cases hi;omega),rfl⟩,by simp only;omega⟩
  ·have hst:S9 (f+1) s at_ acc=([],(at_:Int),(D0 (s.drop at_)).err):=by
    rw [S9,if_neg (by omega),if_pos hz]
   rw [hst];obtain ⟨x,hx⟩:∃ x,x=D0 (s.drop at_):=⟨_,rfl⟩;rw [<- hx] at hnx hz ⊢;have hnx:PC Tryz.prog 122 [.str (s.drop at_),A2f] (.tup [.agg [I64 x.kind,.str x.text,I64 x.value,I64 0],I64 x.n,I64 x.err]):=hnx;have hz':(x.err != 0)=true:=by simpa using hz
   have ne0:=A2i c (c+1) (by omega);repeat' ((with_reducible first|refine wr ?_|refine cpc hnx ?_|refine A2 ?_ ?_|fail)<;>try simp only [go_sem,seval,hd,hsl,hz',ne0])
   exact B2z
 ·have hd:decide ((at_:Int)<s.length)=false:=by simpa using hlt
  repeat' ((with_reducible first|refine wr ?_|refine A2 ?_ ?_|fail)<;>try simp only [go_sem,seval,hd])
  have hM2:S9 f s at_ acc=(acc,0,0):=by
   cases f with
   | zero=>rfl
   | succ f=>rw [S9,if_pos (by omega)]
  rw [hM2];exact C1j (fun e=>by rw [hno e];rfl) (by simp) (F0 acc)
theorem c_wordsR:PC Tryz.prog 181 [] (.lst (E9.map DV.str)):=by
 refine PC.ofT B1 rfl (A0B rfl) rfl (L8 _) ?_;repeat' ((with_reducible first|refine wr ?_|refine A2 ?_ ?_|fail)<;>try simp only [go_sem,seval])
 exact J0 (xs:=E9.map DV.str) (u:=1) A0 rfl rfl (J1 _) ⟨[],rfl⟩
theorem c_IsWordR (s:List UInt8):PC Tryz.prog 149 [.str s] (.bool (F6 s)):=by
 refine PC.ofT B1 rfl (A0B rfl) (by simp [DV.nlL,DV.nl]) (by simp [DV.nlL,DV.nl]) ?_;have hw:=c_wordsR;repeat' ((with_reducible first|refine wr ?_|refine cpc hw ?_|refine A2 ?_ ?_|fail)<;>try simp only [go_sem,seval])
 refine D8 (fun k:Nat=>[(0,.str s),(3,.lst (E9.map DV.str)),(4,I64 k)]) (fun _=>nil) (fun k _=>k<=E9.length/\(E9.take k).contains s=false) (fun k=>E9.length-k) 0 (by simp [C9,tm,Tm.upd]) (Sub.nil _) (by simp) ?_;rintro k c ⟨hk,he⟩;have hlen:E9.length=38:=rfl;by_cases hlt:k<E9.length
 ·have hd:decide ((k:Int)<E9.length)=true:=by simpa using hlt
  have hg:=A0C hlt;have hw:IntKind.i64.wrap ((k:Int)+1)=((k+1:Nat):Int):=by rw [w64 (by omega) (by omega)];omega
  repeat' ((with_reducible first|refine wr ?_|refine A2 ?_ ?_|refine wb2 ?_ ?_<;>(intro hb;try simp only [hb])|fail)<;>try simp only [go_sem,seval,hd,hg,hw])
  ·refine B3 (congrArg DV.bool ?_);have:s=E9[k]:=(A1F.1 hb).symm;unfold F6;rw [A2N.2 (by rw [this];exact A0S hlt)]
  ·refine ⟨k+1,rfl,Sub.refl _,inv ⟨hlt,?_⟩,by omega⟩;rw [A1D,hg,List.contains_append,he];have:¬ s=E9[k]:=fun e=>by rw [e] at hb;simp at hb
   simpa using this
 ·have hd:decide ((k:Int)<E9.length)=false:=by simpa using hlt
  repeat' ((with_reducible first|refine wr ?_|refine A2 ?_ ?_|fail)<;>try simp only [go_sem,seval,hd])
  refine B3 (congrArg DV.bool ?_);rw [A0I (by omega)] at he;exact he.symm
theorem c_IsNameR (s:List UInt8) (hs:s.length<=1000000000):PC Tryz.prog 150 [.str s] (.bool (C8 s)):=by
 refine PC.ofT B1 rfl (A0B rfl) (by simp [DV.nlL,DV.nl]) (by simp [DV.nlL,DV.nl]) ?_;have hw:=c_IsWordR s;cases s with
 | nil =>
  repeat' ((with_reducible first|refine wr ?_|refine A2 ?_ ?_|fail)<;>try simp only [go_sem,seval])
  exact B3 rfl
 | cons c r =>
  have hx:A6w (DV.str (c :: r)) (.int .i64 0)=some (.int .u8 (c.toNat:Int)):=rfl;have hlt:=c_letterR c;have hd1:decide (((r.length+1:Nat):Int)<1)=false:=by simp;omega
  have hN:C8 (c :: r)=(decide ((r.length+1)<=12) && ltB c && decide (F2 ptB (c :: r)=r.length+1) && !F6 (c :: r)):=by
   simp [C8]
  rw [hN];have hN2:∀ b:Bool,decide (((r.length+1:Nat):Int)>12)=b->decide ((r.length+1)<=12) = !b:=by
   intro b hb;subst hb;rw [A2L];simp;omega
  obtain ⟨dd,hdd⟩:∃ dd,dd=decide ((r.length+1)<=12):=⟨_,rfl⟩;rw [<- hdd] at hN2 ⊢;obtain ⟨ee,hee⟩:∃ ee,ee=decide (F2 ptB (c :: r)=r.length+1):=⟨_,rfl⟩;rw [<- hee];obtain ⟨ff,hff⟩:∃ ff,ff=F6 (c :: r):=⟨_,rfl⟩;rw [<- hff] at hw ⊢;repeat' ((with_reducible first|refine wr ?_|refine cpc hw ?_|refine cpc hlt ?_|refine A2 ?_ ?_|refine wb2 ?_ ?_<;>(intro hb;try simp only [hb])|fail)<;>try simp only [go_sem,seval,hx,hd1])
  ·refine B3 (congrArg DV.bool ?_);rw [hN2 _ hb];rfl
  ·refine B3 (congrArg DV.bool ?_);have:ltB c=false:=by simpa using hb
   rw [this];simp
  ·refine B3 (congrArg DV.bool ?_);simp
  ·have hN3:=hN2 _ (by assumption);have hl:ltB c=true:=by simpa using (by assumption:(!ltB c)=false)
   rw [hN3,hl];refine D8 (fun k:Nat=>[(0,.str (c :: r)),(3,I64 k)]) (fun _=>nil) (fun k _=>k<=(c :: r).length/\k<=F2 ptB (c :: r)) (fun k=>(c :: r).length-k) 0 (by simp [C9,tm,Tm.upd]) (Sub.nil _) (by simp) ?_;rintro k cc ⟨hk,he⟩;have hsl:=X6 ptB (c :: r);have hS:(c :: r).length=r.length+1:=rfl;by_cases hlt2:k<(c :: r).length
   ·have hd:decide ((k:Int)<((r.length+1:Nat):Int))=true:=by simp only [A0H];omega
    have hg:=A0C hlt2;have hw:IntKind.i64.wrap ((k:Int)+1)=((k+1:Nat):Int):=by rw [w64 (by omega) (by omega)];omega
    have hst:=B1e hg he;obtain ⟨x,hxx⟩:∃ x,x=(c :: r)[k]:=⟨_,rfl⟩;rw [<- hxx] at hg hst;have h1:=c_letterR x;have h2:=c_digitR x;obtain ⟨L,hL⟩:∃ L,L=c :: r:=⟨_,rfl⟩;have hd3:decide ((k:Int)<(L.length:Int))=true:=by rw [hL];exact hd
    rw [<- hL] at hg hst hk he hsl hee ⊢;by_cases hp:ptB x=true
    ·have hgo:∃ b,DV.int IntKind.i64 ((k+1:Nat):Int)=I64 ((b:Nat):Int)/\Sym.Sub Sym.nil Sym.nil/\B4k (fun k _=>k<=L.length/\k<=F2 ptB L) b cc/\L.length-b<L.length-k :=
      ⟨k+1,rfl,Sub.refl _,inv ⟨by rw [hL];exact hlt2,hst.1 hp⟩,by rw [hL];omega⟩
     simp only [ptB,A0X,A0H] at hp;repeat' ((with_reducible first|refine wr ?_|refine cpc h1 ?_|refine cpc h2 ?_|refine A2 ?_ ?_|refine wb2 ?_ ?_<;>(intro hb;try simp only [hb])|fail)<;>try simp only [go_sem,seval,hd3,hg,hw])
     ·exfalso;have p1:ltB x=false:=by simpa using (by assumption:(!ltB x)=true)
      have p2:dgB x=false:=by simpa using (by assumption:(!dgB x)=true)
      have p3:=D2f (b:=95) hb;rw [p1,p2] at hp;rcases hp with (hp|hp)|hp
      ·cases hp
      ·cases hp
      ·exact p3 hp
     ·exact hgo
     ·exact hgo
     ·exact hgo
    ·have hp':ptB x=false:=by simpa using hp
     have hj:=hst.2 hp';simp only [ptB,A3M,A2B] at hp';obtain ⟨⟨q1,q2⟩,q3⟩:=hp';have q4:((x.toNat:Int) != 95)=true:=by simp;omega
     repeat' ((with_reducible first|refine wr ?_|refine cpc h1 ?_|refine cpc h2 ?_|refine A2 ?_ ?_|fail)<;>try simp only [go_sem,seval,hd3,hg,hw,q1,q2,q4])
     refine B3 (congrArg DV.bool ?_);rw [hee,hj,decide_eq_false];have:L.length=r.length+1:=by rw [hL];rfl
     have:k<L.length:=by rw [hL];exact hlt2
     omega
   ·have hd:decide ((k:Int)<((r.length+1:Nat):Int))=false:=by simp only [A2B];omega
    repeat' ((with_reducible first|refine wr ?_|refine A2 ?_ ?_|fail)<;>try simp only [go_sem,seval,hd])
    refine B3 (congrArg DV.bool ?_);rw [hee,decide_eq_true (by omega)]
end Go.Proofs.YthlpinppaclofaaGreatDoor
set_option linter.unusedSectionVars false
namespace Go.Pb
variable [Go.Sym.Tab]
open Go.Sym
def T0:Tok:=⟨0,[],0,0⟩
theorem C7w {g:Bool} {a b d a' b' d':Int} {s t:List UInt8}:B9g g [0,2,0,0] (.agg [I64 a,.str s,I64 b,I64 d]) (.agg [I64 a',.str t,I64 b',I64 d'])=some (.bool (g != (a == a' && (s == t && (b == b' && d == d'))))):=by
 simp only [B9g,U4,A6g,if_true];cases h1:a == a'<;>cases h2:s == t<;>cases h3:b == b'<;>cases h4:d == d'<;>simp
theorem A9w:∀ (f:Nat) (s:List UInt8) (k:Nat) (acc:List Tok),acc.length<=k->k<=s.length->(S9 f s k acc).1.length<=s.length
 | 0,s,k,acc,h1,h2=>by simp only [S9];omega
 | f+1,s,k,acc,h1,h2=>by
  rw [S9];split
  ·simp only;omega
  ·split
   ·simp
   ·rename_i h3 h4;have h4:(D0 (s.drop k)).err=0:=by simpa using h4
    have hn:=B1s h4;rw [A2C] at hn;have hk:=A1p false (s.drop (k+(D0 (s.drop k)).n));rw [A2C] at hk;exact A9w f s _ _ (by rw [A0A,A0F];omega) (by omega)
theorem B8n (s:List UInt8):(E7 s).1.length<=s.length:=by
 unfold E7;split
 ·simp
 ·have:=A1p false s;exact A9w _ _ _ _ (by simp) this
end Go.Pb
namespace Go.Pb
variable [Go.Sym.Tab]
open Go.Sym
def J7 (t:Tok):List UInt8:=if t.kind=1\/t.kind=2\/t.kind=5 then t.text else if t.kind=3 then M0 t.value else if t.kind=4 then T2 t.text else []
def nxT (x:Nx) (p:Int):Tok:=⟨x.kind,x.text,x.value,p⟩
def B0x (s:List UInt8):Nat->List Tok->Prop
 | k,[]=>s.length<=k
 | k,t :: l=>k<s.length/\(D0 (s.drop k)).err=0/\t=nxT (D0 (s.drop k)) (k:Int)/\B0x s (k+(D0 (s.drop k)).n+skM false (s.drop (k+(D0 (s.drop k)).n))) l
theorem A6n:∀ (f:Nat) (s:List UInt8) (k:Nat) (acc:List Tok),s.length+1<=k+f->(S9 f s k acc).2.2=0->∃ l,(S9 f s k acc).1=acc++l/\B0x s k l
 | 0,s,k,acc,hf,h=>⟨[],by simp [S9],by show s.length<=k;omega⟩
 | f+1,s,k,acc,hf,h=>by
  rw [S9] at h ⊢;by_cases h1:s.length<=k
  ·rw [if_pos h1];exact ⟨[],by simp,h1⟩
  ·rw [if_neg h1] at h ⊢;by_cases h2:(D0 (s.drop k)).err=0
   ·rw [if_neg (by simpa using h2)] at h ⊢;have hn:=B1s h2;obtain ⟨l,e,hr⟩:=A6n f s _ _ (by omega) h;exact ⟨_ :: l,by rw [e,A0V];rfl,by omega,h2,rfl,hr⟩
   ·rw [if_pos h2] at h;exact absurd h h2
theorem A6o {s:List UInt8} (h:(E7 s).2.2=0):s.length<=20000/\B0x s (skM false s) (E7 s).1:=by
 unfold E7 at h ⊢;by_cases h1:20000<s.length
 ·rw [if_pos h1] at h;cases h
 ·rw [if_neg h1] at h ⊢;have:=A1p false s;obtain ⟨l,e,hr⟩:=A6n _ s _ [] (by omega) h;rw [e];exact ⟨by omega,hr⟩
def TOk (t:Tok):Prop:=∃ s p,(D0 s).err=0/\t=nxT (D0 s) p
theorem B0x.ok {s:List UInt8}:∀ {k:Nat} {l:List Tok},B0x s k l->∀ t∈l,TOk t
 | k,[],_,t,h=>by cases h
 | k,x :: l,h,t,ht=>by
  rcases A1S.1 ht with rfl|ht
  ·exact ⟨_,_,h.2.1,h.2.2.1⟩
  ·exact B0x.ok h.2.2.2 t ht
def C0d (l:List Tok):Nat:=(l.map fun t=>(J7 t).length).sum
def A6p (sp:Nat->List UInt8):Nat->List Tok->List UInt8
 | _,[]=>[]
 | i,t :: l=>sp i++J7 t++A6p sp (i+1) l
theorem B3v {sp:Nat->List UInt8} {m:Nat} (h:∀ i,(sp i).length<=m):∀ (l:List Tok) (i:Nat),(A6p sp i l).length<=m * l.length+C0d l
 | [],i=>by simp [A6p]
 | t :: l,i=>by
  have ih:=B3v h l (i+1);have hi:=h i;simp only [A6p,A0A,C0d,A0O,A2F,A0U,Nat.mul_succ] at ih ⊢;omega
end Go.Pb
namespace Go.Pb
variable [Go.Sym.Tab]
open Go.Sym
def spB (i:Nat):List UInt8:=if i=0 then [] else [32]
def A6k (l:List Tok):List UInt8:=A6p spB 0 l
theorem C4e (i:Nat):(spB i).length<=1:=by unfold spB;split<;>simp
theorem A9y (s:List UInt8):(T2 s).length<=2 * s.length+2:=by
 have:=A8a s;unfold T2;rw [A0A,A0F];omega
def Fit (t:Tok):Prop:=t.text.length<=100000/\I6 t.value
theorem B3l {t:Tok} (h:Fit t):(J7 t).length<=200024:=by
 have h1:=A9y t.text;have h2:=A5j h.2.1 h.2.2;have h3:=h.1;unfold J7;split
 ·omega
 ·split
  ·omega
  ·split
   ·omega
   ·simp
theorem B6w:∀ {l:List Tok},(∀ t∈l,Fit t)->C0d l<=200024 * l.length
 | [],_=>by simp [C0d]
 | t :: l,h=>by
  have h1:=B3l (h t A0K);have h2:=B6w (l:=l) fun x hx=>h x (A0J _ hx);simp only [C0d,A0O,A2F,A0U] at h2 ⊢;omega
theorem A9q {l:List Tok} (h:∀ t∈l,Fit t):(A6k l).length<=200025 * l.length:=by
 have h1:=B3v C4e l 0;have h2:=B6w h;unfold A6k;omega
theorem B0l:∀ (l:List Tok) (i:Nat),1<=i->A6p spB i l=Lib.joinTail [32] (l.map J7)
 | [],i,_=>rfl
 | t :: l,i,h=>by
  have ih:=B0l l (i+1) (by omega);simp only [A6p,ih,Lib.joinTail,A0O,A1K];rw [spB,if_neg (by omega)]
theorem A3c (l:List Tok):Lib.join (l.map J7) [32]=A6k l:=by
 cases l with
 | nil=>rfl
 | cons t l =>
  rw [A0O,Lib.join_cons,A6k,A6p,B0l l 1 (by omega),spB,if_pos rfl];simp
theorem B7b {s:List UInt8} (h:(E7 s).2.2=0):∀ t∈(E7 s).1,TOk t:=(A6o h).2.ok
end Go.Pb
namespace Go.Proofs.YthlpinppaclofaaGreatDoor
open Go.Eng (IC IOper DReg IFn C2 I8)
open Go.Sym Go.Pb Go.RowKit
theorem c_Dec:∀ (m:Nat) (n:Int),n.natAbs<m -> -9223372036854775808<=n->n<=9223372036854775807->PC Tryz.prog 42 [I64 n] (.str (M0 n)):=by
 intro m
 induction m with
 | zero=>intro n h;omega
 | succ m ih =>
  intro n h h1 h2;have b:=D1x (d:=W7 n) (B7t n);have hl:=B7t n;by_cases h0:n<0
  ·have hd:decide (n<0)=true:=by simpa using h0
   have e1:=C5g h0;have e2:=C5f h0;have hh:=B7x (n:=n) (by omega);have w1:=w64 (n := -((A0c n:Nat):Int)) (by omega) (by omega);have w2:=w64 (n:=0 - -((W7 n:Nat):Int)) (by omega) (by omega);have w3:0 - -((W7 n:Nat):Int)=(W7 n:Int):=by omega
   rw [w3] at w2;have hlen:=A5j (n := -((A0c n:Nat):Int)) (by omega) (by omega);have a0:=C9c (s:=M0 (-((A0c n:Nat):Int))) (t:=[Y0 (W7 n)]) (by simp;omega);have a2:A0j (nil.upd 5 ⟨1,true,[DV.int .u8 ((Y0 (W7 n)).toNat:Int)]⟩) (.slc 5 0 1)=some (.str [Y0 (W7 n)]):=A4m A0 rfl rfl;have a1:=C9c (s:=[45]) (t:=[Y0 (W7 n)]) (by simp);refine PC.ofT B1 rfl (A0B rfl) (by simp [DV.nlL,DV.nl]) (by simp [DV.nlL,DV.nl]) ?_;repeat' ((first|(with_reducible first|refine wr ?_|refine cpc (ih (-((A0c n:Nat):Int)) (by omega) (by omega) (by omega)) ?_|refine A2 ?_ ?_)|(with_reducible refine wb2 ?_ ?_<;>(intro hb;try simp only [hb]))|((with_reducible refine C2e (A4m (l:=[Y0 (W7 n)]) A0 rfl rfl) ?_))|fail)<;>try simp only [go_sem,seval,hd,C0q,C0r,e1,e2,w1,w3,w2,b,a0,a1,a2])
   ·rw [B9j h0 (by simpa using hb)];exact B3 rfl
   ·rw [C3e h0 (by simpa using hb)];exact B3 rfl
  ·have hd:decide (n<0)=false:=by simpa using h0
   have e1:=C4w (n:=n) (by omega);have e2:=C4v (n:=n) (by omega);have hh:A0c n<=n.natAbs:=by unfold A0c;omega
   have w1:=w64 (n:=((A0c n:Nat):Int)) (by omega) (by omega);have hlen:=A5j (n:=((A0c n:Nat):Int)) (by omega) (by omega);have a0:=C9c (s:=M0 ((A0c n:Nat):Int)) (t:=[Y0 (W7 n)]) (by simp;omega);by_cases h9:n<10
   ·have hd9:decide (n<10)=true:=by simpa using h9
    refine PC.ofT B1 rfl (A0B rfl) (by simp [DV.nlL,DV.nl]) (by simp [DV.nlL,DV.nl]) ?_;repeat' ((first|(with_reducible first|refine wr ?_|refine A2 ?_ ?_)|((with_reducible refine C2e (A4m (l:=[Y0 (W7 n)]) A0 rfl rfl) ?_))|fail)<;>try simp only [go_sem,seval,hd,hd9,C0q,C0r,e1,e2,w1,b])
    rw [C6r (by omega) h9];exact B3 rfl
   ·have hd9:decide (n<10)=false:=by simpa using h9
    have hh:=B7x (n:=n) (by omega);refine PC.ofT B1 rfl (A0B rfl) (by simp [DV.nlL,DV.nl]) (by simp [DV.nlL,DV.nl]) ?_;repeat' ((first|(with_reducible first|refine wr ?_|refine cpc (ih ((A0c n:Nat):Int) (by omega) (by omega) (by omega)) ?_|refine A2 ?_ ?_)|((with_reducible refine C2e (A4m (l:=[Y0 (W7 n)]) A0 rfl rfl) ?_))|fail)<;>try simp only [go_sem,seval,hd,hd9,C0q,C0r,e1,e2,w1,b,a0])
    rw [C6s h9];exact B3 rfl
theorem c_Dec' (n:Int) (h1 : -9223372036854775808<=n) (h2:n<=9223372036854775807):PC Tryz.prog 42 [I64 n] (.str (M0 n)):=c_Dec (n.natAbs+1) n (by omega) h1 h2
theorem c_QuoteR (s:List UInt8) (hs:s.length<=100000):PC Tryz.prog 103 [.str s] (.str (T2 s)):=by
 refine PC.ofT B1 rfl (A0B rfl) (by simp [DV.nlL,DV.nl]) (by simp [DV.nlL,DV.nl]) ?_;repeat' ((with_reducible first|refine wr ?_|refine A2 ?_ ?_|fail)<;>try simp only [go_sem,seval])
 refine D8 (fun q:Nat × Nat=>[(0,.str s),(3,.slc q.2 0 (A2g (s.take q.1)).length),(4,I64 q.1)]) (fun q=>Sym.nil.upd q.2 ⟨1,true,F4 (A2g (s.take q.1))⟩)
  (fun q c=>q.1<=s.length/\q.2<c) (fun q=>s.length-q.1) (0,0) (by simp [C9,tm,Tm.upd,A2g]) (Sub.refl _) (by simp) ?_
 rintro ⟨k,id⟩ c ⟨hk,hid⟩;simp only at hk hid;simp only;have hal:(A2g (s.take k)).length<=2 * k+1:=by
  have:=A8a (s.take k);rw [A1B] at this;omega
 obtain ⟨acc,hacc⟩:∃ acc,acc=A2g (s.take k):=⟨_,rfl⟩;rw [<- hacc] at hal ⊢;by_cases hlt:k<s.length
 ·have hd:decide ((k:Int)<s.length)=true:=by simpa using hlt
  have hg:=A0C hlt;have hw:IntKind.i64.wrap ((k:Int)+1)=((k+1:Nat):Int):=by rw [w64 (by omega) (by omega)];omega
  have hA:∀ H c id,apB H c id 1 1 acc.length 1 [.int .u8 92] (some ⟨1,true,F4 acc⟩)=some (.slc c 0 (acc.length+1),(H.del id).upd c ⟨1,true,F4 (acc++[92])⟩,c+1):=fun H c id=>B4i (x:=92) rfl (by omega);have hB:∀ H c id,apB H c id 1 1 (acc.length+1) 1 [.int .u8 (s[k].toNat:Int)] (some ⟨1,true,F4 (acc++[92])⟩)=some (.slc c 0 (acc.length+1+1),(H.del id).upd c ⟨1,true,F4 (acc++[92]++[s[k]])⟩,c+1):=fun H c id=>B4i (by simp) (by omega);have hC:∀ H c id,apB H c id 1 1 acc.length 1 [.int .u8 (s[k].toNat:Int)] (some ⟨1,true,F4 acc⟩)=some (.slc c 0 (acc.length+1),(H.del id).upd c ⟨1,true,F4 (acc++[s[k]])⟩,c+1):=fun H c id=>B4i rfl (by omega);have est:A2g (s.take (k+1))=acc++quB s[k]:=by rw [hacc,A9z hg]
  have ne0:=P0 id c (c+1) (c+2) (c+3) (by omega);repeat' ((with_reducible first|refine wr ?_|refine A2 ?_ ?_|refine wb2 ?_ ?_<;>(intro hb;try simp only [hb])|fail)<;>try simp only [go_sem,seval,hd,hg,hw,ne0,hA,hB,hC])
  ·have e2:quB s[k]=[92,s[k]]:=if_pos (.inl (B6n (b:=34) hb));exact ⟨(k+1,c+1+1+1),⟨by simp only [est,e2,A0A];rfl,rfl⟩,J5 (by simp only [est,e2,A0V];rfl),inv ⟨hlt,by simp only;omega⟩,by simp only;omega⟩
  ·have e2:quB s[k]=[92,s[k]]:=if_pos (.inr (B6n (b:=92) hb));exact ⟨(k+1,c+1+1+1),⟨by simp only [est,e2,A0A];rfl,rfl⟩,J5 (by simp only [est,e2,A0V];rfl),inv ⟨hlt,by simp only;omega⟩,by simp only;omega⟩
  ·have e2:quB s[k]=[s[k]]:=if_neg (fun h=>h.elim (B4h (b:=34) (by assumption)) (B4h (b:=92) hb));exact ⟨(k+1,c+1),⟨by simp only [est,e2,A0A];rfl,rfl⟩,J5 (by simp only [est,e2]),inv ⟨hlt,by simp only;omega⟩,by simp only;omega⟩
 ·have hd:decide ((k:Int)<s.length)=false:=by simpa using hlt
  have hZ:∀ H c id,apB H c id 1 1 acc.length 1 [.int .u8 34] (some ⟨1,true,F4 acc⟩)=some (.slc c 0 (acc.length+1),(H.del id).upd c ⟨1,true,F4 (acc++[34])⟩,c+1):=fun H c id=>B4i (x:=34) rfl (by omega);have ne0:=O0 id c (c+1) (by omega);have hcv:∀ (H:Hp) u,A0j (H.upd (c+1) ⟨u,true,F4 (acc++[34])⟩) (.slc (c+1) 0 (acc.length+1))=some (.str (acc++[34])):=fun H u=>A4m A0 rfl (by simp);repeat' ((with_reducible first|refine wr ?_|refine A2 ?_ ?_|fail)<;>try simp only [go_sem,seval,hd,ne0,hZ,hcv])
  refine B3 ?_;rw [hacc,A0I (by omega)];rfl
theorem c_OneR (t:Tok) (ht:Fit t):PC Tryz.prog 61 [t.v] (.str (J7 t)):=by
 refine PC.ofT B1 rfl (A0B rfl) (by simp [DV.nlL,DV.nl]) (by simp [DV.nlL,DV.nl]) ?_;have hq:=c_QuoteR t.text ht.1;have hd:=c_Dec' t.value ht.2.1 ht.2.2;repeat' ((with_reducible first|refine wr ?_|refine cpc hq ?_|refine cpc hd ?_|refine A2 ?_ ?_|refine wb2 ?_ ?_<;>(intro hb;try simp only [hb])|fail)<;>try simp only [go_sem,seval])
 all_goals (refine B3 (congrArg DV.str ?_);unfold J7;simp_all)
theorem c_Join (l:List (List UInt8)) (sp:List UInt8) (h1:l.length<=140737488355328) (h2:(Lib.join l sp).length<=140737488355328):PC Tryz.prog 64 [strs l,.str sp] (.str (Lib.join l sp)):=by
 refine PC.of_calls (by kernel_rfl) (by simp [DV.nlL,DV.nl,L8]) rfl fun ρ w vs hf hA=>?_;obtain ⟨y,g1,g2⟩:=hA.get (i:=0) rfl;obtain ⟨z,g3,g4⟩:=hA.get (i:=1) rfl;obtain rfl:=g4.str_inv;have hvs:vs = #[y,.string ⟨sp.toArray⟩]:=by
  have hs:vs.size=2:=hA.1.symm;cases vs with|mk r=>match r,hs,g1,g3 with
   | [a,b],_,h1,h3=>simp at h1 h3;subst h1 h3;rfl
 rw [hvs];rcases g2.lst_inv with ⟨e0,e1|⟨a,c,e1⟩⟩|⟨u,b,off,c,row,e1,e2,e3,e4,e5,e6⟩
 ·subst e1;have:l=[]:=by simpa using e0
  subst this;refine (Tryz.strings_Join_none none 0 ⟨sp.toArray⟩ w).mono ?_;rintro e w' ⟨rfl,rfl⟩;exact ⟨_,rfl,fun ρ'=>.mkStr,Below.refl _ _⟩
 ·subst e1;have:l=[]:=by simpa using e0
  subst this;refine (Tryz.strings_Join_none (some a) c ⟨sp.toArray⟩ w).mono ?_;rintro e w' ⟨rfl,rfl⟩;exact ⟨_,rfl,fun ρ'=>.mkStr,Below.refl _ _⟩
 ·subst e1;obtain ⟨e,fr,hb⟩:=hf b row e2;obtain ⟨bs,hbs⟩:∃ bs:List ByteArray,bs=l.map fun s=>(⟨s.toArray⟩:ByteArray):=⟨_,rfl⟩;have hL:(l.map DV.str).length=bs.length:=by rw [hbs];simp
  have hmap:bs.map (fun x=>x.data.toList)=l:=by
   rw [hbs,A3H];exact (A3P fun s _=>rfl).trans (List.map_id l)
  have hmap2:bs.map (·.data.toList)=l:=hmap;have p1:∀ (j:Nat) x,bs[j]? = some x->w.cell? ⟨b,off+j,none⟩=some (.string x):=by
   intro j x hx;rw [hbs,A1A] at hx;obtain ⟨s,hs,rfl⟩:=A0R.1 hx;have hc:(A4 (l.map DV.str))[j]? = some (DV.str s):=by rw [A2w (fun _=>rfl),A1A,hs];rfl
   obtain ⟨v,v1,v2⟩:=e6.get hc;rw [v2.str_inv] at v1;simp only [World.cell?,hb];exact v1
  have p2:b<w.heap.size:=(A0Q.1 hb).1;have p3:bs.length<=140737488355328:=by rw [hbs];simpa using h1
  have p4:bs.length<=c:=by rw [<- hL];exact e3
  have p5:(Lib.join (bs.map (·.data.toList)) (⟨sp.toArray⟩:ByteArray).data.toList).length<=140737488355328:=by
   rw [hmap2];exact h2
  rw [hL];have key:=Tryz.strings_Join b off c bs ⟨sp.toArray⟩ w p1 p2 p3 p4 p5;rw [hmap2] at key;refine key.mono fun e w' hq=>⟨_,hq.1,fun ρ'=>?_,hq.2⟩;exact .mkStr
theorem c_Text (l:List Tok) (hl:l.length<=100000) (hx:∀ t∈l,Fit t):PC Tryz.prog 114 [E4 l] (.str (A6k l)):=by
 refine PC.ofT B1 rfl (A0B rfl) (by simp only [DV.nlL,DV.nl,N5,A1W]) rfl ?_;have htl:=A9q hx;repeat' ((with_reducible first|refine wr ?_|refine A2 ?_ ?_|fail)<;>try simp only [go_sem,seval])
 refine D8 (fun q:Nat × Option Nat=>[(3,B6 q.2 q.1),(6,E4 l),(7,I64 l.length),(8,I64 q.1)]) (fun q=>C5 Sym.nil q.2 ⟨1,true,A4 (((l.take q.1).map J7).map DV.str)⟩)
  (fun q cc=>q.1<=l.length/\(q.2=none->q.1=0)/\∀ i,q.2=some i->i<cc) (fun q=>l.length-q.1) (0,none)
  (by simp [C9,tm,Tm.upd,B6]) (Sub.nil _) ⟨by simp,by simp,by simp⟩ ?_
 rintro ⟨k,o⟩ c ⟨hk,hno,ho⟩;simp only at hk hno ho;simp only;have hkl:((l.take k).map J7).length=k:=by rw [A0G,A1B];omega
 by_cases hlt:k<l.length
 ·have hd:decide ((k:Int)<l.length)=true:=by simpa using hlt
  have hg:=A0C hlt;have hw:IntKind.i64.wrap ((k:Int)+1)=((k+1:Nat):Int):=by rw [w64 (by omega) (by omega)];omega
  have hfit:=hx _ (A0S hlt);have est:A4 (((l.take (k+1)).map J7).map DV.str)=A4 (((l.take k).map J7).map DV.str)++[DV.str (J7 l[k])]:=by
   rw [A1D,hg,Option.toList_some,A0M,A0M,C6];rfl
  obtain ⟨t,ht⟩:∃ t,t=l[k]:=⟨_,rfl⟩;rw [<- ht] at hg hfit est;have h1:=c_Quote t.text (by have:=hfit.1;omega);have h2:=c_Itoa t.value hfit.2.1 hfit.2.2;obtain ⟨cs,hcs⟩:∃ cs,cs=A4 (((l.take k).map J7).map DV.str):=⟨_,rfl⟩;have hcl:cs.length=k * 1:=by rw [hcs,C0e,hkl]
  rw [<- hcs] at est ⊢;have hno2:o=none->k=0/\cs=[]:=fun e=>⟨hno e,by rw [hcs,hno e];rfl⟩;have ne0:=O0 c (c+1) (c+2) (by omega);repeat' ((with_reducible first|refine wr ?_|refine cpc h1 ?_|refine cpc h2 ?_|refine A2 ?_ ?_|refine wb2 ?_ ?_<;>(intro hb;try simp only [hb])|fail)<;>try simp only [go_sem,seval,hd,hg,hw,ne0])
  all_goals
   refine C4 (E6 (cs:=cs) hno2 (fun i hi=>?_) hcl (by omega) (by omega) (by omega)) ?_
   ·have:=ho i hi;rw [A3 (by omega),A3 (by omega),A3 (by omega)];exact A0r hi
   simp only [go_sem,seval,ne0,hw];repeat' ((with_reducible first|refine wr ?_|refine cpc h1 ?_|refine cpc h2 ?_|refine A2 ?_ ?_|fail)<;>try simp only [go_sem,seval,hd,hg,hw,ne0])
   exact ⟨(k+1,some (c+1+1)),⟨rfl,rfl⟩,J5 (by simp only [est];exact congrArg (fun z=>(⟨1,true,cs++[DV.str z]⟩:Blk)) (by unfold J7;simp_all)),inv ⟨hlt,by simp,fun i hi=>by cases hi;omega⟩,by simp only;omega⟩
 ·have hd:decide ((k:Int)<l.length)=false:=by simpa using hlt
  have hj:=c_Join (l.map J7) [32] (by rw [A0G];omega) (by rw [A3c];omega);rw [A3c] at hj;obtain rfl:k=l.length:=by omega
  rw [A2Z] at hkl ⊢;rcases o with _|id
  ·have hk0:=hno rfl;have h00:l=[]:=A1N (by omega);repeat' ((with_reducible first|refine wr ?_|refine A2 ?_ ?_|fail)<;>try simp only [go_sem,seval,hd])
   refine AC.call (hj.give (H0:=Sym.nil) ⟨fun _ h=>h,fun ρ w vs h1 h2=>⟨ρ,rfl,h1,?_,Ext.refl _ _ _⟩⟩) ?_
   ·rw [h00];exact ⟨h2.1,fun i x y hx hy=>by
     match i with
     | 0=>cases hx;exact (h2.2 0 _ y rfl hy).snil_lst
     | 1=>cases hx;exact h2.2 1 _ y rfl hy
     | _+2=>cases hx⟩
   ·rintro v H' c' ⟨rfl,rfl,rfl⟩ -;simp only [go_sem,seval];repeat' ((with_reducible first|refine wr ?_|refine A2 ?_ ?_|fail)<;>try simp only [go_sem,seval])
    exact B3 rfl
  ·repeat' ((with_reducible first|refine wr ?_|refine A2 ?_ ?_|fail)<;>try simp only [go_sem,seval,hd])
   refine AC.call (hj.give (H0:=Sym.nil) (GL.one (id:=id) A0 rfl (.cons _ _ _ _ (N7 (u:=1) (by rw [A0G,hkl]) (J1 _) ⟨[],by simp⟩) (.cons _ _ _ _ (.same _) .nil)))) ?_;rintro v H' c' ⟨rfl,rfl,rfl⟩ -;simp only [go_sem,seval];repeat' ((with_reducible first|refine wr ?_|refine A2 ?_ ?_|fail)<;>try simp only [go_sem,seval])
   exact B3 rfl
end Go.Proofs.YthlpinppaclofaaGreatDoor
namespace Go.Pb
variable [Go.Sym.Tab]
open Go.Sym
def Evt {α : Type} (g:Nat->Option α) (r : α):Prop:=∃ N, ∀ f,N<=f->g f=some r
theorem Evt.one {α : Type} {g:Nat->Option α} {r : α} (h:∀ f,g (f+1)=some r):Evt g r :=
 ⟨1,fun f hf=>by obtain ⟨k,rfl⟩:∃ k,f=k+1:=⟨f-1,by omega⟩;exact h k⟩
theorem Evt.ext {α β : Type} {g:Nat->Option α} {h:Nat->Option β} {r : α} {q : β} (hg:Evt g r) (e:∀ f,g f=some r->h (f+1)=some q):Evt h q:=by
 obtain ⟨N,hg⟩:=hg;exact ⟨N+1,fun f hf=>by obtain ⟨k,rfl⟩:∃ k,f=k+1:=⟨f-1,by omega⟩;exact e k (hg k (by omega))⟩
theorem Evt.map {α β : Type} {g:Nat->Option α} {h:Nat->Option β} {r : α} {q : β} (hg:Evt g r) (e:∀ f,g f=some r->h f=some q):Evt h q:=by
 obtain ⟨N,hg⟩:=hg;exact ⟨N,fun f hf=>e f (hg f hf)⟩
theorem Evt.and {α β : Type} {g:Nat->Option α} {h:Nat->Option β} {r : α} {q : β} (hg:Evt g r) (hh:Evt h q):Evt (fun f=>match g f,h f with|some a,some b=>some (a,b)|_,_=>none) (r,q):=by
 obtain ⟨N,hg⟩:=hg;obtain ⟨M,hh⟩:=hh;exact ⟨max N M,fun f hf=>by dsimp only;rw [hg f (by omega),hh f (by omega)]⟩
theorem Evt.ext2 {α β γ : Type} {g:Nat->Option α} {h:Nat->Option β} {k:Nat->Option γ} {r : α} {q : β} {w : γ} (hg:Evt g r) (hh:Evt h q) (e:∀ f,g f=some r->h f=some q->k (f+1)=some w):Evt k w:=by
 obtain ⟨N,hg⟩:=hg;obtain ⟨M,hh⟩:=hh;exact ⟨max N M+1,fun f hf=>by obtain ⟨j,rfl⟩:∃ j,f=j+1:=⟨f-1,by omega⟩;exact e j (hg j (by omega)) (hh j (by omega))⟩
theorem Evt.map2 {α β γ : Type} {g:Nat->Option α} {h:Nat->Option β} {k:Nat->Option γ} {r : α} {q : β} {w : γ} (hg:Evt g r) (hh:Evt h q) (e:∀ f,g f=some r->h f=some q->k f=some w):Evt k w:=by
 obtain ⟨N,hg⟩:=hg;obtain ⟨M,hh⟩:=hh;exact ⟨max N M,fun f hf=>e f (hg f (by omega)) (hh f (by omega))⟩
theorem Evt.uniq {α : Type} {g:Nat->Option α} {r q : α} (h1:Evt g r) (h2:Evt g q):r=q:=by
 obtain ⟨N,h1⟩:=h1;obtain ⟨M,h2⟩:=h2;exact Option.some.inj ((h1 (max N M) (by omega)).symm.trans (h2 (max N M) (by omega)))
theorem Evt.get {α : Type} {g:Nat->Option α} {r : α} (h:Evt g r):∃ f,g f=some r:=by
 obtain ⟨N,h⟩:=h;exact ⟨N,h N (A0E _)⟩
section
variable {L:List Tok} {E:Int}
abbrev Bin (L:List Tok) (E n:Int) (s:Rd) (r:Ex × Rd):Prop:=Evt (fun f=>F5 L E f n s) r
abbrev Lop (L:List Tok) (E n:Int) (e:Ex) (s:Rd) (r:Ex × Rd):Prop:=Evt (fun f=>K2 L E f n e s) r
abbrev Un (L:List Tok) (E:Int) (s:Rd) (r:Ex × Rd):Prop:=Evt (fun f=>K8 L E f s) r
theorem Bin.un {n:Int} {s:Rd} {r:Ex × Rd} (hn:5<n) (h:Un L E s r):Bin L E n s r :=
 h.ext fun f h=>by rw [F5,if_pos hn];exact h
theorem Bin.go {n:Int} {s s1:Rd} {e:Ex} {r:Ex × Rd} (hn:n<=5) (h:Bin L E (n+1) s (e,s1)) (h2:Lop L E n e s1 r):Bin L E n s r :=
 h.ext2 h2 fun f h h2=>by rw [F5,if_neg (by omega),h];exact h2
theorem Lop.stop {n:Int} {e:Ex} {s:Rd} (h:B9 L E s C3<0\/B8 (12+B9 L E s C3)≠n):Lop L E n e s (e,s) :=
 Evt.one fun f=>by rw [K2];dsimp only;rw [if_pos h]
theorem Lop.three {n:Int} {e x:Ex} {s s1:Rd} (h0:0<=B9 L E s C3) (h1:B8 (12+B9 L E s C3)=n) (hn:n=3) (hb:Bin L E (n+1) (A8 s) (x,s1)):Lop L E n e s (.mk (12+B9 L E s C3) 0 [] [e,x] (A7 L E s).pos,s1) :=
 hb.ext fun f h=>by rw [K2];dsimp only;rw [if_neg (by omega),h];dsimp only;rw [if_pos hn]
theorem Lop.more {n:Int} {e x:Ex} {s s1:Rd} {r:Ex × Rd} (h0:0<=B9 L E s C3) (h1:B8 (12+B9 L E s C3)=n) (hn:n≠3) (hb:Bin L E (n+1) (A8 s) (x,s1)) (hl:Lop L E n (.mk (12+B9 L E s C3) 0 [] [e,x] (A7 L E s).pos) s1 r):Lop L E n e s r :=
 hb.ext2 hl fun f h h2=>by rw [K2];dsimp only;rw [if_neg (by omega),h];dsimp only;rw [if_neg hn];exact h2
theorem Un.prim {s:Rd} (h:B9 L E s N9<0):Un L E s (H9 L E s) :=
 Evt.one fun f=>by rw [K8];dsimp only;rw [if_pos h]
theorem Un.bad {s:Rd} (h:0<=B9 L E s N9) (hl:okR (C7 L E s (s.par+1) 16 50)=false):Un L E s (Ex0,C7 L E s (s.par+1) 16 50) :=
 Evt.one fun f=>by rw [K8];dsimp only;rw [if_neg (by omega),if_pos hl]
theorem Un.par {s s3:Rd} {e:Ex} (h:B9 L E s N9=2) (hl:okR (C7 L E s (s.par+1) 16 50)=true) (hb:Bin L E 1 { s with i:=s.i+1,par:=s.par+1 } (e,s3)):Un L E s (e, { D6 L E s3 [41] with par:=(D6 L E s3 [41]).par-1 }) :=
 hb.ext fun f hf=>by
  have e0:=(I1 (by decide) hl).2.2;rw [K8];dsimp only;rw [if_neg (by omega),if_neg (by rw [hl];decide),e0,if_pos h,hf]
theorem Un.pre {s s3:Rd} {e:Ex} (h0:0<=B9 L E s N9) (h:B9 L E s N9≠2) (hl:okR (C7 L E s (s.par+1) 16 50)=true) (hb:Un L E { s with i:=s.i+1,par:=s.par+1 } (e,s3)):Un L E s (.mk (10+B9 L E s N9) 0 [] [e] (A7 L E s).pos, { s3 with par:=s3.par-1 }) :=
 hb.ext fun f hf=>by
  have e0:=(I1 (by decide) hl).2.2;rw [K8];dsimp only;rw [if_neg (by omega),if_neg (by rw [hl];decide),e0,if_neg h,hf]
theorem F3 {s:Rd} {x:List UInt8}:s.i<=(D6 L E s x).i:=by
 unfold D6;cases k:isR L E s x with
 | false=>rw [if_pos rfl,W6];exact A0E _
 | true=>rw [if_neg (by simp)];exact A3G _
theorem K4 {s:Rd} {x:Int}:s.i<=(A9 L E s x).2.i:=by
 unfold A9;cases k:G7 L E s x with
 | false=>rw [if_pos rfl];show s.i<=(O3 L E s).i;rw [W6];exact A0E _
 | true=>rw [if_neg (by simp)];exact A3G _
theorem B7m {s:Rd}:s.i<=(H9 L E s).2.i:=by
 unfold H9;dsimp only;have h2:(C7 L E { s with ops:=s.ops+1 } (s.ops+1) 32 9).i=s.i:=G9;have h3:(A8 (C7 L E { s with ops:=s.ops+1 } (s.ops+1) 32 9)).i=s.i+1:=by show (C7 L E { s with ops:=s.ops+1 } (s.ops+1) 32 9).i+1=_;rw [h2]
 split
 ·show s.i<=(O3 L E s).i;rw [W6];exact A0E _
 ·split
  ·show s.i<=(C7 L E { s with ops:=s.ops+1 } (s.ops+1) 32 9).i;rw [h2];exact A0E _
  ·have:=K4 (L:=L) (E:=E) (s:=A8 (C7 L E { s with ops:=s.ops+1 } (s.ops+1) 32 9)) (x:=1);repeat' split
   all_goals (first|(show s.i<=(A9 L E _ 1).2.i;omega)|(show s.i<=(A8 _).i;omega))
theorem ET.all:∀ (m:Nat),(∀ s:Rd,L.length-s.i<=m->∃ r,Un L E s r/\s.i<=r.2.i)/\(∀ (n:Int) e (s:Rd),n<=5->1<=n->L.length-s.i<=m->∃ r,Lop L E n e s r/\s.i<=r.2.i)/\(∀ (n:Int) (s:Rd),1<=n->L.length-s.i<=m->∃ r,Bin L E n s r/\s.i<=r.2.i):=by
 intro m
 induction m using Nat.strongRecOn with
 | _ m ih =>
  have A:∀ s:Rd,L.length-s.i<=m->∃ r,Un L E s r/\s.i<=r.2.i:=by
   intro s hs;by_cases hk:B9 L E s N9<0
   ·exact ⟨_,Un.prim hk,B7m⟩
   ·obtain ⟨-,hi, -⟩:=H8 (show 0<=B9 L E s N9 by omega);cases hl:okR (C7 L E s (s.par+1) 16 50) with
    | false=>exact ⟨_,Un.bad (by omega) hl,by show s.i<=(C7 L E s (s.par+1) 16 50).i;rw [G9];exact A0E _⟩
    | true =>
     by_cases h2:B9 L E s N9=2
     ·obtain ⟨⟨e,s3⟩,hb,hge⟩:=(ih (m-1) (by omega)).2.2 1 { s with i:=s.i+1,par:=s.par+1 } (by decide) (by show L.length-(s.i+1)<=m-1;omega);refine ⟨_,Un.par h2 hl hb,?_⟩;have h4:=F3 (L:=L) (E:=E) (s:=s3) (x:=[41]);have h5:s.i+1<=s3.i:=hge;show s.i<=(D6 L E s3 [41]).i;omega
     ·obtain ⟨⟨e,s3⟩,hb,hge⟩:=(ih (m-1) (by omega)).1 { s with i:=s.i+1,par:=s.par+1 } (by show L.length-(s.i+1)<=m-1;omega);refine ⟨_,Un.pre (by omega) h2 hl hb,?_⟩;have h5:s.i+1<=s3.i:=hge;show s.i<=s3.i;omega
  have B:∀ (n:Int) e (s:Rd),n<=5->1<=n->L.length-s.i<=m->∃ r,Lop L E n e s r/\s.i<=r.2.i:=by
   intro n e s h5 h1 hs;by_cases hk:B9 L E s C3<0\/B8 (12+B9 L E s C3)≠n
   ·exact ⟨_,Lop.stop hk,A0E _⟩
   ·have h0:0<=B9 L E s C3:=by omega
    obtain ⟨-,hi, -⟩:=H8 h0;obtain ⟨⟨x,s1⟩,hb,hge⟩:=(ih (m-1) (by omega)).2.2 (n+1) (A8 s) (by omega) (by show L.length-(s.i+1)<=m-1;omega);have hge:s.i+1<=s1.i:=hge;by_cases h3:n=3
    ·exact ⟨_,Lop.three h0 (by omega) h3 hb,by show s.i<=s1.i;omega⟩
    ·obtain ⟨r,hl,hg2⟩:=(ih (m-1) (by omega)).2.1 n (.mk (12+B9 L E s C3) 0 [] [e,x] (A7 L E s).pos) s1 h5 h1 (by omega);exact ⟨_,Lop.more h0 (by omega) h3 hb hl,by omega⟩
  refine ⟨A,B,?_⟩;have C:∀ (j:Nat) (n:Int) (s:Rd),6-n<=j->1<=n->L.length-s.i<=m->∃ r,Bin L E n s r/\s.i<=r.2.i:=by
   intro j
   induction j with
   | zero =>
    intro n s hj h1 hs;obtain ⟨r,h,hg⟩:=A s hs;exact ⟨r,Bin.un (by omega) h,hg⟩
   | succ j ihj =>
    intro n s hj h1 hs;by_cases h5:5<n
    ·obtain ⟨r,h,hg⟩:=A s hs;exact ⟨r,Bin.un h5 h,hg⟩
    ·obtain ⟨⟨e,s1⟩,h,hg⟩:=ihj (n+1) s (by omega) (by omega) hs;have hg:s.i<=s1.i:=hg;obtain ⟨r,h2,hg2⟩:=B n e s1 (by omega) h1 (by omega);exact ⟨r,Bin.go (by omega) h h2,by omega⟩
  exact fun n s h1 hs=>C (6-n).toNat n s (by omega) h1 hs
abbrev Xpn (L:List Tok) (E:Int) (s:Rd) (r:Ex × Rd):Prop:=Evt (fun f=>H4 L E f s) r
theorem A0d (s:Rd):∃ r,Xpn L E s r/\s.i<=r.2.i:=by
 obtain ⟨r,h,hg⟩:=(ET.all (L:=L) (E:=E) (L.length-s.i)).2.2 1 { s with ops:=0,par:=0 } (by decide) (A0E _);exact ⟨r,h,hg⟩
theorem C0b (k p:Int) (s:Rd):∃ r,Evt (fun f=>N1 L E f k p s) r/\s.i<=r.2.i:=by
 by_cases h4:k=4
 ·obtain ⟨⟨e,s1⟩,h,hg⟩:=A0d (L:=L) (E:=E) s;exact ⟨_,h.map fun f h=>by unfold N1;rw [if_pos h4,h],A2A hg F3⟩
 by_cases h18:k=18
 ·obtain ⟨⟨e,s1⟩,h,hg⟩:=A0d (L:=L) (E:=E) (D6 L E (A9 L E s 4).2 [44]);exact ⟨_,h.map fun f h=>by unfold N1;rw [if_neg h4,if_pos h18,h],A2A (A2A K4 (A2A F3 hg)) F3⟩
 by_cases h19:k=19
 ·exact ⟨_,Evt.one fun f=>by unfold N1;rw [if_neg h4,if_neg h18,if_pos h19],F3⟩
 by_cases h8:k=8\/k=9\/k=10
 ·obtain ⟨⟨e,s1⟩,h,hg⟩:=A0d (L:=L) (E:=E) (A9 L E s 1).2;by_cases h9:k=9
  ·obtain ⟨⟨e2,s2⟩,h2,hg2⟩:=A0d (L:=L) (E:=E) (D6 L E s1 [44]);exact ⟨_,h.map2 h2 fun f h h2=>by unfold N1;rw [if_neg h4,if_neg h18,if_neg h19];dsimp only;rw [if_pos h8,h];dsimp only;rw [if_pos h9,h2],A2A (A2A K4 (A2A hg (A2A F3 hg2))) F3⟩
  ·exact ⟨_,h.map fun f h=>by unfold N1;rw [if_neg h4,if_neg h18,if_neg h19];dsimp only;rw [if_pos h8,h];dsimp only;rw [if_neg h9],A2A (A2A K4 hg) F3⟩
 ·exact ⟨_,Evt.one fun f=>by unfold N1;rw [if_neg h4,if_neg h18,if_neg h19];dsimp only;rw [if_neg h8],A2A K4 F3⟩
abbrev A7b (L:List Tok) (E d:Int) (s:Rd) (r:List St × Rd):Prop:=Evt (fun f=>G4 L E f d s) r
abbrev A0w (L:List Tok) (E d:Int) (l:List St) (s:Rd) (r:List St × Rd):Prop:=Evt (fun f=>K6 L E f d l s) r
abbrev U7 (L:List Tok) (E d:Int) (s:Rd) (r:St × Rd):Prop:=Evt (fun f=>J6 L E f d s) r
abbrev A7a (L:List Tok) (E d:Int) (s:Rd) (r:List St × Rd):Prop:=Evt (fun f=>N4 L E f d s) r
theorem A7b.mk {d:Int} {s:Rd} {r:List St × Rd} (h:A0w L E d [] (D6 L E s [123]) r):A7b L E d s r :=
 h.ext fun f h=>by rw [G4];exact h
theorem A0w.stop {d:Int} {l:List St} {s:Rd} (h:¬ (okR s=true/\isR L E s [125]=false)):A0w L E d l s (l,D6 L E s [125]) :=
 Evt.one fun f=>by rw [K6,if_neg h]
theorem A0w.bad {d:Int} {l:List St} {s:Rd} (h:okR s=true/\isR L E s [125]=false) (h2:B9 L E s B7<0/\G7 L E s 1=false):A0w L E d l s ([],O3 L E s) :=
 Evt.one fun f=>by rw [K6,if_pos h,if_pos h2]
theorem A0w.more {d:Int} {l:List St} {s s1:Rd} {x:St} {r:List St × Rd} (h:okR s=true/\isR L E s [125]=false) (h2:¬ (B9 L E s B7<0/\G7 L E s 1=false)) (hx:U7 L E d (C7 L E s ((l.length:Int)+1) 64 9) (x,s1)) (hl:A0w L E d (l++[x]) s1 r):A0w L E d l s r :=
 hx.ext2 hl fun f hx hl=>by rw [K6,if_pos h,if_neg h2,hx];exact hl
theorem U7.bad {d:Int} {s:Rd} (h:okR (C7 L E s d 8 50)=false):U7 L E d s (St0,C7 L E s d 8 50) :=
 Evt.one fun f=>by rw [J6];dsimp only;rw [if_pos h]
theorem U7.set {d:Int} {s s1:Rd} {e:Ex} (h:okR (C7 L E s d 8 50)=true) (hk:B9 L E s B7<0) (he:Xpn L E (D6 L E (A9 L E s 1).2 [61]) (e,s1)):U7 L E d s (.mk 1 (A9 L E s 1).1.text [] [e] [] [] (A7 L E s).pos,D6 L E s1 [59]) :=
 he.ext fun f hf=>by
  have e0:=(I1 (by decide) h).2.2;rw [J6];dsimp only;rw [if_neg (by rw [h];decide),e0,if_pos hk,hf]
theorem U7.els {d:Int} {s s2 s3 s4:Rd} {e:Ex} {t o:List St} (h:okR (C7 L E s d 8 50)=true) (hk:B9 L E s B7=0) (he:Xpn L E (A8 s) (e,s2)) (ht:A7b L E (d+1) s2 (t,s3)) (hi:isR L E s3 [101,108,115,101]=true) (ho:A7a L E d (A8 s3) (o,s4)):U7 L E d s (.mk 2 [] [] [e] t o (A7 L E s).pos,s4) :=
 (he.and ht).ext2 ho fun f hf h2=>by
  have e0:=(I1 (by decide) h).2.2;cases h3:H4 L E f (A8 s) with
  | none=>rw [h3] at hf;cases hf
  | some q =>
   cases h4:G4 L E f (d+1) s2 with
   | none=>rw [h3,h4] at hf;cases hf
   | some w =>
    rw [h3,h4] at hf;obtain ⟨rfl,rfl⟩:=Prod.mk.inj (Option.some.inj hf);rw [J6];dsimp only;rw [if_neg (by rw [h];decide),e0,if_neg (by omega),if_pos (.inl hk),h3];dsimp only;rw [h4];dsimp only;rw [if_pos ⟨hk,hi⟩,h2]
theorem U7.blk {d:Int} {s s2 s3:Rd} {e:Ex} {t:List St} (h:okR (C7 L E s d 8 50)=true) (hk:B9 L E s B7=0\/B9 L E s B7=1) (he:Xpn L E (A8 s) (e,s2)) (ht:A7b L E (d+1) s2 (t,s3)) (hi:¬ (B9 L E s B7=0/\isR L E s3 [101,108,115,101]=true)):U7 L E d s (.mk (2+B9 L E s B7) [] [] [e] t [] (A7 L E s).pos,s3) :=
 he.ext2 ht fun f h3 h4=>by
  have e0:=(I1 (by decide) h).2.2;rw [J6];dsimp only;rw [if_neg (by rw [h];decide),e0,if_neg (by omega),if_pos hk,h3];dsimp only;rw [h4];dsimp only;rw [if_neg hi]
theorem U7.tail {d:Int} {s:Rd} {r:St × Rd} (h:okR (C7 L E s d 8 50)=true) (hk:2<=B9 L E s B7) (he:Evt (fun f=>N1 L E f (2+B9 L E s B7) (A7 L E s).pos (A8 s)) r):U7 L E d s r :=
 he.ext fun f h3=>by
  have e0:=(I1 (by decide) h).2.2;rw [J6];dsimp only;rw [if_neg (by rw [h];decide),e0,if_neg (by omega),if_neg (by omega)];exact h3
theorem A7a.iff {d:Int} {s s1:Rd} {x:St} (h:isR L E s [105,102]=true) (hs:U7 L E (d+1) s (x,s1)):A7a L E d s ([x],s1) :=
 hs.ext fun f hf=>by rw [N4,if_pos h,hf]
theorem A7a.blk {d:Int} {s:Rd} {r:List St × Rd} (h:isR L E s [105,102]=false) (hs:A7b L E (d+1) s r):A7a L E d s r :=
 hs.ext fun f hf=>by rw [N4,if_neg (by rw [h];decide)];exact hf
theorem ST.all:∀ (m:Nat),(∀ d (s:Rd),L.length-s.i<=m->∃ r,U7 L E d s r/\s.i<=r.2.i/\(okR (C7 L E s d 8 50)=true->(0<=B9 L E s B7\/G7 L E s 1=true)->s.i<r.2.i)) /\
  (∀ d l (s:Rd),L.length-s.i<=m->∃ r,A0w L E d l s r/\s.i<=r.2.i):=by
 intro m
 induction m using Nat.strongRecOn with
 | _ m ih =>
  have blk:∀ d (s:Rd),L.length-s.i<m->∃ r,A7b L E d s r/\s.i<=r.2.i:=by
   intro d s hs;have h0:=F3 (L:=L) (E:=E) (s:=s) (x:=[123]);obtain ⟨r,h,hg⟩:=(ih _ hs).2 d [] (D6 L E s [123]) (by omega);exact ⟨r,A7b.mk h,by omega⟩
  have oth:∀ d (s:Rd),L.length-s.i<m->∃ r,A7a L E d s r/\s.i<=r.2.i:=by
   intro d s hs;cases hi:isR L E s [105,102] with
   | true =>
    obtain ⟨⟨x,s1⟩,h,hg, -⟩:=(ih _ hs).1 (d+1) s (A0E _);exact ⟨_,A7a.iff hi h,hg⟩
   | false =>
    obtain ⟨r,h,hg⟩:=blk (d+1) s hs;exact ⟨r,A7a.blk hi h,hg⟩
  have A:∀ d (s:Rd),L.length-s.i<=m->∃ r,U7 L E d s r/\s.i<=r.2.i/\(okR (C7 L E s d 8 50)=true->(0<=B9 L E s B7\/G7 L E s 1=true)->s.i<r.2.i):=by
   intro d s hs;cases hl:okR (C7 L E s d 8 50) with
   | false=>exact ⟨_,U7.bad hl,by show s.i<=(C7 L E s d 8 50).i;rw [G9];exact A0E _,fun h=>by cases h⟩
   | true =>
    by_cases hk:B9 L E s B7<0
    ·obtain ⟨⟨e,s1⟩,he,hg⟩:=A0d (L:=L) (E:=E) (D6 L E (A9 L E s 1).2 [61]);have hg:(D6 L E (A9 L E s 1).2 [61]).i<=s1.i:=hg;have h1:=F3 (L:=L) (E:=E) (s:=s1) (x:=[59]);have h2:=F3 (L:=L) (E:=E) (s:=(A9 L E s 1).2) (x:=[61]);have h3:=K4 (L:=L) (E:=E) (s:=s) (x:=1);refine ⟨_,U7.set hl hk he,by show s.i<=(D6 L E s1 [59]).i;omega,fun _ hc=>?_⟩;have h4:G7 L E s 1=true:=hc.resolve_left (by omega);have h5:(A9 L E s 1).2.i=s.i+1:=by unfold A9;rw [if_neg (by rw [h4];decide)];rfl
     show s.i<(D6 L E s1 [59]).i;omega
    ·obtain ⟨-,hi, -,hk18⟩:=H8 (show 0<=B9 L E s B7 by omega);by_cases h01:B9 L E s B7=0\/B9 L E s B7=1
     ·obtain ⟨⟨e,s2⟩,he,hg⟩:=A0d (L:=L) (E:=E) (A8 s);have hg:s.i+1<=s2.i:=hg;obtain ⟨⟨t,s3⟩,ht,hg3⟩:=blk (d+1) s2 (by omega);have hg3:s2.i<=s3.i:=hg3;by_cases hc:B9 L E s B7=0/\isR L E s3 [101,108,115,101]=true
      ·have hi3:=(Z3 hc.2).2;obtain ⟨⟨o,s4⟩,ho,hg4⟩:=oth d (A8 s3) (by show L.length-(s3.i+1)<m;omega);have hg4:s3.i+1<=s4.i:=hg4;exact ⟨_,U7.els hl hc.1 he ht hc.2 ho,by show s.i<=s4.i;omega,fun _ _=>by show s.i<s4.i;omega⟩
      ·exact ⟨_,U7.blk hl h01 he ht hc,by show s.i<=s3.i;omega,fun _ _=>by show s.i<s3.i;omega⟩
     ·obtain ⟨r,hr,hg⟩:=C0b (L:=L) (E:=E) (2+B9 L E s B7) (A7 L E s).pos (A8 s);have hg:s.i+1<=r.2.i:=hg;exact ⟨_,U7.tail hl (by omega) hr,by omega,fun _ _=>by omega⟩
  refine ⟨A,fun d l s hs=>?_⟩;by_cases hc:okR s=true/\isR L E s [125]=false
  ·by_cases h2:B9 L E s B7<0/\G7 L E s 1=false
   ·exact ⟨_,A0w.bad hc h2,by show s.i<=(O3 L E s).i;rw [W6];exact A0E _⟩
   ·have hlt:s.i<L.length:=by
     by_cases hk:0<=B9 L E s B7
     ·exact (H8 hk).2.1
     ·cases h1:G7 L E s 1 with
      | false=>exact absurd ⟨by omega,h1⟩ h2
      | true=>exact (I0 (by decide) (I2 h1).2).2
    cases hl:okR (C7 L E s ((l.length:Int)+1) 64 9) with
    | false =>
     have hb:okR (C7 L E (C7 L E s ((l.length:Int)+1) 64 9) d 8 50)=false:=by
      cases hz:okR (C7 L E (C7 L E s ((l.length:Int)+1) 64 9) d 8 50) with
      | false=>rfl
      | true=>rw [(I1 (by decide) hz).1] at hl;cases hl
     have hx:=U7.bad hb;refine ⟨_,A0w.more hc h2 hx (A0w.stop (by rw [hb];simp)),?_⟩;have h1:=F3 (L:=L) (E:=E) (s:=C7 L E (C7 L E s ((l.length:Int)+1) 64 9) d 8 50) (x:=[125]);rw [G9,G9] at h1;exact h1
    | true =>
     have e0:=(I1 (by decide) hl).2.2;obtain ⟨⟨x,s1⟩,hx,hg,hprog⟩:=A d s hs;have hg:s.i<=s1.i:=hg;cases hd:okR (C7 L E s d 8 50) with
     | false =>
      have hx:=U7.bad hd;refine ⟨_,A0w.more hc h2 (by rw [e0];exact hx) (A0w.stop (by rw [hd];simp)),?_⟩;have h1:=F3 (L:=L) (E:=E) (s:=C7 L E s d 8 50) (x:=[125]);rw [G9] at h1;exact h1
     | true =>
      have hlt2:s.i<s1.i:=hprog hd (by
       by_cases hk:0<=B9 L E s B7
       ·exact .inl hk
       ·cases h1:G7 L E s 1 with
        | false=>exact absurd ⟨by omega,h1⟩ h2
        | true=>exact .inr rfl)
      obtain ⟨r,hr,hg2⟩:=(ih (L.length-s1.i) (by omega)).2 d (l++[x]) s1 (A0E _);exact ⟨r,A0w.more hc h2 (by rw [e0];exact hx) hr,by omega⟩
  ·exact ⟨_,A0w.stop hc,F3⟩
theorem C6z (d:Int) (s:Rd):∃ r,A7b L E d s r/\s.i<=r.2.i:=by
 obtain ⟨r,h,hg⟩:=(ST.all (L:=L) (E:=E) _).2 d [] (D6 L E s [123]) (A0E _);exact ⟨r,A7b.mk h,A2A F3 hg⟩
theorem C5o:∀ (m:Nat) (l:List Hd) (s:Rd),L.length-s.i<=m->∃ r,Evt (fun f=>N6 L E f l s) r/\s.i<=r.2.i:=by
 intro m
 induction m using Nat.strongRecOn with
 | _ m ih =>
  intro l s hs;by_cases hc:okR s=true/\isR L E s [125]=false
  ·cases hon:isR L E s [111,110] with
   | false=>exact ⟨_,Evt.one fun f=>by rw [N6,if_pos hc,if_pos hon],by show s.i<=(O3 L E s).i;rw [W6];exact A0E _⟩
   | true =>
    have hi:=(Z3 hon).2;have h1:(C7 L E s ((l.length:Int)+1) 32 9).i=s.i:=G9;generalize hl:C7 L E s ((l.length:Int)+1) 32 9=s1 at h1;have h2:=F3 (L:=L) (E:=E) (s:=s1) (x:=[111,110]);generalize he:D6 L E s1 [111,110]=s2 at h2;by_cases hk:B9 L E s2 D3<0
    ·exact ⟨_,Evt.one fun f=>by rw [N6,if_pos hc,if_neg (by rw [hon];decide),hl];dsimp only;rw [he,if_pos hk],by show s.i<=(O3 L E s2).i;rw [W6];omega⟩
    ·have hi2:=(H8 (show 0<=B9 L E s2 D3 by omega)).2.1;have h4:s2.i+1<=(if 2<=B9 L E s2 D3 then (A9 L E (A8 s2) 1).2 else A8 s2).i:=by
      split
      ·exact K4 (L:=L) (E:=E) (s:=A8 s2) (x:=1)
      ·exact A0E _
     obtain ⟨⟨b,s5⟩,hb,hg⟩:=C6z (L:=L) (E:=E) 1 (if 2<=B9 L E s2 D3 then (A9 L E (A8 s2) 1).2 else A8 s2);have hg:(if 2<=B9 L E s2 D3 then (A9 L E (A8 s2) 1).2 else A8 s2).i<=s5.i:=hg;obtain ⟨r,hr,hg2⟩:=ih (L.length-s5.i) (by omega) (l++[⟨1+B9 L E s2 D3,if 2<=B9 L E s2 D3 then (A9 L E (A8 s2) 1).1.text else [],b,(A7 L E s1).pos⟩]) s5 (A0E _);exact ⟨r,hb.ext2 hr fun f hb hr=>by rw [N6,if_pos hc,if_neg (by rw [hon];decide),hl];dsimp only;rw [he,if_neg hk,hb];exact hr,by omega⟩
  ·exact ⟨_,Evt.one fun f=>by rw [N6,if_neg hc],F3⟩
theorem C5m (s:Rd):∃ r,Evt (fun f=>A0s L E f s) r/\s.i<=r.2.i/\(isR L E s [109,111,100,101]=true->s.i<r.2.i):=by
 obtain ⟨⟨l,s3⟩,h,hg⟩:=C5o (L:=L) (E:=E) _ [] (D6 L E (A9 L E (A9 L E (D6 L E s [109,111,100,101]) 1).2 3).2 [123]) (A0E _);have hg:(D6 L E (A9 L E (A9 L E (D6 L E s [109,111,100,101]) 1).2 3).2 [123]).i<=s3.i:=hg;have h1:=F3 (L:=L) (E:=E) (s:=(A9 L E (A9 L E (D6 L E s [109,111,100,101]) 1).2 3).2) (x:=[123]);have h2:=K4 (L:=L) (E:=E) (s:=(A9 L E (D6 L E s [109,111,100,101]) 1).2) (x:=3);have h3:=K4 (L:=L) (E:=E) (s:=D6 L E s [109,111,100,101]) (x:=1);have h4:=F3 (L:=L) (E:=E) (s:=s) (x:=[109,111,100,101]);refine ⟨_,h.map fun f h=>by unfold A0s;dsimp only;rw [h],by show s.i<=s3.i;omega,fun hi=>?_⟩;have h5:(D6 L E s [109,111,100,101]).i=s.i+1:=by unfold D6;rw [if_neg (by rw [hi];decide)];rfl
 show s.i<s3.i;omega
theorem C3f {k:Int} {s:Rd}:s.i+1<=(Q9 L E k s).2.i:=by
 unfold Q9;dsimp only;have h1:=K4 (L:=L) (E:=E) (s:=A8 s) (x:=1);have h0:(A8 s).i=s.i+1:=rfl;split
 ·generalize (A9 L E (A8 s) 1).2=s2 at h1 ⊢;have h3:s2.i<=(if (k+1 == 6 && isR L E s2 [45])=true then A8 s2 else s2).i:=by
   split
   ·exact A3G _
   ·exact A0E _
  generalize (if (k+1 == 6 && isR L E s2 [45])=true then A8 s2 else s2)=s3 at h3 ⊢;have h4:=K4 (L:=L) (E:=E) (s:=s3) (x:=3);have h5:=F3 (L:=L) (E:=E) (s:=(A9 L E s3 3).2) (x:=[59]);show s.i+1<=(D6 L E (A9 L E s3 3).2 [59]).i;omega
 ·have h5:=F3 (L:=L) (E:=E) (s:=(A9 L E (A8 s) 1).2) (x:=[59]);show s.i+1<=(D6 L E (A9 L E (A8 s) 1).2 [59]).i;omega
theorem A1y {s:Rd} (h:okR s=false):∀ (l:List (List UInt8)) (k:Nat),Y2 L E s k l = -1
 | [],k=>rfl
 | t :: l,k=>by rw [Y2,show isR L E s t=false by unfold isR;rw [h];rfl,if_neg (by decide),A1y h l]
theorem C4o:∀ (m:Nat) (l:List Dc) (s:Rd),L.length-s.i<=m->∃ r,Evt (fun f=>P3 L E f l s) r/\s.i<=r.2.i:=by
 intro m
 induction m using Nat.strongRecOn with
 | _ m ih =>
  intro l s hs;by_cases hk:B9 L E s D1<0
  ·exact ⟨_,Evt.one fun f=>by rw [P3];dsimp only;rw [if_pos hk],A0E _⟩
  ·have hi:=(H8 (show 0<=B9 L E s D1 by omega)).2.1;have h1:(C7 L E s ((l.length:Int)+1) 128 9).i=s.i:=G9;cases hl:okR (C7 L E s ((l.length:Int)+1) 128 9) with
   | false =>
    have hz:B9 L E (C7 L E s ((l.length:Int)+1) 128 9) D1<0:=by
     show Y2 L E _ 0 D1<0;rw [A1y hl];decide
    have h2:Evt (fun f=>P3 L E f l (C7 L E s ((l.length:Int)+1) 128 9)) (l,C7 L E s ((l.length:Int)+1) 128 9):=Evt.one fun f=>by rw [P3];dsimp only;rw [if_pos hz]
    exact ⟨_,h2.ext fun f h=>by rw [P3];dsimp only;rw [if_neg hk,if_neg (by rw [hl];decide)];exact h,by show s.i<=(C7 L E s ((l.length:Int)+1) 128 9).i;omega⟩
   | true =>
    have h3:=C3f (L:=L) (E:=E) (k:=B9 L E s D1) (s:=C7 L E s ((l.length:Int)+1) 128 9);obtain ⟨r,hr,hg⟩:=ih (L.length-(Q9 L E (B9 L E s D1) (C7 L E s ((l.length:Int)+1) 128 9)).2.i) (by omega) (l++[(Q9 L E (B9 L E s D1) (C7 L E s ((l.length:Int)+1) 128 9)).1]) _ (A0E _);exact ⟨r,hr.ext fun f h=>by rw [P3];dsimp only;rw [if_neg hk,if_pos hl];exact h,by omega⟩
theorem C4n:∀ (m:Nat) (l:List Md) (s:Rd),L.length-s.i<=m->∃ r,Evt (fun f=>N2 L E f l s) r/\s.i<=r.2.i:=by
 intro m
 induction m using Nat.strongRecOn with
 | _ m ih =>
  intro l s hs;by_cases hc:okR s=true/\s.i<L.length
  ·cases hm:isR L E s [109,111,100,101] with
   | false=>exact ⟨_,Evt.one fun f=>by rw [N2,if_pos hc,if_pos hm],by show s.i<=(O3 L E s).i;rw [W6];exact A0E _⟩
   | true =>
    have h1:(C7 L E s ((l.length:Int)+1) 16 9).i=s.i:=G9;cases hl:okR (C7 L E s ((l.length:Int)+1) 16 9) with
    | false =>
     have h2:Evt (fun f=>N2 L E f l (C7 L E s ((l.length:Int)+1) 16 9)) (l,C7 L E s ((l.length:Int)+1) 16 9):=Evt.one fun f=>by rw [N2,if_neg (by rw [hl];simp)]
     exact ⟨_,h2.ext fun f h=>by rw [N2,if_pos hc,if_neg (by rw [hm];decide)];dsimp only;rw [if_neg (by rw [hl];decide)];exact h,by show s.i<=(C7 L E s ((l.length:Int)+1) 16 9).i;omega⟩
    | true =>
     have e0:=(I1 (by decide) hl).2.2;obtain ⟨⟨md,s2⟩,h2,hg,hlt⟩:=C5m (L:=L) (E:=E) s;have hlt:s.i<s2.i:=hlt hm;obtain ⟨r,hr,hg2⟩:=ih (L.length-s2.i) (by omega) (l++[md]) s2 (A0E _);exact ⟨r,h2.ext2 hr fun f h2 hr=>by rw [N2,if_pos hc,if_neg (by rw [hm];decide)];dsimp only;rw [if_pos hl,e0,h2];exact hr,by omega⟩
  ·exact ⟨_,Evt.one fun f=>by rw [N2,if_neg hc],A0E _⟩
theorem B7d (s:Rd):∃ r,Evt (fun f=>A2e L E f s) r:=by
 obtain ⟨⟨d,s1⟩,h1, -⟩:=C4o (L:=L) (E:=E) _ [] s (A0E _);obtain ⟨⟨m,s2⟩,h2, -⟩:=C4n (L:=L) (E:=E) _ [] s1 (A0E _);exact ⟨_,h1.map2 h2 fun f h1 h2=>by unfold A2e;rw [h1];dsimp only;rw [h2]⟩
end
end Go.Pb
namespace Go.Pb
variable [Go.Sym.Tab]
open Go.Sym
def A6 (s:List UInt8):Tok:=⟨if F6 s=true then 2 else if C8 s=true then 1 else 5,s,0,0⟩
def D4 (s:List UInt8):List Tok:=if C8 s=false then [M6] else [⟨1,s,0,0⟩]
def P8 (n:Int):List Tok:=if n<0\/2147483647<n then [M6] else [⟨3,[],n,0⟩]
def txB (c:UInt8):Bool:=decide (32<=c.toNat) && decide (c.toNat<=126)
def S8 (s:List UInt8):List Tok:=if s.all txB=false\/32<s.length then [M6] else [⟨4,s,0,0⟩]
def E5 (q:Int × List Tok) (least:Int):List Tok:=if B8 q.1<least then [A6 [40]]++q.2++[A6 [41]] else q.2
def G1 (k v:Int) (n:List UInt8) (as1:List (Int × List Tok)):List Tok :=
 let lv:=B8 k
 if k=1 then P8 v
 else if k=2 then D4 n
 else if k=3 then [A6 [116,114,117,101]]
 else if k=4 then [A6 [102,97,108,115,101]]
 else if k=8 then [A6 [112,108,97,121,101,114]]
 else if k=9 then [A6 [98,97,108,108]]
 else if k=5 then [A6 [99,108,111,115,101,100]]++D4 n
 else if k=6 then [A6 [97,99,116,105,118,101]]++D4 n
 else if k=7 then [A6 [108,101,102,116]]++D4 n
 else match as1 with
  | [q]=>if lv=6 then [A6 (if k=10 then [45] else [33])]++E5 q 6 else [M6]
  | [q,r]=>if lv<6 then E5 q (if lv=3 then 4 else lv)++[A6 (C3.getD (k-12).toNat [])]++E5 r (lv+1) else [M6]
  | _=>[M6]
mutual
def exT:Ex->List Tok
 | .mk k v n a p=>G1 k v n (A6x a)
def A6x:List Ex->List (Int × List Tok)
 | []=>[]
 | e :: l=>(e.kind,exT e) :: A6x l
end
def agT (l:List Ex) (i:Nat):List Tok:=match l[i]? with
 | some e=>exT e
 | none=>[M6]
mutual
def stT:St->List Tok
 | .mk k n t a x y p =>
  if k=1 then D4 n++[A6 [61]]++agT a 0++[A6 [59]]
  else if k<2\/19<k then [M6]
  else
   let w:=A6 (B7.getD (k-2).toNat [])
   if k=2\/k=3 then
    let o:=[w]++agT a 0++([A6 [123]]++O8 x++[A6 [125]])
    match y with
    | []=>o
    | [s]=>if s.kind=2 then o++[A6 [101,108,115,101]]++stT s else o++[A6 [101,108,115,101]]++([A6 [123]]++stT s++[A6 [125]])
    | s :: s2 :: r=>o++[A6 [101,108,115,101]]++([A6 [123]]++O8 (s :: s2 :: r)++[A6 [125]])
   else if k=4 then [w]++agT a 0++[A6 [59]]
   else if k=18 then [w]++S8 t++[A6 [44]]++agT a 0++[A6 [59]]
   else if k=8\/k=10 then [w]++D4 n++agT a 0++[A6 [59]]
   else if k=9 then [w]++D4 n++agT a 0++[A6 [44]]++agT a 1++[A6 [59]]
   else if k=19 then [w]++[A6 [59]]
   else [w]++D4 n++[A6 [59]]
def O8:List St->List Tok
 | []=>[]
 | s :: l=>stT s++O8 l
end
def blT (l:List St):List Tok:=[A6 [123]]++O8 l++[A6 [125]]
def dcT (d:Dc):List Tok :=
 if d.kind<1\/8<d.kind then [M6]
 else
  let o:=[A6 (D1.getD (d.kind-1).toNat [])]++D4 d.name
  (if 6<d.kind then o
  else if d.value<0 /\ -2147483647<=d.value/\d.kind=6 then o++[A6 [45]]++P8 (-d.value)
  else o++P8 d.value)++[A6 [59]]
def hdT (h:Hd):List Tok:=[A6 [111,110],A6 (D3.getD (h.trig-1).toNat [])]++(if 2<h.trig then D4 h.name else [])++blT h.body
def T9 (h:Hd):Bool:=decide (h.trig<1) || decide (6<h.trig)
def mdT (m:Md):List Tok:=[A6 [109,111,100,101]]++D4 m.name++P8 m.prio++[A6 [123]]++m.hds.flatMap hdT++[A6 [125]]
def ruT (r:Ru):List Tok:=if (r.modes.any fun m=>m.hds.any T9)=true then [M6] else r.decls.flatMap dcT++r.modes.flatMap mdT
mutual
def Ex.plain:Ex->Ex
 | .mk k v n a p=>.mk k v n (Ex.plains a) 0
def Ex.plains:List Ex->List Ex
 | []=>[]
 | e :: l=>e.plain :: Ex.plains l
end
mutual
def St.plain:St->St
 | .mk k n t a x y p=>.mk k n t (Ex.plains a) (St.plains x) (St.plains y) 0
def St.plains:List St->List St
 | []=>[]
 | e :: l=>e.plain :: St.plains l
end
def Dc.plain (d:Dc):Dc:={ d with pos:=0 }
def Hd.plain (h:Hd):Hd:=⟨h.trig,h.name,St.plains h.body,0⟩
def Md.plain (m:Md):Md:=⟨m.name,m.prio,m.hds.map Hd.plain,0⟩
def Ru.plain (r:Ru):Ru:=⟨r.decls.map Dc.plain,r.modes.map Md.plain⟩
theorem Ex.plains_map:∀ l:List Ex,Ex.plains l=l.map Ex.plain
 | []=>rfl
 | e :: l=>by rw [Ex.plains,Ex.plains_map l];rfl
theorem St.plains_map:∀ l:List St,St.plains l=l.map St.plain
 | []=>rfl
 | e :: l=>by rw [St.plains,St.plains_map l];rfl
mutual
def A9m (p:Bool):Ex->Ex->Bool
 | .mk k v n a q,.mk k' v' n' a' q'=>k == k' && (v == v' && (n == n' && ((p || q == q') && P9 p a a')))
def P9 (p:Bool):List Ex->List Ex->Bool
 | [],[]=>true
 | e :: l,e' :: l'=>A9m p e e' && P9 p l l'
 | _,_=>false
end
mutual
def B4z:St->St->Bool
 | .mk k n t a x y q,.mk k' n' t' a' x' y' q'=>k == k' && (n == n' && (t == t' && (q == q' && (P9 false a a' && (O7 x x' && O7 y y')))))
def O7:List St->List St->Bool
 | [],[]=>true
 | e :: l,e' :: l'=>B4z e e' && O7 l l'
 | _,_=>false
end
mutual
theorem C2v:∀ a b:Ex,A9m false a b=true↔a=b
 | .mk k v n a q,.mk k' v' n' a' q'=>by
  have:=A6c a a';simp only [A9m,A0D,A1F,A4B,this,Ex.mk.injEq];constructor
  ·rintro ⟨h1,h2,h3,h4,h5⟩;exact ⟨h1,h2,h3,h5,h4⟩
  ·rintro ⟨h1,h2,h3,h4,h5⟩;exact ⟨h1,h2,h3,h5,h4⟩
theorem A6c:∀ a b:List Ex,P9 false a b=true↔a=b
 | [],[]=>by simp [P9]
 | [],_ :: _=>by simp [P9]
 | _ :: _,[]=>by simp [P9]
 | e :: l,e' :: l'=>by
  have h1:=C2v e e';have h2:=A6c l l';simp only [P9,A0D,h1,h2,List.cons.injEq]
end
mutual
theorem C0g:∀ a b:St,B4z a b=true↔a=b
 | .mk k n t a x y q,.mk k' n' t' a' x' y' q'=>by
  have h1:=A6c a a';have h2:=A0y x x';have h3:=A0y y y';simp only [B4z,A0D,A1F,h1,h2,h3,St.mk.injEq];constructor
  ·rintro ⟨e1,e2,e3,e4,e5,e6,e7⟩;exact ⟨e1,e2,e3,e5,e6,e7,e4⟩
  ·rintro ⟨e1,e2,e3,e4,e5,e6,e7⟩;exact ⟨e1,e2,e3,e7,e4,e5,e6⟩
theorem A0y:∀ a b:List St,O7 a b=true↔a=b
 | [],[]=>by simp [O7]
 | [],_ :: _=>by simp [O7]
 | _ :: _,[]=>by simp [O7]
 | e :: l,e' :: l'=>by
  have h1:=C0g e e';have h2:=A0y l l';simp only [O7,A0D,h1,h2,List.cons.injEq]
end
end Go.Pb
namespace Go.Pb
variable [Go.Sym.Tab]
open Go.Sym
def J9 (k:Int):Nat:=if B8 k=6 then 1 else if B8 k<6 then 2 else 0
def A1b (k:Int):Bool:=k == 5 || (k == 6 || k == 7)
def kOk (k:Int):Bool:=decide (B8 k<7) || (decide (1<=k) && decide (k<=24))
def A0b (k:Int) (n:List UInt8):Bool:=if k=2\/A1b k=true then C8 n else n == []
def A0o (k v:Int):Bool:=v == 0 || (k == 1 && (decide (0<v) && decide (v<=2147483647)))
def R4 (k q:Int) (i:Nat):Bool:=decide (B8 q<B8 k) || (B8 q == B8 k && (i == 1 || B8 k == 3))
mutual
def msM:Ex->Option (Nat × Nat)
 | .mk k v n a p =>
  if kOk k=false\/a.length≠J9 k\/A0b k n=false\/A0o k v=false then none
  else if J9 k=0 then some (1,0)
  else match msL k 0 a with
   | none=>none
   | some (o,d)=>some (o,if J9 k=1 then d+1 else d)
def msL (k:Int):Nat->List Ex->Option (Nat × Nat)
 | _,[]=>some (0,0)
 | i,e :: l=>match msM e with
  | none=>none
  | some (o,d)=>match msL k (i+1) l with
   | none=>none
   | some (o2,d2)=>some (o+o2,max (if R4 k e.kind i=true then d+1 else d) d2)
end
def X1 (e:Ex):Bool:=match msM e with
 | some (o,d)=>decide (o<=32) && decide (d<=16)
 | none=>false
structure Shp where
 name:Bool
 text:Bool
 args:Nat
 thn:Bool
 els:Bool
def I4 (k:Int):Shp :=
 if k=1\/k=8\/k=10 then ⟨true,false,1,false,false⟩
 else if k=9 then ⟨true,false,2,false,false⟩
 else if k=2 then ⟨false,false,1,true,true⟩
 else if k=3 then ⟨false,false,1,true,false⟩
 else if k=4 then ⟨false,false,1,false,false⟩
 else if k=18 then ⟨false,true,1,false,false⟩
 else if k=19 then ⟨false,false,0,false,false⟩
 else ⟨true,false,0,false,false⟩
def R0 (s:List UInt8):Bool:=s.all txB && decide (s.length<=32)
mutual
def S5:Nat->St->Bool
 | d,.mk k n t a x y p =>
  (decide (1<=k) && decide (k<=19)) && (a.length == (I4 k).args && a.all X1) &&
   ((if (I4 k).name=true then C8 n else n == []) && (if (I4 k).text=true then R0 t else t == [])) &&
   (((I4 k).thn || x.isEmpty) && ((I4 k).els || y.isEmpty)) &&
   ((decide (x.length<=64) && (x.isEmpty || decide (d+1<=8)) && M5 (d+1) x) && (decide (y.length<=64) && (y.isEmpty || decide (d+1<=8)) && M5 (d+1) y))
def M5:Nat->List St->Bool
 | _,[]=>true
 | d,s :: l=>S5 d s && M5 d l
end
def R1 (l:List St) (d:Nat):Bool:=decide (l.length<=64) && (l.isEmpty || decide (d<=8)) && M5 d l
def A0p (d:Dc):Bool:=decide (1<=d.kind) && decide (d.kind<=8) && C8 d.name && decide ((if d.kind=6 then -2147483647 else 0)<=d.value) && decide (d.value<=(if d.kind=7\/d.kind=8 then 0 else 2147483647))
def X4 (h:Hd):Bool:=decide (1<=h.trig) && decide (h.trig<=6) && (if 3<=h.trig then C8 h.name else h.name == []) && R1 h.body 1
def U8 (m:Md):Bool:=C8 m.name && decide (0<=m.prio) && decide (m.prio<=2147483647) && decide (m.hds.length<=32) && m.hds.all X4
def Y5 (r:Ru):Bool:=decide (r.decls.length<=128) && decide (r.modes.length<=16) && r.decls.all A0p && r.modes.all U8
def J3 (t:Tok):Prop:=(t.kind=1->C8 t.text=true)/\(t.kind=3->0<=t.value/\t.value<=2147483647)/\(t.kind=4->R0 t.text=true)
def SE (n:Int) (s:Rd) (e:Ex) (s':Rd):Prop :=
 okR s=true/\s'.par=s.par/\∃ o d,msM e=some (o,d)/\s'.ops=s.ops+(o:Int)/\s'.ops<=32/\((n<=B8 e.kind/\s.par+(d:Int)<=16)\/s.par+(d:Int)+1<=16)
theorem V5 (k:Int):1<=B8 k/\B8 k<=7:=by
 unfold B8;repeat' split
 all_goals omega
theorem B1w {k:Int} (h:B8 k<7):10<=k/\k<=24:=by
 unfold B8 at h;repeat' split at h
 all_goals omega
theorem C5s {k:Int} (h0:0<=k) (h1:k<13):B8 (12+k)<6:=by
 unfold B8;repeat' split
 all_goals omega
theorem A0h {k:Int} (h:k=10\/k=11):B8 k=6:=by
 rcases h with rfl|rfl<;>rfl
theorem D0o {k:Int} {a b:Ex} {o1 d1 o2 d2:Nat} {p:Int} (hk:B8 k<6) (ha:msM a=some (o1,d1)) (hb:msM b=some (o2,d2)) :
  msM (.mk k 0 [] [a,b] p)=some (o1+o2,max (if R4 k a.kind 0=true then d1+1 else d1) (if R4 k b.kind 1=true then d2+1 else d2)):=by
 have hl:=B1w (k:=k) (by omega);have h1:kOk k=true:=by simp [kOk];left;omega
 have h2:J9 k=2:=by unfold J9;rw [if_neg (by omega),if_pos hk]
 have h3:A0b k []=true:=by
  unfold A0b;rw [if_neg]
  ·rfl
  ·simp only [A1b,A0X,A1F];omega
 have h4:A0o k 0=true:=by simp [A0o]
 unfold msM;rw [if_neg (by simp [h1,h2,h3,h4]),h2,if_neg (by omega)];simp only [msL,ha,hb,A3A,A1L,Nat.max_zero,if_neg (show ¬ 2=1 by omega)]
theorem D4a {k:Int} {a:Ex} {o d:Nat} {p:Int} (hk:k=10\/k=11) (ha:msM a=some (o,d)) :
  msM (.mk k 0 [] [a] p)=some (o,(if R4 k a.kind 0=true then d+1 else d)+1):=by
 have hl:=A0h hk;have h1:kOk k=true:=by simp [kOk];left;omega
 have h2:J9 k=1:=by unfold J9;rw [if_pos hl]
 have h3:A0b k []=true:=by
  unfold A0b;rw [if_neg]
  ·rfl
  ·simp only [A1b,A0X,A1F];omega
 have h4:A0o k 0=true:=by simp [A0o]
 unfold msM;rw [if_neg (by simp [h1,h2,h3,h4]),h2,if_neg (by omega)];simp only [msL,ha,A3A,Nat.max_zero,if_true]
theorem C5l {k v:Int} {n:List UInt8} {p:Int} (hk:B8 k=7) (h1:kOk k=true) (h3:A0b k n=true) (h4:A0o k v=true):msM (.mk k v n [] p)=some (1,0):=by
 have h2:J9 k=0:=by unfold J9;rw [if_neg (by omega),if_neg (by omega)]
 unfold msM;rw [if_neg (by simp [h1,h2,h3,h4]),if_pos h2]
section
variable {L:List Tok} {E:Int}
theorem J8 {s:Rd} {t:List UInt8} (h:okR (D6 L E s t)=true):okR s=true:=(Z3 (A6d h).1).1
theorem Z0 {s:Rd} {k:Int} (h:okR (A9 L E s k).2=true):okR s=true:=(I2 (A4t h).1).1
theorem B7l {s:Rd} (h:okR (H9 L E s).2=true):okR s=true:=by
 unfold H9 at h;dsimp only at h;split at h
 ·rw [V3] at h;cases h
 ·split at h
  ·rename_i h1;rw [h1] at h;cases h
  ·rename_i h1;have h2:okR (C7 L E { s with ops:=s.ops+1 } (s.ops+1) 32 9)=true:=by simpa using h1
   exact (I1 (by decide) h2).1
theorem B5m (hG:∀ t∈L,J3 t) {s s':Rd} {e:Ex} (h:H9 L E s=(e,s')) (hok:okR s'=true) (hp:s.par<=16):SE 7 s e s':=by
 have hs:okR s=true:=B7l (L:=L) (E:=E) (by rw [h];exact hok);have leaf:∀ (k v:Int) (n:List UInt8) (p:Int),B8 k=7->kOk k=true->A0b k n=true->A0o k v=true->s.ops+1<=32->∀ s2:Rd,s2.par=s.par->s2.ops=s.ops+1->SE 7 s (.mk k v n [] p) s2:=by
  intro k v n p q1 q2 q3 q4 q6 s2 q7 q8;refine ⟨hs,q7,1,0,C5l q1 q2 q3 q4,by rw [q8];rfl,by omega,.inl ⟨?_,by simpa using hp⟩⟩;show 7<=B8 k;omega
 unfold H9 at h;dsimp only at h;split at h
 ·cases h;rw [V3] at hok;cases hok
 rename_i hc;split at h
 ·rename_i h1;cases h;rw [h1] at hok;cases hok
 rename_i h1;have h2:okR (C7 L E { s with ops:=s.ops+1 } (s.ops+1) 32 9)=true:=by simpa using h1
 obtain ⟨-,h3,h4⟩:=I1 (by decide) h2;rw [h4] at h;split at h
 ·rename_i hk;obtain ⟨-, -, -,hk7⟩:=H8 hk;have hk7:B9 L E s G0<7:=hk7;generalize B9 L E s G0=k at h hk hk7;split at h
  ·rename_i hk4;cases h;obtain ⟨t1,t2⟩:=A4t hok;obtain ⟨t3,t4⟩:=I2 t1;have hn:=(hG _ (I0 (by decide) t4).1).1 t4;rw [t2];have:k=4\/k=5\/k=6:=by omega
   rcases this with rfl|rfl|rfl
   ·exact leaf 5 _ _ _ (by decide) (by decide) hn (by decide) h3 _ rfl rfl
   ·exact leaf 6 _ _ _ (by decide) (by decide) hn (by decide) h3 _ rfl rfl
   ·exact leaf 7 _ _ _ (by decide) (by decide) hn (by decide) h3 _ rfl rfl
  ·rename_i hk4;cases h;have:k=0\/k=1\/k=2\/k=3:=by omega
   rcases this with rfl|rfl|rfl|rfl
   all_goals exact leaf _ _ _ _ (by decide) (by decide) (by decide) (by decide) h3 _ rfl rfl
 ·rename_i hk;split at h
  ·rename_i hk3;cases h;have hn:=(hG _ (I0 (by decide) hk3).1).2.1 hk3;refine leaf 1 _ _ _ (by decide) (by decide) (by decide) ?_ h3 _ rfl rfl;simp only [A0o,A0X,A0D,A1F,A0H];by_cases h0:(A7 L E s).value=0
   ·exact .inl h0
   ·exact .inr ⟨trivial,by omega,hn.2⟩
  ·rename_i hk3;cases h;have h1k:G7 L E s 1=true:=by
    cases hz:G7 L E s 1 with
    | true=>rfl
    | false =>
     refine absurd ⟨by omega,?_,hz⟩ hc;cases hy:G7 L E s 3 with
     | false=>rfl
     | true=>exact absurd (I2 hy).2 hk3
   have hn:=(hG _ (I0 (by decide) (I2 h1k).2).1).1 (I2 h1k).2;exact leaf 2 _ _ _ (by decide) (by decide) hn (by decide) h3 _ rfl rfl
theorem OB.all:∀ f:Nat,(∀ n s r,F5 L E f n s=some r->okR r.2=true->okR s=true)/\(∀ n e s r,K2 L E f n e s=some r->okR r.2=true->okR s=true)/\(∀ s r,K8 L E f s=some r->okR r.2=true->okR s=true)
 | 0=>⟨fun n s r h=>by simp [F5] at h,fun n e s r h=>by simp [K2] at h,fun s r h=>by simp [K8] at h⟩
 | f+1=>by
  obtain ⟨i1,i2,i3⟩:=OB.all f;refine ⟨fun n s r h k=>?_,fun n e s r h k=>?_,fun s r h k=>?_⟩
  ·unfold F5 at h;split at h
   ·exact i3 _ _ h k
   ·split at h
    ·cases h
    ·rename_i hb;exact i1 _ _ _ hb (i2 _ _ _ _ h k)
  ·unfold K2 at h;dsimp only at h;split at h
   ·cases h;exact k
   ·rename_i hk;exact (H8 (show 0<=B9 L E s C3 from Classical.byContradiction fun g=>hk (.inl (by omega)))).1
  ·unfold K8 at h;dsimp only at h;split at h
   ·cases h;exact B7l k
   ·rename_i hk;exact (H8 (show 0<=B9 L E s N9 by omega)).1
theorem SE.weak {m n:Int} {s s':Rd} {e:Ex} (hmn:n<=m) (h:SE m s e s'):SE n s e s':=by
 obtain ⟨h1,h2,o,d,h3,h4,h5,h6⟩:=h;exact ⟨h1,h2,o,d,h3,h4,h5,h6.imp (fun h=>⟨by omega,h.2⟩) id⟩
theorem SE.all (hG:∀ t∈L,J3 t):∀ f:Nat,(∀ n s r,1<=n->n<=6->F5 L E f n s=some r->okR r.2=true->s.par<=16->SE n s r.1 r.2) /\
  (∀ n m e s s0 r,1<=n->n<=5->(m=n+1\/m=n/\n≠3)->K2 L E f n e s=some r->okR r.2=true->SE m s0 e s->s0.par<=16->SE n s0 r.1 r.2) /\
  (∀ s r,K8 L E f s=some r->okR r.2=true->s.par<=16->SE 6 s r.1 r.2)
 | 0=>⟨fun n s r _ _ h=>by simp [F5] at h,fun n m e s s0 r _ _ _ h=>by simp [K2] at h,fun s r h=>by simp [K8] at h⟩
 | f+1=>by
  obtain ⟨i1,i2,i3⟩:=SE.all hG f;refine ⟨fun n s r n1 n6 h k hp=>?_,fun n m e s s0 r n1 n5 hm h k he hp=>?_,fun s r h k hp=>?_⟩
  ·unfold F5 at h;split at h
   ·have:=i3 _ _ h k hp;exact this.weak n6
   ·rename_i hn;split at h
    ·cases h
    ·rename_i e s1 hb;have k1:=(OB.all f).2.1 _ _ _ _ h k;have h1:=i1 _ _ _ (by omega) (by omega) hb k1 hp;exact i2 n (n+1) _ _ s _ n1 (by omega) (.inl rfl) h k h1 hp
  ·unfold K2 at h;dsimp only at h;split at h
   ·cases h;exact he.weak (by omega)
   ·rename_i hk;have hk0:0<=B9 L E s C3:=Classical.byContradiction fun g=>hk (.inl (by omega));have hlv:B8 (12+B9 L E s C3)=n:=Classical.byContradiction fun g=>hk (.inr g);split at h
    ·cases h
    ·rename_i x s1 hb;obtain ⟨e1,e2,o1,d1,e3,e4,e5,e6⟩:=he;have step:okR s1=true->SE n s0 (.mk (12+B9 L E s C3) 0 [] [e,x] (A7 L E s).pos) s1:=by
      intro k1;obtain ⟨x1,x2,o2,d2,x3,x4,x5,x6⟩:=i1 _ _ _ (by omega) (by omega) hb k1 (by show s.par<=16;omega);have x2':s1.par=s.par:=x2;have x4':s1.ops=s.ops+(o2:Int):=x4;have x6':((n+1<=B8 x.kind/\s.par+(d2:Int)<=16)\/s.par+(d2:Int)+1<=16):=x6;refine ⟨e1,by omega,_,_,D0o (by omega) e3 x3,by rw [x4',e4];omega,x5,.inl ⟨?_,?_⟩⟩
      ·show n<=B8 (12+B9 L E s C3);omega
      ·have w1:s0.par+((if R4 (12+B9 L E s C3) e.kind 0=true then d1+1 else d1:Nat):Int)<=16:=by
        split
        ·rename_i hw;simp only [R4,A0X,A0D,A0H,A1F,hlv] at hw;omega
        ·omega
       have w2:s0.par+((if R4 (12+B9 L E s C3) x.kind 1=true then d2+1 else d2:Nat):Int)<=16:=by
        split
        ·rename_i hw;simp only [R4,A0X,A0D,A0H,A1F,hlv] at hw;omega
        ·omega
       omega
     split at h
     ·cases h;exact step k
     ·rename_i hn3;have k1:=(OB.all f).2.1 _ _ _ _ h k;exact i2 n n _ _ s0 _ n1 n5 (.inr ⟨rfl,hn3⟩) h k (step k1) hp
  ·unfold K8 at h;dsimp only at h;split at h
   ·cases h;exact (B5m hG rfl k hp).weak (by decide)
   ·rename_i hk;obtain ⟨hs,hi, -,hk3⟩:=H8 (show 0<=B9 L E s N9 by omega);have hk3:B9 L E s N9<3:=hk3;split at h
    ·rename_i hl;cases h;rw [hl] at k;cases k
    rename_i hl;have hl:okR (C7 L E s (s.par+1) 16 50)=true:=by simpa using hl
    obtain ⟨-,h2,h3⟩:=I1 (by decide) hl;rw [h3] at h;split at h
    ·split at h
     ·cases h
     ·rename_i e s3 hb;cases h;have k3:okR (D6 L E s3 [41])=true:=k;obtain ⟨-,x2⟩:=A6d k3;obtain ⟨e1,e2,o,d,e3,e4,e5,e6⟩:=i1 1 _ _ (by decide) (by decide) hb (J8 k3) (show s.par+1<=16 from h2);have e2':s3.par=s.par+1:=e2;have e4':s3.ops=s.ops+(o:Int):=e4;have e6':((1<=B8 e.kind/\s.par+1+(d:Int)<=16)\/s.par+1+(d:Int)+1<=16):=e6;rw [x2];refine ⟨hs,by show s3.par-1=s.par;omega,o,d,e3,e4',e5,.inr (by omega)⟩
    ·rename_i hk2;split at h
     ·cases h
     ·rename_i e s3 hb;cases h;have k3:okR s3=true:=k;obtain ⟨e1,e2,o,d,e3,e4,e5,e6⟩:=i3 _ _ hb k3 (show s.par+1<=16 from h2);have e2':s3.par=s.par+1:=e2;have e4':s3.ops=s.ops+(o:Int):=e4;have e6':((6<=B8 e.kind/\s.par+1+(d:Int)<=16)\/s.par+1+(d:Int)+1<=16):=e6;have hk10:10+B9 L E s N9=10\/10+B9 L E s N9=11:=by omega
      refine ⟨hs,by show s3.par-1=s.par;omega,o,_,D4a hk10 e3,e4',e5,.inl ⟨?_,?_⟩⟩
      ·show 6<=B8 (10+B9 L E s N9);rw [A0h hk10];decide
      ·split
       ·rename_i hw;simp only [R4,A0X,A0D,A0H,A1F,A0h hk10] at hw;omega
       ·omega
theorem Q1 (hG:∀ t∈L,J3 t) {f:Nat} {s:Rd} {r:Ex × Rd} (h:H4 L E f s=some r) (hok:okR r.2=true):okR s=true/\X1 r.1=true:=by
 obtain ⟨h1,h2,o,d,h3,h4,h5,h6⟩:=(SE.all hG f).1 1 _ _ (by decide) (by decide) h hok (by decide:(0:Int)<=16);refine ⟨h1,?_⟩;have h4':r.2.ops=0+(o:Int):=h4;have h6':((1<=B8 r.1.kind/\0+(d:Int)<=16)\/0+(d:Int)+1<=16):=h6;unfold X1;rw [h3];simp only [A0D,A0H];omega
end
end Go.Pb
namespace Go.Pb
variable [Go.Sym.Tab]
open Go.Sym
section
variable {L:List Tok} {E:Int}
theorem S1 (hG:∀ t∈L,J3 t) {s:Rd} (h:okR (A9 L E s 1).2=true):C8 (A9 L E s 1).1.text=true:=by
 obtain ⟨h1,h2⟩:=A4t h;rw [h2];exact (hG _ (I0 (by decide) (I2 h1).2).1).1 (I2 h1).2
theorem B2q (hG:∀ t∈L,J3 t) {s:Rd} (h:okR (A9 L E s 3).2=true):0<=(A9 L E s 3).1.value/\(A9 L E s 3).1.value<=2147483647:=by
 obtain ⟨h1,h2⟩:=A4t h;rw [h2];exact (hG _ (I0 (by decide) (I2 h1).2).1).2.1 (I2 h1).2
theorem C0a (hG:∀ t∈L,J3 t) {s:Rd} (h:okR (A9 L E s 4).2=true):R0 (A9 L E s 4).1.text=true:=by
 obtain ⟨h1,h2⟩:=A4t h;rw [h2];exact (hG _ (I0 (by decide) (I2 h1).2).1).2.2 (I2 h1).2
theorem A1n {d:Nat} {k p:Int} {n t:List UInt8} {a:List Ex} (h1:1<=k) (h2:k<=19) (h3:a.length=(I4 k).args) (h4:a.all X1=true)
  (h5:(if (I4 k).name=true then C8 n else n == [])=true) (h6:(if (I4 k).text=true then R0 t else t == [])=true):S5 d (.mk k n t a [] [] p)=true:=by
 unfold S5;simp only [A0D,A0H,A1F];exact ⟨⟨⟨⟨⟨h1,h2⟩,h3,h4⟩,h5,h6⟩,by simp⟩,by simp [M5]⟩
theorem B4v (hG:∀ t∈L,J3 t) {f:Nat} {k p:Int} {s:Rd} {r:St × Rd} (d:Nat) (hk4:4<=k) (hk:k<=19) (h:N1 L E f k p s=some r) (hok:okR r.2=true):okR s=true/\S5 d r.1=true:=by
 unfold N1 at h;dsimp only at h;split at h
 ·rename_i hk;subst hk;split at h
  ·cases h
  ·rename_i e s1 he;cases h;obtain ⟨h1,h2⟩:=Q1 hG he (J8 hok);exact ⟨h1,A1n (by decide) (by decide) rfl (by simp [h2]) rfl rfl⟩
 split at h
 ·rename_i hk;subst hk;split at h
  ·cases h
  ·rename_i e s1 he;cases h;obtain ⟨h1,h2⟩:=Q1 hG he (J8 hok);have h3:=J8 h1;exact ⟨Z0 h3,A1n (by decide) (by decide) rfl (by simp [h2]) rfl (C0a hG h3)⟩
 split at h
 ·rename_i hk;subst hk;cases h;exact ⟨J8 hok,A1n (by decide) (by decide) rfl rfl rfl rfl⟩
 rename_i n4 n18 n19;split at h
 ·rename_i hk;split at h
  ·cases h
  ·rename_i e s1 he;split at h
   ·rename_i hk9;subst hk9;split at h
    ·cases h
    ·rename_i e2 s2 he2;cases h;obtain ⟨h1,h2⟩:=Q1 hG he2 (J8 hok);obtain ⟨h3,h4⟩:=Q1 hG he (J8 h1);exact ⟨Z0 h3,A1n (by decide) (by decide) rfl (by simp [h2,h4]) (S1 hG h3) rfl⟩
   ·rename_i hk9;cases h;obtain ⟨h1,h2⟩:=Q1 hG he (J8 hok);have:k=8\/k=10:=by omega
    rcases this with rfl|rfl
    all_goals exact ⟨Z0 h1,A1n (by decide) (by decide) rfl (by simp [h2]) (S1 hG h1) rfl⟩
 ·rename_i hk8;cases h;have h1:=J8 hok;have hs:I4 k=⟨true,false,0,false,false⟩:=by
   unfold I4;rw [if_neg (by omega),if_neg (by omega),if_neg (by omega),if_neg (by omega),if_neg (by omega),if_neg (by omega),if_neg (by omega)]
  exact ⟨Z0 h1,A1n (by omega) hk (by rw [hs];rfl) rfl (by rw [hs];exact S1 hG h1) (by rw [hs];rfl)⟩
theorem A7s {d:Nat}:∀ {l:List St} {x:St},M5 d (l++[x])=(M5 d l && S5 d x)
 | [],x=>by simp [M5]
 | a :: l,x=>by rw [List.cons_append,M5,M5,A7s,Bool.and_assoc]
theorem B2h {d:Nat} {k p:Int} {e:Ex} {t o:List St} (hk:k=2\/k=3) (he:X1 e=true) (ht:R1 t (d+1)=true) (ho:R1 o (d+1)=true) (h3:k=3->o=[]):S5 d (.mk k [] [] [e] t o p)=true:=by
 unfold R1 at ht ho;unfold S5;rcases hk with rfl|rfl
 ·simp only [I4];simp [he,ht,ho];simpa using And.intro ht ho
 ·obtain rfl:=h3 rfl;simp only [I4];simp [he,M5];simpa using ht
theorem SS.all (hG:∀ t∈L,J3 t):∀ f:Nat,(∀ (d:Nat) s r,G4 L E f d s=some r->okR r.2=true->okR s=true/\R1 r.1 d=true) /\
  (∀ (d:Nat) l s r,K6 L E f d l s=some r->okR r.2=true->okR s=true/\(M5 d l=true->l.length<=64->(l=[]\/d<=8)->R1 r.1 d=true)) /\
  (∀ (d:Nat) s r,J6 L E f d s=some r->okR r.2=true->okR s=true/\d<=8/\S5 d r.1=true) /\
  (∀ (d:Nat) s r,N4 L E f d s=some r->okR r.2=true->okR s=true/\R1 r.1 (d+1)=true)
 | 0=>⟨fun d s r h=>by simp [G4] at h,fun d l s r h=>by simp [K6] at h,fun d s r h=>by simp [J6] at h,fun d s r h=>by simp [N4] at h⟩
 | f+1=>by
  obtain ⟨i1,i2,i3,i4⟩:=SS.all hG f;have hd1:∀ d:Nat,(d:Int)+1=((d+1:Nat):Int):=fun d=>by omega
  refine ⟨fun d s r h k=>?_,fun d l s r h k=>?_,fun d s r h k=>?_,fun d s r h k=>?_⟩
  ·unfold G4 at h;obtain ⟨h1,h2⟩:=i2 _ _ _ _ h k;exact ⟨J8 h1,h2 rfl (by simp) (.inl rfl)⟩
  ·unfold K6 at h;split at h
   ·rename_i hc;refine ⟨hc.1,fun h1 h2 h3=>?_⟩;split at h
    ·cases h;rw [V3] at k;cases k
    ·split at h
     ·cases h
     ·rename_i x s1 he;obtain ⟨h4,h5⟩:=i2 _ _ _ _ h k;obtain ⟨h6,h7,h8⟩:=i3 _ _ _ he h4;obtain ⟨-,h9, -⟩:=I1 (by decide) h6;exact h5 (by rw [A7s,h1,h8];rfl) (by simp only [A0A,A0F];omega) (.inr h7)
   ·cases h;refine ⟨J8 k,fun h1 h2 h3=>?_⟩;unfold R1;simp only [A0D,A0X,A0H];exact ⟨⟨h2,h3.imp (fun h=>by rw [h];rfl) id⟩,h1⟩
  ·unfold J6 at h;dsimp only at h;split at h
   ·rename_i hl;cases h;rw [hl] at k;cases k
   rename_i hl;have hl:okR (C7 L E s d 8 50)=true:=by simpa using hl
   obtain ⟨hs,hd,hle⟩:=I1 (by decide) hl;rw [hle] at h;refine ⟨hs,by omega,?_⟩;split at h
   ·split at h
    ·cases h
    ·rename_i e s1 he;cases h;obtain ⟨h1,h2⟩:=Q1 hG he (J8 k);exact A1n (by decide) (by decide) rfl (by simp [h2]) (S1 hG (J8 h1)) rfl
   ·rename_i hk;obtain ⟨-,hi, -,hk18⟩:=H8 (show 0<=B9 L E s B7 by omega);have hk18:B9 L E s B7<18:=hk18;generalize B9 L E s B7=q at h hk hk18;split at h
    ·rename_i hq;split at h
     ·cases h
     ·rename_i e s2 he;split at h
      ·cases h
      ·rename_i t s3 ht;rw [hd1] at ht;split at h
       ·rename_i hc;split at h
        ·cases h
        ·rename_i o s4 ho;cases h;obtain ⟨o1,o2⟩:=i4 _ _ _ ho k;obtain ⟨t1,t2⟩:=i1 _ _ _ ht (show okR s3=true from o1);obtain ⟨e1,e2⟩:=Q1 hG he t1;exact B2h (.inl rfl) e2 t2 o2 (fun h=>absurd h (by decide))
       ·cases h;obtain ⟨t1,t2⟩:=i1 _ _ _ ht k;obtain ⟨e1,e2⟩:=Q1 hG he t1;exact B2h (by omega) e2 t2 (by simp [R1,M5]) (fun _=>rfl)
    ·rename_i hq;exact (B4v hG d (by omega) (by omega) h k).2
  ·unfold N4 at h;rw [hd1] at h;split at h
   ·split at h
    ·cases h
    ·rename_i x s1 he;cases h;obtain ⟨h1,h2,h3⟩:=i3 _ _ _ he k;refine ⟨h1,?_⟩;unfold R1;simp only [A0D,A0X,A0H];exact ⟨⟨by simp,.inr h2⟩,by rw [M5,M5,h3];rfl⟩
   ·exact i1 _ _ _ h k
theorem B9l (hG:∀ t∈L,J3 t) {k:Int} {s:Rd} (h0:0<=k) (h8:k<8) (h:okR (Q9 L E k s).2=true):A0p (Q9 L E k s).1=true:=by
 have key:∀ d:Dc,1<=d.kind->d.kind<=8->C8 d.name=true->(if d.kind=6 then -2147483647 else 0)<=d.value->d.value<=(if d.kind=7\/d.kind=8 then 0 else 2147483647)->A0p d=true:=by
  intro d a1 a2 a3 a4 a5;simp only [A0p,A0D,A0H];exact ⟨⟨⟨⟨a1,a2⟩,a3⟩,a4⟩,a5⟩
 unfold Q9 at h ⊢;dsimp only at h ⊢;split at h
 ·rename_i hk;rw [if_pos hk];have h1:=J8 h;obtain ⟨n0,n1⟩:=B2q hG h1;have h2:=Z0 h1;have h3:okR (A9 L E (A8 s) 1).2=true:=by
   split at h2
   ·exact h2
   ·exact h2
  refine key _ (by dsimp only;omega) (by dsimp only;omega) (S1 hG h3) ?_ ?_
  ·dsimp only;generalize (A9 L E (if (k+1 == 6 && isR L E (A9 L E (A8 s) 1).2 [45])=true then A8 (A9 L E (A8 s) 1).2 else (A9 L E (A8 s) 1).2) 3).1.value=w at n0 n1 ⊢;by_cases h6:k+1=6
   ·rw [if_pos (by omega)];split<;>omega
   ·rw [if_neg (by omega),if_neg (by simp [h6])];exact n0
  ·dsimp only;generalize (A9 L E (if (k+1 == 6 && isR L E (A9 L E (A8 s) 1).2 [45])=true then A8 (A9 L E (A8 s) 1).2 else (A9 L E (A8 s) 1).2) 3).1.value=w at n0 n1 ⊢;rw [if_neg (by omega:¬ (1+k=7\/1+k=8))];split<;>omega
 ·rename_i hk;rw [if_neg hk];have h3:=J8 h;refine key _ (by dsimp only;omega) (by dsimp only;omega) (S1 hG h3) ?_ ?_
  ·dsimp only;rw [if_neg (by omega)];decide
  ·dsimp only;split<;>decide
theorem B0f (hG:∀ t∈L,J3 t):∀ (f:Nat) (l:List Hd) (s:Rd) (r:List Hd × Rd),N6 L E f l s=some r->okR r.2=true->okR s=true/\(l.length<=32->l.all X4=true->r.1.length<=32/\r.1.all X4=true)
 | 0,l,s,r,h,_=>by simp [N6] at h
 | f+1,l,s,r,h,k=>by
  unfold N6 at h;dsimp only at h;split at h
  ·rename_i hc;refine ⟨hc.1,fun h1 h2=>?_⟩;split at h
   ·cases h;rw [V3] at k;cases k
   split at h
   ·cases h;rw [V3] at k;cases k
   rename_i hk;obtain ⟨hok2,hi2, -,hk6⟩:=H8 (show 0<=B9 L E (D6 L E (C7 L E s ((l.length:Int)+1) 32 9) [111,110]) D3 by omega);have hk6:B9 L E (D6 L E (C7 L E s ((l.length:Int)+1) 32 9) [111,110]) D3<6:=hk6;obtain ⟨-,hll, -⟩:=I1 (by decide) (J8 hok2);generalize B9 L E (D6 L E (C7 L E s ((l.length:Int)+1) 32 9) [111,110]) D3=q at h hk hk6;split at h
   ·cases h
   ·rename_i b s5 hb;obtain ⟨m1,m2⟩:=B0f hG f _ _ _ h k;obtain ⟨b1,b2⟩:=(SS.all hG f).1 1 _ _ hb m1;refine m2 (by simp only [A0A,A0F];omega) ?_;rw [A3S,h2,A1G];simp only [A2P,List.all_nil,A1W,X4,A0D,A0H];refine ⟨⟨⟨by omega,by omega⟩,?_⟩,b2⟩;by_cases hq:2<=q
    ·rw [if_pos (by omega),if_pos hq];rw [if_pos hq] at b1;exact S1 hG b1
    ·rw [if_neg (by omega),if_neg hq];rfl
  ·cases h;exact ⟨J8 k,fun h1 h2=>⟨h1,h2⟩⟩
theorem B8w (hG:∀ t∈L,J3 t) {f:Nat} {s:Rd} {r:Md × Rd} (h:A0s L E f s=some r) (k:okR r.2=true):okR s=true/\U8 r.1=true:=by
 unfold A0s at h;dsimp only at h;split at h
 ·cases h
 ·rename_i l s3 hm;cases h;obtain ⟨m1,m2⟩:=B0f hG _ _ _ _ hm k;obtain ⟨m3,m4⟩:=m2 (by simp) rfl;have h1:=J8 m1;have h2:=Z0 h1;obtain ⟨n0,n1⟩:=B2q hG h1;refine ⟨J8 (Z0 h2),?_⟩;simp only [U8,A0D,A0H];exact ⟨⟨⟨⟨S1 hG h2,n0⟩,n1⟩,m3⟩,m4⟩
theorem A5u (hG:∀ t∈L,J3 t):∀ (f:Nat) (l:List Dc) (s:Rd) (r:List Dc × Rd),P3 L E f l s=some r->okR r.2=true->okR s=true/\(l.length<=128->l.all A0p=true->r.1.length<=128/\r.1.all A0p=true)
 | 0,l,s,r,h,_=>by simp [P3] at h
 | f+1,l,s,r,h,k=>by
  unfold P3 at h;dsimp only at h;split at h
  ·cases h;exact ⟨k,fun h1 h2=>⟨h1,h2⟩⟩
  ·rename_i hk;obtain ⟨hs,hi, -,hk8⟩:=H8 (show 0<=B9 L E s D1 by omega);have hk8:B9 L E s D1<8:=hk8;refine ⟨hs,fun h1 h2=>?_⟩;split at h
   ·rename_i hl;obtain ⟨-,hll,hle⟩:=I1 (by decide) hl;obtain ⟨m1,m2⟩:=A5u hG f _ _ _ h k;exact m2 (by simp only [A0A,A0F];omega) (by rw [A3S,h2,A1G,A2P,B9l hG (by omega) hk8 m1];rfl)
   ·rename_i hl;obtain ⟨m1,m2⟩:=A5u hG f _ _ _ h k;exact absurd m1 hl
theorem A5t (hG:∀ t∈L,J3 t):∀ (f:Nat) (l:List Md) (s:Rd) (r:List Md × Rd),N2 L E f l s=some r->okR r.2=true->okR s=true/\(l.length<=16->l.all U8=true->r.1.length<=16/\r.1.all U8=true)
 | 0,l,s,r,h,_=>by simp [N2] at h
 | f+1,l,s,r,h,k=>by
  unfold N2 at h;dsimp only at h;split at h
  ·rename_i hc;refine ⟨hc.1,fun h1 h2=>?_⟩;split at h
   ·cases h;rw [V3] at k;cases k
   split at h
   ·rename_i hl;split at h
    ·cases h
    ·rename_i m s2 hm;obtain ⟨m1,m2⟩:=A5t hG f _ _ _ h k;obtain ⟨q1,q2⟩:=B8w hG hm m1;obtain ⟨-,hll,hle⟩:=I1 (by decide) hl;exact m2 (by simp only [A0A,A0F];omega) (by rw [A3S,h2,A1G,A2P,q2];rfl)
   ·rename_i hl;obtain ⟨m1,m2⟩:=A5t hG f _ _ _ h k;exact absurd m1 hl
  ·cases h;exact ⟨k,fun h1 h2=>⟨h1,h2⟩⟩
theorem B8o (hG:∀ t∈L,J3 t) {f:Nat} {s:Rd} {r:Ru × Rd} (h:A2e L E f s=some r) (k:okR r.2=true):Y5 r.1=true:=by
 unfold A2e at h;split at h
 ·cases h
 ·rename_i d s1 hd;split at h
  ·cases h
  ·rename_i m s2 hm;cases h;obtain ⟨m1,m2⟩:=A5t hG _ _ _ _ hm k;obtain ⟨m3,m4⟩:=m2 (by simp) rfl;obtain ⟨d1,d2⟩:=A5u hG _ _ _ _ hd m1;obtain ⟨d3,d4⟩:=d2 (by simp) rfl;simp only [Y5,A0D,A0H];exact ⟨⟨⟨d3,m3⟩,d4⟩,m4⟩
end
end Go.Pb
namespace Go.Pb
variable [Go.Sym.Tab]
open Go.Sym
theorem A9t {p:UInt8->Bool}:∀ (s:List UInt8),F2 p (s.take (F2 p s))=F2 p s
 | []=>rfl
 | c :: r=>by
  have ih:=A9t (p:=p) r;by_cases h:p c=true
  ·simp only [F2,h,if_true,A1U];rw [ih]
  ·simp only [F2,h,if_false,List.take_zero,A1I]
theorem B1k:∀ {s t:List UInt8} {n:Nat},quM s=some (t,n)->t.all txB=true
 | [],t,n,h=>by simp [quM] at h
 | c :: r,t,n,h=>by
  rw [Y7] at h;split at h
  ·cases h;rfl
  ·split at h
   ·cases h
   ·rename_i h34 hr;split at h
    ·cases r with
     | nil=>cases h
     | cons d q =>
      simp only at h;split at h
      ·rename_i hd;obtain ⟨⟨t',n'⟩,h1,h2⟩:=A0R.1 h;have:=B1k h1;cases h2;simp only [A2P,this,A1W,txB,A0D,A0H];omega
      ·cases h
    ·obtain ⟨⟨t',n'⟩,h1,h2⟩:=A0R.1 h;have:=B1k h1;cases h2;simp only [A2P,this,A1W,txB,A0D,A0H];omega
theorem B5s {s:List UInt8} {p:Int} (h:(D0 s).err=0):J3 (nxT (D0 s) p)/\0<=(D0 s).value/\(D0 s).value<=2147483647:=by
 unfold J3;cases s with
 | nil=>simp [D0,nxE] at h
 | cons c q =>
  by_cases hl:ltB c=true
  ·by_cases h12:12<F2 ptB (c :: q)
   ·rw [D0,if_pos hl,if_pos h12] at h;simp [nxE] at h
   ·rw [D0,if_pos hl,if_neg h12,nxT];refine ⟨⟨fun hk=>?_,fun hk=>?_,fun hk=>?_⟩,by simp,by simp⟩
    ·simp only at hk ⊢;have hw:F6 ((c :: q).take (F2 ptB (c :: q)))=false:=by
      cases hz:F6 ((c :: q).take (F2 ptB (c :: q))) with
      | false=>rfl
      | true=>rw [hz] at hk;simp at hk
     have hp:ptB c=true:=by unfold ptB;rw [hl];rfl
     have h1:1<=F2 ptB (c :: q):=by simp only [F2,hp,if_true];omega
     have hle:=X6 ptB (c :: q);have hlen:((c :: q).take (F2 ptB (c :: q))).length=F2 ptB (c :: q):=by rw [A1B];omega
     have hhd:∃ r,(c :: q).take (F2 ptB (c :: q))=c :: r:=by
      obtain ⟨k,hk⟩:∃ k,F2 ptB (c :: q)=k+1:=⟨F2 ptB (c :: q)-1,by omega⟩;rw [hk];exact ⟨_,rfl⟩
     unfold C8;rw [hlen,hw,A9t];obtain ⟨r,hr⟩:=hhd;rw [hr];simp only [hl,A1W,Bool.not_false,A0D,A0H];exact ⟨⟨h1,by omega⟩,trivial⟩
    ·simp only at hk;split at hk<;>simp at hk
    ·simp only at hk;split at hk<;>simp at hk
  ·by_cases hd:dgB c=true
   ·by_cases h3:1<F2 dgB (c :: q)/\c.toNat=48
    ·rw [D0,if_neg hl,if_pos hd,if_pos h3] at h;simp [nxE] at h
    ·by_cases h2:2147483647<A2q ((c :: q).take (F2 dgB (c :: q)))
     ·rw [D0,if_neg hl,if_pos hd,if_neg h3,if_pos h2] at h;simp [nxE] at h
     ·rw [D0,if_neg hl,if_pos hd,if_neg h3,if_neg h2,nxT];refine ⟨⟨fun hk=>by simp at hk,fun hk=>?_,fun hk=>by simp at hk⟩,?_⟩
      ·simp only;omega
      ·simp only;omega
   ·by_cases h34:c.toNat=34
    ·cases hq:quM q with
     | none=>rw [D0,if_neg hl,if_neg hd,if_pos h34,hq] at h;simp [nxE] at h
     | some x =>
      obtain ⟨t,m⟩:=x;by_cases h32:32<t.length
      ·rw [D0,if_neg hl,if_neg hd,if_pos h34,hq] at h;simp only at h;rw [if_pos h32] at h;simp [nxE] at h
      ·rw [D0,if_neg hl,if_neg hd,if_pos h34,hq];simp only;rw [if_neg h32,nxT];refine ⟨⟨fun hk=>by simp at hk,fun hk=>by simp at hk,fun hk=>?_⟩,by simp,by simp⟩;simp only [R0,B1k hq,A1G,A0H];omega
    ·by_cases hs:S2 (c :: q)=0
     ·rw [D0,if_neg hl,if_neg hd,if_neg h34,if_pos hs] at h;simp [nxE] at h
     ·rw [D0,if_neg hl,if_neg hd,if_neg h34,if_neg hs,nxT];exact ⟨⟨fun hk=>by simp at hk,fun hk=>by simp at hk,fun hk=>by simp at hk⟩,by simp,by simp⟩
theorem TOk.good {t:Tok} (h:TOk t):J3 t/\0<=t.value/\t.value<=2147483647:=by
 obtain ⟨s,p,h1,rfl⟩:=h;obtain ⟨h2,h3⟩:=B5s (p:=p) h1;exact ⟨h2,h3⟩
theorem C0j {s:List UInt8} (h:(E7 s).2.2=0):∀ t∈(E7 s).1,0<=t.value/\t.value<=9223372036854775807:=fun t ht=>by
 have:=(B7b h t ht).good.2;omega
theorem B7c {s:List UInt8} (h:(E7 s).2.2=0):(E7 s).1.length<=20000:=A2A (B8n s) (A6o h).1
def rd0:Rd:=⟨0,0,0,0,0⟩
def A0a (L:List Tok) (E:Int):Ru × Rd:=Classical.choose (B7d (L:=L) (E:=E) rd0)
theorem A5s (L:List Tok) (E:Int):Evt (fun f=>A2e L E f rd0) (A0a L E):=Classical.choose_spec (B7d (L:=L) (E:=E) rd0)
def C3n (L:List Tok) (E:Int):Ex × Rd:=Classical.choose (A0d (L:=L) (E:=E) rd0)
theorem B9q (L:List Tok) (E:Int):Xpn L E rd0 (C3n L E):=(Classical.choose_spec (A0d (L:=L) (E:=E) rd0)).1
def Ru0:Ru:=⟨[],[]⟩
def B3k (s:List UInt8):Ru × Int × Int :=
 let q:=E7 s
 if q.2.2≠0 then (Ru0,q.2.1,q.2.2)
 else if okR (A0a q.1 s.length).2=false then (Ru0,(A0a q.1 s.length).2.pos,(A0a q.1 s.length).2.e)
 else ((A0a q.1 s.length).1,0,0)
abbrev C4z (q:Ru × Int × Int):DV:=.tup [q.1.v,I64 q.2.1,I64 q.2.2]
def B1n (s:List UInt8):Ex × Int × Int :=
 let q:=E7 s
 if q.2.2≠0 then (Ex0,q.2.1,q.2.2)
 else
  let w:=C3n q.1 s.length
  let z:=if okR w.2=true/\w.2.i<q.1.length then O3 q.1 s.length w.2 else w.2
  if okR z=false then (Ex0,z.pos,z.e) else (w.1,0,0)
abbrev C1n (q:Ex × Int × Int):DV:=.tup [q.1.v,I64 q.2.1,I64 q.2.2]
theorem C4y (q:Ru × Int × Int):(C4z q).nl=true:=by
 simp only [DV.nl,DV.nlL,Ru.nl,M8,M7,A1W]
theorem C1m (q:Ex × Int × Int):(C1n q).nl=true:=by
 simp only [DV.nl,DV.nlL,Ex.nl,A1W]
end Go.Pb
namespace Go.Proofs.YthlpinppaclofaaGreatDoor
open Go.Eng (IC IOper DReg IFn C2)
open Go.Sym Go.Pb
theorem C1k {H:Hp} {a b:DV}:∃ H2,GL H [.tup [.agg [.snil,.snil],a,b]] H2 [.tup [.agg [.lst [],.lst []],a,b]] :=
 ⟨H,GL.view fun ρ vs hA=>N8 (fun v h=>by
  obtain ⟨b',rfl,k1,k2⟩:=h.tup_inv;refine .tup _ _ k1 fun i x y hx hy=>?_
  match i with
  | 0 =>
   cases hx;obtain ⟨c',rfl,m1,m2⟩:=(k2 0 _ y rfl hy).agg_inv;refine .agg _ _ m1 fun j x z hx hz=>?_
   match j with
   | 0=>cases hx;exact (m2 0 _ z rfl hz).snil_lst
   | 1=>cases hx;exact (m2 1 _ z rfl hz).snil_lst
   | _+2=>cases hx
  | 1=>cases hx;exact k2 1 _ y rfl hy
  | 2=>cases hx;exact k2 2 _ y rfl hy
  | _+3=>cases hx) vs hA⟩
theorem C1l {H:Hp} {a b k z n p:DV}:∃ H2,GL H [.tup [.agg [k,z,n,.snil,p],a,b]] H2 [.tup [.agg [k,z,n,.lst [],p],a,b]] :=
 ⟨H,GL.view fun ρ vs hA=>N8 (fun v h=>by
  obtain ⟨b',rfl,k1,k2⟩:=h.tup_inv;refine .tup _ _ k1 fun i x y hx hy=>?_
  match i with
  | 0=>cases hx;exact D2p (k2 0 _ y rfl hy)
  | 1=>cases hx;exact k2 1 _ y rfl hy
  | 2=>cases hx;exact k2 2 _ y rfl hy
  | _+3=>cases hx) vs hA⟩
open Go.Sym
abbrev x96:XT Tryz.prog 96:=mkF (by unfold C2;conv=>lhs;reduce;simp only [seval,u8n]) (fun h=>by conv=>lhs;cbv)
instance t96:FT Tryz.prog 96 x96.d:=x96.ft
abbrev x97:XT Tryz.prog 97:=mkF (by unfold C2;conv=>lhs;reduce;simp only [seval,u8n]) (fun h=>by conv=>lhs;cbv)
instance t97:FT Tryz.prog 97 x97.d:=x97.ft
abbrev x98:XT Tryz.prog 98:=mkF (by unfold C2;conv=>lhs;reduce;simp only [seval,u8n]) (fun h=>by conv=>lhs;cbv)
instance t98:FT Tryz.prog 98 x98.d:=x98.ft
abbrev x183:XT Tryz.prog 183:=mkF (by unfold C2;conv=>lhs;reduce;simp only [seval,u8n]) (fun h=>by conv=>lhs;cbv)
instance t183:FT Tryz.prog 183 x183.d:=x183.ft
abbrev x95:XT Tryz.prog 95:=mkF (by unfold C2;conv=>lhs;reduce;simp only [seval,u8n]) (fun h=>by conv=>lhs;cbv)
instance t95:FT Tryz.prog 95 x95.d:=x95.ft
abbrev x118:XT Tryz.prog 118:=mkF (by unfold C2;conv=>lhs;reduce;simp only [seval,u8n]) (fun h=>by conv=>lhs;cbv)
instance t118:FT Tryz.prog 118 x118.d:=x118.ft
abbrev x67:XT Tryz.prog 67:=mkF (by unfold C2;conv=>lhs;reduce;simp only [seval,u8n]) (fun h=>by conv=>lhs;cbv)
instance t67:FT Tryz.prog 67 x67.d:=x67.ft
abbrev x182:XT Tryz.prog 182:=mkF (by unfold C2;conv=>lhs;reduce;simp only [seval,u8n]) (fun h=>by conv=>lhs;cbv)
instance t182:FT Tryz.prog 182 x182.d:=x182.ft
abbrev x100:XT Tryz.prog 100:=mkF (by unfold C2;conv=>lhs;reduce;simp only [seval,u8n]) (fun h=>by conv=>lhs;cbv)
instance t100:FT Tryz.prog 100 x100.d:=x100.ft
abbrev x151:XT Tryz.prog 151:=mkF (by unfold C2;conv=>lhs;reduce;simp only [seval,u8n]) (fun h=>by conv=>lhs;cbv)
instance t151:FT Tryz.prog 151 x151.d:=x151.ft
abbrev x94:XT Tryz.prog 94:=mkF (by unfold C2;conv=>lhs;reduce;simp only [seval,u8n]) (fun h=>by conv=>lhs;cbv)
instance t94:FT Tryz.prog 94 x94.d:=x94.ft
abbrev x55:XT Tryz.prog 55:=mkF (by unfold C2;conv=>lhs;reduce;simp only [seval,u8n]) (fun h=>by conv=>lhs;cbv)
instance t55:FT Tryz.prog 55 x55.d:=x55.ft
abbrev x24:XT Tryz.prog 24:=mkF (by unfold C2;conv=>lhs;reduce;simp only [seval,u8n]) (fun h=>by conv=>lhs;cbv)
instance t24:FT Tryz.prog 24 x24.d:=x24.ft
abbrev x130:XT Tryz.prog 130:=mkF (by unfold C2;conv=>lhs;reduce;simp only [seval,u8n]) (fun h=>by conv=>lhs;cbv)
instance t130:FT Tryz.prog 130 x130.d:=x130.ft
abbrev x80:XT Tryz.prog 80:=mkF (by unfold C2;conv=>lhs;reduce;simp only [seval,u8n]) (fun h=>by conv=>lhs;cbv)
instance t80:FT Tryz.prog 80 x80.d:=x80.ft
abbrev x40:XT Tryz.prog 40:=mkF (by unfold C2;conv=>lhs;reduce;simp only [seval,u8n]) (fun h=>by conv=>lhs;cbv)
instance t40:FT Tryz.prog 40 x40.d:=x40.ft
abbrev x34:XT Tryz.prog 34:=mkF (by unfold C2;conv=>lhs;reduce;simp only [seval,u8n]) (fun h=>by conv=>lhs;cbv)
instance t34:FT Tryz.prog 34 x34.d:=x34.ft
abbrev x72:XT Tryz.prog 72:=mkF (by unfold C2;conv=>lhs;reduce;simp only [seval,u8n]) (fun h=>by conv=>lhs;cbv)
instance t72:FT Tryz.prog 72 x72.d:=x72.ft
abbrev x74:XT Tryz.prog 74:=mkF (by unfold C2;conv=>lhs;reduce;simp only [seval,u8n]) (fun h=>by conv=>lhs;cbv)
instance t74:FT Tryz.prog 74 x74.d:=x74.ft
abbrev x37:XT Tryz.prog 37:=mkF (i:=⟨135,.seq (.reg [oX 2 0,oX 3 1,oV 4 (.bool false)]) (.seq (.seq (.reg [oF 12 2 0,oL 13 12,oH 14 13,oF 15 3 0,oL 16 15,oH 17 16,oB 18 14 17 .neq,oM 19 18,hF 20 2 1 19,hL 21 20 19,oR 22 (.len (.t 21)) 19,hF 23 3 1 19,hL 24 23 19,oR 25 (.len (.t 24)) 19,oR 26 (.bin .neq (.t 22) (.t 25)) 19,oO 27 19 26]) (.cond (.t 27) (.seq (.reg [oV 4 (.bool false)]) .ret) .skip)) (.seq (.seq (.reg [oI 5 0]) (.blk 0 (.loop (.seq (.seq (.reg [oM 28 5,oF 29 2 0,oL 30 29,oH 31 30,oB 32 28 31 .lss]) (.cond (.t 32) .skip (.exit 0))) (.seq (.blk 1 (.seq (.drw 11 (dQ [oF 35 2 0,oL 36 35,oM 37 5,oA 38 36 37 4,oD 39 38 4,oF 40 3 0,oL 41 40,oM 42 5,oA 43 41 42 4,oD 44 43 4,oP 45 (.eqa true [0,2,0,0] (.t 39) (.t 44))] 0)) (.cond (.t 45) (.seq (.reg [oV 4 (.bool false)]) .ret) .skip))) (.reg [oM 33 5,oK 34 33 .add 1,oM 5 34])))))) (.seq (.seq (.reg [oI 6 0]) (.blk 2 (.loop (.seq (.seq (.reg [oM 46 6,oF 47 2 1,oL 48 47,oH 49 48,oB 50 46 49 .lss]) (.cond (.t 50) .skip (.exit 2))) (.seq (.blk 3 (.seq (.drw 14 ⟨[oF 53 2 1,oL 54 53,oM 55 6,oA 56 54 55 4,oD 57 56 4,oF 58 3 1,oL 59 58,oM 60 6,oA 61 59 60 4,oD 62 61 4,oW 7 (.agg #[.string ⟨#[]⟩,.int .i64 0,.slice none 0 0,.int .i64 0]),oW 8 (.agg #[.string ⟨#[]⟩,.int .i64 0,.slice none 0 0,.int .i64 0]),oS 7 57 4,oS 8 62 4],[],[(0,none),(1,none),(2,none),(3,none),(4,none),(5,none),(6,none),(7,none),(8,none),(9,none),(10,none),(11,none),(12,some [5,6,7,8,9]),(13,some [])]⟩) (.seq (.seq (.reg [oF 63 7 0,oL 64 63,oF 65 8 0,oL 66 65,oB 67 64 66 .neq,oM 68 67,hF 69 7 1 68,hL 70 69 68,hF 71 8 1 68,hL 72 71 68,oR 73 (.bin .neq (.t 70) (.t 72)) 68,oO 74 68 73,oM 75 74,hF 76 7 3 75,hL 77 76 75,hF 78 8 3 75,hL 79 78 75,oR 80 (.bin .neq (.t 77) (.t 79)) 75,oO 81 75 80,oM 82 81,hF 83 7 2 82,hL 84 83 82,oR 85 (.len (.t 84)) 82,hF 86 8 2 82,hL 87 86 82,oR 88 (.len (.t 87)) 82,oR 89 (.bin .neq (.t 85) (.t 88)) 82,oO 90 82 89]) (.cond (.t 90) (.seq (.reg [oV 4 (.bool false)]) .ret) .skip)) (.seq (.reg [oI 9 0]) (.blk 4 (.loop (.seq (.seq (.reg [oM 91 9,oF 92 7 2,oL 93 92,oH 94 93,oB 95 91 94 .lss]) (.cond (.t 95) .skip (.exit 4))) (.seq (.blk 5 (.seq (.drw 14 ⟨[oF 98 7 2,oL 99 98,oM 100 9,oA 101 99 100 4,oD 102 101 4,oF 103 8 2,oL 104 103,oM 105 9,oA 106 104 105 4,oD 107 106 4,oW 10 (.agg #[.int .i64 0,.string ⟨#[]⟩,.slice none 0 0,.int .i64 0]),oW 11 (.agg #[.int .i64 0,.string ⟨#[]⟩,.slice none 0 0,.int .i64 0]),oS 10 102 4,oS 11 107 4],[],[(0,none),(1,none),(2,none),(3,none),(4,none),(5,none),(6,none),(7,none),(8,none),(9,none),(10,none),(11,none),(12,some [5,6,7,8,9]),(13,some [])]⟩) (.seq (.reg [oF 108 10 0,oL 109 108,oF 110 11 0,oL 111 110,oB 112 109 111 .neq,oM 113 112,hF 114 10 1 113,hL 115 114 113,hF 116 11 1 113,hL 117 116 113,oR 118 (.bin .neq (.t 115) (.t 117)) 113,oO 119 113 118,oM 120 119,hF 121 10 3 120,hL 122 121 120,hF 123 11 3 120,hL 124 123 120,oR 125 (.bin .neq (.t 122) (.t 124)) 120,oO 126 120 125,oM 127 126,hF 128 10 2 127,hL 129 128 127,hF 130 11 2 127,hL 131 130 127,⟨some 132,.call 74 [.t 129,.t 131],some (127,false)⟩,oR 133 (.un .not (.t 132)) 127,oO 134 127 133]) (.cond (.t 134) (.seq (.reg [oV 4 (.bool false)]) .ret) .skip)))) (.reg [oM 96 9,oK 97 96 .add 1,oM 9 97]))))))))) (.reg [oM 51 6,oK 52 51 .add 1,oM 6 52])))))) (.seq (.reg [oV 4 (.bool true)]) .ret)))),[.tmp 4]⟩) (by unfold C2;kernel_rfl) (fun h=>by conv=>lhs;cbv)
instance t37:FT Tryz.prog 37 x37.d:=x37.ft
theorem A3h {k v p:Int} {x:List UInt8}:∃ H2,GL (nil.upd 0 ⟨4,true,[I64 k,.str x,I64 v,I64 p]⟩) [.slc 0 0 1] H2 [E4 [⟨k,x,v,p⟩]] :=
 J0 rfl rfl rfl (F0 _) ⟨[],rfl⟩
theorem A4z {o:Option Nat} {xs:List DV} {u n:Nat} (hno:o=none->xs=[]) (hl:xs.length=n) (hu:∀ x∈xs,x.cells.length=u) :
  ∃ H2,GL (C5 Sym.nil o ⟨u,true,A4 xs⟩) [B6 o n] H2 [.lst xs]:=by
 cases o with
 | none=>rw [hno rfl];exact A1s
 | some i=>exact J0 (id:=i) A0 rfl hl hu ⟨[],by simp⟩
theorem c_named (s:List UInt8) (hs:s.length<=1000000000):PC Tryz.prog 97 [.str s] (E4 (D4 s)):=by
 refine PC.ofT B1 rfl (A0B rfl) (by simp [DV.nlL,DV.nl]) (by simp [DV.nlL,DV.nl]) ?_;have h1:=c_IsNameR s hs;unfold D4;cases h:C8 s with
 | true =>
  rw [if_neg (by decide)];repeat' ((with_reducible first|refine wr ?_|refine cpc h1 ?_|refine A2 ?_ ?_|fail)<;>try simp only [go_sem,seval,h])
  exact A3h
 | false =>
  rw [if_pos rfl];repeat' ((with_reducible first|refine wr ?_|refine cpc h1 ?_|refine A2 ?_ ?_|fail)<;>try simp only [go_sem,seval,h])
  exact A3h
theorem c_number31 (n:Int):PC Tryz.prog 98 [I64 n] (E4 (P8 n)):=by
 refine PC.ofT B1 rfl (A0B rfl) (by simp [DV.nlL,DV.nl]) (by simp [DV.nlL,DV.nl]) ?_;unfold P8;by_cases h0:n<0
 ·have hd:decide (n<0)=true:=by simpa using h0
  rw [if_pos (.inl h0)];repeat' ((with_reducible first|refine wr ?_|refine A2 ?_ ?_|fail)<;>try simp only [go_sem,seval,hd])
  exact A3h
 ·have hd:decide (n<0)=false:=by simpa using h0
  by_cases h1:2147483647<n
  ·have hd1:decide (n>2147483647)=true:=by simpa using h1
   rw [if_pos (.inr h1)];repeat' ((with_reducible first|refine wr ?_|refine A2 ?_ ?_|fail)<;>try simp only [go_sem,seval,hd,hd1])
   exact A3h
  ·have hd1:decide (n>2147483647)=false:=by simpa using h1
   rw [if_neg (by omega)];repeat' ((with_reducible first|refine wr ?_|refine A2 ?_ ?_|fail)<;>try simp only [go_sem,seval,hd,hd1])
   exact A3h
theorem c_words1 (l:List (List UInt8)) (hl:l.length<=1000000) (hx:∀ x∈l,x.length<=1000000000):PC Tryz.prog 96 [U9 l] (E4 (l.map A6)):=by
 refine PC.ofT B1 rfl (A0B rfl) (by simp [DV.nlL,DV.nl,L8]) (N5 _) ?_;repeat' ((with_reducible first|refine wr ?_|refine A2 ?_ ?_|fail)<;>try simp only [go_sem,seval])
 refine D8 (fun q:Nat × Option Nat=>[(0,U9 l),(3,B6 q.2 q.1),(4,I64 q.1)]) (fun q=>C5 Sym.nil q.2 ⟨4,true,A4 (((l.take q.1).map A6).map Tok.v)⟩)
  (fun q c=>q.1<=l.length/\(q.2=none->q.1=0)/\(∀ i,q.2=some i->i<c)) (fun q=>l.length-q.1) (0,none)
  (by simp [C9,tm,Tm.upd,B6]) (Sub.nil _) ⟨A0Y _,fun _=>rfl,(fun i hi=>by cases hi)⟩ ?_
 rintro ⟨k,o⟩ c ⟨hk,hno,ho⟩;dsimp only at hk hno ho ⊢;by_cases hlt:k<l.length
 ·have hd:decide ((k:Int)<(l.length:Int))=true:=by simpa using hlt
  have hg:=A0C hlt;have hx1:=hx _ (A0S hlt);have hw:=w64 (n:=(k:Int)+1) (by omega) (by omega);have e0:(l.take (k+1)).map A6=(l.take k).map A6++[A6 l[k]]:=by rw [A1D,hg,A0M];rfl
  generalize l[k]=x at hg hx1 e0;have h1:=c_IsWordR x;have h2:=c_IsNameR x (by omega);have ne0:=A2i c (c+1) (by omega);have hln:(A4 (((l.take k).map A6).map Tok.v)).length=k * 4:=(B5 (u:=4) (F0 _)).trans (by rw [A0G,A0G,A1B,Nat.min_eq_left hk]);cases hw1:F6 x with
  | true =>
   repeat' ((with_reducible first|refine wr ?_|refine cpc h1 ?_|refine cpc h2 ?_|refine A2 ?_ ?_|fail)<;>try simp only [go_sem,seval,hd,hg,hw,hw1,ne0,A0,A1])
   refine C4 (E6 (cs:=A4 (((l.take k).map A6).map Tok.v)) (fun e=>by have:=hno e;subst this;exact ⟨rfl,rfl⟩) (fun i hi=>by have:=ho i hi;rw [A3 (by omega),A3 (by omega)];exact A0r hi) hln (by omega) (by omega) (by omega)) ?_;simp only [go_sem,seval,ne0];repeat' ((with_reducible first|refine wr ?_|refine A2 ?_ ?_|fail)<;>try simp only [go_sem,seval,hd,hw,ne0])
   refine ⟨(k+1,some (c+1+1)),by simp [C9,tm,Tm.upd,B6],?_,inv ⟨by omega,(fun h=>by cases h),(fun i hi=>by cases hi;omega)⟩,by simp only;omega⟩;dsimp only [C5];rw [e0,A0M,C6];refine J5 ?_;unfold A6;simp only [hw1,if_true,if_false,A1I];rfl
  | false =>
   cases hn1:C8 x with
   | true =>
    repeat' ((with_reducible first|refine wr ?_|refine cpc h1 ?_|refine cpc h2 ?_|refine A2 ?_ ?_|fail)<;>try simp only [go_sem,seval,hd,hg,hw,hw1,hn1,ne0,A0,A1])
    refine C4 (E6 (cs:=A4 (((l.take k).map A6).map Tok.v)) (fun e=>by have:=hno e;subst this;exact ⟨rfl,rfl⟩) (fun i hi=>by have:=ho i hi;rw [A3 (by omega),A3 (by omega)];exact A0r hi) hln (by omega) (by omega) (by omega)) ?_;simp only [go_sem,seval,ne0];repeat' ((with_reducible first|refine wr ?_|refine A2 ?_ ?_|fail)<;>try simp only [go_sem,seval,hd,hw,ne0])
    refine ⟨(k+1,some (c+1+1)),by simp [C9,tm,Tm.upd,B6],?_,inv ⟨by omega,(fun h=>by cases h),(fun i hi=>by cases hi;omega)⟩,by simp only;omega⟩;dsimp only [C5];rw [e0,A0M,C6];refine J5 ?_;unfold A6;simp only [hw1,hn1,if_true,if_false,A1I];rfl
   | false =>
    repeat' ((with_reducible first|refine wr ?_|refine cpc h1 ?_|refine cpc h2 ?_|refine A2 ?_ ?_|fail)<;>try simp only [go_sem,seval,hd,hg,hw,hw1,hn1,ne0,A0,A1])
    refine C4 (E6 (cs:=A4 (((l.take k).map A6).map Tok.v)) (fun e=>by have:=hno e;subst this;exact ⟨rfl,rfl⟩) (fun i hi=>by have:=ho i hi;rw [A3 (by omega),A3 (by omega)];exact A0r hi) hln (by omega) (by omega) (by omega)) ?_;simp only [go_sem,seval,ne0];repeat' ((with_reducible first|refine wr ?_|refine A2 ?_ ?_|fail)<;>try simp only [go_sem,seval,hd,hw,ne0])
    refine ⟨(k+1,some (c+1+1)),by simp [C9,tm,Tm.upd,B6],?_,inv ⟨by omega,(fun h=>by cases h),(fun i hi=>by cases hi;omega)⟩,by simp only;omega⟩;dsimp only [C5];rw [e0,A0M,C6];refine J5 ?_;unfold A6;simp only [hw1,hn1,if_true,if_false,A1I];rfl
 ·have hd:decide ((k:Int)<(l.length:Int))=false:=by simpa using hlt
  repeat' ((with_reducible first|refine wr ?_|refine A2 ?_ ?_|fail)<;>try simp only [go_sem,seval,hd])
  rw [A0I (by omega)];exact A4z (fun e=>by rw [A1N (l:=l) (by have:=hno e;omega)];rfl) (by simp;omega) (F0 _)
theorem c_join1 (l:List (List Tok)) (hl:l.length<=1000) (hx:∀ x∈l,1<=x.length/\x.length<=1000000000):PC Tryz.prog 95 [.lst (l.map E4)] (E4 l.flatten):=by
 refine PC.ofT B1 rfl (A0B rfl) (by simp only [DV.nlL,DV.nl,Q4 (f:=E4) (fun a=>N5 a),A1W]) (N5 _) ?_;repeat' ((with_reducible first|refine wr ?_|refine A2 ?_ ?_|fail)<;>try simp only [go_sem,seval])
 refine D8 (fun q:Nat × Option Nat=>[(0,.lst (l.map E4)),(3,B6 q.2 (l.take q.1).flatten.length),(4,I64 q.1)]) (fun q=>C5 Sym.nil q.2 ⟨4,true,A4 ((l.take q.1).flatten.map Tok.v)⟩)
  (fun q c=>q.1<=l.length/\(q.2=none->q.1=0)/\(∀ i,q.2=some i->i<c)/\(l.take q.1).flatten.length<=1000000000 * q.1) (fun q=>l.length-q.1) (0,none)
  (by simp [C9,tm,Tm.upd,B6]) (Sub.nil _) ⟨A0Y _,fun _=>rfl,(fun i hi=>by cases hi),by simp⟩ ?_
 rintro ⟨k,o⟩ c ⟨hk,hno,ho,hlen⟩;dsimp only at hk hno ho hlen ⊢;by_cases hlt:k<l.length
 ·have hd:decide ((k:Int)<(l.length:Int))=true:=by simpa using hlt
  have hg:=A0C hlt;obtain ⟨hx1,hx2⟩:=hx _ (A0S hlt);have hw:=w64 (n:=(k:Int)+1) (by omega) (by omega);have e0:(l.take (k+1)).flatten=(l.take k).flatten++l[k]:=by rw [A1D,hg,List.flatten_append];simp
  generalize l[k]=x at hg hx1 hx2 e0;generalize hy:(l.take k).flatten=y at hlen e0 ⊢;have hun:unit 4 (x.map Tok.v)=true:=by unfold unit;rw [A0P];intro d hd;simp [F0 x d hd]
  have hny:o=none->y=[]:=fun e=>by rw [<- hy,hno e];rfl
  have hln:(A4 (y.map Tok.v)).length=y.length * 4:=(B5 (u:=4) (F0 _)).trans (by simp);repeat' ((with_reducible first|refine wr ?_|refine A2 ?_ ?_|fail)<;>try simp only [go_sem,seval,hd,hg,hw,T1 hun])
  refine C4 (E6 (cs:=A4 (y.map Tok.v)) (fun e=>by rw [hny e];exact ⟨rfl,rfl⟩) (fun i hi=>A0r hi) hln (by omega) (by omega) (by omega)) ?_;simp only [go_sem,seval];repeat' ((with_reducible first|refine wr ?_|refine A2 ?_ ?_|fail)<;>try simp only [go_sem,seval,hd,hw])
  refine ⟨(k+1,some c),by simp [C9,tm,Tm.upd,B6,e0],?_,inv ⟨by omega,(fun h=>by cases h),(fun i hi=>by cases hi;omega),by simp only;rw [e0,A0A];omega⟩,by simp only;omega⟩;dsimp only [C5];rw [e0,A0M,C6];exact J5 rfl
 ·have hd:decide ((k:Int)<(l.length:Int))=false:=by simpa using hlt
  repeat' ((with_reducible first|refine wr ?_|refine A2 ?_ ?_|fail)<;>try simp only [go_sem,seval,hd])
  rw [A0I (by omega)];exact A4z (fun e=>by rw [A1N (l:=l) (by have:=hno e;omega)];rfl) (by rw [A0G]) (F0 _)
end Go.Proofs.YthlpinppaclofaaGreatDoor
namespace Go.Pb
variable [Go.Sym.Tab]
open Go.Sym
mutual
def Ex.sz:Ex->Nat
 | .mk k v n a p=>1+n.length+Ex.szs a
def Ex.szs:List Ex->Nat
 | []=>0
 | e :: l=>e.sz+Ex.szs l
end
mutual
def St.sz:St->Nat
 | .mk k n t a x y p=>1+n.length+t.length+Ex.szs a+St.szs x+St.szs y
def St.szs:List St->Nat
 | []=>0
 | e :: l=>e.sz+St.szs l
end
def Dc.sz (d:Dc):Nat:=1+d.name.length
def Hd.sz (h:Hd):Nat:=1+h.name.length+St.szs h.body
def Md.sz (m:Md):Nat:=1+m.name.length+(m.hds.map Hd.sz).sum
def Ru.sz (r:Ru):Nat:=(r.decls.map Dc.sz).sum+(r.modes.map Md.sz).sum
theorem Ex.szs_map:∀ l:List Ex,Ex.szs l=(l.map Ex.sz).sum
 | []=>rfl
 | e :: l=>by rw [Ex.szs,Ex.szs_map l];rfl
theorem St.szs_map:∀ l:List St,St.szs l=(l.map St.sz).sum
 | []=>rfl
 | e :: l=>by rw [St.szs,St.szs_map l];rfl
theorem J4 {α : Type} {f : α -> Nat} {x : α}:∀ {l:List α},x∈l->f x<=(l.map f).sum
 | a :: l,h=>by
  rw [A0O,A2F];rcases A1S.1 h with rfl|h
  ·omega
  ·have:=J4 (f:=f) h;omega
theorem H6 {α : Type} {f : α -> Nat}:∀ {l:List α},(∀ x∈l,1<=f x)->l.length<=(l.map f).sum
 | [],h=>A0Y _
 | a :: l,h=>by
  have:=H6 (f:=f) (l:=l) fun x hx=>h x (A0J _ hx);have:=h a A0K;rw [A0O,A2F,A0U];omega
theorem Ex.sz_pos (e:Ex):1<=e.sz:=by cases e with|mk k v n a p=>rw [Ex.sz];omega
theorem St.sz_pos (e:St):1<=e.sz:=by cases e with|mk k n t a x y p=>rw [St.sz];omega
theorem Ex.sz_arg {e x:Ex} (h:x∈e.args):x.sz<e.sz:=by
 cases e with|mk k v n a p =>
 have:=J4 (f:=Ex.sz) h;rw [Ex.sz,Ex.szs_map];have h':(Ex.mk k v n a p).args=a:=rfl;rw [h'] at this;omega
theorem Ex.sz_name (e:Ex):e.name.length<e.sz:=by
 cases e with|mk k v n a p=>rw [Ex.sz];show n.length<_;omega
theorem Ex.sz_args (e:Ex):e.args.length<e.sz:=by
 cases e with|mk k v n a p =>
 have:=H6 (f:=Ex.sz) (l:=a) fun x _=>x.sz_pos;rw [Ex.sz,Ex.szs_map];show a.length<_;omega
theorem St.sz_name (e:St):e.name.length<e.sz:=by
 cases e with|mk k n t a x y p=>rw [St.sz];show n.length<_;omega
theorem St.sz_text (e:St):e.text.length<e.sz:=by
 cases e with|mk k n t a x y p=>rw [St.sz];show t.length<_;omega
theorem St.sz_arg {e:St} {x:Ex} (h:x∈e.args):x.sz<e.sz:=by
 cases e with|mk k n t a u w p =>
 have:=J4 (f:=Ex.sz) h;have h':(St.mk k n t a u w p).args=a:=rfl;rw [h'] at this;rw [St.sz,Ex.szs_map];omega
theorem St.sz_args (e:St):e.args.length<e.sz:=by
 cases e with|mk k n t a u w p =>
 have:=H6 (f:=Ex.sz) (l:=a) fun x _=>x.sz_pos;rw [St.sz,Ex.szs_map];show a.length<_;omega
theorem St.sz_thn (e:St):St.szs e.thn<e.sz:=by
 cases e with|mk k n t a u w p=>rw [St.sz];show St.szs u<_;omega
theorem St.sz_els (e:St):St.szs e.els<e.sz:=by
 cases e with|mk k n t a u w p=>rw [St.sz];show St.szs w<_;omega
theorem St.szs_len (l:List St):l.length<=St.szs l:=by rw [St.szs_map];exact H6 fun x _=>x.sz_pos
theorem St.szs_mem {l:List St} {x:St} (h:x∈l):x.sz<=St.szs l:=by rw [St.szs_map];exact J4 h
theorem Ex.szs_mem {l:List Ex} {x:Ex} (h:x∈l):x.sz<=Ex.szs l:=by rw [Ex.szs_map];exact J4 h
theorem Ex.szs_len (l:List Ex):l.length<=Ex.szs l:=by rw [Ex.szs_map];exact H6 fun x _=>x.sz_pos
theorem A5 (s:List UInt8):(D4 s).length=1:=by unfold D4;split<;>rfl
theorem B4 (n:Int):(P8 n).length=1:=by unfold P8;split<;>rfl
theorem B2 (s:List UInt8):(S8 s).length=1:=by unfold S8;split<;>rfl
theorem A3i (q:Int × List Tok) (n:Int):q.2.length<=(E5 q n).length/\(E5 q n).length<=q.2.length+2:=by
 unfold E5;split
 ·simp only [A0A,A0F];omega
 ·omega
theorem A2u:∀ l:List Ex,A6x l=l.map fun e=>(e.kind,exT e)
 | []=>rfl
 | e :: l=>by rw [A6x,A2u l];rfl
set_option maxHeartbeats 2000000 in
theorem B6m {k v:Int} {n:List UInt8} {as1:List (Int × List Tok)}:1<=(G1 k v n as1).length/\(G1 k v n as1).length<=5+(as1.map fun q=>q.2.length).sum:=by
 unfold G1
 match as1 with
 | [] =>
  dsimp only;repeat' split
  all_goals simp only [A0A,A0F,A5,B4]
  all_goals omega
 | [q] =>
  have:=A3i q 6;dsimp only;repeat' split
  all_goals simp only [A0A,A0F,A5,B4,A0O,List.map_nil,A2F,A2V]
  all_goals omega
 | [q,r] =>
  have h1:=A3i q (if B8 k=3 then 4 else B8 k);have h2:=A3i r (B8 k+1);dsimp only;generalize E5 q (if B8 k=3 then 4 else B8 k)=A at h1 ⊢;generalize E5 r (B8 k+1)=B at h2 ⊢;generalize A6 (C3.getD (k-12).toNat [])=W;generalize B8 k=lv;repeat' split
  all_goals simp only [A0A,A0F,A5,B4,A0O,List.map_nil,A2F,A2V]
  all_goals omega
 | q :: r :: w :: l =>
  dsimp only;repeat' split
  all_goals simp only [A0A,A0F,A5,B4]
  all_goals omega
theorem A1w:∀ e:Ex,1<=(exT e).length/\(exT e).length<=5 * e.sz
 | .mk k v n a p=>by
  have ih:∀ x∈a,(exT x).length<=5 * x.sz:=fun x hx=>(A1w x).2;have h:=B6m (k:=k) (v:=v) (n:=n) (as1:=A6x a);rw [exT];refine ⟨h.1,?_⟩;have h2:((A6x a).map fun q=>q.2.length).sum<=5 * Ex.szs a:=by
   rw [A2u,A3H,Ex.szs_map];clear h
   induction a with
   | nil=>simp
   | cons x l ihl =>
    have h1:=ih x A0K;have h2:=ihl fun y hy=>ih y (A0J _ hy);simp only [A0O,A2F,Function.comp] at h2 ⊢;omega
  rw [Ex.sz];omega
theorem C3l (l:List Ex) (i:Nat):1<=(agT l i).length/\(agT l i).length<=1+5 * Ex.szs l:=by
 unfold agT;cases h:l[i]? with
 | none=>exact ⟨A0E _,by show 1<=_;omega⟩
 | some e =>
  have h1:=A1w e;have h2:=Ex.szs_mem (A0W h);dsimp only;omega
mutual
theorem A3e:∀ s:St,1<=(stT s).length/\(stT s).length<=11 * s.sz
 | .mk k n t a x y p=>by
  have h0:=C3l a 0;have h1:=C3l a 1;have hx:=A2n x;have hy:∀ l,l=y->(O8 l).length<=11 * St.szs l:=fun l h=>by subst h;exact A2n l
  have hq:∀ q,y=[q]->(stT q).length<=11 * q.sz:=fun q h=>by subst h;exact (A3e q).2
  rw [St.sz];unfold stT;dsimp only;generalize agT a 0=A at h0 ⊢;generalize agT a 1=B at h1 ⊢;generalize O8 x=X at hx ⊢;generalize A6 (B7.getD (k-2).toNat [])=W
  match y,hy,hq with
  | [],hy,hq =>
   dsimp only;rw [St.szs];repeat' split
   all_goals simp only [A0A,A0F,A5,B2]
   all_goals omega
  | [q],hy,hq =>
   have hq:=hq q rfl;dsimp only;rw [St.szs,St.szs];generalize stT q=Q at hq ⊢;repeat' split
   all_goals simp only [A0A,A0F,A5,B2]
   all_goals omega
  | q :: q2 :: r,hy,hq =>
   have hy:=hy _ rfl;dsimp only;generalize O8 (q :: q2 :: r)=Y at hy ⊢;generalize St.szs (q :: q2 :: r)=z at hy ⊢;repeat' split
   all_goals simp only [A0A,A0F,A5,B2]
   all_goals omega
theorem A2n:∀ l:List St,(O8 l).length<=11 * St.szs l
 | []=>A0Y _
 | s :: l=>by
  have h1:=A3e s;have h2:=A2n l;rw [O8,St.szs,A0A];omega
end
theorem A3o (l:List St):1<=(blT l).length/\(blT l).length<=11 * St.szs l+2:=by
 have:=A2n l;unfold blT;simp only [A0A,A0F];omega
theorem B8b (d:Dc):1<=(dcT d).length/\(dcT d).length<=6:=by
 unfold dcT;dsimp only;generalize A6 (D1.getD (d.kind-1).toNat [])=W;repeat' split
 all_goals simp only [A0A,A0F,A5,B4]
 all_goals (first|omega|simp)
theorem C6g (h:Hd):1<=(hdT h).length/\(hdT h).length<=11 * h.sz:=by
 have:=A3o h.body;unfold hdT Hd.sz;generalize A6 (D3.getD (h.trig-1).toNat [])=W;split
 ·simp only [A0A,A0U,A1C,A5];omega
 ·simp only [A0A,A0U,A1C];omega
theorem A7o {α : Type} {f : α -> List Tok} {g : α -> Nat} {c:Nat}:∀ {l:List α},(∀ x∈l,(f x).length<=c * g x)->(l.flatMap f).length<=c * (l.map g).sum
 | [],_=>by simp
 | a :: l,h=>by
  have h1:=h a A0K;have h2:=A7o (l:=l) fun x hx=>h x (A0J _ hx);rw [A1E,A0A,A0O,A2F,Nat.mul_add];omega
theorem C5q (m:Md):1<=(mdT m).length/\(mdT m).length<=11 * m.sz:=by
 have:=A7o (l:=m.hds) (f:=hdT) (g:=Hd.sz) (c:=11) fun x _=>(C6g x).2;unfold mdT Md.sz;simp only [A0A,A0F,A5,B4];omega
theorem B1g (r:Ru):(ruT r).length<=11 * r.sz+1/\(r.decls.flatMap dcT++r.modes.flatMap mdT).length<=11 * r.sz:=by
 have h1:=A7o (l:=r.decls) (f:=dcT) (g:=Dc.sz) (c:=11) fun x _=>by have:=B8b x;unfold Dc.sz;omega
 have h2:=A7o (l:=r.modes) (f:=mdT) (g:=Md.sz) (c:=11) fun x _=>(C5q x).2;have h3:(r.decls.flatMap dcT++r.modes.flatMap mdT).length<=11 * r.sz:=by
  unfold Ru.sz;rw [A0A];omega
 refine ⟨?_,h3⟩;unfold ruT;split
 ·show 1<=_;omega
 ·omega
end Go.Pb
namespace Go.Proofs.YthlpinppaclofaaGreatDoor
open Go.Eng (IC IOper DReg IFn C2)
open Go.Sym Go.Pb
theorem P4 {H:Hp} {i j:Nat}:K3 H (some i) j=if j=i then none else H j:=_root_.id rfl
theorem C3c {H:Hp} {i:Nat} {b:Blk}:K3 (H.upd i b) (some i)=K3 H (some i):=by
 funext j;rw [P4,P4];split
 ·rfl
 ·rename_i h;rw [A3 h]
theorem C6p {H:Hp} {i k:Nat} {b:Blk} (h:¬ k=i):K3 (H.upd k b) (some i)=(K3 H (some i)).upd k b:=by
 funext j;rw [P4]
 by_cases e:j=k
 ·subst e;rw [A0,if_neg h,A0]
 ·rw [A3 e,A3 e,P4]
theorem C6q {i:Nat}:K3 nil (some i)=nil:=by
 funext j;rw [P4];split<;>rfl
theorem D0u {ks:List Nat} {H:Hp} {i:Nat} (h:ks.all (fun k=>k != i)=true):I9 ks H (K3 (Q6 H ks) (some i))=K3 H (some i):=by
 have hi:i ∉ ks:=fun hm=>by simpa using A0P.1 h i hm
 funext j
 simp only [I9,P4,Q6];by_cases e:j=i
 ·subst e;rw [if_neg hi,if_pos rfl,if_pos rfl]
 ·by_cases e2:j∈ks
  ·rw [if_pos e2,if_neg e]
  ·rw [if_neg e2,if_neg e,if_neg e,if_neg e2]
attribute [go_sem] C3c C6p C6q
theorem C5p {k i:Nat} {H:Hp} (h:¬ k=i):I9 [k] H (K3 (Q6 H [k]) (some i))=K3 H (some i):=D0u (by simpa using h)
attribute [go_sem] C5p
theorem Y8 {f:Nat} {xs:List DV} {r:DV} {u id n cc:Nat} {H:Hp} {cs:List DV} (h:PC Tryz.prog f [.lst xs] r) (hb:H id=some ⟨u,true,cs⟩) (hcs:cs=A4 xs) (hl:xs.length=n) (hu:∀ x∈xs,x.cells.length=u) :
  AC Tryz.prog f [.slc id 0 n] H cc (fun v H' c'=>v=r/\H'=K3 H (some id)/\c'=cc) :=
 AC.ghost (GL.frzS (id:=id) hb rfl (fun j=>by
  by_cases e:j=id
  ·subst e;exact .inl (by rw [P4,if_pos rfl])
  ·exact .inr ⟨e,by rw [P4,if_neg e]⟩) (.cons _ _ _ _ (N7 hl hu ⟨[],by rw [hcs];simp⟩) .nil)) (h.at _ cc)
def wT (x:List UInt8):List Tok:=[A6 x]
theorem A1m (x:List UInt8):1<=(wT x).length/\(wT x).length<=1000000000:=⟨A0E _,by show 1<=_;omega⟩
theorem wd1 {x:List UInt8} {id cc:Nat} {H:Hp} (hb:H id=some ⟨1,true,[.str x]⟩) (hx:x.length<=1000000000) :
  AC Tryz.prog 96 [.slc id 0 1] H cc (fun v H' c'=>v=E4 (wT x)/\H'=K3 H (some id)/\c'=cc) :=
 Y8 (xs:=[.str x]) (c_words1 [x] (by simp) (by simpa using hx)) hb rfl rfl (J1 [x])
theorem wd2 {x y:List UInt8} {id cc:Nat} {H:Hp} (hb:H id=some ⟨1,true,[.str x,.str y]⟩) (hx:x.length<=1000000000) (hy:y.length<=1000000000) :
  AC Tryz.prog 96 [.slc id 0 2] H cc (fun v H' c'=>v=E4 [A6 x,A6 y]/\H'=K3 H (some id)/\c'=cc) :=
 Y8 (xs:=[.str x,.str y]) (c_words1 [x,y] (by simp) (by simp [hx,hy])) hb rfl rfl (J1 [x,y])
theorem A4r (l:List (List Tok)):∀ x∈l.map E4,x.cells.length=1:=fun x hx=>by obtain ⟨y, -,rfl⟩:=A1M.1 hx;rfl
theorem jn2 {a b:List Tok} {id cc:Nat} {H:Hp} (hH:H id=some ⟨1,true,[E4 a,E4 b]⟩) (ha:1<=a.length/\a.length<=1000000000) (hb:1<=b.length/\b.length<=1000000000) :
  AC Tryz.prog 95 [.slc id 0 2] H cc (fun v H' c'=>v=E4 (a++b)/\H'=K3 H (some id)/\c'=cc):=by
 have:=Y8 (id:=id) (cc:=cc) (H:=H) (u:=1) (n:=2) (c_join1 [a,b] (by simp) (by simp [ha,hb])) hH rfl rfl (A4r [a,b])
 rwa [A1K,A1K,A4A,A1J] at this
theorem jn3 {a b c:List Tok} {id cc:Nat} {H:Hp} (hH:H id=some ⟨1,true,[E4 a,E4 b,E4 c]⟩) (ha:1<=a.length/\a.length<=1000000000) (hb:1<=b.length/\b.length<=1000000000) (hc:1<=c.length/\c.length<=1000000000) :
  AC Tryz.prog 95 [.slc id 0 3] H cc (fun v H' c'=>v=E4 (a++b++c)/\H'=K3 H (some id)/\c'=cc):=by
 have:=Y8 (id:=id) (cc:=cc) (H:=H) (u:=1) (n:=3) (c_join1 [a,b,c] (by simp) (by simp [ha,hb,hc])) hH rfl rfl (A4r [a,b,c])
 rwa [A1K,A1K,A1K,A4A,A1J, <- A0V] at this
theorem B5q (x:List UInt8):1<=(D4 x).length/\(D4 x).length<=1000000000:=by rw [A5];omega
theorem c_operand (e:Ex) (n:Int) (hT:(exT e).length<=100000000) (h:PC Tryz.prog 67 [e.v] (E4 (exT e))):PC Tryz.prog 118 [e.v,I64 n] (E4 (E5 (e.kind,exT e) n)):=by
 refine PC.ofT B1 rfl (A0B rfl) (by simp [DV.nlL,DV.nl,Ex.nl]) (N5 _) ?_;rw [Ex.v_w] at h ⊢;have hlv:=c_level e.kind;obtain ⟨hl1, -⟩:=A1w e;obtain ⟨R,hR⟩:∃ R,R=E4 (E5 (e.kind,exT e) n):=⟨_,rfl⟩;rw [<- hR];unfold E5 at hR;dsimp only at hR;generalize exT e=T at h hT hl1 hR;by_cases hlt:B8 e.kind<n
 ·have hd:decide (B8 e.kind<n)=true:=by simpa using hlt
  rw [if_pos hlt] at hR;repeat' ((first|(with_reducible first|refine wr ?_|refine cpc hlv ?_|refine cpc h ?_|refine A2 ?_ ?_)|(refine AC.call (wd1 rfl (by decide)) ?_<;>rintro _ _ _ ⟨rfl,rfl,rfl⟩ -)|(refine AC.call (jn3 rfl (A1m _) ⟨hl1,by omega⟩ (A1m _)) ?_<;>rintro _ _ _ ⟨rfl,rfl,rfl⟩ -)|fail)<;>try simp only [go_sem,seval,hd])
  exact ⟨_,by rw [hR];exact GL.refl _ _⟩
 ·have hd:decide (B8 e.kind<n)=false:=by simpa using hlt
  rw [if_neg hlt] at hR;repeat' ((with_reducible first|refine wr ?_|refine cpc hlv ?_|refine cpc h ?_|refine A2 ?_ ?_|fail)<;>try simp only [go_sem,seval,hd])
  exact ⟨_,by rw [hR];exact GL.refl _ _⟩
theorem C0t {sz:Nat} {xs:List DV} {k:IntKind}:A2j sz (.lst xs) (.int k 1)=B6e sz xs[1]? := B1i (l:=1)
theorem c_exprT:∀ (m:Nat) (e:Ex),e.sz<m->e.sz<=10000000->PC Tryz.prog 67 [e.v] (E4 (exT e)):=by
 intro m
 induction m with
 | zero=>intro e h;omega
 | succ m ih =>
 intro e hm hB;have ihx:∀ x∈e.args,PC Tryz.prog 67 [x.v] (E4 (exT x)):=fun x hx=>ih x (by have:=Ex.sz_arg hx;omega) (by have:=Ex.sz_arg hx;omega);have hop:∀ x∈e.args, ∀ n,PC Tryz.prog 118 [x.v,I64 n] (E4 (E5 (x.kind,exT x) n)):=fun x hx n=>c_operand x n (by have:=(A1w x).2;have:=Ex.sz_arg hx;omega) (ihx x hx);have hle:∀ x∈e.args, ∀ n,1<=(E5 (x.kind,exT x) n).length/\(E5 (x.kind,exT x) n).length<=1000000000:=fun x hx n=>by
  have h1:=A1w x;have h2:=Ex.sz_arg hx;have h3:=A3i (x.kind,exT x) n;dsimp only at h3;omega
 clear ih ihx;obtain ⟨R,hR⟩:∃ R,R=E4 (exT e):=⟨_,rfl⟩;have hnm:=e.sz_name;refine PC.ofT B1 rfl (A0B rfl) (by simp [DV.nlL,DV.nl,Ex.nl]) (N5 _) ?_;rw [Ex.v_w, <- hR];cases e with|mk k v n a p =>
 rw [exT,A2u] at hR;dsimp only [Ex.w,Ex.kind,Ex.value,Ex.name,Ex.args,Ex.pos] at hop hle hnm ⊢;unfold G1 at hR;dsimp only at hR;have hlv:=c_level k;have hnu:=c_number31 v;have hna:=c_named n (by omega);by_cases h1:k=1
 ·subst h1;rw [if_pos rfl] at hR;repeat' ((with_reducible first|refine wr ?_|refine cpc hlv ?_|refine cpc hnu ?_|refine A2 ?_ ?_|fail)<;>try simp only [go_sem,seval])
  exact ⟨_,by rw [hR];exact GL.refl _ _⟩
 have d1:(k == 1)=false:=by simpa using h1
 rw [if_neg h1] at hR;by_cases h2:k=2
 ·subst h2;rw [if_pos rfl] at hR;repeat' ((with_reducible first|refine wr ?_|refine cpc hlv ?_|refine cpc hna ?_|refine A2 ?_ ?_|fail)<;>try simp only [go_sem,seval])
  exact ⟨_,by rw [hR];exact GL.refl _ _⟩
 have d2:(k == 2)=false:=by simpa using h2
 rw [if_neg h2] at hR;by_cases h3:k=3
 ·subst h3;rw [if_pos rfl] at hR;repeat' ((first|(with_reducible first|refine wr ?_|refine cpc hlv ?_|refine A2 ?_ ?_)|(refine AC.call (wd1 rfl (by decide)) ?_<;>rintro _ _ _ ⟨rfl,rfl,rfl⟩ -)|fail)<;>try simp only [go_sem,seval])
  exact ⟨_,by rw [hR];exact GL.refl _ _⟩
 have d3:(k == 3)=false:=by simpa using h3
 rw [if_neg h3] at hR;by_cases h4:k=4
 ·subst h4;rw [if_pos rfl] at hR;repeat' ((first|(with_reducible first|refine wr ?_|refine cpc hlv ?_|refine A2 ?_ ?_)|(refine AC.call (wd1 rfl (by decide)) ?_<;>rintro _ _ _ ⟨rfl,rfl,rfl⟩ -)|fail)<;>try simp only [go_sem,seval])
  exact ⟨_,by rw [hR];exact GL.refl _ _⟩
 have d4:(k == 4)=false:=by simpa using h4
 rw [if_neg h4] at hR;by_cases h8:k=8
 ·subst h8;rw [if_pos rfl] at hR;repeat' ((first|(with_reducible first|refine wr ?_|refine cpc hlv ?_|refine A2 ?_ ?_)|(refine AC.call (wd1 rfl (by decide)) ?_<;>rintro _ _ _ ⟨rfl,rfl,rfl⟩ -)|fail)<;>try simp only [go_sem,seval])
  exact ⟨_,by rw [hR];exact GL.refl _ _⟩
 have d8:(k == 8)=false:=by simpa using h8
 rw [if_neg h8] at hR;by_cases h9:k=9
 ·subst h9;rw [if_pos rfl] at hR;repeat' ((first|(with_reducible first|refine wr ?_|refine cpc hlv ?_|refine A2 ?_ ?_)|(refine AC.call (wd1 rfl (by decide)) ?_<;>rintro _ _ _ ⟨rfl,rfl,rfl⟩ -)|fail)<;>try simp only [go_sem,seval])
  exact ⟨_,by rw [hR];exact GL.refl _ _⟩
 have d9:(k == 9)=false:=by simpa using h9
 rw [if_neg h9] at hR;by_cases h5:k=5
 ·subst h5;rw [if_pos rfl] at hR;repeat' ((first|(with_reducible first|refine wr ?_|refine cpc hlv ?_|refine cpc hna ?_|refine A2 ?_ ?_)|(refine AC.call (wd1 rfl (by decide)) ?_<;>rintro _ _ _ ⟨rfl,rfl,rfl⟩ -)|(refine AC.call (jn2 rfl (A1m _) (B5q _)) ?_<;>rintro _ _ _ ⟨rfl,rfl,rfl⟩ -)|fail)<;>try simp only [go_sem,seval])
  exact ⟨_,by rw [hR];exact GL.refl _ _⟩
 have d5:(k == 5)=false:=by simpa using h5
 rw [if_neg h5] at hR;by_cases h6:k=6
 ·subst h6;rw [if_pos rfl] at hR;repeat' ((first|(with_reducible first|refine wr ?_|refine cpc hlv ?_|refine cpc hna ?_|refine A2 ?_ ?_)|(refine AC.call (wd1 rfl (by decide)) ?_<;>rintro _ _ _ ⟨rfl,rfl,rfl⟩ -)|(refine AC.call (jn2 rfl (A1m _) (B5q _)) ?_<;>rintro _ _ _ ⟨rfl,rfl,rfl⟩ -)|fail)<;>try simp only [go_sem,seval])
  exact ⟨_,by rw [hR];exact GL.refl _ _⟩
 have d6:(k == 6)=false:=by simpa using h6
 rw [if_neg h6] at hR;by_cases h7:k=7
 ·subst h7;rw [if_pos rfl] at hR;repeat' ((first|(with_reducible first|refine wr ?_|refine cpc hlv ?_|refine cpc hna ?_|refine A2 ?_ ?_)|(refine AC.call (wd1 rfl (by decide)) ?_<;>rintro _ _ _ ⟨rfl,rfl,rfl⟩ -)|(refine AC.call (jn2 rfl (A1m _) (B5q _)) ?_<;>rintro _ _ _ ⟨rfl,rfl,rfl⟩ -)|fail)<;>try simp only [go_sem,seval])
  exact ⟨_,by rw [hR];exact GL.refl _ _⟩
 have d7:(k == 7)=false:=by simpa using h7
 rw [if_neg h7] at hR;have hbad:∀ q:List Tok,R=E4 q->q=[M6]->∃ H2,GL ((nil.upd 0 ⟨0,true,[I64 k,I64 v,.str n,H3 a,I64 p]⟩).upd 1 ⟨4,true,[I64 0,.str [],I64 0,I64 0]⟩) [.slc 1 0 1] H2 [R]:=fun q h1 h2=>by
  rw [h1,h2];exact J0 (id:=1) A0 rfl rfl (F0 [M6]) ⟨[],rfl⟩
 have w0:IntKind.i64.wrap 0=0:=by decide
 have w1:IntKind.i64.wrap 1=1:=by decide
 match a with
 | [] =>
  have e1:((0:Int) == 1)=false:=rfl;have e2:((0:Int) == 2)=false:=rfl;try dsimp only [List.map_nil] at hR
  by_cases l6:B8 k=6
  ·have m6:(B8 k == 6)=true:=by simpa using l6
   have m5:decide (B8 k<6)=false:=by simp;omega
   repeat' ((with_reducible first|refine wr ?_|refine cpc hlv ?_|refine A2 ?_ ?_|fail)<;>try simp only [go_sem,seval,d1,d2,d3,d4,d8,d9,d5,d6,d7,m6,m5,A1C,List.map_nil,A0G])
   exact hbad _ hR rfl
  ·have m6:(B8 k == 6)=false:=by simpa using l6
   by_cases l5:B8 k<6
   ·have m5:decide (B8 k<6)=true:=by simpa using l5
    repeat' ((with_reducible first|refine wr ?_|refine cpc hlv ?_|refine A2 ?_ ?_|fail)<;>try simp only [go_sem,seval,d1,d2,d3,d4,d8,d9,d5,d6,d7,m6,m5,A1C,List.map_nil,A0G])
    exact hbad _ hR rfl
   ·have m5:decide (B8 k<6)=false:=by simpa using l5
    repeat' ((with_reducible first|refine wr ?_|refine cpc hlv ?_|refine A2 ?_ ?_|fail)<;>try simp only [go_sem,seval,d1,d2,d3,d4,d8,d9,d5,d6,d7,m6,m5,A1C,List.map_nil,A0G])
    exact hbad _ hR rfl
 | [x] =>
  have hx:=fun n=>by have:=hop x A0K n;rwa [Ex.v_w] at this
  have hxl:=hle x A0K;simp only [A0O,List.map_nil] at hR;by_cases l6:B8 k=6
  ·have m6:(B8 k == 6)=true:=by simpa using l6
   rw [if_pos l6] at hR;have hk:k=10\/k=11:=by
    unfold B8 at l6;repeat' split at l6
    all_goals omega
   rcases hk with rfl|rfl
   ·rw [if_pos rfl] at hR;repeat' ((first|(with_reducible first|refine wr ?_|refine cpc hlv ?_|refine cpc (hx 6) ?_|refine A2 ?_ ?_)|(refine AC.call (wd1 rfl (by decide)) ?_<;>rintro _ _ _ ⟨rfl,rfl,rfl⟩ -)|(refine AC.call (jn2 rfl (A1m _) (hxl 6)) ?_<;>rintro _ _ _ ⟨rfl,rfl,rfl⟩ -)|fail)<;>try simp only [go_sem,seval,d1,d2,d3,d4,d8,d9,d5,d6,d7,m6,w0,w1,Ex.v_w])
    exact ⟨_,by rw [hR];exact GL.refl _ _⟩
   ·rw [if_neg (by decide)] at hR;repeat' ((first|(with_reducible first|refine wr ?_|refine cpc hlv ?_|refine cpc (hx 6) ?_|refine A2 ?_ ?_)|(refine AC.call (wd1 rfl (by decide)) ?_<;>rintro _ _ _ ⟨rfl,rfl,rfl⟩ -)|(refine AC.call (jn2 rfl (A1m _) (hxl 6)) ?_<;>rintro _ _ _ ⟨rfl,rfl,rfl⟩ -)|fail)<;>try simp only [go_sem,seval,d1,d2,d3,d4,d8,d9,d5,d6,d7,m6,w0,w1,Ex.v_w])
    exact ⟨_,by rw [hR];exact GL.refl _ _⟩
  ·have m6:(B8 k == 6)=false:=by simpa using l6
   rw [if_neg l6] at hR;by_cases l5:B8 k<6
   ·have m5:decide (B8 k<6)=true:=by simpa using l5
    repeat' ((with_reducible first|refine wr ?_|refine cpc hlv ?_|refine A2 ?_ ?_|fail)<;>try simp only [go_sem,seval,d1,d2,d3,d4,d8,d9,d5,d6,d7,m6,m5])
    exact hbad _ hR rfl
   ·have m5:decide (B8 k<6)=false:=by simpa using l5
    repeat' ((with_reducible first|refine wr ?_|refine cpc hlv ?_|refine A2 ?_ ?_|fail)<;>try simp only [go_sem,seval,d1,d2,d3,d4,d8,d9,d5,d6,d7,m6,m5])
    exact hbad _ hR rfl
 | [x,y] =>
  have hx:=fun n=>by have:=hop x A0K n;rwa [Ex.v_w] at this
  have hxl:=hle x A0K;have hy:=fun n=>by have:=hop y (A0J _ A0K) n;rwa [Ex.v_w] at this
  have hyl:=hle y (A0J _ A0K);simp only [A0O,List.map_nil] at hR;by_cases l5:B8 k<6
  ·have m5:decide (B8 k<6)=true:=by simpa using l5
   have m6:(B8 k == 6)=false:=by simp;omega
   rw [if_pos l5] at hR;obtain ⟨k1,k2⟩:=B1w (k:=k) (by omega);have k3:12<=k:=by
    apply Classical.byContradiction;intro hc;have:k=10\/k=11:=by omega
    rw [A0h this] at l5;omega
   obtain ⟨j,hj⟩:∃ j:Nat,k=12+(j:Int):=⟨(k-12).toNat,by omega⟩;have hjw:IntKind.i64.wrap (k-12)=(j:Int):=by rw [w64 (by omega) (by omega)];omega
   have hjn:(k-12).toNat=j:=by omega
   rw [hjn] at hR;have hj13:j<13:=by omega
   have hgj:C3[j]? = some (C3.getD j []):=by
    rw [A0T,A0C (show j<C3.length from hj13)];rfl
   have hsl:(C3.getD j []).length<=1000000000:=by
    have:∀ i:Nat,i<13->(C3.getD i []).length<=1000000000:=by decide
    exact this j hj13
   generalize C3.getD j []=S at hR hgj hsl;have hw1:IntKind.i64.wrap (B8 k+1)=B8 k+1:=w64 (by have:=V5 k;omega) (by have:=V5 k;omega);by_cases l3:B8 k=3
   ·have m3:(B8 k == 3)=true:=by simpa using l3
    rw [if_pos l3] at hR;repeat' ((first|(with_reducible first|refine wr ?_|refine cpc hlv ?_|refine cpc (hx 4) ?_|refine cpc c_signs31 ?_|refine cpc (hy (B8 k+1)) ?_|refine A2 ?_ ?_)|(refine AC.call (wd1 rfl hsl) ?_<;>rintro _ _ _ ⟨rfl,rfl,rfl⟩ -)|(refine AC.call (jn3 rfl (hxl 4) (A1m _) (hyl (B8 k+1))) ?_<;>rintro _ _ _ ⟨rfl,rfl,rfl⟩ -)|fail)<;>try simp only [go_sem,seval,d1,d2,d3,d4,d8,d9,d5,d6,d7,m6,m5,m3,hjw,hgj,hw1,Ex.v_w,C0t,A2H,A2G])
    exact ⟨_,by rw [hR];exact GL.refl _ _⟩
   ·have m3:(B8 k == 3)=false:=by simpa using l3
    rw [if_neg l3] at hR;repeat' ((first|(with_reducible first|refine wr ?_|refine cpc hlv ?_|refine cpc (hx (B8 k)) ?_|refine cpc c_signs31 ?_|refine cpc (hy (B8 k+1)) ?_|refine A2 ?_ ?_)|(refine AC.call (wd1 rfl hsl) ?_<;>rintro _ _ _ ⟨rfl,rfl,rfl⟩ -)|(refine AC.call (jn3 rfl (hxl (B8 k)) (A1m _) (hyl (B8 k+1))) ?_<;>rintro _ _ _ ⟨rfl,rfl,rfl⟩ -)|fail)<;>try simp only [go_sem,seval,d1,d2,d3,d4,d8,d9,d5,d6,d7,m6,m5,m3,hjw,hgj,hw1,Ex.v_w,C0t,A2H,A2G])
    exact ⟨_,by rw [hR];exact GL.refl _ _⟩
  ·have m5:decide (B8 k<6)=false:=by simpa using l5
   rw [if_neg l5] at hR;by_cases l6:B8 k=6
   ·have m6:(B8 k == 6)=true:=by simpa using l6
    repeat' ((with_reducible first|refine wr ?_|refine cpc hlv ?_|refine A2 ?_ ?_|fail)<;>try simp only [go_sem,seval,d1,d2,d3,d4,d8,d9,d5,d6,d7,m6,m5])
    exact hbad _ hR rfl
   ·have m6:(B8 k == 6)=false:=by simpa using l6
    repeat' ((with_reducible first|refine wr ?_|refine cpc hlv ?_|refine A2 ?_ ?_|fail)<;>try simp only [go_sem,seval,d1,d2,d3,d4,d8,d9,d5,d6,d7,m6,m5])
    exact hbad _ hR rfl
 | x :: y :: z :: l =>
  simp only [A0O] at hR;obtain ⟨A,hA⟩:∃ A,A=(x :: y :: z :: l).map Ex.v:=⟨_,rfl⟩;have n1:((A.length:Int) == 1)=false:=by rw [hA];simp;omega
  have n2:((A.length:Int) == 2)=false:=by rw [hA];simp;omega
  have hex:H3 (x :: y :: z :: l)=.lst A:=by rw [hA]
  rw [hex] at hbad ⊢;by_cases l6:B8 k=6
  ·have m6:(B8 k == 6)=true:=by simpa using l6
   have m5:decide (B8 k<6)=false:=by simp;omega
   repeat' ((with_reducible first|refine wr ?_|refine cpc hlv ?_|refine A2 ?_ ?_|fail)<;>try simp only [go_sem,seval,d1,d2,d3,d4,d8,d9,d5,d6,d7,m6,m5,n1,n2])
   exact hbad _ hR rfl
  ·have m6:(B8 k == 6)=false:=by simpa using l6
   by_cases l5:B8 k<6
   ·have m5:decide (B8 k<6)=true:=by simpa using l5
    repeat' ((with_reducible first|refine wr ?_|refine cpc hlv ?_|refine A2 ?_ ?_|fail)<;>try simp only [go_sem,seval,d1,d2,d3,d4,d8,d9,d5,d6,d7,m6,m5,n1,n2])
    exact hbad _ hR rfl
   ·have m5:decide (B8 k<6)=false:=by simpa using l5
    repeat' ((with_reducible first|refine wr ?_|refine cpc hlv ?_|refine A2 ?_ ?_|fail)<;>try simp only [go_sem,seval,d1,d2,d3,d4,d8,d9,d5,d6,d7,m6,m5,n1,n2])
    exact hbad _ hR rfl
end Go.Proofs.YthlpinppaclofaaGreatDoor
set_option maxHeartbeats 8000000
namespace Go.Proofs.YthlpinppaclofaaGreatDoor
open Go.Eng (IC IOper DReg IFn C2)
open Go.Sym Go.Pb
theorem lw (x:List UInt8):(wT x).length=1:=rfl
theorem jn4 {a b c d:List Tok} {id cc:Nat} {H:Hp} (hH:H id=some ⟨1,true,[E4 a,E4 b,E4 c,E4 d]⟩) (ha:1<=a.length/\a.length<=1000000000) (hb:1<=b.length/\b.length<=1000000000) (hc:1<=c.length/\c.length<=1000000000) (hd:1<=d.length/\d.length<=1000000000) :
  AC Tryz.prog 95 [.slc id 0 4] H cc (fun v H' c'=>v=E4 (a++b++c++d)/\H'=K3 H (some id)/\c'=cc):=by
 have:=Y8 (id:=id) (cc:=cc) (H:=H) (u:=1) (n:=4) (c_join1 [a,b,c,d] (by simp) (by simp [ha,hb,hc,hd])) hH rfl rfl (A4r [a,b,c,d])
 rwa [A1K,A1K,A1K,A1K,A4A,A1J, <- A0V, <- A0V] at this
theorem jn5 {a b c d e:List Tok} {id cc:Nat} {H:Hp} (hH:H id=some ⟨1,true,[E4 a,E4 b,E4 c,E4 d,E4 e]⟩) (ha:1<=a.length/\a.length<=1000000000) (hb:1<=b.length/\b.length<=1000000000) (hc:1<=c.length/\c.length<=1000000000) (hd:1<=d.length/\d.length<=1000000000) (he:1<=e.length/\e.length<=1000000000) :
  AC Tryz.prog 95 [.slc id 0 5] H cc (fun v H' c'=>v=E4 (a++b++c++d++e)/\H'=K3 H (some id)/\c'=cc):=by
 have:=Y8 (id:=id) (cc:=cc) (H:=H) (u:=1) (n:=5) (c_join1 [a,b,c,d,e] (by simp) (by simp [ha,hb,hc,hd,he])) hH rfl rfl (A4r [a,b,c,d,e])
 rwa [A1K,A1K,A1K,A1K,A1K,A4A,A1J, <- A0V, <- A0V, <- A0V] at this
theorem B8e (l:List Ex) (i:Nat) (hl:Ex.szs l<=10000000):1<=(agT l i).length/\(agT l i).length<=100000000:=by
 unfold agT;cases h:l[i]? with
 | none=>exact ⟨A0E _,by decide⟩
 | some e =>
  have h1:=A1w e;have h2:=Ex.szs_mem (A0W h);dsimp only;omega
theorem c_arg (l:List Ex) (i:Nat) (hi:i<=5) (hl:Ex.szs l<=10000000):PC Tryz.prog 182 [H3 l,I64 i] (E4 (agT l i)):=by
 refine PC.ofT B1 rfl (A0B rfl) (by simp [DV.nlL,DV.nl,Q5]) (N5 _) ?_;unfold agT;cases h:l[i]? with
 | none =>
  have hlt:l.length<=i:=List.getElem?_eq_none_iff.1 h;have hd:decide ((i:Int)≥(l.length:Int))=true:=by simp;omega
  repeat' ((with_reducible first|refine wr ?_|refine A2 ?_ ?_|fail)<;>try simp only [go_sem,seval,hd,A0G])
  exact A3h
 | some e =>
  have hlt:=(A0L.1 h).1;have hd:decide ((i:Int)≥(l.length:Int))=false:=by simp;omega
  have he:=c_exprT (e.sz+1) e (by omega) (by have:=Ex.szs_mem (A0W h);omega);rw [Ex.v_w] at he;repeat' ((with_reducible first|refine wr ?_|refine cpc he ?_|refine A2 ?_ ?_|fail)<;>try simp only [go_sem,seval,hd,h,Ex.v_w,A0G])
  exact ⟨_,GL.refl _ _⟩
theorem B1l {c:Nat} {k v p:Int} {x:List UInt8}:∃ H2,GL (nil.upd c ⟨4,true,[I64 k,.str x,I64 v,I64 p]⟩) [.slc c 0 1] H2 [E4 [⟨k,x,v,p⟩]] :=
 J0 A0 rfl rfl (F0 _) ⟨[],rfl⟩
theorem c_text31 (s:List UInt8) (hs:s.length<=1000000000):PC Tryz.prog 183 [.str s] (E4 (S8 s)):=by
 refine PC.ofT B1 rfl (A0B rfl) rfl (N5 _) ?_;unfold S8;repeat' ((with_reducible first|refine wr ?_|refine A2 ?_ ?_|fail)<;>try simp only [go_sem,seval])
 refine D8 (fun k:Nat=>[(0,.str s),(3,I64 k)]) (fun _=>Sym.nil) (fun k c=>k<=s.length/\(s.take k).all txB=true) (fun k=>s.length-k) 0 (by simp [C9,tm,Tm.upd]) (Sub.nil _) ⟨A0Y _,rfl⟩ ?_;rintro k c ⟨hk,ha⟩;by_cases hlt:k<s.length
 ·have hd:decide ((k:Int)<(s.length:Int))=true:=by simpa using hlt
  have hg:=A0C hlt;have hw:=w64 (n:=(k:Int)+1) (by omega) (by omega);have e0:(s.take (k+1)).all txB=((s.take k).all txB && txB s[k]):=by rw [A1D,hg,A3S];simp
  have e1:txB s[k]=false->s.all txB=false:=fun h=>by
   cases hz:s.all txB with
   | false=>rfl
   | true=>rw [A0P] at hz;rw [hz _ (A0S hlt)] at h;cases h
  generalize s[k]=x at hg e0 e1;by_cases h1:x.toNat<32
  ·have hd1:decide ((x.toNat:Int)<32)=true:=by simp;omega
   rw [if_pos (.inl (e1 (by simp [txB];omega)))];repeat' ((with_reducible first|refine wr ?_|refine A2 ?_ ?_|fail)<;>try simp only [go_sem,seval,hd,hg,hw,hd1])
   exact B1l
  ·have hd1:decide ((x.toNat:Int)<32)=false:=by simp;omega
   by_cases h2:126<x.toNat
   ·have hd2:decide ((x.toNat:Int)>126)=true:=by simp;omega
    rw [if_pos (.inl (e1 (by simp [txB];omega)))];repeat' ((with_reducible first|refine wr ?_|refine A2 ?_ ?_|fail)<;>try simp only [go_sem,seval,hd,hg,hw,hd1,hd2])
    exact B1l
   ·have hd2:decide ((x.toNat:Int)>126)=false:=by simp;omega
    have e2:txB x=true:=by simp [txB];omega
    repeat' ((with_reducible first|refine wr ?_|refine A2 ?_ ?_|fail)<;>try simp only [go_sem,seval,hd,hg,hw,hd1,hd2])
    exact ⟨k+1,by simp [C9,tm,Tm.upd],Sub.nil _,inv ⟨by omega,by rw [e0,ha,e2];rfl⟩,by omega⟩
 ·have hd:decide ((k:Int)<(s.length:Int))=false:=by simpa using hlt
  rw [A0I (by omega)] at ha;by_cases h3:32<s.length
  ·have hd3:decide ((s.length:Int)>32)=true:=by simp;omega
   rw [if_pos (.inr h3)];repeat' ((with_reducible first|refine wr ?_|refine A2 ?_ ?_|fail)<;>try simp only [go_sem,seval,hd,hd3])
   exact B1l
  ·have hd3:decide ((s.length:Int)>32)=false:=by simp;omega
   rw [if_neg (by rw [ha];simp;omega)];repeat' ((with_reducible first|refine wr ?_|refine A2 ?_ ?_|fail)<;>try simp only [go_sem,seval,hd,hd3])
   exact B1l
theorem C3z (x:Pb.St):Pb.St.szs [x]=x.sz:=by rw [Pb.St.szs,Pb.St.szs];omega
theorem c_stmtT (m:Nat) (ihs:∀ x:Pb.St,x.sz<m->PC Tryz.prog 151 [x.v] (E4 (stT x))) (ihb:∀ l:List Pb.St,Pb.St.szs l<m->PC Tryz.prog 100 [F1 l] (E4 (blT l)))
  (hlb:∀ l:List Pb.St,Pb.St.szs l<m->1<=(blT l).length/\(blT l).length<=100000000) (hls:∀ x:Pb.St,x.sz<m->1<=(stT x).length/\(stT x).length<=100000000)
  (s:Pb.St) (hm:s.sz<=m) (hB:s.sz<=10000000):PC Tryz.prog 151 [s.v] (E4 (stT s)):=by
 obtain ⟨R,hR⟩:∃ R,R=E4 (stT s):=⟨_,rfl⟩;have hnm:=s.sz_name;have htx:=s.sz_text;have hax:Ex.szs s.args<=10000000:=by cases s with|mk k n t a x y p=>rw [Pb.St.sz] at hB;show Ex.szs a<=_;omega
 have hxx:=s.sz_thn;have hyy:=s.sz_els;refine PC.ofT B1 rfl (A0B rfl) (by simp [DV.nlL,DV.nl,Pb.St.nl]) (N5 _) ?_;rw [Pb.St.v_w, <- hR];cases s with|mk k n t a x y p =>
 unfold stT at hR;dsimp only [Pb.St.w,Pb.St.kind,Pb.St.name,Pb.St.text,Pb.St.args,Pb.St.thn,Pb.St.els,Pb.St.pos] at hnm htx hax hxx hyy ⊢;have hna:=c_named n (by omega);have hte:=c_text31 t (by omega);have ha0:=c_arg a 0 (by decide) hax;have ha1:=c_arg a 1 (by decide) hax;have la0:=B8e a 0 hax;have la1:=B8e a 1 hax;rw [show ((0:Nat):Int)=0 from rfl] at ha0;rw [show ((1:Nat):Int)=1 from rfl] at ha1;have hbx:=ihb x (by omega);have hby:=ihb y (by omega);have lbx:=hlb x (by omega);have lby:=hlb y (by omega);by_cases h1:k=1
 ·subst h1;rw [if_pos rfl] at hR;repeat' ((first|(with_reducible first|refine wr ?_|refine cpc hna ?_|refine cpc ha0 ?_|refine A2 ?_ ?_)|(refine AC.call (wd1 rfl (by first|assumption|decide)) ?_<;>rintro _ _ _ ⟨rfl,rfl,rfl⟩ -)|(refine AC.call (jn2 rfl ?_ ?_) ?_<;>first|(constructor<;>(try simp only [A0A,lw,A5,B4,B2])<;>omega)|rintro _ _ _ ⟨rfl,rfl,rfl⟩ -)|(refine AC.call (jn3 rfl ?_ ?_ ?_) ?_<;>first|(constructor<;>(try simp only [A0A,lw,A5,B4,B2])<;>omega)|rintro _ _ _ ⟨rfl,rfl,rfl⟩ -)|(refine AC.call (jn4 rfl ?_ ?_ ?_ ?_) ?_<;>first|(constructor<;>(try simp only [A0A,lw,A5,B4,B2])<;>omega)|rintro _ _ _ ⟨rfl,rfl,rfl⟩ -)|(refine AC.call (jn5 rfl ?_ ?_ ?_ ?_ ?_) ?_<;>first|(constructor<;>(try simp only [A0A,lw,A5,B4,B2])<;>omega)|rintro _ _ _ ⟨rfl,rfl,rfl⟩ -)|fail)<;>try simp only [go_sem,seval])
  exact ⟨_,by rw [hR];exact GL.refl _ _⟩
 rw [if_neg h1] at hR;have d1:(k == 1)=false:=by simpa using h1
 by_cases hbk:k<2\/19<k
 ·rw [if_pos hbk] at hR;by_cases h2:k<2
  ·have d2:decide (k<2)=true:=by simpa using h2
   repeat' ((with_reducible first|refine wr ?_|refine A2 ?_ ?_|fail)<;>try simp only [go_sem,seval,d1,d2])
   rw [hR];exact J0 (id:=1) A0 rfl rfl (F0 [M6]) ⟨[],rfl⟩
  ·have d2:decide (k<2)=false:=by simpa using h2
   have d3:decide (k>19)=true:=by simp;omega
   repeat' ((with_reducible first|refine wr ?_|refine A2 ?_ ?_|fail)<;>try simp only [go_sem,seval,d1,d2,d3])
   rw [hR];exact J0 (id:=1) A0 rfl rfl (F0 [M6]) ⟨[],rfl⟩
 rw [if_neg hbk] at hR;have e2:decide (k<2)=false:=by simp;omega
 have e3:decide (k>19)=false:=by simp;omega
 dsimp only at hR;obtain ⟨j,hj⟩:∃ j:Nat,k=2+(j:Int):=⟨(k-2).toNat,by omega⟩;have hjw:IntKind.i64.wrap (k-2)=(j:Int):=by rw [w64 (by omega) (by omega)];omega
 have hjn:(k-2).toNat=j:=by omega
 rw [hjn] at hR;have hj18:j<18:=by omega
 have hgj:B7[j]? = some (B7.getD j []):=by
  rw [A0T,A0C (show j<B7.length from hj18)];rfl
 have hsl:(B7.getD j []).length<=1000000000:=by
  have:∀ i:Nat,i<18->(B7.getD i []).length<=1000000000:=by decide
  exact this j hj18
 generalize B7.getD j []=S at hR hgj hsl;have dk:∀ q:Int,¬ k=q->(k == q)=false:=fun q h=>by simpa using h
 repeat' ((first|(with_reducible first|refine F9 (p:=IW _ _ (pz Tryz.prog 151 (.i (.o (.i (.o .h))))) _ _) ?_|refine wr ?_|refine cpc c_stmts31 ?_|refine A2 ?_ ?_)|(refine AC.call (wd1 rfl (by first|assumption|decide)) ?_<;>rintro _ _ _ ⟨rfl,rfl,rfl⟩ -)|fail)<;>try simp only [go_sem,seval,d1,e2,e3,hjw,hgj])
 unfold X3;by_cases h2:k=2\/k=3
 ·rw [if_pos h2] at hR;have dd:(k == 2)=true\/(k == 2)=false/\(k == 3)=true:=by
   rcases h2 with rfl|rfl
   ·exact .inl rfl
   ·exact .inr ⟨rfl,rfl⟩
  clear h2 hj hjn h1 hbk
  match y with
  | [] =>
   dsimp only at hR;rcases dd with d2|⟨d2,d3⟩
   ·repeat' ((first|(with_reducible first|refine wr ?_|refine cpc ha0 ?_|refine cpc hbx ?_|refine A2 ?_ ?_)|(refine AC.call (wd1 rfl (by first|assumption|decide)) ?_<;>rintro _ _ _ ⟨rfl,rfl,rfl⟩ -)|(refine AC.call (jn2 rfl ?_ ?_) ?_<;>first|(constructor<;>(try simp only [A0A,lw,A5,B4,B2])<;>omega)|rintro _ _ _ ⟨rfl,rfl,rfl⟩ -)|(refine AC.call (jn3 rfl ?_ ?_ ?_) ?_<;>first|(constructor<;>(try simp only [A0A,lw,A5,B4,B2])<;>omega)|rintro _ _ _ ⟨rfl,rfl,rfl⟩ -)|(refine AC.call (jn4 rfl ?_ ?_ ?_ ?_) ?_<;>first|(constructor<;>(try simp only [A0A,lw,A5,B4,B2])<;>omega)|rintro _ _ _ ⟨rfl,rfl,rfl⟩ -)|(refine AC.call (jn5 rfl ?_ ?_ ?_ ?_ ?_) ?_<;>first|(constructor<;>(try simp only [A0A,lw,A5,B4,B2])<;>omega)|rintro _ _ _ ⟨rfl,rfl,rfl⟩ -)|fail)<;>try simp only [go_sem,seval,d2,List.map_nil,A1C])
    exact ⟨_,by rw [hR];exact GL.refl _ _⟩
   ·repeat' ((first|(with_reducible first|refine wr ?_|refine cpc ha0 ?_|refine cpc hbx ?_|refine A2 ?_ ?_)|(refine AC.call (wd1 rfl (by first|assumption|decide)) ?_<;>rintro _ _ _ ⟨rfl,rfl,rfl⟩ -)|(refine AC.call (jn2 rfl ?_ ?_) ?_<;>first|(constructor<;>(try simp only [A0A,lw,A5,B4,B2])<;>omega)|rintro _ _ _ ⟨rfl,rfl,rfl⟩ -)|(refine AC.call (jn3 rfl ?_ ?_ ?_) ?_<;>first|(constructor<;>(try simp only [A0A,lw,A5,B4,B2])<;>omega)|rintro _ _ _ ⟨rfl,rfl,rfl⟩ -)|(refine AC.call (jn4 rfl ?_ ?_ ?_ ?_) ?_<;>first|(constructor<;>(try simp only [A0A,lw,A5,B4,B2])<;>omega)|rintro _ _ _ ⟨rfl,rfl,rfl⟩ -)|(refine AC.call (jn5 rfl ?_ ?_ ?_ ?_ ?_) ?_<;>first|(constructor<;>(try simp only [A0A,lw,A5,B4,B2])<;>omega)|rintro _ _ _ ⟨rfl,rfl,rfl⟩ -)|fail)<;>try simp only [go_sem,seval,d2,d3,List.map_nil,A1C])
    exact ⟨_,by rw [hR];exact GL.refl _ _⟩
  | [q] =>
   rw [C3z] at hyy;have hq:=ihs q (by omega);have lq:=hls q (by omega);rw [Pb.St.v_w] at hq;dsimp only at hR;have hone:blT [q]=wT [123]++stT q++wT [125]:=by unfold blT;rw [O8,O8,A1J];rfl
   have hby':=hby;rw [hone] at hby lby;by_cases hk2:q.kind=2
   ·rw [if_pos hk2] at hR;have m2:(q.kind == 2)=true:=by simpa using hk2
    rcases dd with d2|⟨d2,d3⟩
    ·repeat' ((first|(with_reducible first|refine wr ?_|refine cpc ha0 ?_|refine cpc hbx ?_|refine cpc hq ?_|refine A2 ?_ ?_)|(refine AC.call (wd1 rfl (by first|assumption|decide)) ?_<;>rintro _ _ _ ⟨rfl,rfl,rfl⟩ -)|(refine AC.call (jn2 rfl ?_ ?_) ?_<;>first|(constructor<;>(try simp only [A0A,lw,A5,B4,B2])<;>omega)|rintro _ _ _ ⟨rfl,rfl,rfl⟩ -)|(refine AC.call (jn3 rfl ?_ ?_ ?_) ?_<;>first|(constructor<;>(try simp only [A0A,lw,A5,B4,B2])<;>omega)|rintro _ _ _ ⟨rfl,rfl,rfl⟩ -)|(refine AC.call (jn4 rfl ?_ ?_ ?_ ?_) ?_<;>first|(constructor<;>(try simp only [A0A,lw,A5,B4,B2])<;>omega)|rintro _ _ _ ⟨rfl,rfl,rfl⟩ -)|(refine AC.call (jn5 rfl ?_ ?_ ?_ ?_ ?_) ?_<;>first|(constructor<;>(try simp only [A0A,lw,A5,B4,B2])<;>omega)|rintro _ _ _ ⟨rfl,rfl,rfl⟩ -)|fail)<;>try simp only [go_sem,seval,d2,m2,Pb.St.v_w])
     exact ⟨_,by rw [hR];exact GL.refl _ _⟩
    ·repeat' ((first|(with_reducible first|refine wr ?_|refine cpc ha0 ?_|refine cpc hbx ?_|refine cpc hq ?_|refine A2 ?_ ?_)|(refine AC.call (wd1 rfl (by first|assumption|decide)) ?_<;>rintro _ _ _ ⟨rfl,rfl,rfl⟩ -)|(refine AC.call (jn2 rfl ?_ ?_) ?_<;>first|(constructor<;>(try simp only [A0A,lw,A5,B4,B2])<;>omega)|rintro _ _ _ ⟨rfl,rfl,rfl⟩ -)|(refine AC.call (jn3 rfl ?_ ?_ ?_) ?_<;>first|(constructor<;>(try simp only [A0A,lw,A5,B4,B2])<;>omega)|rintro _ _ _ ⟨rfl,rfl,rfl⟩ -)|(refine AC.call (jn4 rfl ?_ ?_ ?_ ?_) ?_<;>first|(constructor<;>(try simp only [A0A,lw,A5,B4,B2])<;>omega)|rintro _ _ _ ⟨rfl,rfl,rfl⟩ -)|(refine AC.call (jn5 rfl ?_ ?_ ?_ ?_ ?_) ?_<;>first|(constructor<;>(try simp only [A0A,lw,A5,B4,B2])<;>omega)|rintro _ _ _ ⟨rfl,rfl,rfl⟩ -)|fail)<;>try simp only [go_sem,seval,d2,d3,m2,Pb.St.v_w])
     exact ⟨_,by rw [hR];exact GL.refl _ _⟩
   ·rw [if_neg hk2] at hR;have m2:(q.kind == 2)=false:=by simpa using hk2
    rcases dd with d2|⟨d2,d3⟩
    ·repeat' ((first|(with_reducible first|refine wr ?_|refine cpc ha0 ?_|refine cpc hbx ?_|refine cpc hby ?_|refine A2 ?_ ?_)|(refine AC.call (wd1 rfl (by first|assumption|decide)) ?_<;>rintro _ _ _ ⟨rfl,rfl,rfl⟩ -)|(refine AC.call (jn2 rfl ?_ ?_) ?_<;>first|(constructor<;>(try simp only [A0A,lw,A5,B4,B2])<;>omega)|rintro _ _ _ ⟨rfl,rfl,rfl⟩ -)|(refine AC.call (jn3 rfl ?_ ?_ ?_) ?_<;>first|(constructor<;>(try simp only [A0A,lw,A5,B4,B2])<;>omega)|rintro _ _ _ ⟨rfl,rfl,rfl⟩ -)|(refine AC.call (jn4 rfl ?_ ?_ ?_ ?_) ?_<;>first|(constructor<;>(try simp only [A0A,lw,A5,B4,B2])<;>omega)|rintro _ _ _ ⟨rfl,rfl,rfl⟩ -)|(refine AC.call (jn5 rfl ?_ ?_ ?_ ?_ ?_) ?_<;>first|(constructor<;>(try simp only [A0A,lw,A5,B4,B2])<;>omega)|rintro _ _ _ ⟨rfl,rfl,rfl⟩ -)|fail)<;>try simp only [go_sem,seval,d2,m2,Pb.St.v_w])
     exact ⟨_,by rw [hR];exact GL.refl _ _⟩
    ·repeat' ((first|(with_reducible first|refine wr ?_|refine cpc ha0 ?_|refine cpc hbx ?_|refine cpc hby ?_|refine A2 ?_ ?_)|(refine AC.call (wd1 rfl (by first|assumption|decide)) ?_<;>rintro _ _ _ ⟨rfl,rfl,rfl⟩ -)|(refine AC.call (jn2 rfl ?_ ?_) ?_<;>first|(constructor<;>(try simp only [A0A,lw,A5,B4,B2])<;>omega)|rintro _ _ _ ⟨rfl,rfl,rfl⟩ -)|(refine AC.call (jn3 rfl ?_ ?_ ?_) ?_<;>first|(constructor<;>(try simp only [A0A,lw,A5,B4,B2])<;>omega)|rintro _ _ _ ⟨rfl,rfl,rfl⟩ -)|(refine AC.call (jn4 rfl ?_ ?_ ?_ ?_) ?_<;>first|(constructor<;>(try simp only [A0A,lw,A5,B4,B2])<;>omega)|rintro _ _ _ ⟨rfl,rfl,rfl⟩ -)|(refine AC.call (jn5 rfl ?_ ?_ ?_ ?_ ?_) ?_<;>first|(constructor<;>(try simp only [A0A,lw,A5,B4,B2])<;>omega)|rintro _ _ _ ⟨rfl,rfl,rfl⟩ -)|fail)<;>try simp only [go_sem,seval,d2,d3,m2,Pb.St.v_w])
     exact ⟨_,by rw [hR];exact GL.refl _ _⟩
  | q :: q2 :: l =>
   dsimp only at hR;obtain ⟨A,hA⟩:∃ A,A=(q :: q2 :: l).map Pb.St.v:=⟨_,rfl⟩;have n1:((A.length:Int) == 1)=false:=by rw [hA];simp;omega
   have n2:decide ((A.length:Int)>0)=true:=by rw [hA];simp;omega
   have hex:F1 (q :: q2 :: l)=.lst A:=by rw [hA]
   rw [hex] at hby ⊢;rcases dd with d2|⟨d2,d3⟩
   ·repeat' ((first|(with_reducible first|refine wr ?_|refine cpc ha0 ?_|refine cpc hbx ?_|refine cpc hby ?_|refine A2 ?_ ?_)|(refine AC.call (wd1 rfl (by first|assumption|decide)) ?_<;>rintro _ _ _ ⟨rfl,rfl,rfl⟩ -)|(refine AC.call (jn2 rfl ?_ ?_) ?_<;>first|(constructor<;>(try simp only [A0A,lw,A5,B4,B2])<;>omega)|rintro _ _ _ ⟨rfl,rfl,rfl⟩ -)|(refine AC.call (jn3 rfl ?_ ?_ ?_) ?_<;>first|(constructor<;>(try simp only [A0A,lw,A5,B4,B2])<;>omega)|rintro _ _ _ ⟨rfl,rfl,rfl⟩ -)|(refine AC.call (jn4 rfl ?_ ?_ ?_ ?_) ?_<;>first|(constructor<;>(try simp only [A0A,lw,A5,B4,B2])<;>omega)|rintro _ _ _ ⟨rfl,rfl,rfl⟩ -)|(refine AC.call (jn5 rfl ?_ ?_ ?_ ?_ ?_) ?_<;>first|(constructor<;>(try simp only [A0A,lw,A5,B4,B2])<;>omega)|rintro _ _ _ ⟨rfl,rfl,rfl⟩ -)|fail)<;>try simp only [go_sem,seval,d2,n1,n2])
    exact ⟨_,by rw [hR];exact GL.refl _ _⟩
   ·repeat' ((first|(with_reducible first|refine wr ?_|refine cpc ha0 ?_|refine cpc hbx ?_|refine cpc hby ?_|refine A2 ?_ ?_)|(refine AC.call (wd1 rfl (by first|assumption|decide)) ?_<;>rintro _ _ _ ⟨rfl,rfl,rfl⟩ -)|(refine AC.call (jn2 rfl ?_ ?_) ?_<;>first|(constructor<;>(try simp only [A0A,lw,A5,B4,B2])<;>omega)|rintro _ _ _ ⟨rfl,rfl,rfl⟩ -)|(refine AC.call (jn3 rfl ?_ ?_ ?_) ?_<;>first|(constructor<;>(try simp only [A0A,lw,A5,B4,B2])<;>omega)|rintro _ _ _ ⟨rfl,rfl,rfl⟩ -)|(refine AC.call (jn4 rfl ?_ ?_ ?_ ?_) ?_<;>first|(constructor<;>(try simp only [A0A,lw,A5,B4,B2])<;>omega)|rintro _ _ _ ⟨rfl,rfl,rfl⟩ -)|(refine AC.call (jn5 rfl ?_ ?_ ?_ ?_ ?_) ?_<;>first|(constructor<;>(try simp only [A0A,lw,A5,B4,B2])<;>omega)|rintro _ _ _ ⟨rfl,rfl,rfl⟩ -)|fail)<;>try simp only [go_sem,seval,d2,d3,n1,n2])
    exact ⟨_,by rw [hR];exact GL.refl _ _⟩
 rw [if_neg h2] at hR;have d2:=dk 2 (fun h=>h2 (.inl h));have d3:=dk 3 (fun h=>h2 (.inr h));by_cases h4:k=4
 ·subst h4;rw [if_pos rfl] at hR;repeat' ((first|(with_reducible first|refine wr ?_|refine cpc ha0 ?_|refine A2 ?_ ?_)|(refine AC.call (wd1 rfl (by first|assumption|decide)) ?_<;>rintro _ _ _ ⟨rfl,rfl,rfl⟩ -)|(refine AC.call (jn2 rfl ?_ ?_) ?_<;>first|(constructor<;>(try simp only [A0A,lw,A5,B4,B2])<;>omega)|rintro _ _ _ ⟨rfl,rfl,rfl⟩ -)|(refine AC.call (jn3 rfl ?_ ?_ ?_) ?_<;>first|(constructor<;>(try simp only [A0A,lw,A5,B4,B2])<;>omega)|rintro _ _ _ ⟨rfl,rfl,rfl⟩ -)|(refine AC.call (jn4 rfl ?_ ?_ ?_ ?_) ?_<;>first|(constructor<;>(try simp only [A0A,lw,A5,B4,B2])<;>omega)|rintro _ _ _ ⟨rfl,rfl,rfl⟩ -)|(refine AC.call (jn5 rfl ?_ ?_ ?_ ?_ ?_) ?_<;>first|(constructor<;>(try simp only [A0A,lw,A5,B4,B2])<;>omega)|rintro _ _ _ ⟨rfl,rfl,rfl⟩ -)|fail)<;>try simp only [go_sem,seval,d2,d3])
  exact ⟨_,by rw [hR];exact GL.refl _ _⟩
 rw [if_neg h4] at hR;have d4:=dk 4 h4;by_cases h18:k=18
 ·subst h18;rw [if_pos rfl] at hR;repeat' ((first|(with_reducible first|refine wr ?_|refine cpc ha0 ?_|refine cpc hte ?_|refine A2 ?_ ?_)|(refine AC.call (wd1 rfl (by first|assumption|decide)) ?_<;>rintro _ _ _ ⟨rfl,rfl,rfl⟩ -)|(refine AC.call (jn2 rfl ?_ ?_) ?_<;>first|(constructor<;>(try simp only [A0A,lw,A5,B4,B2])<;>omega)|rintro _ _ _ ⟨rfl,rfl,rfl⟩ -)|(refine AC.call (jn3 rfl ?_ ?_ ?_) ?_<;>first|(constructor<;>(try simp only [A0A,lw,A5,B4,B2])<;>omega)|rintro _ _ _ ⟨rfl,rfl,rfl⟩ -)|(refine AC.call (jn4 rfl ?_ ?_ ?_ ?_) ?_<;>first|(constructor<;>(try simp only [A0A,lw,A5,B4,B2])<;>omega)|rintro _ _ _ ⟨rfl,rfl,rfl⟩ -)|(refine AC.call (jn5 rfl ?_ ?_ ?_ ?_ ?_) ?_<;>first|(constructor<;>(try simp only [A0A,lw,A5,B4,B2])<;>omega)|rintro _ _ _ ⟨rfl,rfl,rfl⟩ -)|fail)<;>try simp only [go_sem,seval,d2,d3,d4])
  exact ⟨_,by rw [hR];exact GL.refl _ _⟩
 rw [if_neg h18] at hR;have d18:=dk 18 h18;by_cases h8:k=8\/k=10
 ·rw [if_pos h8] at hR;rcases h8 with rfl|rfl
  ·repeat' ((first|(with_reducible first|refine wr ?_|refine cpc ha0 ?_|refine cpc hna ?_|refine A2 ?_ ?_)|(refine AC.call (wd1 rfl (by first|assumption|decide)) ?_<;>rintro _ _ _ ⟨rfl,rfl,rfl⟩ -)|(refine AC.call (jn2 rfl ?_ ?_) ?_<;>first|(constructor<;>(try simp only [A0A,lw,A5,B4,B2])<;>omega)|rintro _ _ _ ⟨rfl,rfl,rfl⟩ -)|(refine AC.call (jn3 rfl ?_ ?_ ?_) ?_<;>first|(constructor<;>(try simp only [A0A,lw,A5,B4,B2])<;>omega)|rintro _ _ _ ⟨rfl,rfl,rfl⟩ -)|(refine AC.call (jn4 rfl ?_ ?_ ?_ ?_) ?_<;>first|(constructor<;>(try simp only [A0A,lw,A5,B4,B2])<;>omega)|rintro _ _ _ ⟨rfl,rfl,rfl⟩ -)|(refine AC.call (jn5 rfl ?_ ?_ ?_ ?_ ?_) ?_<;>first|(constructor<;>(try simp only [A0A,lw,A5,B4,B2])<;>omega)|rintro _ _ _ ⟨rfl,rfl,rfl⟩ -)|fail)<;>try simp only [go_sem,seval,d2,d3,d4,d18])
   exact ⟨_,by rw [hR];exact GL.refl _ _⟩
  ·repeat' ((first|(with_reducible first|refine wr ?_|refine cpc ha0 ?_|refine cpc hna ?_|refine A2 ?_ ?_)|(refine AC.call (wd1 rfl (by first|assumption|decide)) ?_<;>rintro _ _ _ ⟨rfl,rfl,rfl⟩ -)|(refine AC.call (jn2 rfl ?_ ?_) ?_<;>first|(constructor<;>(try simp only [A0A,lw,A5,B4,B2])<;>omega)|rintro _ _ _ ⟨rfl,rfl,rfl⟩ -)|(refine AC.call (jn3 rfl ?_ ?_ ?_) ?_<;>first|(constructor<;>(try simp only [A0A,lw,A5,B4,B2])<;>omega)|rintro _ _ _ ⟨rfl,rfl,rfl⟩ -)|(refine AC.call (jn4 rfl ?_ ?_ ?_ ?_) ?_<;>first|(constructor<;>(try simp only [A0A,lw,A5,B4,B2])<;>omega)|rintro _ _ _ ⟨rfl,rfl,rfl⟩ -)|(refine AC.call (jn5 rfl ?_ ?_ ?_ ?_ ?_) ?_<;>first|(constructor<;>(try simp only [A0A,lw,A5,B4,B2])<;>omega)|rintro _ _ _ ⟨rfl,rfl,rfl⟩ -)|fail)<;>try simp only [go_sem,seval,d2,d3,d4,d18])
   exact ⟨_,by rw [hR];exact GL.refl _ _⟩
 rw [if_neg h8] at hR;have d8:=dk 8 (fun h=>h8 (.inl h));have d10:=dk 10 (fun h=>h8 (.inr h));by_cases h9:k=9
 ·subst h9;rw [if_pos rfl] at hR;repeat' ((first|(with_reducible first|refine wr ?_|refine cpc ha0 ?_|refine cpc ha1 ?_|refine cpc hna ?_|refine A2 ?_ ?_)|(refine AC.call (wd1 rfl (by first|assumption|decide)) ?_<;>rintro _ _ _ ⟨rfl,rfl,rfl⟩ -)|(refine AC.call (jn2 rfl ?_ ?_) ?_<;>first|(constructor<;>(try simp only [A0A,lw,A5,B4,B2])<;>omega)|rintro _ _ _ ⟨rfl,rfl,rfl⟩ -)|(refine AC.call (jn3 rfl ?_ ?_ ?_) ?_<;>first|(constructor<;>(try simp only [A0A,lw,A5,B4,B2])<;>omega)|rintro _ _ _ ⟨rfl,rfl,rfl⟩ -)|(refine AC.call (jn4 rfl ?_ ?_ ?_ ?_) ?_<;>first|(constructor<;>(try simp only [A0A,lw,A5,B4,B2])<;>omega)|rintro _ _ _ ⟨rfl,rfl,rfl⟩ -)|(refine AC.call (jn5 rfl ?_ ?_ ?_ ?_ ?_) ?_<;>first|(constructor<;>(try simp only [A0A,lw,A5,B4,B2])<;>omega)|rintro _ _ _ ⟨rfl,rfl,rfl⟩ -)|fail)<;>try simp only [go_sem,seval,d2,d3,d4,d18,d8,d10])
  exact ⟨_,by rw [hR];exact GL.refl _ _⟩
 rw [if_neg h9] at hR;have d9:=dk 9 h9;by_cases h19:k=19
 ·subst h19;rw [if_pos rfl] at hR;repeat' ((first|(with_reducible first|refine wr ?_|refine A2 ?_ ?_)|(refine AC.call (wd1 rfl (by first|assumption|decide)) ?_<;>rintro _ _ _ ⟨rfl,rfl,rfl⟩ -)|(refine AC.call (jn2 rfl ?_ ?_) ?_<;>first|(constructor<;>(try simp only [A0A,lw,A5,B4,B2])<;>omega)|rintro _ _ _ ⟨rfl,rfl,rfl⟩ -)|(refine AC.call (jn3 rfl ?_ ?_ ?_) ?_<;>first|(constructor<;>(try simp only [A0A,lw,A5,B4,B2])<;>omega)|rintro _ _ _ ⟨rfl,rfl,rfl⟩ -)|(refine AC.call (jn4 rfl ?_ ?_ ?_ ?_) ?_<;>first|(constructor<;>(try simp only [A0A,lw,A5,B4,B2])<;>omega)|rintro _ _ _ ⟨rfl,rfl,rfl⟩ -)|(refine AC.call (jn5 rfl ?_ ?_ ?_ ?_ ?_) ?_<;>first|(constructor<;>(try simp only [A0A,lw,A5,B4,B2])<;>omega)|rintro _ _ _ ⟨rfl,rfl,rfl⟩ -)|fail)<;>try simp only [go_sem,seval,d2,d3,d4,d18,d8,d10,d9])
  exact ⟨_,by rw [hR];exact GL.refl _ _⟩
 rw [if_neg h19] at hR;have d19:=dk 19 h19;repeat' ((first|(with_reducible first|refine wr ?_|refine cpc hna ?_|refine A2 ?_ ?_)|(refine AC.call (wd1 rfl (by first|assumption|decide)) ?_<;>rintro _ _ _ ⟨rfl,rfl,rfl⟩ -)|(refine AC.call (jn2 rfl ?_ ?_) ?_<;>first|(constructor<;>(try simp only [A0A,lw,A5,B4,B2])<;>omega)|rintro _ _ _ ⟨rfl,rfl,rfl⟩ -)|(refine AC.call (jn3 rfl ?_ ?_ ?_) ?_<;>first|(constructor<;>(try simp only [A0A,lw,A5,B4,B2])<;>omega)|rintro _ _ _ ⟨rfl,rfl,rfl⟩ -)|(refine AC.call (jn4 rfl ?_ ?_ ?_ ?_) ?_<;>first|(constructor<;>(try simp only [A0A,lw,A5,B4,B2])<;>omega)|rintro _ _ _ ⟨rfl,rfl,rfl⟩ -)|(refine AC.call (jn5 rfl ?_ ?_ ?_ ?_ ?_) ?_<;>first|(constructor<;>(try simp only [A0A,lw,A5,B4,B2])<;>omega)|rintro _ _ _ ⟨rfl,rfl,rfl⟩ -)|fail)<;>try simp only [go_sem,seval,d2,d3,d4,d18,d8,d10,d9,d19])
 exact ⟨_,by rw [hR];exact GL.refl _ _⟩
theorem c_wordsO (x:List UInt8) (hx:x.length<=1000000000) (H:Hp) (cc:Nat):AC Tryz.prog 96 [U9 [x]] H cc (fun v H' c' => ∃ id,cc<=id/\id<c'/\v=.slc id 0 1/\H'=H.upd id ⟨4,true,(A6 x).v.cells⟩):=by
 refine AC.bodyT B1 rfl (A0B rfl) fun hfr=>?_;have h1:=c_IsWordR x;have h2:=c_IsNameR x (by omega);repeat' ((with_reducible first|refine wr ?_|refine A2 ?_ ?_|fail)<;>try simp only [go_sem,seval])
 refine D8 (fun q:Option Nat=>[(0,U9 [x]),(3,B6 q 1),(4,I64 (if q=none then 0 else 1))]) (fun q=>C5 H q ⟨4,true,(A6 x).v.cells⟩)
  (fun q c=>cc<=c/\(∀ i,q=some i->cc<=i/\i<c)) (fun q=>if q=none then 1 else 0) none
  (by simp [C9,tm,Tm.upd,B6]) (Sub.refl _) ⟨A0E _,(fun i hi=>by cases hi)⟩ ?_
 rintro o c ⟨hc,ho⟩;cases o with
 | none =>
  have hd:decide ((0:Int)<1)=true:=by decide
  have hw:IntKind.i64.wrap (0+1)=1:=by decide
  have hw':IntKind.i64.wrap 1=1:=by decide
  have hr0:∀ i:Nat,H (c+i)=none:=fun i=>hfr _ (by omega);have ne0:=A2i c (c+1) (by omega);cases hw1:F6 x with
  | true =>
   repeat' ((with_reducible first|refine wr ?_|refine cpc h1 ?_|refine cpc h2 ?_|refine A2 ?_ ?_|fail)<;>try simp only [go_sem,seval,hw1,ne0,A0,A1,hw,hw'])
   refine C4 (A1r (by decide) (by decide) (by decide)) ?_;simp only [go_sem,seval,ne0];repeat' ((with_reducible first|refine wr ?_|refine A2 ?_ ?_|fail)<;>try simp only [go_sem,seval,hw,hw',ne0])
   refine ⟨some (c+1+1),by simp [C9,tm,Tm.upd,B6,hw,hw'],?_,inv ⟨by omega,(fun i hi=>by cases hi;omega)⟩,by simp⟩;intro j b hj;simp only [C5] at hj;by_cases e1:j=c+1+1
   ·subst e1;rw [A0] at hj ⊢;rw [<- hj];unfold A6;simp only [hw1,if_true,if_false,A1I]
   ·rw [A3 e1] at hj ⊢;have:j<cc:=Classical.byContradiction fun h=>by rw [hfr j (by omega)] at hj;cases hj
    rw [A3 (by omega),A3 (by omega)];exact hj
  | false =>
   cases hn1:C8 x with
   | true =>
    repeat' ((with_reducible first|refine wr ?_|refine cpc h1 ?_|refine cpc h2 ?_|refine A2 ?_ ?_|fail)<;>try simp only [go_sem,seval,hw1,hn1,ne0,A0,A1,hw,hw'])
    refine C4 (A1r (by decide) (by decide) (by decide)) ?_;simp only [go_sem,seval,ne0];repeat' ((with_reducible first|refine wr ?_|refine A2 ?_ ?_|fail)<;>try simp only [go_sem,seval,hw,hw',ne0])
    refine ⟨some (c+1+1),by simp [C9,tm,Tm.upd,B6,hw,hw'],?_,inv ⟨by omega,(fun i hi=>by cases hi;omega)⟩,by simp⟩;intro j b hj;simp only [C5] at hj;by_cases e1:j=c+1+1
    ·subst e1;rw [A0] at hj ⊢;rw [<- hj];unfold A6;simp only [hw1,hn1,if_true,if_false,A1I]
    ·rw [A3 e1] at hj ⊢;have:j<cc:=Classical.byContradiction fun h=>by rw [hfr j (by omega)] at hj;cases hj
     rw [A3 (by omega),A3 (by omega)];exact hj
   | false =>
    repeat' ((with_reducible first|refine wr ?_|refine cpc h1 ?_|refine cpc h2 ?_|refine A2 ?_ ?_|fail)<;>try simp only [go_sem,seval,hw1,hn1,ne0,A0,A1,hw,hw'])
    refine C4 (A1r (by decide) (by decide) (by decide)) ?_;simp only [go_sem,seval,ne0];repeat' ((with_reducible first|refine wr ?_|refine A2 ?_ ?_|fail)<;>try simp only [go_sem,seval,hw,hw',ne0])
    refine ⟨some (c+1+1),by simp [C9,tm,Tm.upd,B6,hw,hw'],?_,inv ⟨by omega,(fun i hi=>by cases hi;omega)⟩,by simp⟩;intro j b hj;simp only [C5] at hj;by_cases e1:j=c+1+1
    ·subst e1;rw [A0] at hj ⊢;rw [<- hj];unfold A6;simp only [hw1,hn1,if_true,if_false,A1I]
    ·rw [A3 e1] at hj ⊢;have:j<cc:=Classical.byContradiction fun h=>by rw [hfr j (by omega)] at hj;cases hj
     rw [A3 (by omega),A3 (by omega)];exact hj
 | some i =>
  have hd:decide ((1:Int)<1)=false:=by decide
  repeat' ((with_reducible first|refine wr ?_|refine A2 ?_ ?_|fail)<;>try simp only [go_sem,seval,hd])
  exact ⟨_,_,GL.refl _ _,i,(ho i rfl).1,(ho i rfl).2,rfl,rfl⟩
theorem D6w {x:List UInt8} {id cc:Nat} {H:Hp} (hb:H id=some ⟨1,true,[.str x]⟩) (hx:x.length<=1000000000) :
  AC Tryz.prog 96 [.slc id 0 1] H cc (fun v H' c' => ∃ i,cc<=i/\i<c'/\v=.slc i 0 1/\H'=(K3 H (some id)).upd i ⟨4,true,(A6 x).v.cells⟩) :=
 AC.ghost (GL.frzS (id:=id) hb rfl (fun j=>by
  by_cases e:j=id
  ·subst e;exact .inl (by rw [P4,if_pos rfl])
  ·exact .inr ⟨e,by rw [P4,if_neg e]⟩) (.cons _ _ _ _ (N7 (xs:=[.str x]) rfl (J1 [x]) ⟨[],rfl⟩) .nil)) (c_wordsO x hx _ cc)
theorem A7x:∀ l:List Pb.St,O8 l=(l.map stT).flatten
 | []=>rfl
 | e :: l=>by rw [O8,A7x l];rfl
theorem c_blockT (l:List Pb.St) (hl:l.length<=10000000) (hs:∀ x∈l,PC Tryz.prog 151 [x.v] (E4 (stT x))) (hx:∀ x∈l,1<=(stT x).length/\(stT x).length<=100000000) (hT:(blT l).length<=100000000):PC Tryz.prog 100 [F1 l] (E4 (blT l)):=by
 refine PC.ofT B1 rfl (A0B rfl) (by simp [DV.nlL,DV.nl,O5]) (N5 _) ?_;obtain ⟨R,hR⟩:∃ R,R=E4 (blT l):=⟨_,rfl⟩;rw [<- hR];unfold blT at hR;rw [A7x] at hR;have hT':(l.map stT).flatten.length<=100000000:=by
  unfold blT at hT;rw [A7x] at hT;simp only [A0A,A0F] at hT;omega
 repeat' ((with_reducible first|refine wr ?_|refine A2 ?_ ?_|fail)<;>try simp only [go_sem,seval])
 refine AC.call (D6w rfl (by decide)) ?_;rintro v H' c1 ⟨i,hi1,hi2,rfl,rfl⟩ -;simp only [go_sem,seval];repeat' ((with_reducible first|refine wr ?_|refine A2 ?_ ?_|fail)<;>try simp only [go_sem,seval])
 obtain ⟨F,hF⟩:∃ F:Nat->List Tok, ∀ k,F k=wT [123]++((l.take k).map stT).flatten:=⟨_,fun _=>rfl⟩;have hF0:F 0=wT [123]:=by rw [hF];simp
 refine D8 (fun q:Nat × Nat=>[(0,F1 l),(3,.slc q.2 0 (F q.1).length),(4,I64 q.1)]) (fun q=>Sym.nil.upd q.2 ⟨4,true,A4 ((F q.1).map Tok.v)⟩)
  (fun q c=>q.1<=l.length/\q.2<c) (fun q=>l.length-q.1) (0,i)
  (by simp [C9,tm,Tm.upd,hF0,lw]) (by dsimp only;rw [hF0];exact Sub.refl _) ⟨A0Y _,hi2⟩ ?_
 clear hi1 hi2;rintro ⟨k,i⟩ c ⟨hk,hi⟩;dsimp only at hk hi ⊢;by_cases hlt:k<l.length
 ·have hd:decide ((k:Int)<(l.length:Int))=true:=by simpa using hlt
  have hg:=A0C hlt;have hsx:=hs _ (A0S hlt);obtain ⟨hx1,hx2⟩:=hx _ (A0S hlt);have hw:=w64 (n:=(k:Int)+1) (by omega) (by omega);have e0:F (k+1)=F k++stT l[k]:=by rw [hF,hF,A1D,hg,A0M,List.flatten_append];simp
  have hle:((l.take k).map stT).flatten.length<=100000000:=by
   have h1:(l.map stT).flatten=((l.take k).map stT).flatten++((l.drop k).map stT).flatten:=by rw [<- List.flatten_append, <- A0M,A2S]
   rw [h1,A0A] at hT';omega
  have hle2:(F k).length<=200000000:=by rw [hF,A0A,lw];omega
  rw [Pb.St.v_w] at hsx;generalize l[k]=x at hg hx1 hx2 e0 hsx;generalize F k=y at hle2 e0 ⊢;have hln:(A4 (y.map Tok.v)).length=y.length * 4:=(B5 (u:=4) (F0 _)).trans (by simp);have hun:unit 4 ((stT x).map Tok.v)=true:=by unfold unit;rw [A0P];intro d hd;simp [F0 (stT x) d hd]
  repeat' ((with_reducible first|refine wr ?_|refine cpc hsx ?_|refine A2 ?_ ?_|fail)<;>try simp only [go_sem,seval,hd,hg,hw,Pb.St.v_w,T1 hun])
  refine C4 (E1 hln (by omega) (by omega)) ?_;simp only [go_sem,seval,hw];repeat' ((with_reducible first|refine wr ?_|refine A2 ?_ ?_|fail)<;>try simp only [go_sem,seval,hw])
  refine ⟨(k+1,c),by simp [C9,tm,Tm.upd,e0],?_,inv ⟨by omega,by simp only;omega⟩,by simp only;omega⟩;dsimp only;rw [e0,A0M,C6];intro j b hj;by_cases e1:j=c
  ·subst e1;rw [A0] at hj ⊢;exact hj
  ·rw [A3 e1] at hj;cases hj
 ·have hd:decide ((k:Int)<(l.length:Int))=false:=by simpa using hlt
  rw [hF,A0I (by omega)];have hun:unit 4 ((wT [125]).map Tok.v)=true:=by unfold unit;rw [A0P];intro d hd;simp [F0 (wT [125]) d hd]
  have hle2:(wT [123]++(l.map stT).flatten).length<=200000000:=by rw [A0A,lw];omega
  have hR':R=E4 ((wT [123]++(l.map stT).flatten)++wT [125]):=hR;generalize wT [123]++(l.map stT).flatten=y at hle2 hR' ⊢;have hln:(A4 (y.map Tok.v)).length=y.length * 4:=(B5 (u:=4) (F0 _)).trans (by simp);have hnic:¬ i=c:=by omega
  have hlw:=lw [125];repeat' ((with_reducible first|refine wr ?_|refine A2 ?_ ?_|fail)<;>try simp only [go_sem,seval,hd])
  refine AC.call (wd1 A0 (by decide)) ?_;rintro v H' c2 ⟨rfl,rfl,rfl⟩ -;simp only [go_sem,seval,hnic,T1 hun];repeat' ((with_reducible first|refine wr ?_|refine A2 ?_ ?_|fail)<;>try simp only [go_sem,seval,hnic,T1 hun])
  refine C4 (E1 hln (by omega) (by omega)) ?_;simp only [go_sem,seval];repeat' ((with_reducible first|refine wr ?_|refine A2 ?_ ?_|fail)<;>try simp only [go_sem,seval])
  rw [hR'];exact J0 (id:=c+1) A0 rfl (by simp) (F0 _) ⟨[],by rw [A0M,C6,A1J]⟩
theorem c_stT:∀ m:Nat,m<=5000000->(∀ x:Pb.St,x.sz<m->PC Tryz.prog 151 [x.v] (E4 (stT x)))/\(∀ l:List Pb.St,Pb.St.szs l<m->PC Tryz.prog 100 [F1 l] (E4 (blT l))):=by
 intro m
 induction m with
 | zero=>exact fun _=>⟨fun x h=>by omega,fun l h=>by omega⟩
 | succ m ih =>
  intro hm;obtain ⟨i1,i2⟩:=ih (by omega);have A:∀ x:Pb.St,x.sz<m+1->PC Tryz.prog 151 [x.v] (E4 (stT x)):=fun x hx =>
   c_stmtT m i1 i2 (fun l hl=>by have:=A3o l;omega) (fun y hy=>by have:=A3e y;omega) x (by omega) (by omega)
  refine ⟨A,fun l hl=>?_⟩;have h1:=Pb.St.szs_len l;have h2:=A3o l;exact c_blockT l (by omega) (fun x hx=>A x (by have:=Pb.St.szs_mem hx;omega)) (fun x hx=>by have:=A3e x;have:=Pb.St.szs_mem hx;omega) (by omega)
theorem c_blkT (l:List Pb.St) (h:Pb.St.szs l<5000000):PC Tryz.prog 100 [F1 l] (E4 (blT l)):=(c_stT 5000000 (A0E _)).2 l h
end Go.Proofs.YthlpinppaclofaaGreatDoor
end
