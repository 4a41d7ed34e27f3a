/-
  HELPERS of the claim: part 7 of its texts.
-/
import Derived.Shelf.LaysC
import Derived.Shelf.Strconv.ParseIntPublic10
import Derived.Test.YthlpinppaclofaaGreatDoorProg
import Derived.KernelRfl
import Derived.Lib.Join
import Derived.Test.YthlpinppaclofaaGreatDoorSyxf
noncomputable section
set_option linter.unusedVariables false
namespace Go.Proofs
open Go.Shelf
def Tryz.laysC174_ren:Go.Shelf.Ren:=⟨fun | 174=>194 | 247=>207 | 245=>208 | 287=>216 | 279=>217 | 280=>218 | 281=>219 | 282=>220 | 321=>223 | 322=>224 | 316=>225 | 171=>57 | 205=>226 | 243=>101 | 246=>152 | 283=>184 | 284=>185 | 285=>186 | 286=>187 | 129=>202 | 317=>201 | 318=>203 | 319=>204 | 320=>205 | 337=>212 | 338=>213|n=>n,fun | 9=>9 | 3=>3 | 2=>2 | 75=>138 | 85=>195 | 4=>4 | 167=>223 | 5=>5 | 53=>184 | 175=>224 | 46=>203 | 168=>226 | 37=>22 | 0=>0 | 210=>235 | 21=>21 | 127=>170 | 145=>239 | 143=>237 | 171=>183 | 173=>187 | 212=>200 | 51=>201 | 20=>20 | 213=>202 | 232=>229 | 233=>230 | 80=>29|n=>n,fun | 15=>6 | 16=>7 | 17=>1 | 18=>4 | 19=>5|n=>n⟩
theorem Tryz.laysC174:Go.Proofs.LaysC.n174 Tryz.prog Tryz.laysC174_ren:={
 mixed:=by kernel_rfl
 f129:=Tryz.func202.trans (congrArg some (by kernel_rfl))
 f171:=Tryz.func57.trans (congrArg some (by kernel_rfl))
 f174:=Tryz.func194.trans (congrArg some (by kernel_rfl))
 f205:=Tryz.func226.trans (congrArg some (by kernel_rfl))
 f243:=Tryz.func101.trans (congrArg some (by kernel_rfl))
 f245:=Tryz.func208.trans (congrArg some (by kernel_rfl))
 f246:=Tryz.func152.trans (congrArg some (by kernel_rfl))
 f247:=Tryz.func207.trans (congrArg some (by kernel_rfl))
 f279:=Tryz.func217.trans (congrArg some (by kernel_rfl))
 f280:=Tryz.func218.trans (congrArg some (by kernel_rfl))
 f281:=Tryz.func219.trans (congrArg some (by kernel_rfl))
 f282:=Tryz.func220.trans (congrArg some (by kernel_rfl))
 f283:=Tryz.func184.trans (congrArg some (by kernel_rfl))
 f284:=Tryz.func185.trans (congrArg some (by kernel_rfl))
 f285:=Tryz.func186.trans (congrArg some (by kernel_rfl))
 f286:=Tryz.func187.trans (congrArg some (by kernel_rfl))
 f287:=Tryz.func216.trans (congrArg some (by kernel_rfl))
 f316:=Tryz.func225.trans (congrArg some (by kernel_rfl))
 f317:=Tryz.func201.trans (congrArg some (by kernel_rfl))
 f318:=Tryz.func203.trans (congrArg some (by kernel_rfl))
 f319:=Tryz.func204.trans (congrArg some (by kernel_rfl))
 f320:=Tryz.func205.trans (congrArg some (by kernel_rfl))
 f321:=Tryz.func223.trans (congrArg some (by kernel_rfl))
 f322:=Tryz.func224.trans (congrArg some (by kernel_rfl))
 f337:=Tryz.func212.trans (congrArg some (by kernel_rfl))
 f338:=Tryz.func213.trans (congrArg some (by kernel_rfl))
 t0:=Tryz.underlying0
 a0:=Tryz.isAgg0
 z0:=Tryz.sizeOf0
 v0:=Tryz.zeroValue0
 t2:=Tryz.underlying2
 a2:=Tryz.isAgg2
 z2:=Tryz.sizeOf2
 v2:=Tryz.zeroValue2
 t3:=Tryz.underlying3
 a3:=Tryz.isAgg3
 z3:=Tryz.sizeOf3
 v3:=Tryz.zeroValue3
 t4:=Tryz.underlying4
 a4:=Tryz.isAgg4
 z4:=Tryz.sizeOf4
 v4:=Tryz.zeroValue4
 t5:=Tryz.underlying5
 a5:=Tryz.isAgg5
 z5:=Tryz.sizeOf5
 v5:=Tryz.zeroValue5
 t9:=Tryz.underlying9
 a9:=Tryz.isAgg9
 z9:=Tryz.sizeOf9
 v9:=Tryz.zeroValue9
 t20:=Tryz.underlying20
 a20:=Tryz.isAgg20
 z20:=Tryz.sizeOf20
 v20:=Tryz.zeroValue20
 t21:=Tryz.underlying21
 a21:=Tryz.isAgg21
 z21:=Tryz.sizeOf21
 v21:=Tryz.zeroValue21
 t37:=Tryz.underlying22
 a37:=Tryz.isAgg22
 z37:=Tryz.sizeOf22
 v37:=Tryz.zeroValue22
 t46:=Tryz.underlying203
 a46:=Tryz.isAgg203
 z46:=Tryz.sizeOf203
 v46:=Tryz.zeroValue203
 t51:=Tryz.underlying201
 a51:=Tryz.isAgg201
 z51:=Tryz.sizeOf201
 v51:=Tryz.zeroValue201
 t53:=Tryz.underlying184
 a53:=Tryz.isAgg184
 z53:=Tryz.sizeOf184
 v53:=Tryz.zeroValue184
 t75:=Tryz.underlying138
 a75:=Tryz.isAgg138
 z75:=Tryz.sizeOf138
 v75:=Tryz.zeroValue138
 t85:=Tryz.underlying195
 a85:=Tryz.isAgg195
 z85:=Tryz.sizeOf195
 v85:=Tryz.zeroValue195
 t127:=Tryz.underlying170
 a127:=Tryz.isAgg170
 z127:=Tryz.sizeOf170
 v127:=Tryz.zeroValue170
 t143:=Tryz.underlying237
 a143:=Tryz.isAgg237
 z143:=Tryz.sizeOf237
 v143:=Tryz.zeroValue237
 t145:=Tryz.underlying239
 a145:=Tryz.isAgg239
 z145:=Tryz.sizeOf239
 v145:=Tryz.zeroValue239
 t167:=Tryz.underlying223
 a167:=Tryz.isAgg223
 z167:=Tryz.sizeOf223
 v167:=Tryz.zeroValue223
 t168:=Tryz.underlying226
 a168:=Tryz.isAgg226
 z168:=Tryz.sizeOf226
 v168:=Tryz.zeroValue226
 t171:=Tryz.underlying183
 a171:=Tryz.isAgg183
 z171:=Tryz.sizeOf183
 v171:=Tryz.zeroValue183
 t173:=Tryz.underlying187
 a173:=Tryz.isAgg187
 z173:=Tryz.sizeOf187
 v173:=Tryz.zeroValue187
 t175:=Tryz.underlying224
 a175:=Tryz.isAgg224
 z175:=Tryz.sizeOf224
 v175:=Tryz.zeroValue224
 t210:=Tryz.underlying235
 a210:=Tryz.isAgg235
 z210:=Tryz.sizeOf235
 v210:=Tryz.zeroValue235
 t212:=Tryz.underlying200
 a212:=Tryz.isAgg200
 z212:=Tryz.sizeOf200
 v212:=Tryz.zeroValue200
 t213:=Tryz.underlying202
 a213:=Tryz.isAgg202
 z213:=Tryz.sizeOf202
 t232:=Tryz.underlying229
 a232:=Tryz.isAgg229
 z232:=Tryz.sizeOf229
 v232:=Tryz.zeroValue229
 t233:=Tryz.underlying230
 a233:=Tryz.isAgg230
 z233:=Tryz.sizeOf230
 v233:=Tryz.zeroValue230
 g15:=by kernel_rfl
 g16:=by kernel_rfl
 g17:=by kernel_rfl
 g18:=by kernel_rfl
 g19:=by kernel_rfl
 t80:=Tryz.underlying29
 a80:=Tryz.isAgg29
 z80:=Tryz.sizeOf29
 v80:=Tryz.zeroValue29
 i0:=by kernel_rfl
 i2:=by kernel_rfl
 i3:=by kernel_rfl
 i4:=by kernel_rfl
 i5:=by kernel_rfl
 i9:=by kernel_rfl
 i20:=by kernel_rfl
 i21:=by kernel_rfl
 i37:=by kernel_rfl
 i46:=by kernel_rfl
 i51:=by kernel_rfl
 i53:=by kernel_rfl
 i75:=by kernel_rfl
 i80:=by kernel_rfl
 i85:=by kernel_rfl
 i127:=by kernel_rfl
 i143:=by kernel_rfl
 i145:=by kernel_rfl
 i167:=by kernel_rfl
 i168:=by kernel_rfl
 i171:=by kernel_rfl
 i173:=by kernel_rfl
 i175:=by kernel_rfl
 i210:=by kernel_rfl
 i212:=by kernel_rfl
 i232:=by kernel_rfl
 i233:=by kernel_rfl
 m15:=by kernel_rfl
 m16:=by kernel_rfl
 m17:=by kernel_rfl
 m18:=by kernel_rfl
 m19:=by kernel_rfl
 c0:=by kernel_rfl
 c2:=by kernel_rfl
 c3:=by kernel_rfl
 c4:=by kernel_rfl
 c5:=by kernel_rfl
 c9:=by kernel_rfl
 c20:=by kernel_rfl
 c21:=by kernel_rfl
 c37:=by kernel_rfl
 c46:=by kernel_rfl
 c51:=by kernel_rfl
 c53:=by kernel_rfl
 c75:=by kernel_rfl
 c80:=by kernel_rfl
 c85:=by kernel_rfl
 c127:=by kernel_rfl
 c143:=by kernel_rfl
 c145:=by kernel_rfl
 c167:=by kernel_rfl
 c168:=by kernel_rfl
 c171:=by kernel_rfl
 c173:=by kernel_rfl
 c175:=by kernel_rfl
 c210:=by kernel_rfl
 c212:=by kernel_rfl
 c213:=by kernel_rfl
 c232:=by kernel_rfl
 c233:=by kernel_rfl }
open Go.RowKit in
theorem Tryz.strconv_ParseInt_10_at64_ok (s:ByteArray) (hmax:s.size<=9223372036854775806) (v:Int) (h:Lib.parseIntB 64 s.data.toList=.ok v) (w:World) :
  Calls Tryz.prog 194 #[.string s,.int .i64 10,.int .i64 64] w fun e w'=>e=.returned (.tuple #[.int .i64 v,.nilIface])/\(w'=w\/∃ t,w'=Lib.bytesWorld w 5 t):=Any.strconv_ParseInt_10_at64_ok Tryz.laysC174 s hmax v h w
open Go.RowKit in
theorem Tryz.strconv_ParseInt_10_at64_range (s:ByteArray) (hlim:s.size<=281474976710656) (h:Lib.parseIntB 64 s.data.toList=.range) (ev:Value) (w:World) (hv:w.cell? ⟨7,0,none⟩=some ev) (hev:ev=.nilIface\/∃ te pe,ev=.iface te pe) :
  Calls Tryz.prog 194 #[.string s,.int .i64 10,.int .i64 64] w fun e w' => ∃ N,e=.returned (.tuple #[.int .i64 (Lib.intSat 64 s.data.toList),.iface 226 (.pointer (some ⟨N,0,none⟩))])/\w.heap.size<=N/\w'.heap[N]? = some (.cells #[.string ⟨#[80,97,114,115,101,73,110,116]⟩,.string s,ev] 235 (0,0))/\Below w.heap.size w w':=Any.strconv_ParseInt_10_at64_range Tryz.laysC174 s hlim h ev w hv hev
end Go.Proofs
set_option maxHeartbeats 4000000
set_option maxRecDepth 100000
set_option linter.unusedSimpArgs false
namespace Go.Proofs.YthlpinppaclofaaGreatDoor
open Go.Eng (IC IOper DReg IFn B5 G0)
open Go.Sym Go.Pb Go.RowKit
theorem dec_eq:∀ (m u:Nat),u<m->Lib.decDigits u=A3m u:=by
 intro m
 induction m with
 | zero=>intro u h;omega
 | succ m ih =>
  intro u h;unfold Lib.decDigits;by_cases h0:u<10
  ·rw [dif_pos h0,A0d h0];rfl
  ·rw [dif_neg h0,A3l h0,ih (u / 10) (by omega)];rfl
theorem itoa_eq (n:Int):Lib.itoa n=G5 n:=by
 unfold Lib.itoa G5;by_cases h:n<0
 ·rw [if_pos h,if_pos h,dec_eq (n.natAbs+1) _ (by omega)]
 ·rw [if_neg h,if_neg h,dec_eq (n.toNat+1) _ (by omega)]
  congr 1;omega
theorem arg1 {ρ : Ren} {x:DV} {u:Value} {vs:Array Value} (hA:E5 ρ [x] vs) (h:∀ y,VRel ρ x y->y=u):vs = #[u]:=by
 obtain ⟨y,h1,h2⟩:=hA.get (i:=0) rfl;have hs:vs.size=1:=hA.1.symm;obtain rfl:=h y h2;cases vs with|mk l=>match l,hs,h1 with
  | [a],_,h1=>simp at h1;subst h1;rfl
theorem c_Itoa (n:Int) (h0 : -9223372036854775808<=n) (h1:n<=9223372036854775807):PC Tryz.prog 57 [I64 n] (.str (G5 n)):=by
 refine PC.of_calls (by kernel_rfl) rfl rfl fun ρ w vs hf hA=>?_;have hvs:vs = #[.int .i64 n]:=arg1 hA fun y h=>h.int_inv;rw [hvs];obtain ⟨r,hr,rfl⟩ := ρ.tab _ (List.mem_cons_self);obtain ⟨e,fr,hb⟩:=hf _ _ hr;have ht : Lib.TabIs Tryz.prog w "internal/strconv.uint64pow10" .u64 Lib.pow10Tab := by
  unfold Lib.TabIs World.var?;rw [Tryz.laysM171.m17];show (match w.heap[1]? with|some (.cells cs _ _)=>some cs|_=>none)=_;rw [hb]
 refine (Tryz.strconv_Itoa n h0 h1 w ht).mono ?_;rintro e w' ⟨rfl,k,os,rfl⟩;exact ⟨_,rfl,fun ρ'=>by rw [itoa_eq];exact .mkStr,⟨rfl,rfl,rfl,by show w.heap.size<=(w.heap++os).size;rw [Array.size_append];omega,fun j hj=>by
  show (w.heap++os)[j]? = w.heap[j]?;rw [Array.getElem?_append,if_pos hj]⟩⟩
theorem arg2 {ρ : Ren} {x x2:DV} {u u2:Value} {vs:Array Value} (hA:E5 ρ [x,x2] vs) (h:∀ y,VRel ρ x y->y=u) (h2:∀ y,VRel ρ x2 y->y=u2):vs = #[u,u2]:=by
 obtain ⟨y,g1,g2⟩:=hA.get (i:=0) rfl;obtain ⟨z,g3,g4⟩:=hA.get (i:=1) rfl;obtain rfl:=h y g2;obtain rfl:=h2 z g4;have hs:vs.size=2:=hA.1.symm;cases vs with|mk r=>match r,hs,g1,g3 with
  | [a,b],_,h1,h3=>simp at h1 h3;subst h1 h3;rfl
theorem arg3 {ρ : Ren} {x x2 x3:DV} {u u2 u3:Value} {vs:Array Value} (hA:E5 ρ [x,x2,x3] vs) (h:∀ y,VRel ρ x y->y=u) (h2:∀ y,VRel ρ x2 y->y=u2) (h3:∀ y,VRel ρ x3 y->y=u3):vs = #[u,u2,u3]:=by
 obtain ⟨y,g1,g2⟩:=hA.get (i:=0) rfl;obtain ⟨z,g3,g4⟩:=hA.get (i:=1) rfl;obtain ⟨q,g5,g6⟩:=hA.get (i:=2) rfl;obtain rfl:=h y g2;obtain rfl:=h2 z g4;obtain rfl:=h3 q g6;have hs:vs.size=3:=hA.1.symm;cases vs with|mk r=>match r,hs,g1,g3,g5 with
  | [a,b,c],_,h1,h3,h5=>simp at h1 h3 h5;subst h1 h3 h5;rfl
theorem c_IndexByte (s:List UInt8) (c:UInt8):PC Tryz.prog 195 [.str s,.int .u8 c.toNat] (I64 (Lib.indexByte s c)):=by
 refine PC.of_calls (by kernel_rfl) rfl rfl fun ρ w vs hf hA=>?_;rw [arg2 hA (fun y h=>h.str_inv) (fun y h=>h.int_inv)];refine (Tryz.strings_IndexByte _ _ w).mono ?_;rintro e w' ⟨rfl,rfl⟩;refine ⟨_,rfl,fun ρ'=>?_,Below.refl _ _⟩;have:((c.toNat:Int).toNat.toUInt8)=c:=by rw [Int.toNat_natCast];exact UInt8.ofNat_toNat
 rw [this];exact .int _ _
theorem c_ParseOk (s:List UInt8) (hs:s.length<=281474976710656) (h:∀ c∈s,dgB c=true) (h0:s≠[]) (hv:J7 s<=9223372036854775807):PC Tryz.prog 194 [.str s,I64 10,I64 64] (.tup [I64 (J7 s),.inil]):=by
 refine PC.of_calls (by kernel_rfl) rfl rfl fun ρ w vs hf hA=>?_;rw [arg3 hA (fun y h=>h.str_inv) (fun y h=>h.int_inv) (fun y h=>h.int_inv)];refine (Tryz.strconv_ParseInt_10_at64_ok _ (by show s.toArray.size<=_;rw [List.size_toArray];omega) (J7 s:Int) (by have:=pib h h0;rw [if_pos hv] at this;exact this) w).mono ?_;rintro e w' ⟨rfl,hw⟩;refine ⟨_,rfl,fun ρ'=>.tup _ _ rfl (fun i x y hx hy=>?_),?_⟩
 ·match i with
  | 0=>simp at hx hy;subst hx hy;exact .int _ _
  | 1=>simp at hx hy;subst hx hy;exact .inil
  | _+2=>simp at hx
 ·rcases hw with rfl|⟨t,rfl⟩
  ·exact Below.refl _ _
  ·exact ⟨rfl,rfl,rfl,by rw [Lib.bytesWorld_size];omega,fun j hj=>Lib.bytesWorld_at_old _ _ _ _ hj⟩
theorem c_ParseBig (s:List UInt8) (hs:s.length<=281474976710656) (h:∀ c∈s,dgB c=true) (h0:s≠[]) (hv:9223372036854775807<J7 s):PC Tryz.prog 194 [.str s,I64 10,I64 64] (.tup [.bot,.iface 226 .bot]):=by
 refine PC.of_calls (by kernel_rfl) rfl rfl fun ρ w vs hf hA=>?_;rw [arg3 hA (fun y h=>h.str_inv) (fun y h=>h.int_inv) (fun y h=>h.int_inv)];obtain ⟨r,hr,te,pe,rfl⟩ := ρ.tab _ (List.mem_cons_of_mem _ (List.mem_cons_of_mem _ List.mem_cons_self));obtain ⟨e,fr,hb⟩:=hf _ _ hr;refine (Tryz.strconv_ParseInt_10_at64_range _ (by show s.toArray.size<=_;rw [List.size_toArray];omega) (by have:=pib h h0;rw [if_neg (by omega)] at this;exact this) (.iface te pe) w ?_ (.inr ⟨te,pe,rfl⟩)).mono ?_
 ·simp only [World.cell?];have hb':w.heap[7]? = _:=hb;rw [hb'];rfl
 ·rintro e w' ⟨N,rfl, -, -,hB⟩;refine ⟨_,rfl,fun ρ'=>.tup _ _ rfl (fun i x y hx hy=>?_),hB⟩
  match i with
  | 0=>simp at hx hy;subst hx hy;exact .bot _
  | 1=>simp at hx hy;subst hx hy;exact .iface _ _ _ (.bot _)
  | _+2=>simp at hx
def wlit:List UInt8:=w8 [115,119,105,116,99,104,32,99,111,105,108,32,108,97,109,112,32,115,111,117,110,100,32,115,104,111,119,32,118,97,114,32,116,105,109,101,114,32,101,118,101,110,116,32,109,111,100,101,32,111,110,32,115,116,97,114,116,32,115,116,111,112,32,99,108,111,115,101,32,111,112,101,110,32,105,102,32,101,108,115,101,32,114,101,112,101,97,116,32,115,99,111,114,101,32,102,105,114,101,32,104,111,108,100,32,114,101,108,101,97,115,101,32,108,105,103,104,116,32,98,108,105,110,107,32,98,101,103,105,110,32,101,110,100,32,112,111,115,116,32,112,108,97,121,32,114,117,110,32,104,97,108,116,32,116,101,120,116,32,99,111,110,115,117,109,101,32,99,108,111,115,101,100,32,97,99,116,105,118,101,32,108,101,102,116,32,112,108,97,121,101,114,32,98,97,108,108,32,116,114,117,101,32,102,97,108,115,101]
theorem wlit_f:Lib.fields wlit=D0:=by kernel_rfl
theorem wlit_a:wlit.all (fun b=>decide (b.toNat<128))=true:=by kernel_rfl
theorem c_Fields:PC Tryz.prog 160 [.str wlit] (.lst (D0.map DV.str)):=by
 refine PC.of_callsF (by kernel_rfl) rfl (K5 _) fun ρ w vs hf hA=>?_;rw [arg1 hA (fun y h=>h.str_inv)];obtain ⟨r,hr,rfl⟩ := ρ.tab _ (List.mem_cons_of_mem _ List.mem_cons_self);obtain ⟨e,fr,hb⟩:=hf _ _ hr;have ht : Lib.TabIs Tryz.prog w "strings.asciiSpace" .u8 Lib.asciiSpaceTab := by
  unfold Lib.TabIs World.var?;rw [show Tryz.prog.globalNamed "strings.asciiSpace" = some 0 by kernel_rfl]
  show (match w.heap[0]? with|some (.cells cs _ _)=>some cs|_=>none)=_;have hb':w.heap[0]? = _:=hb;rw [hb']
 refine (Tryz.strings_Fields _ w (by decide) ?_ ht).mono ?_
 ·intro j b hj;have:=List.all_eq_true.1 wlit_a b (List.mem_of_getElem? hj);simpa using this
 ·rintro e w' ⟨rfl,rfl⟩;have hl:Lib.fields (⟨wlit.toArray⟩:ByteArray).data.toList=D0:=wlit_f;rw [hl];refine ⟨_,w.heap.size,_,9,_,rfl,Nat.le_refl _,(by show (w.heap.push _)[w.heap.size]? = _;rw [Array.getElem?_push_size]),fun ρ' hρ => VRel.strs hρ rfl (Nat.le_refl _) (by decide),Below.alloc (Below.refl _ _) (Nat.le_refl _) _⟩
open Go.Eng (IC IOper DReg IFn B5)
open Go.Sym Go.Pb
theorem c_skip (s:List UInt8) (hs:s.length<=140737488355328):PC Tryz.prog 121 [.str s] (I64 (skM false s)):=by
 refine PC.ofT A6 rfl (Nat.le_of_ble_eq_true rfl) (by simp [DV.nlL,DV.nl]) (by simp [DV.nlL,DV.nl]) ?_;repeat' ((with_reducible first|refine wr ?_|refine k_cu ?_ ?_|refine wb2 ?_ ?_<;>(intro hb;try simp only [hb])|fail)<;>try simp only [go_sem,seval])
 refine D6 (fun k:Nat=>[(0,.str s),(3,I64 k)]) (fun _=>nil) (fun k _=>k<=s.length/\skM false s=k+skM false (s.drop k)) (fun k=>s.length-k) 0 (by simp [C5,tm,Tm.upd]) (Sub.nil _) (by simp) ?_;rintro k c ⟨hk,he⟩;by_cases hlt:k<s.length
 ·have hd:decide ((k:Int)<s.length)=true:=by simpa using hlt
  have hg:=List.getElem?_eq_getElem hlt;have hw:=w64 (n:=(k:Int)+1) (by omega) (by omega);have hsl:=A6k (s:=s) (k:=k) hk;have hcm:=c_spanCm (s.drop k) (by rw [List.length_drop];omega);have hle:=O9 (fun c=>decide (c.toNat≠10)) (s.drop k);rw [List.length_drop] at hle;have hw2:=w64 (n:=(k:Int)+(B8 (fun c=>decide (c.toNat≠10)) (s.drop k):Nat)) (by omega) (by omega);have hsep:S3 s[k]=true->∃ b,DV.int IntKind.i64 ((k:Int)+1)=I64 ((b:Nat):Int)/\Sym.Sub Sym.nil Sym.nil/\A5b (fun k _=>k<=s.length/\skM false s=k+skM false (s.drop k)) b c/\s.length-b<s.length-k :=
   fun h=>⟨k+1,rfl,Sub.refl _,inv ⟨by omega,by rw [he,sk_sep hg h];omega⟩,by omega⟩
  have hc0:∀ n:Nat,((s[k].toNat:Int) == (n:Int))=true->s[k].toNat=n:=fun n h=>by have:=beq_iff_eq.1 h;omega
  have hc1:∀ n:Nat,((s[k].toNat:Int) == (n:Int))=false->s[k].toNat≠n:=fun n h h2=>by rw [h2] at h;simp at h
  repeat' ((with_reducible first|refine wr ?_|refine cpc hcm ?_|refine k_cu ?_ ?_|refine wb2 ?_ ?_<;>(intro hb;try simp only [hb])|fail)<;>try simp only [go_sem,seval,hd,hg,hw,hsl,hw2])
  ·exact hsep (by simp [S3,hc0 9 hb])
  ·exact hsep (by simp [S3,hc0 10 hb])
  ·exact hsep (by simp [S3,hc0 13 hb])
  ·exact hsep (by simp [S3,hc0 32 hb])
  ·have h35:=hc0 35 hb;have h1:=sk_cmt1 hg h35;exact ⟨k+B8 (fun c=>decide (c.toNat≠10)) (s.drop k),by simp,Sub.refl _,inv ⟨by omega,by rw [he,sk_cmt hg h35];omega⟩,by omega⟩
  ·refine A4 ?_;have h9:=hc1 9 (by assumption);have h10:=hc1 10 (by assumption);have h13:=hc1 13 (by assumption);have h32:=hc1 32 (by assumption);have h35:=hc1 35 (by assumption);rw [he,sk_stop hg (by simp [S3,h9,h10,h13,h32]) h35];simp
 ·have hd:decide ((k:Int)<s.length)=false:=by simpa using hlt
  repeat' ((with_reducible first|refine wr ?_|refine k_cu ?_ ?_|refine wb2 ?_ ?_<;>(intro hb;try simp only [hb])|fail)<;>try simp only [go_sem,seval,hd])
  refine A4 ?_;rw [he,sk_end (by omega)];simp
theorem quV_nl (q:Option (List UInt8 × Nat)):(quV q).nl=true:=by cases q<;>rfl
theorem c_quoted (s:List UInt8) (hs:s.length<=10000000):PC Tryz.prog 164 [.str s] (quV (quA [] 1 (quM (s.drop 1)))):=by
 refine PC.ofT A6 rfl (Nat.le_of_ble_eq_true rfl) (by simp [DV.nlL,DV.nl]) (quV_nl _) ?_;repeat' ((with_reducible first|refine wr ?_|refine k_cu ?_ ?_|refine wb2 ?_ ?_<;>(intro hb;try simp only [hb])|fail)<;>try simp only [go_sem,seval])
 refine D6 (fun q:Nat × Option Nat × List UInt8=>[(0,.str s),(4,C2 q.2.1 q.2.2.length),(5,I64 q.1)]) (fun q=>D1 Sym.nil q.2.1 ⟨1,true,bytesC q.2.2⟩)
  (fun q c=>1<=q.1/\q.2.2.length<=q.1/\q.1<=s.length+1/\(q.2.1=none->q.2.2=[])/\(∀ i,q.2.1=some i->i<c)/\quA [] 1 (quM (s.drop 1))=quA q.2.2 q.1 (quM (s.drop q.1))) (fun q=>s.length+1-q.1) (1,none,[])
  (by simp [C5,tm,Tm.upd,C2]) (Sub.nil _) ⟨by simp,by simp,by simp,fun _=>rfl,(fun i hi=>by cases hi),rfl⟩ ?_
 rintro ⟨k,o,acc⟩ c ⟨h1,hal,hk,hno,ho,he⟩;simp only at h1 hal hk hno ho he;simp only;rw [he];by_cases hlt:k<s.length
 ·have hd:decide ((k:Int)<s.length)=true:=by simpa using hlt
  have hg:=List.getElem?_eq_getElem hlt;have hw:IntKind.i64.wrap ((k:Int)+1)=((k+1:Nat):Int):=by rw [w64 (by omega) (by omega)];omega
  have hw2:IntKind.i64.wrap (((k+1:Nat):Int)+1)=((k+2:Nat):Int):=by rw [w64 (by omega) (by omega)];omega
  have hcv:=r_cvtodo (H:=D1 Sym.nil o ⟨1,true,bytesC acc⟩) (u:=1) hno (fun i hi=>by subst hi;exact A0);have hc0:∀ n:Nat,((s[k].toNat:Int) == (n:Int))=true->s[k].toNat=n:=fun n h=>by have:=beq_iff_eq.1 h;omega
  have hc1:∀ n:Nat,((s[k].toNat:Int) == (n:Int))=false->s[k].toNat≠n:=fun n h h2=>by rw [h2] at h;simp at h
  by_cases hlt2:k+1<s.length
  ·have hd2:decide (((k+1:Nat):Int)≥s.length)=false:=by simp;omega
   have hg2:=List.getElem?_eq_getElem hlt2;have hc2:∀ n:Nat,((s[k+1].toNat:Int) == (n:Int))=true->s[k+1].toNat=n:=fun n h=>by have:=beq_iff_eq.1 h;omega
   have hc3:∀ n:Nat,((s[k+1].toNat:Int) == (n:Int))=false->s[k+1].toNat≠n:=fun n h h2=>by rw [h2] at h;simp at h
   have ne0:=U0 c (c+1) (by omega);have hap:=A3a (X:=Sym.nil) hno ho (by omega);repeat' ((with_reducible first|refine wr ?_|refine k_cu ?_ ?_|refine wb2 ?_ ?_<;>(intro hb;try simp only [hb])|fail)<;>try simp only [go_sem,seval,hd,hg,hw,hcv,hd2,hg2,hw2,ne0,hap])
   ·refine A4 ?_;rw [X7 hg (hc0 34 hb)];rfl
   ·refine A4 ?_;rw [A0s hg (hc1 34 (by assumption)) (.inl (by have:=of_decide_eq_true hb;omega))];rfl
   ·refine A4 ?_;rw [A0s hg (hc1 34 (by assumption)) (.inr (by have:=of_decide_eq_true hb;omega))];rfl
   ·refine A4 ?_;rw [A5p hg (hc0 92 (by assumption)) (fun d hd=>by
     rw [hg2] at hd;cases hd;exact ⟨bn_t (b:=34) (by assumption),bn_t (b:=92) hb⟩)];rfl
   ·have hq:=B0a (acc:=acc) hg (hc0 92 (by assumption)) hg2 (.inr (bn_f (b:=92) hb));exact ⟨(k+2,some (c+1),acc++[s[k+1]]),⟨by simp only [List.length_append,List.length_singleton];rfl,rfl⟩,H8 rfl,inv ⟨by omega,by simp;omega,by simp only;omega,(fun h=>by cases h),(fun i hi=>by cases hi;omega),hq⟩,by simp only;omega⟩
   ·have hq:=B0a (acc:=acc) hg (hc0 92 (by assumption)) hg2 (.inl (bn_f (b:=34) hb));exact ⟨(k+2,some (c+1),acc++[s[k+1]]),⟨by simp only [List.length_append,List.length_singleton];rfl,rfl⟩,H8 rfl,inv ⟨by omega,by simp;omega,by simp only;omega,(fun h=>by cases h),(fun i hi=>by cases hi;omega),hq⟩,by simp only;omega⟩
   ·have hq:=A5q (acc:=acc) hg (hc1 34 (by assumption)) (by have:=of_decide_eq_false (by assumption:decide (((s[k].toNat:Int))<32)=false);omega) (by have:=of_decide_eq_false (by assumption:decide (((s[k].toNat:Int))>126)=false);omega) (hc1 92 (by assumption));exact ⟨(k+1,some (c+1),acc++[s[k]]),⟨by simp only [List.length_append,List.length_singleton];rfl,rfl⟩,H8 rfl,inv ⟨by omega,by simp;omega,by simp only;omega,(fun h=>by cases h),(fun i hi=>by cases hi;omega),hq⟩,by simp only;omega⟩
  ·have hd2:decide (((k+1:Nat):Int)≥s.length)=true:=by simp;omega
   have ne0:=U0 c (c+1) (by omega);have hap:=A3a (X:=Sym.nil) hno ho (by omega);repeat' ((with_reducible first|refine wr ?_|refine k_cu ?_ ?_|refine wb2 ?_ ?_<;>(intro hb;try simp only [hb])|fail)<;>try simp only [go_sem,seval,hd,hg,hw,hcv,hd2,ne0,hap])
   ·refine A4 ?_;rw [X7 hg (hc0 34 hb)];rfl
   ·refine A4 ?_;rw [A0s hg (hc1 34 (by assumption)) (.inl (by have:=of_decide_eq_true hb;omega))];rfl
   ·refine A4 ?_;rw [A0s hg (hc1 34 (by assumption)) (.inr (by have:=of_decide_eq_true hb;omega))];rfl
   ·refine A4 ?_;rw [A5p hg (hc0 92 (by assumption)) (fun d hd=>by rw [List.getElem?_eq_none (by omega)] at hd;cases hd)];rfl
   ·have hq:=A5q (acc:=acc) hg (hc1 34 (by assumption)) (by have:=of_decide_eq_false (by assumption:decide (((s[k].toNat:Int))<32)=false);omega) (by have:=of_decide_eq_false (by assumption:decide (((s[k].toNat:Int))>126)=false);omega) (hc1 92 (by assumption));exact ⟨(k+1,some (c+1),acc++[s[k]]),⟨by simp only [List.length_append,List.length_singleton];rfl,rfl⟩,H8 rfl,inv ⟨by omega,by simp;omega,by simp only;omega,(fun h=>by cases h),(fun i hi=>by cases hi;omega),hq⟩,by simp only;omega⟩
 ·have hd:decide ((k:Int)<s.length)=false:=by simpa using hlt
  repeat' ((with_reducible first|refine wr ?_|refine k_cu ?_ ?_|refine wb2 ?_ ?_<;>(intro hb;try simp only [hb])|fail)<;>try simp only [go_sem,seval,hd])
  refine A4 ?_;rw [qu_end (by omega)];rfl
theorem c_sign (s:List UInt8) (hs:s.length<=10000000) (h0:s≠[]):PC Tryz.prog 165 [.str s] (I64 (D2 s)):=by
 refine PC.ofT A6 rfl (Nat.le_of_ble_eq_true rfl) (by simp [DV.nlL,DV.nl]) (by simp [DV.nlL,DV.nl]) ?_;have hix:∀ c,decide (Lib.indexByte [123,125,40,41,59,44,61,43,45,42,47,37,33,60,62] c≥0)=A0v c:=fun c=>ix_one c
 match s,h0 with
 | [c],_ =>
  have hi:=c_IndexByte [123,125,40,41,59,44,61,43,45,42,47,37,33,60,62] c;have hx:A4v (DV.str [c]) (.int .i64 0)=some (.int .u8 (c.toNat:Int)):=rfl;repeat' ((with_reducible first|refine wr ?_|refine cpc hi ?_|refine k_cu ?_ ?_|refine wb2 ?_ ?_<;>(intro hb;try simp only [hb])|fail)<;>try simp only [go_sem,seval,hix,hx])
  all_goals (refine A4 ?_;simp [D2,hb])
 | c :: d :: r,_ =>
  have hi:=c_IndexByte [123,125,40,41,59,44,61,43,45,42,47,37,33,60,62] c;have hx:A4v (DV.str (c :: d :: r)) (.int .i64 0)=some (.int .u8 (c.toNat:Int)):=rfl;have hsl:slsR (c :: d :: r) none (some (DV.int .i64 2))=some (DV.str [c,d]):=A9t (s:=c :: d :: r) (k:=2) (by simp);have hd:decide (((r.length+1+1:Nat):Int)>1)=true:=by simp;omega
  have hk:∀ a b:UInt8,([c,d] == [a,b])=(c == a && d == b):=fun a b=>by simp [List.cons_beq_cons]
  have h2:=two_iff c d;repeat' ((with_reducible first|refine wr ?_|refine cpc hi ?_|refine k_cu ?_ ?_|refine wb2 ?_ ?_<;>(intro hb;try simp only [hb])|fail)<;>try simp only [go_sem,seval,hd,hix,hx,hsl])
  all_goals (refine A4 ?_;simp_all [D2])
theorem c_Fields':PC Tryz.prog 160 [.str [115,119,105,116,99,104,32,99,111,105,108,32,108,97,109,112,32,115,111,117,110,100,32,115,104,111,119,32,118,97,114,32,116,105,109,101,114,32,101,118,101,110,116,32,109,111,100,101,32,111,110,32,115,116,97,114,116,32,115,116,111,112,32,99,108,111,115,101,32,111,112,101,110,32,105,102,32,101,108,115,101,32,114,101,112,101,97,116,32,115,99,111,114,101,32,102,105,114,101,32,104,111,108,100,32,114,101,108,101,97,115,101,32,108,105,103,104,116,32,98,108,105,110,107,32,98,101,103,105,110,32,101,110,100,32,112,111,115,116,32,112,108,97,121,32,114,117,110,32,104,97,108,116,32,116,101,120,116,32,99,111,110,115,117,109,101,32,99,108,111,115,101,100,32,97,99,116,105,118,101,32,108,101,102,116,32,112,108,97,121,101,114,32,98,97,108,108,32,116,114,117,101,32,102,97,108,115,101]] (.lst (D0.map DV.str)):=c_Fields
theorem words_new:∀ k:Nat,k<38->(D0.take k).contains (D0.getD k [])=false:=by decide +kernel
theorem c_words:PC Tryz.prog 120 [] (.mp .s (D0.map DV.str) (D0.map fun _=>DV.bool true)):=by
 refine PC.ofT A6 rfl (Nat.le_of_ble_eq_true rfl) rfl (by simp only [DV.nl];rw [K5,L8 (fun _=>rfl)];rfl) ?_;have hf:=c_Fields';repeat' ((with_reducible first|refine wr ?_|refine cpc hf ?_|refine k_cu ?_ ?_|refine wb2 ?_ ?_<;>(intro hb;try simp only [hb])|fail)<;>try simp only [go_sem,seval])
 clear hf;refine D6 (fun k:Nat=>[(1,.mid 0),(5,.lst (D0.map DV.str)),(6,I64 D0.length),(7,I64 k)]) (fun k=>Sym.nil.upd 0 ⟨0,true,[.mpc .s ((D0.take k).map DV.str) ((D0.take k).map fun _=>DV.bool true)]⟩) (fun k _=>k<=D0.length) (fun k=>D0.length-k) 0 (by simp [C5,tm,Tm.upd]) (Sub.refl _) (by simp) ?_;rintro k c hk;have hlen:D0.length=38:=rfl;by_cases hlt:k<D0.length
 ·have hd:decide ((k:Int)<D0.length)=true:=by simpa using hlt
  have hg:=List.getElem?_eq_getElem hlt;have hw:IntKind.i64.wrap ((k:Int)+1)=((k+1:Nat):Int):=by rw [w64 (by omega) (by omega)];omega
  have hn:(D0.take k).contains D0[k]=false:=by
   have:=words_new k (by omega)
   rwa [List.getD_eq_getElem?_getD,hg,Option.getD_some] at this
  have hm:=A6y hn 0;have e1:D0.take (k+1)=D0.take k++[D0[k]]:=by rw [List.take_add_one,hg];rfl
  repeat' ((with_reducible first|refine wr ?_|refine k_cu ?_ ?_|refine wb2 ?_ ?_<;>(intro hb;try simp only [hb])|fail)<;>try simp only [go_sem,seval,hd,hg,hw,hm])
  refine ⟨k+1,rfl,?_,inv hlt,by omega⟩;rw [e1,List.map_append,List.map_append];intro j b hj;by_cases e:j=0
  ·subst e;rw [A0] at hj ⊢;exact hj
  ·rw [A2 e] at hj;cases hj
 ·have hd:decide ((k:Int)<D0.length)=false:=by simpa using hlt
  repeat' ((with_reducible first|refine wr ?_|refine k_cu ?_ ?_|refine wb2 ?_ ?_<;>(intro hb;try simp only [hb])|fail)<;>try simp only [go_sem,seval,hd])
  rw [List.take_of_length_le (by omega)];exact B0c A0
abbrev A0m:DV:=.mp .s (D0.map DV.str) (D0.map fun _=>DV.bool true)
theorem c_number (c:UInt8) (r:List UInt8) (hs:(c :: r).length<=10000000) (hc:dgB c=true) (hl:ltB c=false):PC Tryz.prog 163 [.str (c :: r)] (nxV (A5 (c :: r))):=by
 have hsp:=c_spanDg (c :: r) (by omega);have hn1:1<=B8 dgB (c :: r):=by simp [B8,hc]
 have hle:=O9 dgB (c :: r);have hall:=span_all (p:=dgB) (c :: r);have hne:(c :: r).take (B8 dgB (c :: r))≠[]:=by
  intro e;have:=congrArg List.length e;rw [List.length_take,List.length_nil] at this;omega
 have hx:A4v (DV.str (c :: r)) (.int .i64 0)=some (.int .u8 (c.toNat:Int)):=rfl;have hsl:=A9t (s:=c :: r) (k:=B8 dgB (c :: r)) hle;have hlen:((c :: r).take (B8 dgB (c :: r))).length<=281474976710656:=by rw [List.length_take];omega
 have hM:A5 (c :: r)=if 1<B8 dgB (c :: r)/\c.toNat=48 then nxE 47
   else if 2147483647<J7 ((c :: r).take (B8 dgB (c :: r))) then nxE 5
   else ⟨3,[],(J7 ((c :: r).take (B8 dgB (c :: r))):Int),B8 dgB (c :: r),0⟩:=by
  rw [A5,if_neg (by rw [hl];simp),if_pos hc]
 rw [hM];generalize B8 dgB (c :: r)=n at *;generalize hnv:J7 ((c :: r).take n)=v at *;refine PC.ofT A6 rfl (Nat.le_of_ble_eq_true rfl) rfl (nxV_nl _) ?_;have z1:eqnR true 3 .inil (inj .nilIface)=some (.bool false):=rfl;have z2:∀ (t:TypeId) (x:DV),eqnR true 3 (.iface t x) (inj .nilIface)=some (.bool true):=fun _ _=>rfl;by_cases hbig:v<=9223372036854775807
 ·have hp:=c_ParseOk _ hlen hall hne (by rw [hnv];exact hbig);rw [hnv] at hp;repeat' ((with_reducible first|refine wr ?_|refine cpc hsp ?_|refine cpc hp ?_|refine k_cu ?_ ?_|refine wb2 ?_ ?_<;>(intro hb;try simp only [hb])|fail)<;>try simp only [go_sem,seval,hx,hsl,z1])
  ·rw [C3 (v:=nxV (nxE 47)) rfl];refine A4 (congrArg nxV ?_);rw [if_pos ⟨A4w (by assumption),A2r (b:=48) hb⟩]
  ·rw [C3 (v:=nxV (nxE 5)) rfl];refine A4 (congrArg nxV ?_);rw [if_neg (fun h=>Y8 (b:=48) (by assumption) h.2),if_pos (A4w hb)]
  ·rw [C3 (v:=nxV ⟨3,[],(v:Int),n,0⟩) rfl];refine A4 (congrArg nxV ?_);rw [if_neg (fun h=>Y8 (b:=48) (by assumption) h.2),if_neg (A0o hb)]
  ·rw [C3 (v:=nxV (nxE 5)) rfl];refine A4 (congrArg nxV ?_);rw [if_neg (fun h=>A0o (a:=n) (b:=1) (by assumption) h.1),if_pos (A4w hb)]
  ·rw [C3 (v:=nxV ⟨3,[],(v:Int),n,0⟩) rfl];refine A4 (congrArg nxV ?_);rw [if_neg (fun h=>A0o (a:=n) (b:=1) (by assumption) h.1),if_neg (A0o hb)]
 ·have hp:=c_ParseBig _ hlen hall hne (by rw [hnv];omega);repeat' ((with_reducible first|refine wr ?_|refine cpc hsp ?_|refine cpc hp ?_|refine k_cu ?_ ?_|refine wb2 ?_ ?_<;>(intro hb;try simp only [hb])|fail)<;>try simp only [go_sem,seval,hx,hsl,z2])
  ·rw [C3 (v:=nxV (nxE 47)) rfl];refine A4 (congrArg nxV ?_);rw [if_pos ⟨A4w (by assumption),A2r (b:=48) hb⟩]
  ·rw [C3 (v:=nxV (nxE 5)) rfl];refine A4 (congrArg nxV ?_);rw [if_neg (fun h=>Y8 (b:=48) (by assumption) h.2),if_pos (by omega)]
  ·rw [C3 (v:=nxV (nxE 5)) rfl];refine A4 (congrArg nxV ?_);rw [if_neg (fun h=>A0o (a:=n) (b:=1) (by assumption) h.1),if_pos (by omega)]
theorem lk_res (w:List UInt8):lkV (.bool false) false (D0.map fun _=>DV.bool true) (J5 (.str w) (D0.map DV.str) 0)=some (.bool (C9 w)):=by
 cases h:C9 w with
 | false=>rw [A6y h 0];rfl
 | true =>
  obtain ⟨j,hj⟩:=mfind_some h 0;have hlt:=(mfind_lt hj).2;rw [List.length_map] at hlt;rw [hj,l_some,List.getElem?_map,List.getElem?_eq_getElem (by omega)];rfl
theorem c_next (c:UInt8) (r:List UInt8) (hs:(c :: r).length<=10000000):PC Tryz.prog 122 [.str (c :: r),A0m] (nxV (A5 (c :: r))):=by
 have hx:A4v (DV.str (c :: r)) (.int .i64 0)=some (.int .u8 (c.toNat:Int)):=rfl;have hlt:=c_letter c;have hdg:=c_digit c;have hnl:DV.nlL (D0.map fun _=>DV.bool true)=true:=L8 (fun _=>rfl) _;refine PC.ofT A6 rfl (Nat.le_of_ble_eq_true rfl) (by simp [DV.nlL,DV.nl,K5,hnl]) (nxV_nl _) ?_;by_cases hl:ltB c=true
 ·have hsp:=c_spanPt (c :: r) (by omega);have hle:=O9 ptB (c :: r);have hsl:=A9t (s:=c :: r) (k:=B8 ptB (c :: r)) hle;have hM:A5 (c :: r)=if 12<B8 ptB (c :: r) then nxE 9 else ⟨if C9 ((c :: r).take (B8 ptB (c :: r)))=true then 2 else 1,(c :: r).take (B8 ptB (c :: r)),0,B8 ptB (c :: r),0⟩:=by
   rw [A5,if_pos hl]
  rw [hM];generalize B8 ptB (c :: r)=n at *;have hlk:=lk_res ((c :: r).take n);repeat' ((with_reducible first|refine wr ?_|refine cpc hlt ?_|refine cpc hsp ?_|refine k_cu ?_ ?_|refine wb2 ?_ ?_<;>(intro hb;try simp only [hb])|fail)<;>try simp only [go_sem,seval,hl,hx,hsl,hlk])
  ·rw [C3 (v:=nxV (nxE 9)) rfl];refine A4 (congrArg nxV ?_);rw [if_pos (A4w hb)]
  ·rw [C3 (v:=nxV ⟨2,(c :: r).take n,0,n,0⟩) rfl];refine A4 (congrArg nxV ?_);rw [if_neg (A0o (a:=n) (b:=12) (by assumption))];try (rw [hb];rfl)
  ·rw [C3 (v:=nxV ⟨1,(c :: r).take n,0,n,0⟩) rfl];refine A4 (congrArg nxV ?_);rw [if_neg (A0o (a:=n) (b:=12) (by assumption))];try (rw [hb];rfl)
 have hl0:ltB c=false:=by simpa using hl
 by_cases hd:dgB c=true
 ·have hnum:=c_number c r hs hd hl0;obtain ⟨x,hxx⟩:∃ x,x=A5 (c :: r):=⟨_,rfl⟩;rw [<- hxx] at hnum ⊢;have hnum:PC Tryz.prog 163 [.str (c :: r)] (.tup [.agg [I64 x.kind,.str x.text,I64 x.value,I64 0],I64 x.n,I64 x.err]):=hnum;repeat' ((with_reducible first|refine wr ?_|refine cpc hlt ?_|refine cpc hdg ?_|refine cpc hnum ?_|refine k_cu ?_ ?_|refine wb2 ?_ ?_<;>(intro hb;try simp only [hb])|fail)<;>try simp only [go_sem,seval,hl0,hx,hd])
  rw [C3 (v:=nxV x) rfl];exact A4 rfl
 have hd0:dgB c=false:=by simpa using hd
 by_cases hq:c.toNat=34
 ·have hqu:=c_quoted (c :: r) hs;rw [List.drop_one,List.tail_cons] at hqu;have hb34:((c.toNat:Int) == 34)=true:=by rw [hq];rfl
  cases hqr:quM r with
  | none =>
   have hM:A5 (c :: r)=nxE 48:=by
    rw [A5,if_neg hl,if_neg hd,if_pos hq,hqr]
   rw [hM];rw [hqr] at hqu;have hqu:PC Tryz.prog 164 [.str (c :: r)] (.tup [.str [],I64 0]):=hqu;repeat' ((with_reducible first|refine wr ?_|refine cpc hlt ?_|refine cpc hdg ?_|refine cpc hqu ?_|refine k_cu ?_ ?_|refine wb2 ?_ ?_<;>(intro hb;try simp only [hb])|fail)<;>try simp only [go_sem,seval,hl0,hx,hd0,hb34])
   rw [C3 (v:=nxV (nxE 48)) rfl];exact A4 rfl
  | some x =>
   obtain ⟨t,m⟩:=x;have hM:A5 (c :: r)=if 32<t.length then nxE 9 else ⟨4,t,0,m+1,0⟩:=by
    rw [A5,if_neg hl,if_neg hd,if_pos hq,hqr]
   rw [hM];rw [hqr] at hqu;have hqu:PC Tryz.prog 164 [.str (c :: r)] (.tup [.str t,I64 ((m+1:Nat):Int)]):=hqu;have hm0:(((m+1:Nat):Int) == 0)=false:=by simp;omega
   repeat' ((with_reducible first|refine wr ?_|refine cpc hlt ?_|refine cpc hdg ?_|refine cpc hqu ?_|refine k_cu ?_ ?_|refine wb2 ?_ ?_<;>(intro hb;try simp only [hb])|fail)<;>try simp only [go_sem,seval,hl0,hx,hd0,hb34,hm0])
   ·rw [C3 (v:=nxV (nxE 9)) rfl];refine A4 (congrArg nxV ?_);rw [if_pos (A4w hb)]
   ·rw [C3 (v:=nxV ⟨4,t,0,m+1,0⟩) rfl];refine A4 (congrArg nxV ?_);rw [if_neg (A0o hb)]
 ·have hsg:=c_sign (c :: r) hs (by simp);have hb34:((c.toNat:Int) == 34)=false:=by simpa using (fun h=>hq (by omega))
  have hle:=signM_le (c :: r);have hsl:=A9t (s:=c :: r) (k:=D2 (c :: r)) hle;have hM:A5 (c :: r)=if D2 (c :: r)=0 then nxE 47 else ⟨5,(c :: r).take (D2 (c :: r)),0,D2 (c :: r),0⟩:=by
   rw [A5,if_neg hl,if_neg hd,if_neg hq]
  rw [hM];generalize D2 (c :: r)=n at *;repeat' ((with_reducible first|refine wr ?_|refine cpc hlt ?_|refine cpc hdg ?_|refine cpc hsg ?_|refine k_cu ?_ ?_|refine wb2 ?_ ?_<;>(intro hb;try simp only [hb])|fail)<;>try simp only [go_sem,seval,hl0,hx,hd0,hb34,hsl])
  ·rw [C3 (v:=nxV (nxE 47)) rfl];refine A4 (congrArg nxV ?_);rw [if_pos (A2r (b:=0) hb)]
  ·rw [C3 (v:=nxV ⟨5,(c :: r).take n,0,n,0⟩) rfl];refine A4 (congrArg nxV ?_);rw [if_neg (Y8 (b:=0) hb)]
theorem c_IsWord (s:List UInt8):PC Tryz.prog 145 [.str s] (.bool (C9 s)):=by
 refine PC.ofT A6 rfl (Nat.le_of_ble_eq_true rfl) (by simp [DV.nlL,DV.nl]) (by simp [DV.nlL,DV.nl]) ?_;have hw:=c_words;have hlk:=lk_res s;repeat' ((with_reducible first|refine wr ?_|refine cpc hw ?_|refine k_cu ?_ ?_|refine wb2 ?_ ?_<;>(intro hb;try simp only [hb])|fail)<;>try simp only [go_sem,seval,hlk])
 exact A4 rfl
theorem c_IsName (s:List UInt8) (hs:s.length<=1000000000):PC Tryz.prog 91 [.str s] (.bool (C4 s)):=by
 refine PC.ofT A6 rfl (Nat.le_of_ble_eq_true rfl) (by simp [DV.nlL,DV.nl]) (by simp [DV.nlL,DV.nl]) ?_;have hw:=c_IsWord s;have hsp:=c_spanPt s (by omega);cases s with
 | nil =>
  repeat' ((with_reducible first|refine wr ?_|refine k_cu ?_ ?_|refine wb2 ?_ ?_<;>(intro hb;try simp only [hb])|fail)<;>try simp only [go_sem,seval])
  exact A4 rfl
 | cons c r =>
  have hx:A4v (DV.str (c :: r)) (.int .i64 0)=some (.int .u8 (c.toNat:Int)):=rfl;have hlt:=c_letter c;have hd1:decide (((r.length+1:Nat):Int)≥1)=true:=by simp;omega
  repeat' ((with_reducible first|refine wr ?_|refine cpc hw ?_|refine cpc hsp ?_|refine cpc hlt ?_|refine k_cu ?_ ?_|refine wb2 ?_ ?_<;>(intro hb;try simp only [hb])|fail)<;>try simp only [go_sem,seval,hx,hd1])
  all_goals (refine A4 (congrArg DV.bool ?_);simp_all [C4]<;>omega)
theorem c_Quote (s:List UInt8) (hs:s.length<=1000000):PC Tryz.prog 155 [.str s] (.str (R5 s)):=by
 refine PC.ofT A6 rfl (Nat.le_of_ble_eq_true rfl) (by simp [DV.nlL,DV.nl]) (by simp [DV.nlL,DV.nl]) ?_;repeat' ((with_reducible first|refine wr ?_|refine k_cu ?_ ?_|refine wb2 ?_ ?_<;>(intro hb;try simp only [hb])|fail)<;>try simp only [go_sem,seval])
 refine D6 (fun q:Nat × Nat=>[(0,.str s),(3,.slc q.2 0 (A0n (s.take q.1)).length),(4,I64 q.1)]) (fun q=>Sym.nil.upd q.2 ⟨1,true,bytesC (A0n (s.take q.1))⟩)
  (fun q c=>q.1<=s.length/\q.2<c) (fun q=>s.length-q.1) (0,0) (by simp [C5,tm,Tm.upd,A0n]) (Sub.refl _) (by simp) ?_
 rintro ⟨k,id⟩ c ⟨hk,hid⟩;simp only at hk hid;simp only;have hal:(A0n (s.take k)).length<=2 * k+1:=by
  have:=A6p (s.take k);rw [List.length_take] at this;omega
 obtain ⟨acc,hacc⟩:∃ acc,acc=A0n (s.take k):=⟨_,rfl⟩;rw [<- hacc] at hal ⊢;by_cases hlt:k<s.length
 ·have hd:decide ((k:Int)<s.length)=true:=by simpa using hlt
  have hg:=List.getElem?_eq_getElem hlt;have hw:IntKind.i64.wrap ((k:Int)+1)=((k+1:Nat):Int):=by rw [w64 (by omega) (by omega)];omega
  have hA:∀ H c id,apB H c id 1 1 acc.length 1 [.int .u8 92] (some ⟨1,true,bytesC acc⟩)=some (.slc c 0 (acc.length+1),(H.del id).upd c ⟨1,true,bytesC (acc++[92])⟩,c+1):=fun H c id=>apb1 (x:=92) rfl (by omega);have hB:∀ H c id,apB H c id 1 1 (acc.length+1) 1 [.int .u8 (s[k].toNat:Int)] (some ⟨1,true,bytesC (acc++[92])⟩)=some (.slc c 0 (acc.length+1+1),(H.del id).upd c ⟨1,true,bytesC (acc++[92]++[s[k]])⟩,c+1):=fun H c id=>apb1 (by simp) (by omega);have hC:∀ H c id,apB H c id 1 1 acc.length 1 [.int .u8 (s[k].toNat:Int)] (some ⟨1,true,bytesC acc⟩)=some (.slc c 0 (acc.length+1),(H.del id).upd c ⟨1,true,bytesC (acc++[s[k]])⟩,c+1):=fun H c id=>apb1 rfl (by omega);have est:A0n (s.take (k+1))=acc++quB s[k]:=by rw [hacc,A8q hg]
  have ne0:=R7 id c (c+1) (c+2) (c+3) (by omega);repeat' ((with_reducible first|refine wr ?_|refine k_cu ?_ ?_|refine wb2 ?_ ?_<;>(intro hb;try simp only [hb])|fail)<;>try simp only [go_sem,seval,hd,hg,hw,ne0,hA,hB,hC])
  ·have e2:quB s[k]=[92,s[k]]:=if_pos (.inl (A2r (b:=34) hb));exact ⟨(k+1,c+1+1+1),⟨by simp only [est,e2,List.length_append];rfl,rfl⟩,H8 (by simp only [est,e2,List.append_assoc];rfl),inv ⟨hlt,by simp only;omega⟩,by simp only;omega⟩
  ·have e2:quB s[k]=[92,s[k]]:=if_pos (.inr (A2r (b:=92) hb));exact ⟨(k+1,c+1+1+1),⟨by simp only [est,e2,List.length_append];rfl,rfl⟩,H8 (by simp only [est,e2,List.append_assoc];rfl),inv ⟨hlt,by simp only;omega⟩,by simp only;omega⟩
  ·have e2:quB s[k]=[s[k]]:=if_neg (fun h=>h.elim (Y8 (b:=34) (by assumption)) (Y8 (b:=92) hb));exact ⟨(k+1,c+1),⟨by simp only [est,e2,List.length_append];rfl,rfl⟩,H8 (by simp only [est,e2]),inv ⟨hlt,by simp only;omega⟩,by simp only;omega⟩
 ·have hd:decide ((k:Int)<s.length)=false:=by simpa using hlt
  have hZ:∀ H c id,apB H c id 1 1 acc.length 1 [.int .u8 34] (some ⟨1,true,bytesC acc⟩)=some (.slc c 0 (acc.length+1),(H.del id).upd c ⟨1,true,bytesC (acc++[34])⟩,c+1):=fun H c id=>apb1 (x:=34) rfl (by omega);have ne0:=O0 id c (c+1) (by omega);have hcv:∀ (H:Hp) u,V5 (H.upd (c+1) ⟨u,true,bytesC (acc++[34])⟩) (.slc (c+1) 0 (acc.length+1))=some (.str (acc++[34])):=fun H u=>A2q A0 rfl (by simp);repeat' ((with_reducible first|refine wr ?_|refine k_cu ?_ ?_|refine wb2 ?_ ?_<;>(intro hb;try simp only [hb])|fail)<;>try simp only [go_sem,seval,hd,ne0,hZ,hcv])
  refine A4 ?_;rw [hacc,List.take_of_length_le (by omega)];rfl
theorem c_Scan (s:List UInt8) (hs:s.length<=100000):PC Tryz.prog 68 [.str s] (scanV (B4 s)):=by
 refine PC.ofT A6 rfl (Nat.le_of_ble_eq_true rfl) rfl (scanV_nl _) ?_;have hwd:=c_words;have hsk:=c_skip s (by omega);by_cases h20:20000<s.length
 ·have hd0:decide ((s.length:Int)>20000)=true:=by simp;omega
  have hM:B4 s=([],0,9):=if_pos h20;rw [hM];repeat' ((with_reducible first|refine wr ?_|refine k_cu ?_ ?_|refine wb2 ?_ ?_<;>(intro hb;try simp only [hb])|fail)<;>try simp only [go_sem,seval,hd0])
  exact A2z
 have hd0:decide ((s.length:Int)>20000)=false:=by simp;omega
 have hM:B4 s=G2 (s.length+1) s (skM false s) []:=if_neg h20;rw [hM];have hle0:=T6 false s;repeat' ((with_reducible first|refine wr ?_|refine cpc hwd ?_|refine cpc hsk ?_|refine k_cu ?_ ?_|refine wb2 ?_ ?_<;>(intro hb;try simp only [hb])|fail)<;>try simp only [go_sem,seval,hd0])
 refine D6 (fun q:Nat × Nat × Option Nat × List Tok=>[(0,.str s),(5,A0m),(6,C2 q.2.2.1 q.2.2.2.length),(7,I64 q.2.1)]) (fun q=>D1 Sym.nil q.2.2.1 ⟨4,true,A7 (q.2.2.2.map Tok.v)⟩)
  (fun q c=>q.2.1<=s.length/\s.length<q.1+q.2.1/\q.2.2.2.length<=q.2.1/\(q.2.2.1=none->q.2.2.2=[])/\(∀ i,q.2.2.1=some i->i<c)/\G2 (s.length+1) s (skM false s) []=G2 q.1 s q.2.1 q.2.2.2) (fun q=>q.1) (s.length+1,skM false s,none,[])
  (by simp [C5,tm,Tm.upd,C2]) (Sub.nil _) ⟨by simp only;omega,by simp only;omega,by simp,fun _=>rfl,(fun i hi=>by cases hi),rfl⟩ ?_
 rintro ⟨f,at_,o,acc⟩ c ⟨h1,hf,hal,hno,ho,he⟩;simp only at h1 hf hal hno ho he;simp only;rw [he];by_cases hlt:at_<s.length
 ·have hd:decide ((at_:Int)<s.length)=true:=by simpa using hlt
  have hg:=List.getElem?_eq_getElem hlt;have hsl:=A6k (s:=s) (k:=at_) h1;have hdr:=J9 hg;have hnx:PC Tryz.prog 122 [.str (s.drop at_),A0m] (nxV (A5 (s.drop at_))):=by
   rw [hdr];exact c_next _ _ (by rw [<- hdr,List.length_drop];omega)
  obtain ⟨f,rfl⟩:∃ g,f=g+1:=⟨f-1,by omega⟩;by_cases hz:(A5 (s.drop at_)).err=0
  ·have hn:=A1n hz;rw [List.length_drop] at hn;have hst:G2 (f+1) s at_ acc=G2 f s (at_+(A5 (s.drop at_)).n+skM false (s.drop (at_+(A5 (s.drop at_)).n))) (acc++[⟨(A5 (s.drop at_)).kind,(A5 (s.drop at_)).text,(A5 (s.drop at_)).value,(at_:Int)⟩]):=by
    rw [G2,if_neg (by omega),if_neg (by simpa using hz)]
   rw [hst];obtain ⟨x,hx⟩:∃ x,x=A5 (s.drop at_):=⟨_,rfl⟩;rw [<- hx] at hnx hz hn ⊢;have hnx:PC Tryz.prog 122 [.str (s.drop at_),A0m] (.tup [.agg [I64 x.kind,.str x.text,I64 x.value,I64 0],I64 x.n,I64 x.err]):=hnx;have hz':(x.err != 0)=false:=by simpa using hz
   have hw1:IntKind.i64.wrap ((at_:Int)+x.n)=((at_+x.n:Nat):Int):=by rw [w64 (by omega) (by omega)];omega
   have hsl2:=A6k (s:=s) (k:=at_+x.n) (by omega);have hsk2:=c_skip (s.drop (at_+x.n)) (by rw [List.length_drop];omega);have hkl:=T6 false (s.drop (at_+x.n));rw [List.length_drop] at hkl;obtain ⟨z,hzz⟩:∃ z,z=skM false (s.drop (at_+x.n)):=⟨_,rfl⟩;rw [<- hzz] at hsk2 hkl ⊢;have hw2:IntKind.i64.wrap (((at_+x.n:Nat):Int)+z)=((at_+x.n+z:Nat):Int):=by rw [w64 (by omega) (by omega)];omega
   have ne0:=O0 c (c+1) (c+2) (by omega);repeat' ((with_reducible first|refine wr ?_|refine cpc hnx ?_|refine cpc hsk2 ?_|refine k_cu ?_ ?_|refine wb2 ?_ ?_<;>(intro hb;try simp only [hb])|fail)<;>try simp only [go_sem,seval,hd,hsl,hz',hw1,hsl2,hw2,ne0])
   refine D4 (F7 (cs:=A7 (acc.map Tok.v)) (fun e=>by rw [hno e];exact ⟨rfl,rfl⟩) (fun i hi=>?_) (by rw [C8 (u:=4) (K1 _)];simp) (by omega) (by omega) (by omega)) ?_
   ·have:=ho i hi;rw [A2 (by omega),A2 (by omega),A2 (by omega),A2 (by omega)];exact A0u hi
   simp only [go_sem,seval,ne0,hw1,hw2];repeat' ((with_reducible first|refine wr ?_|refine cpc hnx ?_|refine cpc hsk2 ?_|refine k_cu ?_ ?_|refine wb2 ?_ ?_<;>(intro hb;try simp only [hb])|fail)<;>try simp only [go_sem,seval,hd,hsl,hz',hw1,hsl2,hw2,ne0])
   exact ⟨(f,at_+x.n+z,some (c+1+1),acc++[⟨x.kind,x.text,x.value,(at_:Int)⟩]),⟨by simp only [List.length_append,List.length_singleton];rfl,rfl⟩,
    H8 (by simp only [List.map_append,F0];rfl),inv ⟨by simp only;omega,by simp only;omega,by simp only [List.length_append,List.length_singleton];omega,(fun h=>by cases h),(fun i hi=>by cases hi;omega),rfl⟩,by simp only;omega⟩
  ·have hst:G2 (f+1) s at_ acc=([],(at_:Int),(A5 (s.drop at_)).err):=by
    rw [G2,if_neg (by omega),if_pos hz]
   rw [hst];obtain ⟨x,hx⟩:∃ x,x=A5 (s.drop at_):=⟨_,rfl⟩;rw [<- hx] at hnx hz ⊢;have hnx:PC Tryz.prog 122 [.str (s.drop at_),A0m] (.tup [.agg [I64 x.kind,.str x.text,I64 x.value,I64 0],I64 x.n,I64 x.err]):=hnx;have hz':(x.err != 0)=true:=by simpa using hz
   have ne0:=U0 c (c+1) (by omega);repeat' ((with_reducible first|refine wr ?_|refine cpc hnx ?_|refine k_cu ?_ ?_|refine wb2 ?_ ?_<;>(intro hb;try simp only [hb])|fail)<;>try simp only [go_sem,seval,hd,hsl,hz',ne0])
   exact A2z
 ·have hd:decide ((at_:Int)<s.length)=false:=by simpa using hlt
  repeat' ((with_reducible first|refine wr ?_|refine k_cu ?_ ?_|refine wb2 ?_ ?_<;>(intro hb;try simp only [hb])|fail)<;>try simp only [go_sem,seval,hd])
  have hM2:G2 f s at_ acc=(acc,0,0):=by
   cases f with
   | zero=>rfl
   | succ f=>rw [G2,if_pos (by omega)]
  rw [hM2];exact pc_todo3 (fun e=>by rw [hno e];rfl) (by simp) (K1 acc)
end Go.Proofs.YthlpinppaclofaaGreatDoor
set_option linter.unusedSectionVars false
namespace Go.Pb
variable [Go.Sym.Tab]
open Go.Sym
def okN (kind:Int) (text:List UInt8) (value:Int) (i n:Nat):DV:=.tup [.agg [I64 kind,.str text,I64 value,I64 i],I64 ((i+n:Nat):Int),I64 0]
def R2 (e:Int) (i:Nat):DV:=.tup [.agg [I64 0,.str [],I64 0,I64 0],I64 i,I64 e]
def nxR (x:Nx) (i:Nat):DV:=if x.err=0 then okN x.kind x.text x.value i x.n else R2 x.err i
theorem nxR_nl (x:Nx) (i:Nat):(nxR x i).nl=true:=by unfold nxR;split<;>rfl
theorem A6w {k:Int} {t:List UInt8} {v:Int} {n i:Nat}:nxR ⟨k,t,v,n,0⟩ i=okN k t v i n:=if_pos rfl
theorem A3d {e:Int} {i:Nat} (h:e≠0):nxR (nxE e) i=R2 e i:=if_neg h
def B0y (s:List UInt8):Bool:=decide (2147483647<J7 s)
def smV (s:List UInt8):Nat:=if 2147483647<J7 s then 0 else J7 s
theorem smV_le (s:List UInt8):smV s<=2147483647:=by unfold smV;split<;>omega
theorem smV_f {s:List UInt8} (h:¬ 2147483647<J7 s):smV s=J7 s:=if_neg h
theorem smV_t {s:List UInt8} (h:2147483647<J7 s):smV s=0:=if_pos h
theorem A6j {p:UInt8->Bool} {s:List UInt8} {i j:Nat} {c:UInt8} (h:s[i+j]? = some c) (hj:j<=B8 p (s.drop i)):(p c=true->j+1<=B8 p (s.drop i))/\(p c=false->B8 p (s.drop i)=j) :=
 A5l (by rw [List.getElem?_drop];exact h) hj
theorem A3w {p:UInt8->Bool} {s:List UInt8} {i j:Nat} (h:s.length<=i+j) (hj:j<=B8 p (s.drop i)):B8 p (s.drop i)=j :=
 spnM_end (by rw [List.length_drop];omega) hj
theorem slx_take {s:List UInt8} {i n:Nat} (h:i+n<=s.length):slsR s (some (.int .i64 (i:Int))) (some (.int .i64 ((i+n:Nat):Int)))=some (.str ((s.drop i).take n)):=by
 have b1:∀ k:Nat,boundOf s.length (some (.int .i64 (k:Int)))=some k:=fun k=>by simp [boundOf]
 have b2:∀ k:Nat,boundOf 0 (some (.int .i64 (k:Int)))=some k:=fun k=>by simp [boundOf]
 simp only [slsR,b1,b2];rw [if_pos ⟨h,by omega⟩,show i+n-i=n by omega]
theorem nxR_shape (x:Nx) (i:Nat):∃ (k:Int) (t:List UInt8) (v p n e:Int),nxR x i=.tup [.agg [I64 k,.str t,I64 v,I64 p],I64 n,I64 e]:=by
 unfold nxR;split
 ·exact ⟨_,_,_,_,_,_,rfl⟩
 ·exact ⟨_,_,_,_,_,_,rfl⟩
def box4:Blk:=⟨0,true,[I64 0,.str [],I64 0,I64 0]⟩
def quR (i:Nat):Option (List UInt8 × Nat)->DV
 | none=>R2 48 i
 | some x=>if 32<x.1.length then R2 9 i else .tup [.agg [I64 4,.str x.1,I64 0,I64 i],I64 (x.2:Int),I64 0]
theorem quR_nl (i:Nat) (q:Option (List UInt8 × Nat)):(quR i q).nl=true:=by
 cases q with
 | none=>rfl
 | some x=>simp only [quR];split<;>rfl
theorem quR_next {s:List UInt8} {i:Nat} {c:UInt8} (h:s[i]? = some c) (h1:ltB c=false) (h2:dgB c=false) (h3:c.toNat=34):quR i (quA [] (i+1) (quM (s.drop (i+1))))=nxR (A5 (s.drop i)) i:=by
 rw [J9 h,A5,if_neg (by rw [h1];simp),if_neg (by rw [h2];simp),if_pos h3];cases hq:quM (s.drop (i+1)) with
 | none=>rfl
 | some x =>
  simp only [quA,Option.map_some,List.nil_append,quR];split
  ·rw [A3d (by decide)]
  ·rw [A6w,okN];have:x.2+(i+1)=i+(x.2+1):=by omega
   rw [this]
theorem A5j {X:Hp} {o:Option Nat} {c:Nat} {b b2 b3 b3':Blk} (hX:∀ j q,X j=some q->j<c) (ho:∀ i,o=some i->X i=none) (h:b3=b3') :
  Sub (D1 X (some (c+1)) b3) ((Q1 ((D1 X o b).upd c b2) o).upd (c+1) b3'):=by
 subst h;intro j q hj;simp only [D1] at hj;by_cases e:j=c+1
 ·subst e;rw [A0] at hj ⊢;exact hj
 ·rw [A2 e] at hj ⊢;have h1:=hX j q hj;have h2:∀ i,o=some i->¬ j=i:=fun i hi e2=>by rw [e2,ho i hi] at hj;cases hj
  rw [K0 h2,A2 (by omega),F5 h2];exact hj
theorem A5e {b:Blk} {c j:Nat} {q:Blk} (hc:1<=c) (h:(Sym.nil.upd 0 b) j=some q):j<c:=by
 by_cases e:j=0
 ·omega
 ·rw [A2 e] at h;cases h
theorem A5d {b:Blk} {i:Nat} (h:¬ i=0):(Sym.nil.upd 0 b) i=none:=by rw [A2 h];rfl
def P0:List (List UInt8):=[[60,61],[62,61],[61,61],[33,61],[38,38],[124,124],[123],[125],[40],[41],[59],[44],[61],[43],[45],[42],[47],[37],[33],[60],[62]]
theorem sgn_len2:∀ k:Nat,k<6->∃ a b,P0.getD k []=[a,b]/\A2w a b=true:=by
 intro k hk;have:∀ k:Nat,k<6->(match P0.getD k [] with | [a,b]=>A2w a b|_=>false)=true:=by decide
 have:=this k hk;split at this
 ·rename_i a b e;exact ⟨a,b,e,this⟩
 ·cases this
theorem sgn_len1:∀ k:Nat,6<=k->k<21->∃ a,P0.getD k []=[a]/\A0v a=true:=by
 intro k h6 hk;have:∀ k:Nat,k<21->6<=k->(match P0.getD k [] with | [a]=>A0v a|_=>false)=true:=by decide
 have:=this k hk h6;split at this
 ·rename_i a e;exact ⟨a,e,this⟩
 ·cases this
theorem two_in {c d:UInt8} (h:A2w c d=true):∃ k,k<6/\P0.getD k []=[c,d]:=by
 rw [two_iff] at h;simp only [Bool.or_eq_true,beq_iff_eq] at h;rcases h with ((((h|h)|h)|h)|h)|h
 ·exact ⟨0,by omega,h.symm⟩
 ·exact ⟨1,by omega,h.symm⟩
 ·exact ⟨2,by omega,h.symm⟩
 ·exact ⟨3,by omega,h.symm⟩
 ·exact ⟨4,by omega,h.symm⟩
 ·exact ⟨5,by omega,h.symm⟩
theorem one_in {c:UInt8} (h:A0v c=true):∃ k,6<=k/\k<21/\P0.getD k []=[c]:=by
 have key:∀ n:Nat,n<256->A0v (UInt8.ofNat n)=true->∃ k,k<21/\6<=k/\P0.getD k []=[UInt8.ofNat n]:=by decide +kernel
 obtain ⟨k,h1,h2,h3⟩:=key c.toNat c.toNat_lt (by rw [UInt8.ofNat_toNat];exact h);rw [UInt8.ofNat_toNat] at h3;exact ⟨k,h2,h1,h3⟩
def A3z (l s:List UInt8):Bool:=decide (l.length<=s.length) && (s.take l.length == l)
theorem sgn_found {s:List UInt8} {k:Nat} (hk:k<21) (hno:∀ j,j<k->A3z (P0.getD j []) s=false) (h:A3z (P0.getD k []) s=true):D2 s=(P0.getD k []).length/\(P0.getD k [])=s.take (P0.getD k []).length:=by
 simp only [A3z,Bool.and_eq_true,decide_eq_true_eq,beq_iff_eq] at h;refine ⟨?_,h.2.symm⟩;by_cases h6:k<6
 ·obtain ⟨a,b,e,ht⟩:=sgn_len2 k h6;rw [e] at h ⊢
  match s,h with
  | [],h=>simp at h
  | [x],h=>simp at h
  | x :: y :: r,h =>
   simp at h;obtain ⟨rfl,rfl⟩:=h;simp [D2,ht]
 ·obtain ⟨a,e,ho⟩:=sgn_len1 k (by omega) hk;rw [e] at h ⊢
  match s,h with
  | [],h=>simp at h
  | [x],h =>
   simp at h;subst h;simp [D2,ho]
  | x :: y :: r,h =>
   simp at h;subst h;have h2:A2w x y=false:=by
    cases ht:A2w x y with
    | false=>rfl
    | true =>
     obtain ⟨j,hj,e2⟩:=two_in ht;have:=hno j (by omega);rw [e2] at this;simp [A3z] at this
   simp [D2,h2,ho]
theorem sgn_none {s:List UInt8} (hno:∀ j,j<21->A3z (P0.getD j []) s=false):D2 s=0:=by
 have h1:∀ x r,s=x :: r->A0v x=false:=by
  intro x r e;cases ho:A0v x with
  | false=>rfl
  | true =>
   obtain ⟨j, -,hj,e2⟩:=one_in ho;have:=hno j hj;rw [e2,e] at this;simp [A3z] at this
 match s,hno,h1 with
 | [],_,_=>rfl
 | [x],_,h1=>simp [D2,h1 x [] rfl]
 | x :: y :: r,hno,h1 =>
  have h2:A2w x y=false:=by
   cases ht:A2w x y with
   | false=>rfl
   | true =>
    obtain ⟨j,hj,e2⟩:=two_in ht;have:=hno j (by omega);rw [e2] at this;simp [A3z] at this
  simp [D2,h2,h1 x _ rfl]
end Go.Pb
namespace Go.Proofs.YthlpinppaclofaaGreatDoor
open Go.Eng (IC IOper DReg IFn B5)
open Go.Sym Go.Pb
theorem c_wordsR:PC Tryz.prog 181 [] (.lst (D0.map DV.str)):=by
 refine PC.ofT A6 rfl (Nat.le_of_ble_eq_true rfl) rfl (K5 _) ?_;repeat' ((with_reducible first|refine wr ?_|refine k_cu ?_ ?_|refine wb2 ?_ ?_<;>(intro hb;try simp only [hb])|fail)<;>try simp only [go_sem,seval])
 exact A0t (xs:=D0.map DV.str) (u:=1) A0 rfl rfl (K3 _) ⟨[],rfl⟩
theorem c_signsR:PC Tryz.prog 137 [] (.lst (P0.map DV.str)):=by
 refine PC.ofT A6 rfl (Nat.le_of_ble_eq_true rfl) rfl (K5 _) ?_;repeat' ((with_reducible first|refine wr ?_|refine k_cu ?_ ?_|refine wb2 ?_ ?_<;>(intro hb;try simp only [hb])|fail)<;>try simp only [go_sem,seval])
 exact A0t (xs:=P0.map DV.str) (u:=1) A0 rfl rfl (K3 _) ⟨[],rfl⟩
theorem c_IsWordR (s:List UInt8):PC Tryz.prog 149 [.str s] (.bool (C9 s)):=by
 refine PC.ofT A6 rfl (Nat.le_of_ble_eq_true rfl) (by simp [DV.nlL,DV.nl]) (by simp [DV.nlL,DV.nl]) ?_;have hw:=c_wordsR;repeat' ((with_reducible first|refine wr ?_|refine cpc hw ?_|refine k_cu ?_ ?_|refine wb2 ?_ ?_<;>(intro hb;try simp only [hb])|fail)<;>try simp only [go_sem,seval])
 refine D6 (fun k:Nat=>[(0,.str s),(3,.lst (D0.map DV.str)),(4,I64 k)]) (fun _=>nil) (fun k _=>k<=D0.length/\(D0.take k).contains s=false) (fun k=>D0.length-k) 0 (by simp [C5,tm,Tm.upd]) (Sub.nil _) (by simp) ?_;rintro k c ⟨hk,he⟩;have hlen:D0.length=38:=rfl;by_cases hlt:k<D0.length
 ·have hd:decide ((k:Int)<D0.length)=true:=by simpa using hlt
  have hg:=List.getElem?_eq_getElem hlt;have hw:IntKind.i64.wrap ((k:Int)+1)=((k+1:Nat):Int):=by rw [w64 (by omega) (by omega)];omega
  repeat' ((with_reducible first|refine wr ?_|refine k_cu ?_ ?_|refine wb2 ?_ ?_<;>(intro hb;try simp only [hb])|fail)<;>try simp only [go_sem,seval,hd,hg,hw])
  ·refine A4 (congrArg DV.bool ?_);have:s=D0[k]:=(beq_iff_eq.1 hb).symm;unfold C9;rw [List.contains_iff_mem.2 (by rw [this];exact List.getElem_mem hlt)]
  ·refine ⟨k+1,rfl,Sub.refl _,inv ⟨hlt,?_⟩,by omega⟩;rw [List.take_add_one,hg,List.contains_append,he];have:¬ s=D0[k]:=fun e=>by rw [e] at hb;simp at hb
   simpa using this
 ·have hd:decide ((k:Int)<D0.length)=false:=by simpa using hlt
  repeat' ((with_reducible first|refine wr ?_|refine k_cu ?_ ?_|refine wb2 ?_ ?_<;>(intro hb;try simp only [hb])|fail)<;>try simp only [go_sem,seval,hd])
  refine A4 (congrArg DV.bool ?_);rw [List.take_of_length_le (by omega)] at he;exact he.symm
theorem c_skipR (s:List UInt8) (hs:s.length<=1000000000) (i:Nat) (hi:i<=s.length):PC Tryz.prog 82 [.str s,I64 i] (I64 ((i+skM false (s.drop i):Nat):Int)):=by
 refine PC.ofT A6 rfl (Nat.le_of_ble_eq_true rfl) (by simp [DV.nlL,DV.nl]) (by simp [DV.nlL,DV.nl]) ?_;repeat' ((with_reducible first|refine wr ?_|refine k_cu ?_ ?_|refine wb2 ?_ ?_<;>(intro hb;try simp only [hb])|fail)<;>try simp only [go_sem,seval])
 refine D6 (fun k:Nat=>[(0,.str s),(1,I64 k)]) (fun _=>nil) (fun k _=>k<=s.length/\i+skM false (s.drop i)=k+skM false (s.drop k)) (fun k=>s.length-k) i (by simp [C5,tm,Tm.upd]) (Sub.nil _) ⟨hi,rfl⟩ ?_;rintro k c ⟨hk,he⟩;by_cases hlt:k<s.length
 ·have hd:decide ((k:Int)<s.length)=true:=by simpa using hlt
  have hg:=List.getElem?_eq_getElem hlt;have hw:=w64 (n:=(k:Int)+1) (by omega) (by omega);have hsep:S3 s[k]=true->∃ b,DV.int IntKind.i64 ((k:Int)+1)=I64 ((b:Nat):Int)/\Sym.Sub Sym.nil Sym.nil/\A5b (fun k _=>k<=s.length/\i+skM false (s.drop i)=k+skM false (s.drop k)) b c/\s.length-b<s.length-k :=
   fun h=>⟨k+1,rfl,Sub.refl _,inv ⟨by omega,by rw [he,sk_sep hg h];omega⟩,by omega⟩
  repeat' ((with_reducible first|refine wr ?_|refine k_cu ?_ ?_|refine wb2 ?_ ?_<;>(intro hb;try simp only [hb])|fail)<;>try simp only [go_sem,seval,hd,hg,hw])
  ·have h35:=A2r (b:=35) hb;have h1:=sk_cmt1 hg h35;have h2:=sk_cmt hg h35;refine D6 (fun j:Nat=>[(0,.str s),(1,I64 ((k+j:Nat):Int))]) (fun _=>nil) (fun j _=>k+j<=s.length/\j<=B8 (fun c=>decide (c.toNat≠10)) (s.drop k)) (fun j=>s.length-(k+j)) 0 (by simp [C5,tm,Tm.upd]) (Sub.nil _) (by simp;omega) ?_;rintro j c ⟨hkj,hej⟩;have hend:B8 (fun c=>decide (c.toNat≠10)) (s.drop k)=j->∃ b,I64 ((k+j:Nat):Int)=I64 ((b:Nat):Int)/\Sym.Sub Sym.nil Sym.nil/\A5b (fun k _=>k<=s.length/\i+skM false (s.drop i)=k+skM false (s.drop k)) b c/\s.length-b<s.length-k:=by
    intro e;rw [e] at h1 h2;exact ⟨k+j,rfl,Sub.refl _,inv ⟨hkj,by rw [he,h2];omega⟩,by omega⟩
   by_cases hlt2:k+j<s.length
   ·have hd2:decide (((k+j:Nat):Int)<s.length)=true:=by simp;omega
    have hg2:=List.getElem?_eq_getElem hlt2;have hw2:IntKind.i64.wrap (((k+j:Nat):Int)+1)=((k+(j+1):Nat):Int):=by rw [w64 (by omega) (by omega)];omega
    have hst:=A6j hg2 hej;repeat' ((with_reducible first|refine wr ?_|refine k_cu ?_ ?_|refine wb2 ?_ ?_<;>(intro hb;try simp only [hb])|fail)<;>try simp only [go_sem,seval,hd2,hg2,hw2])
    ·exact ⟨j+1,rfl,Sub.refl _,inv ⟨hlt2,hst.1 (by simpa using bn_t (b:=10) hb)⟩,by omega⟩
    ·exact hend (hst.2 (by simpa using bn_f (b:=10) hb))
   ·have hd2:decide (((k+j:Nat):Int)<s.length)=false:=by simp;omega
    repeat' ((with_reducible first|refine wr ?_|refine k_cu ?_ ?_|refine wb2 ?_ ?_<;>(intro hb;try simp only [hb])|fail)<;>try simp only [go_sem,seval,hd2])
    exact hend (A3w (by omega) hej)
  ·exact hsep (by simp [S3,A2r (b:=9) hb])
  ·exact hsep (by simp [S3,A2r (b:=10) hb])
  ·exact hsep (by simp [S3,A2r (b:=13) hb])
  ·exact hsep (by simp [S3,A2r (b:=32) hb])
  ·refine A4 ?_;have h9:=Y8 (a:=s[k].toNat) (b:=9) (by assumption);have h10:=Y8 (a:=s[k].toNat) (b:=10) (by assumption);have h13:=Y8 (a:=s[k].toNat) (b:=13) (by assumption);have h32:=Y8 (a:=s[k].toNat) (b:=32) (by assumption);have h35:=Y8 (a:=s[k].toNat) (b:=35) (by assumption);rw [he,sk_stop hg (by simp [S3,h9,h10,h13,h32]) h35];simp
 ·have hd:decide ((k:Int)<s.length)=false:=by simpa using hlt
  repeat' ((with_reducible first|refine wr ?_|refine k_cu ?_ ?_|refine wb2 ?_ ?_<;>(intro hb;try simp only [hb])|fail)<;>try simp only [go_sem,seval,hd])
  refine A4 ?_;rw [he,sk_end (by omega)];simp
theorem c_wordR (s:List UInt8) (hs:s.length<=1000000000) (i:Nat) (hi:i<s.length) (hl:ltB s[i]=true):PC Tryz.prog 133 [.str s,I64 i] (nxR (A5 (s.drop i)) i):=by
 have hM:A5 (s.drop i)=if 12<B8 ptB (s.drop i) then nxE 9 else ⟨if C9 ((s.drop i).take (B8 ptB (s.drop i)))=true then 2 else 1,(s.drop i).take (B8 ptB (s.drop i)),0,B8 ptB (s.drop i),0⟩:=by
  rw [J9 (List.getElem?_eq_getElem hi),A5,if_pos hl]
 rw [hM];have hle:=O9 ptB (s.drop i);rw [List.length_drop] at hle;refine PC.ofT A6 rfl (Nat.le_of_ble_eq_true rfl) rfl (nxR_nl _ _) ?_;repeat' ((with_reducible first|refine wr ?_|refine k_cu ?_ ?_|refine wb2 ?_ ?_<;>(intro hb;try simp only [hb])|fail)<;>try simp only [go_sem,seval])
 refine D6 (fun j:Nat=>[(0,.str s),(1,I64 i),(4,.ptr 0 0),(7,I64 ((i+j:Nat):Int))]) (fun _=>Sym.nil.upd 0 ⟨0,true,[I64 0,.str [],I64 0,I64 0]⟩) (fun j cc=>1<=cc/\i+j<=s.length/\j<=B8 ptB (s.drop i)) (fun j=>s.length-(i+j)) 0 (by simp [C5,tm,Tm.upd]) (Sub.refl _) (by simp;omega) ?_;rintro j c ⟨h1c,hk,he⟩;have hw2:IntKind.i64.wrap (((i+j:Nat):Int)-i)=(j:Int):=by rw [w64 (by omega) (by omega)];omega
 have hsx:=slx_take hk;have hiw:=c_IsWordR ((s.drop i).take j);have hR9:B8 ptB (s.drop i)=j->12<j->R2 9 i=nxR (if 12<B8 ptB (s.drop i) then nxE 9 else ⟨if C9 ((s.drop i).take (B8 ptB (s.drop i)))=true then 2 else 1,(s.drop i).take (B8 ptB (s.drop i)),0,B8 ptB (s.drop i),0⟩) i:=by
  intro e h;rw [e,if_pos h,A3d (by decide)]
 have hRw:B8 ptB (s.drop i)=j->¬ 12<j->C9 ((s.drop i).take j)=true->okN 2 ((s.drop i).take j) 0 i j=nxR (if 12<B8 ptB (s.drop i) then nxE 9 else ⟨if C9 ((s.drop i).take (B8 ptB (s.drop i)))=true then 2 else 1,(s.drop i).take (B8 ptB (s.drop i)),0,B8 ptB (s.drop i),0⟩) i:=by
  intro e h h2;rw [e,if_neg h,A6w,if_pos h2]
 have hRn:B8 ptB (s.drop i)=j->¬ 12<j->C9 ((s.drop i).take j)=false->okN 1 ((s.drop i).take j) 0 i j=nxR (if 12<B8 ptB (s.drop i) then nxE 9 else ⟨if C9 ((s.drop i).take (B8 ptB (s.drop i)))=true then 2 else 1,(s.drop i).take (B8 ptB (s.drop i)),0,B8 ptB (s.drop i),0⟩) i:=by
  intro e h h2;rw [e,if_neg h,A6w,if_neg (by rw [h2];simp)]
 by_cases hlt:i+j<s.length
 ·have hd:decide (((i+j:Nat):Int)<s.length)=true:=by simp;omega
  have hg:=List.getElem?_eq_getElem hlt;have hw:IntKind.i64.wrap (((i+j:Nat):Int)+1)=((i+(j+1):Nat):Int):=by rw [w64 (by omega) (by omega)];omega
  have h1:=c_letterR s[i+j];have h2:=c_digitR s[i+j];have hst:=A6j hg he;have hlp:ptB s[i+j]=true->∃ b,DV.int IntKind.i64 ((i+(j+1):Nat):Int)=I64 ((i+b:Nat):Int)/\Sym.Sub (Sym.nil.upd 0 ⟨0,true,[I64 0,.str [],I64 0,I64 0]⟩) (Sym.nil.upd 0 ⟨0,true,[I64 0,.str [],I64 0,I64 0]⟩) /\
    A5b (fun j cc=>1<=cc/\i+j<=s.length/\j<=B8 ptB (s.drop i)) b c/\s.length-(i+b)<s.length-(i+j) :=
   fun h=>⟨j+1,rfl,Sub.refl _,inv ⟨h1c,hlt,hst.1 h⟩,by omega⟩
  have ne0:=U0 c 0 (by omega);repeat' ((with_reducible first|refine wr ?_|refine cpc h1 ?_|refine cpc h2 ?_|refine cpc hiw ?_|refine k_cu ?_ ?_|refine wb2 ?_ ?_<;>(intro hb;try simp only [hb])|fail)<;>try simp only [go_sem,seval,hd,hg,hw,hw2,hsx,ne0])
  ·exact hlp (by simp [ptB,hb])
  ·exact hlp (by simp [ptB,hb])
  ·exact hlp (by simp [ptB,A2r (b:=95) hb])
  ·have hj:=hst.2 (by simp only [ptB];rw [‹ltB s[i+j]=false›, ‹dgB s[i+j]=false›];simpa using Y8 (a:=s[i+j].toNat) (b:=95) (by assumption));rw [C3 (v:=R2 9 i) rfl];exact A4 (hR9 hj (A4w hb))
  ·have hj:=hst.2 (by simp only [ptB];rw [‹ltB s[i+j]=false›, ‹dgB s[i+j]=false›];simpa using Y8 (a:=s[i+j].toNat) (b:=95) (by assumption));rw [C3 (v:=okN 2 ((s.drop i).take j) 0 i j) rfl];exact A4 (hRw hj (A0o (a:=j) (b:=12) (by assumption)) hb)
  ·have hj:=hst.2 (by simp only [ptB];rw [‹ltB s[i+j]=false›, ‹dgB s[i+j]=false›];simpa using Y8 (a:=s[i+j].toNat) (b:=95) (by assumption));rw [C3 (v:=okN 1 ((s.drop i).take j) 0 i j) rfl];exact A4 (hRn hj (A0o (a:=j) (b:=12) (by assumption)) hb)
 ·have hd:decide (((i+j:Nat):Int)<s.length)=false:=by simp;omega
  have hj:=A3w (p:=ptB) (s:=s) (by omega) he;have ne0:=U0 c 0 (by omega);repeat' ((with_reducible first|refine wr ?_|refine cpc hiw ?_|refine k_cu ?_ ?_|refine wb2 ?_ ?_<;>(intro hb;try simp only [hb])|fail)<;>try simp only [go_sem,seval,hd,hw2,hsx,ne0])
  ·rw [C3 (v:=R2 9 i) rfl];exact A4 (hR9 hj (A4w hb))
  ·rw [C3 (v:=okN 2 ((s.drop i).take j) 0 i j) rfl];exact A4 (hRw hj (A0o (a:=j) (b:=12) (by assumption)) hb)
  ·rw [C3 (v:=okN 1 ((s.drop i).take j) 0 i j) rfl];exact A4 (hRn hj (A0o (a:=j) (b:=12) (by assumption)) hb)
theorem c_numberR (s:List UInt8) (hs:s.length<=1000000000) (i:Nat) (hi:i<s.length) (hl:ltB s[i]=false) (hg0:dgB s[i]=true):PC Tryz.prog 135 [.str s,I64 i] (nxR (A5 (s.drop i)) i):=by
 have hM:A5 (s.drop i)=if 1<B8 dgB (s.drop i)/\s[i].toNat=48 then nxE 47
   else if 2147483647<J7 ((s.drop i).take (B8 dgB (s.drop i))) then nxE 5
   else ⟨3,[],(J7 ((s.drop i).take (B8 dgB (s.drop i))):Int),B8 dgB (s.drop i),0⟩:=by
  have hdr:=J9 (List.getElem?_eq_getElem hi);have:∀ r,s.drop i=s[i] :: r->A5 (s.drop i)=if 1<B8 dgB (s.drop i)/\s[i].toNat=48 then nxE 47
   else if 2147483647<J7 ((s.drop i).take (B8 dgB (s.drop i))) then nxE 5
   else ⟨3,[],(J7 ((s.drop i).take (B8 dgB (s.drop i))):Int),B8 dgB (s.drop i),0⟩:=by
   intro r e;rw [e,A5,if_neg (by rw [hl];simp),if_pos hg0]
  exact this _ hdr
 have hle:=O9 dgB (s.drop i);rw [List.length_drop] at hle;obtain ⟨D,hD⟩:∃ D,D=s.drop i:=⟨_,rfl⟩;refine PC.ofT A6 rfl (Nat.le_of_ble_eq_true rfl) rfl (nxR_nl _ _) ?_;repeat' ((with_reducible first|refine wr ?_|refine k_cu ?_ ?_|refine wb2 ?_ ?_<;>(intro hb;try simp only [hb])|fail)<;>try simp only [go_sem,seval])
 refine D6 (fun j:Nat=>[(0,.str s),(1,I64 i),(4,.ptr 0 0),(7,I64 ((i+j:Nat):Int)),(8,I64 (smV (D.take j))),(9,.bool (B0y (D.take j)))]) (fun _=>Sym.nil.upd 0 ⟨0,true,[I64 0,.str [],I64 0,I64 0]⟩) (fun j _=>i+j<=s.length/\j<=B8 dgB (s.drop i)) (fun j=>s.length-(i+j)) 0 (by simp [C5,tm,Tm.upd,smV,B0y,J7]) (Sub.refl _) (by simp;omega) ?_;rintro j c ⟨hk,he⟩;have hw2:IntKind.i64.wrap (((i+j:Nat):Int)-i)=(j:Int):=by rw [w64 (by omega) (by omega)];omega
 have hgi:=List.getElem?_eq_getElem hi;have hRz:B8 dgB (s.drop i)=j->1<j->s[i].toNat=48->R2 47 i=nxR (A5 (s.drop i)) i:=by
  intro e h h2;rw [hM,e,if_pos ⟨h,h2⟩,A3d (by decide)]
 have hRb:B8 dgB (s.drop i)=j->¬ (1<j/\s[i].toNat=48)->B0y (D.take j)=true->R2 5 i=nxR (A5 (s.drop i)) i:=by
  intro e h h2;rw [hM,e,if_neg h, <- hD,if_pos (of_decide_eq_true h2),A3d (by decide)]
 have hRk:B8 dgB (s.drop i)=j->¬ (1<j/\s[i].toNat=48)->B0y (D.take j)=false->okN 3 [] (smV (D.take j)) i j=nxR (A5 (s.drop i)) i:=by
  intro e h h2;have h3:=of_decide_eq_false h2;rw [hM,e,if_neg h, <- hD,if_neg h3,A6w,smV_f h3]
 by_cases hlt:i+j<s.length
 ·have hd:decide (((i+j:Nat):Int)<s.length)=true:=by simp;omega
  have hg:=List.getElem?_eq_getElem hlt;have hw:IntKind.i64.wrap (((i+j:Nat):Int)+1)=((i+(j+1):Nat):Int):=by rw [w64 (by omega) (by omega)];omega
  have h2:=c_digitR s[i+j];have hst:=A6j hg he;by_cases hdg:dgB s[i+j]=true
  ·rw [hdg] at h2;have hgD:D[j]? = some s[i+j]:=by rw [hD,List.getElem?_drop];exact hg
   have hn:=numV_step hgD;have hdd:48<=s[i+j].toNat/\s[i+j].toNat<=57:=by simpa [dgB] using hdg
   obtain ⟨z,hz⟩:∃ z:Nat,z=s[i+j].toNat-48:=⟨_,rfl⟩;rw [<- hz] at hn;have w1:IntKind.i64.wrap (10 * (smV (D.take j):Int))=((10 * smV (D.take j):Nat):Int):=by have:=smV_le (D.take j);rw [w64 (by omega) (by omega)];omega
   have w2:IntKind.u8.wrap ((s[i+j].toNat:Int)-48)=(z:Int):=by rw [wu8 (by omega) (by omega)];omega
   have w3:IntKind.i64.wrap (z:Int)=(z:Int):=w64 (by omega) (by omega);have w4:IntKind.i64.wrap (((10 * smV (D.take j):Nat):Int)+z)=((10 * smV (D.take j)+z:Nat):Int):=by have:=smV_le (D.take j);rw [w64 (by omega) (by omega)];omega
   by_cases hbg:2147483647<J7 (D.take j)
   ·have hb1:B0y (D.take j)=true:=decide_eq_true hbg;have e1:B0y (D.take (j+1))=true:=decide_eq_true (by omega);have e2:smV (D.take (j+1))=0:=smV_t (by omega);rw [hb1];repeat' ((with_reducible first|refine wr ?_|refine cpc h2 ?_|refine k_cu ?_ ?_|refine wb2 ?_ ?_<;>(intro hb;try simp only [hb])|fail)<;>try simp only [go_sem,seval,hd,hg,hw,w1,w2,w3,w4])
    exact ⟨j+1,⟨rfl,by rw [e2];rfl,by rw [e1]⟩,Sub.refl _,inv ⟨hlt,hst.1 hdg⟩,by omega⟩
   ·have hb1:B0y (D.take j)=false:=decide_eq_false hbg;have hs1:=smV_f hbg;rw [hb1];by_cases hbn:2147483647<J7 (D.take (j+1))
    ·have e1:B0y (D.take (j+1))=true:=decide_eq_true hbn;have e2:smV (D.take (j+1))=0:=smV_t hbn;have hd5:decide (((10 * smV (D.take j)+z:Nat):Int)>2147483647)=true:=by simp only [decide_eq_true_eq];omega
     repeat' ((with_reducible first|refine wr ?_|refine cpc h2 ?_|refine k_cu ?_ ?_|refine wb2 ?_ ?_<;>(intro hb;try simp only [hb])|fail)<;>try simp only [go_sem,seval,hd,hg,hw,w1,w2,w3,w4,hd5])
     exact ⟨j+1,⟨rfl,by rw [e2];rfl,by rw [e1]⟩,Sub.refl _,inv ⟨hlt,hst.1 hdg⟩,by omega⟩
    ·have e1:B0y (D.take (j+1))=false:=decide_eq_false hbn;have e2:smV (D.take (j+1))=10 * smV (D.take j)+z:=by rw [smV_f hbn,hn,hs1]
     have hd5:decide (((10 * smV (D.take j)+z:Nat):Int)>2147483647)=false:=by simp only [decide_eq_false_iff_not];omega
     repeat' ((with_reducible first|refine wr ?_|refine cpc h2 ?_|refine k_cu ?_ ?_|refine wb2 ?_ ?_<;>(intro hb;try simp only [hb])|fail)<;>try simp only [go_sem,seval,hd,hg,hw,w1,w2,w3,w4,hd5])
     exact ⟨j+1,⟨rfl,by rw [e2],by rw [e1]⟩,Sub.refl _,inv ⟨hlt,hst.1 hdg⟩,by omega⟩
  ·have hdg0:dgB s[i+j]=false:=by simpa using hdg
   rw [hdg0] at h2;have hj:=hst.2 hdg0;repeat' ((with_reducible first|refine wr ?_|refine cpc h2 ?_|refine k_cu ?_ ?_|refine wb2 ?_ ?_<;>(intro hb;try simp only [hb])|fail)<;>try simp only [go_sem,seval,hd,hg,hw2,hgi])
   ·rw [C3 (v:=R2 47 i) rfl];exact A4 (hRz hj (A4w hb) (A2r (b:=48) (by assumption)))
   ·rw [C3 (v:=R2 5 i) rfl];exact A4 (hRb hj (fun h=>A0o (a:=j) (b:=1) (by assumption) h.1) hb)
   ·rw [C3 (v:=okN 3 [] (smV (D.take j)) i j) rfl];exact A4 (hRk hj (fun h=>A0o (a:=j) (b:=1) (by assumption) h.1) hb)
   ·rw [C3 (v:=R2 5 i) rfl];exact A4 (hRb hj (fun h=>Y8 (b:=48) (by assumption) h.2) hb)
   ·rw [C3 (v:=okN 3 [] (smV (D.take j)) i j) rfl];exact A4 (hRk hj (fun h=>Y8 (b:=48) (by assumption) h.2) hb)
 ·have hd:decide (((i+j:Nat):Int)<s.length)=false:=by simp;omega
  have hj:=A3w (p:=dgB) (s:=s) (by omega) he;repeat' ((with_reducible first|refine wr ?_|refine k_cu ?_ ?_|refine wb2 ?_ ?_<;>(intro hb;try simp only [hb])|fail)<;>try simp only [go_sem,seval,hd,hw2,hgi])
  ·rw [C3 (v:=R2 47 i) rfl];exact A4 (hRz hj (A4w hb) (A2r (b:=48) (by assumption)))
  ·rw [C3 (v:=R2 5 i) rfl];exact A4 (hRb hj (fun h=>A0o (a:=j) (b:=1) (by assumption) h.1) hb)
  ·rw [C3 (v:=okN 3 [] (smV (D.take j)) i j) rfl];exact A4 (hRk hj (fun h=>A0o (a:=j) (b:=1) (by assumption) h.1) hb)
  ·rw [C3 (v:=R2 5 i) rfl];exact A4 (hRb hj (fun h=>Y8 (b:=48) (by assumption) h.2) hb)
  ·rw [C3 (v:=okN 3 [] (smV (D.take j)) i j) rfl];exact A4 (hRk hj (fun h=>Y8 (b:=48) (by assumption) h.2) hb)
theorem c_quotedR (s:List UInt8) (hs:s.length<=100000) (i:Nat) (hi:i<s.length):PC Tryz.prog 136 [.str s,I64 i] (quR i (quA [] (i+1) (quM (s.drop (i+1))))):=by
 refine PC.ofT A6 rfl (Nat.le_of_ble_eq_true rfl) rfl (quR_nl _ _) ?_;have hw0:IntKind.i64.wrap ((i:Int)+1)=((i+1:Nat):Int):=by rw [w64 (by omega) (by omega)];omega
 repeat' ((with_reducible first|refine wr ?_|refine k_cu ?_ ?_|refine wb2 ?_ ?_<;>(intro hb;try simp only [hb])|fail)<;>try simp only [go_sem,seval,hw0])
 refine D6 (fun q:Nat × Option Nat × List UInt8=>[(0,.str s),(1,I64 i),(4,.ptr 0 0),(7,C2 q.2.1 q.2.2.length),(8,I64 q.1)]) (fun q=>D1 (Sym.nil.upd 0 box4) q.2.1 ⟨1,true,bytesC q.2.2⟩)
  (fun q c=>1<=c/\i+1<=q.1/\q.2.2.length<=q.1/\q.1<=s.length+1/\(q.2.1=none->q.2.2=[])/\(∀ i,q.2.1=some i->1<=i/\i<c)/\quA [] (i+1) (quM (s.drop (i+1)))=quA q.2.2 q.1 (quM (s.drop q.1))) (fun q=>s.length+1-q.1) (i+1,none,[])
  (by simp [C5,tm,Tm.upd,C2]) (Sub.refl _) ⟨by simp,by simp,by simp,by simp only;omega,fun _=>rfl,(fun i hi=>by cases hi),rfl⟩ ?_
 rintro ⟨k,o,acc⟩ c ⟨h1c,h1,hal,hk,hno,ho,he⟩;simp only at h1 hal hk hno ho he;simp only;rw [he];have hH0:D1 (Sym.nil.upd 0 box4) o ⟨1,true,bytesC acc⟩ 0=some ⟨0,true,[I64 0,.str [],I64 0,I64 0]⟩:=by rw [F5 (fun i hi=>by have:=ho i hi;omega),A0];rfl
 have hlt0:=r_lentodo (o:=o) (n:=acc.length) (fun e=>by rw [hno e];rfl);by_cases hlt:k<s.length
 ·have hd:decide ((k:Int)<s.length)=true:=by simpa using hlt
  have hg:=List.getElem?_eq_getElem hlt;have hw:IntKind.i64.wrap ((k:Int)+1)=((k+1:Nat):Int):=by rw [w64 (by omega) (by omega)];omega
  have hw2:IntKind.i64.wrap (((k+1:Nat):Int)+1)=((k+2:Nat):Int):=by rw [w64 (by omega) (by omega)];omega
  have hcv:=r_cvtodo (H:=D1 (Sym.nil.upd 0 box4) o ⟨1,true,bytesC acc⟩) (u:=1) hno (fun i hi=>by subst hi;exact A0);have hc0:∀ n:Nat,((s[k].toNat:Int) == (n:Int))=true->s[k].toNat=n:=fun n h=>by have:=beq_iff_eq.1 h;omega
  have hc1:∀ n:Nat,((s[k].toNat:Int) == (n:Int))=false->s[k].toNat≠n:=fun n h h2=>by rw [h2] at h;simp at h
  by_cases hlt2:k+1<s.length
  ·have hd2:decide (((k+1:Nat):Int)≥s.length)=false:=by simp;omega
   have hg2:=List.getElem?_eq_getElem hlt2;have hc2:∀ n:Nat,((s[k+1].toNat:Int) == (n:Int))=true->s[k+1].toNat=n:=fun n h=>by have:=beq_iff_eq.1 h;omega
   have hc3:∀ n:Nat,((s[k+1].toNat:Int) == (n:Int))=false->s[k+1].toNat≠n:=fun n h h2=>by rw [h2] at h;simp at h
   have ne0:=O0 c (c+1) 0 (by omega);have hap:=A3a (X:=Sym.nil.upd 0 box4) hno (fun i hi=>(ho i hi).2) (by omega);repeat' ((with_reducible first|refine wr ?_|refine k_cu ?_ ?_|refine wb2 ?_ ?_<;>(intro hb;try simp only [hb])|fail)<;>try simp only [go_sem,seval,hd,hg,hw,hcv,hlt0,hd2,hg2,hw2,ne0,hap,hH0])
   ·rw [C3 (v:=R2 9 i) rfl];refine A4 ?_;rw [X7 hg (hc0 34 (by assumption)),quR,if_pos (A4w hb)]
   ·rw [C3 (v:=.tup [.agg [I64 4,.str acc,I64 0,I64 i],I64 ((k+1:Nat):Int),I64 0]) rfl];refine A4 ?_;rw [X7 hg (hc0 34 (by assumption)),quR,if_neg (A0o hb)]
   ·rw [C3 (v:=R2 48 i) rfl];refine A4 ?_;rw [A0s hg (hc1 34 (by assumption)) (.inl (by have:=of_decide_eq_true hb;omega))];rfl
   ·rw [C3 (v:=R2 48 i) rfl];refine A4 ?_;rw [A0s hg (hc1 34 (by assumption)) (.inr (by have:=of_decide_eq_true hb;omega))];rfl
   ·rw [C3 (v:=R2 48 i) rfl];refine A4 ?_;rw [A5p hg (hc0 92 (by assumption)) (fun d hd=>by
     rw [hg2] at hd;cases hd;exact ⟨bn_t (b:=34) (by assumption),bn_t (b:=92) hb⟩)];rfl
   ·have hq:=B0a (acc:=acc) hg (hc0 92 (by assumption)) hg2 (.inr (bn_f (b:=92) hb));exact ⟨(k+2,some (c+1),acc++[s[k+1]]),⟨by simp only [List.length_append,List.length_singleton];rfl,rfl⟩,A5j (fun j q=>A5e h1c) (fun i hi=>A5d (by have:=ho i hi;omega)) rfl,inv ⟨by omega,by simp only;omega,by simp;omega,by simp only;omega,(fun h=>by cases h),(fun i hi=>by cases hi;omega),hq⟩,by simp only;omega⟩
   ·have hq:=B0a (acc:=acc) hg (hc0 92 (by assumption)) hg2 (.inl (bn_f (b:=34) hb));exact ⟨(k+2,some (c+1),acc++[s[k+1]]),⟨by simp only [List.length_append,List.length_singleton];rfl,rfl⟩,A5j (fun j q=>A5e h1c) (fun i hi=>A5d (by have:=ho i hi;omega)) rfl,inv ⟨by omega,by simp only;omega,by simp;omega,by simp only;omega,(fun h=>by cases h),(fun i hi=>by cases hi;omega),hq⟩,by simp only;omega⟩
   ·have hq:=A5q (acc:=acc) hg (hc1 34 (by assumption)) (by have:=of_decide_eq_false (by assumption:decide (((s[k].toNat:Int))<32)=false);omega) (by have:=of_decide_eq_false (by assumption:decide (((s[k].toNat:Int))>126)=false);omega) (hc1 92 (by assumption));exact ⟨(k+1,some (c+1),acc++[s[k]]),⟨by simp only [List.length_append,List.length_singleton];rfl,rfl⟩,A5j (fun j q=>A5e h1c) (fun i hi=>A5d (by have:=ho i hi;omega)) rfl,inv ⟨by omega,by simp only;omega,by simp;omega,by simp only;omega,(fun h=>by cases h),(fun i hi=>by cases hi;omega),hq⟩,by simp only;omega⟩
  ·have hd2:decide (((k+1:Nat):Int)≥s.length)=true:=by simp;omega
   have ne0:=O0 c (c+1) 0 (by omega);have hap:=A3a (X:=Sym.nil.upd 0 box4) hno (fun i hi=>(ho i hi).2) (by omega);repeat' ((with_reducible first|refine wr ?_|refine k_cu ?_ ?_|refine wb2 ?_ ?_<;>(intro hb;try simp only [hb])|fail)<;>try simp only [go_sem,seval,hd,hg,hw,hcv,hlt0,hd2,ne0,hap,hH0])
   ·rw [C3 (v:=R2 9 i) rfl];refine A4 ?_;rw [X7 hg (hc0 34 (by assumption)),quR,if_pos (A4w hb)]
   ·rw [C3 (v:=.tup [.agg [I64 4,.str acc,I64 0,I64 i],I64 ((k+1:Nat):Int),I64 0]) rfl];refine A4 ?_;rw [X7 hg (hc0 34 (by assumption)),quR,if_neg (A0o hb)]
   ·rw [C3 (v:=R2 48 i) rfl];refine A4 ?_;rw [A0s hg (hc1 34 (by assumption)) (.inl (by have:=of_decide_eq_true hb;omega))];rfl
   ·rw [C3 (v:=R2 48 i) rfl];refine A4 ?_;rw [A0s hg (hc1 34 (by assumption)) (.inr (by have:=of_decide_eq_true hb;omega))];rfl
   ·rw [C3 (v:=R2 48 i) rfl];refine A4 ?_;rw [A5p hg (hc0 92 (by assumption)) (fun d hd=>by rw [List.getElem?_eq_none (by omega)] at hd;cases hd)];rfl
   ·have hq:=A5q (acc:=acc) hg (hc1 34 (by assumption)) (by have:=of_decide_eq_false (by assumption:decide (((s[k].toNat:Int))<32)=false);omega) (by have:=of_decide_eq_false (by assumption:decide (((s[k].toNat:Int))>126)=false);omega) (hc1 92 (by assumption));exact ⟨(k+1,some (c+1),acc++[s[k]]),⟨by simp only [List.length_append,List.length_singleton];rfl,rfl⟩,A5j (fun j q=>A5e h1c) (fun i hi=>A5d (by have:=ho i hi;omega)) rfl,inv ⟨by omega,by simp only;omega,by simp;omega,by simp only;omega,(fun h=>by cases h),(fun i hi=>by cases hi;omega),hq⟩,by simp only;omega⟩
 ·have hd:decide ((k:Int)<s.length)=false:=by simpa using hlt
  have ne0:=U0 c 0 (by omega);repeat' ((with_reducible first|refine wr ?_|refine k_cu ?_ ?_|refine wb2 ?_ ?_<;>(intro hb;try simp only [hb])|fail)<;>try simp only [go_sem,seval,hd,ne0,hH0])
  rw [C3 (v:=R2 48 i) rfl];refine A4 ?_;rw [qu_end (by omega)];rfl
theorem c_oneR (s:List UInt8) (hs:s.length<=100000) (i:Nat) (hi:i<s.length):PC Tryz.prog 83 [.str s,I64 i] (nxR (A5 (s.drop i)) i):=by
 refine PC.ofT A6 rfl (Nat.le_of_ble_eq_true rfl) rfl (nxR_nl _ _) ?_;have hg:=List.getElem?_eq_getElem hi;have hlt:=c_letterR s[i];have hdg:=c_digitR s[i];obtain ⟨k,t,v,p,n,e,hsh⟩:=nxR_shape (A5 (s.drop i)) i;by_cases hl:ltB s[i]=true
 ·have hw:=c_wordR s (by omega) i hi hl;rw [hsh] at hw ⊢;repeat' ((with_reducible first|refine wr ?_|refine cpc hlt ?_|refine cpc hw ?_|refine k_cu ?_ ?_|refine wb2 ?_ ?_<;>(intro hb;try simp only [hb])|fail)<;>try simp only [go_sem,seval,hl,hg])
  rw [C3 (v:=.tup [.agg [I64 k,.str t,I64 v,I64 p],I64 n,I64 e]) rfl];exact A4 rfl
 have hl0:ltB s[i]=false:=by simpa using hl
 by_cases hd:dgB s[i]=true
 ·have hw:=c_numberR s (by omega) i hi hl0 hd;rw [hsh] at hw ⊢;repeat' ((with_reducible first|refine wr ?_|refine cpc hlt ?_|refine cpc hdg ?_|refine cpc hw ?_|refine k_cu ?_ ?_|refine wb2 ?_ ?_<;>(intro hb;try simp only [hb])|fail)<;>try simp only [go_sem,seval,hl0,hd,hg])
  rw [C3 (v:=.tup [.agg [I64 k,.str t,I64 v,I64 p],I64 n,I64 e]) rfl];exact A4 rfl
 have hd0:dgB s[i]=false:=by simpa using hd
 by_cases hq:s[i].toNat=34
 ·have hw:=c_quotedR s hs i hi;rw [quR_next hg hl0 hd0 hq,hsh] at hw;rw [hsh];have hb34:((s[i].toNat:Int) == 34)=true:=by rw [hq];rfl
  repeat' ((with_reducible first|refine wr ?_|refine cpc hlt ?_|refine cpc hdg ?_|refine cpc hw ?_|refine k_cu ?_ ?_|refine wb2 ?_ ?_<;>(intro hb;try simp only [hb])|fail)<;>try simp only [go_sem,seval,hl0,hd0,hg,hb34])
  rw [C3 (v:=.tup [.agg [I64 k,.str t,I64 v,I64 p],I64 n,I64 e]) rfl];exact A4 rfl
 clear hsh;have hb34:((s[i].toNat:Int) == 34)=false:=by simpa using (fun h=>hq (by omega))
 have hM:A5 (s.drop i)=if D2 (s.drop i)=0 then nxE 47 else ⟨5,(s.drop i).take (D2 (s.drop i)),0,D2 (s.drop i),0⟩:=by
  have hdr:=J9 hg;have:∀ r,s.drop i=s[i] :: r->A5 (s.drop i)=if D2 (s.drop i)=0 then nxE 47 else ⟨5,(s.drop i).take (D2 (s.drop i)),0,D2 (s.drop i),0⟩:=by
   intro r e;rw [e,A5,if_neg hl,if_neg hd,if_neg hq]
  exact this _ hdr
 rw [hM];have hsg:=c_signsR;repeat' ((with_reducible first|refine wr ?_|refine cpc hlt ?_|refine cpc hdg ?_|refine cpc hsg ?_|refine k_cu ?_ ?_|refine wb2 ?_ ?_<;>(intro hb;try simp only [hb])|fail)<;>try simp only [go_sem,seval,hl0,hd0,hg,hb34])
 have hlen:P0.length=21:=rfl;refine D6 (fun k:Nat=>[(0,.str s),(1,I64 i),(4,.ptr 0 0),(8,.lst (P0.map DV.str)),(9,I64 k)]) (fun _=>Sym.nil.upd 0 ⟨0,true,[I64 0,.str [],I64 0,I64 0]⟩) (fun k _=>k<=P0.length/\∀ j,j<k->A3z (P0.getD j []) (s.drop i)=false) (fun k=>P0.length-k) 0 (by simp [C5,tm,Tm.upd]) (Sub.refl _) (by simp) ?_;rintro k c ⟨hk,he⟩;by_cases hkl:k<P0.length
 ·have hd:decide ((k:Int)<P0.length)=true:=by simpa using hkl
  have hgk:=List.getElem?_eq_getElem hkl;have hget:P0.getD k []=P0[k]:=by rw [List.getD_eq_getElem?_getD,hgk];rfl
  have hw:IntKind.i64.wrap ((k:Int)+1)=((k+1:Nat):Int):=by rw [w64 (by omega) (by omega)];omega
  obtain ⟨L,hL⟩:∃ L,L=P0[k]:=⟨_,rfl⟩;rw [<- hL] at hgk hget;have hLl:1<=L.length/\L.length<=2:=by
   have:∀ x∈P0,1<=x.length/\x.length<=2:=by decide
   rw [hL];exact this _ (List.getElem_mem hkl)
  have hw1:IntKind.i64.wrap ((s.length:Int)-i)=((s.length-i:Nat):Int):=by rw [w64 (by omega) (by omega)];omega
  have hw2:IntKind.i64.wrap ((i:Int)+L.length)=((i+L.length:Nat):Int):=by rw [w64 (by omega) (by omega)];omega
  have hnext:A3z L (s.drop i)=false->A5b (fun k _=>k<=P0.length/\∀ j,j<k->A3z (P0.getD j []) (s.drop i)=false) (k+1) c:=fun h=>inv ⟨hkl,fun j hj=>by
   by_cases e:j=k
   ·rw [e,hget];exact h
   ·exact he j (by omega)⟩
  by_cases hln:L.length<=s.length-i
  ·have hd2:decide (((s.length-i:Nat):Int)≥L.length)=true:=by simp only [decide_eq_true_eq];omega
   have hsx:=slx_take (s:=s) (i:=i) (n:=L.length) (by omega);have hpr:A3z L (s.drop i)=((s.drop i).take L.length == L):=by
    unfold A3z;rw [decide_eq_true (by rw [List.length_drop];exact hln),Bool.true_and]
   repeat' ((with_reducible first|refine wr ?_|refine k_cu ?_ ?_|refine wb2 ?_ ?_<;>(intro hb;try simp only [hb])|fail)<;>try simp only [go_sem,seval,hd,hgk,hw,hw1,hw2,hd2,hsx])
   ·have hp:=hpr.trans hb;have:=sgn_found (s:=s.drop i) (k:=k) (by omega) he (by rw [hget];exact hp);rw [hget] at this;rw [C3 (v:=okN 5 L 0 i L.length) rfl];refine A4 ?_;rw [this.1,if_neg (by omega),A6w, <- this.2]
   ·exact ⟨k+1,rfl,Sub.refl _,hnext (hpr.trans hb),by omega⟩
  ·have hd2:decide (((s.length-i:Nat):Int)≥L.length)=false:=by simp only [decide_eq_false_iff_not];omega
   repeat' ((with_reducible first|refine wr ?_|refine k_cu ?_ ?_|refine wb2 ?_ ?_<;>(intro hb;try simp only [hb])|fail)<;>try simp only [go_sem,seval,hd,hgk,hw,hw1,hd2])
   exact ⟨k+1,rfl,Sub.refl _,hnext (by unfold A3z;rw [decide_eq_false (by rw [List.length_drop];exact hln),Bool.false_and]),by omega⟩
 ·have hd:decide ((k:Int)<P0.length)=false:=by simpa using hkl
  repeat' ((with_reducible first|refine wr ?_|refine k_cu ?_ ?_|refine wb2 ?_ ?_<;>(intro hb;try simp only [hb])|fail)<;>try simp only [go_sem,seval,hd])
  rw [C3 (v:=R2 47 i) rfl];refine A4 ?_;rw [if_pos (sgn_none fun j hj=>he j (by omega)),A3d (by decide)]
theorem c_ScanR (s:List UInt8) (hs:s.length<=1000000000):PC Tryz.prog 44 [.str s] (scanV (B4 s)):=by
 refine PC.ofT A6 rfl (Nat.le_of_ble_eq_true rfl) rfl (scanV_nl _) ?_;have hsk:=c_skipR s hs 0 (by omega);rw [List.drop_zero,Nat.zero_add] at hsk;by_cases h20:20000<s.length
 ·have hd0:decide ((s.length:Int)>20000)=true:=by simp;omega
  have hM:B4 s=([],0,9):=if_pos h20;rw [hM];repeat' ((with_reducible first|refine wr ?_|refine k_cu ?_ ?_|refine wb2 ?_ ?_<;>(intro hb;try simp only [hb])|fail)<;>try simp only [go_sem,seval,hd0])
  exact A2z
 have hd0:decide ((s.length:Int)>20000)=false:=by simp;omega
 have hM:B4 s=G2 (s.length+1) s (skM false s) []:=if_neg h20;rw [hM];have hle0:=T6 false s;repeat' ((with_reducible first|refine wr ?_|refine cpc hsk ?_|refine k_cu ?_ ?_|refine wb2 ?_ ?_<;>(intro hb;try simp only [hb])|fail)<;>try simp only [go_sem,seval,hd0])
 refine D6 (fun q:Nat × Nat × Option Nat × List Tok=>[(0,.str s),(5,C2 q.2.2.1 q.2.2.2.length),(6,I64 q.2.1)]) (fun q=>D1 Sym.nil q.2.2.1 ⟨4,true,A7 (q.2.2.2.map Tok.v)⟩)
  (fun q c=>q.2.1<=s.length/\s.length<q.1+q.2.1/\q.2.2.2.length<=q.2.1/\(q.2.2.1=none->q.2.2.2=[])/\(∀ i,q.2.2.1=some i->i<c)/\G2 (s.length+1) s (skM false s) []=G2 q.1 s q.2.1 q.2.2.2) (fun q=>q.1) (s.length+1,skM false s,none,[])
  (by simp [C5,tm,Tm.upd,C2]) (Sub.nil _) ⟨by simp only;omega,by simp only;omega,by simp,fun _=>rfl,(fun i hi=>by cases hi),rfl⟩ ?_
 rintro ⟨f,at_,o,acc⟩ c ⟨h1,hf,hal,hno,ho,he⟩;simp only at h1 hf hal hno ho he;simp only;rw [he];by_cases hlt:at_<s.length
 ·have hd:decide ((at_:Int)<s.length)=true:=by simpa using hlt
  have hnx:=c_oneR s (by omega) at_ hlt;obtain ⟨f,rfl⟩:∃ g,f=g+1:=⟨f-1,by omega⟩;by_cases hz:(A5 (s.drop at_)).err=0
  ·have hn:=A1n hz;rw [List.length_drop] at hn;have hst:G2 (f+1) s at_ acc=G2 f s (at_+(A5 (s.drop at_)).n+skM false (s.drop (at_+(A5 (s.drop at_)).n))) (acc++[⟨(A5 (s.drop at_)).kind,(A5 (s.drop at_)).text,(A5 (s.drop at_)).value,(at_:Int)⟩]):=by
    rw [G2,if_neg (by omega),if_neg (by simpa using hz)]
   rw [hst];obtain ⟨x,hx⟩:∃ x,x=A5 (s.drop at_):=⟨_,rfl⟩;rw [<- hx] at hnx hz hn ⊢;rw [nxR,if_pos hz,okN] at hnx;have hsk2:=c_skipR s hs (at_+x.n) (by omega);have hkl:=T6 false (s.drop (at_+x.n));rw [List.length_drop] at hkl;obtain ⟨z,hzz⟩:∃ z,z=skM false (s.drop (at_+x.n)):=⟨_,rfl⟩;rw [<- hzz] at hsk2 hkl ⊢;have ne0:=O0 c (c+1) (c+2) (by omega);repeat' ((with_reducible first|refine wr ?_|refine cpc hnx ?_|refine cpc hsk2 ?_|refine k_cu ?_ ?_|refine wb2 ?_ ?_<;>(intro hb;try simp only [hb])|fail)<;>try simp only [go_sem,seval,hd,ne0])
   refine D4 (F7 (cs:=A7 (acc.map Tok.v)) (fun e=>by rw [hno e];exact ⟨rfl,rfl⟩) (fun i hi=>?_) (by rw [C8 (u:=4) (K1 _)];simp) (by omega) (by omega) (by omega)) ?_
   ·have:=ho i hi;rw [A2 (by omega),A2 (by omega),A2 (by omega)];exact A0u hi
   simp only [go_sem,seval,ne0];repeat' ((with_reducible first|refine wr ?_|refine cpc hnx ?_|refine cpc hsk2 ?_|refine k_cu ?_ ?_|refine wb2 ?_ ?_<;>(intro hb;try simp only [hb])|fail)<;>try simp only [go_sem,seval,hd,ne0])
   exact ⟨(f,at_+x.n+z,some (c+1+1),acc++[⟨x.kind,x.text,x.value,(at_:Int)⟩]),⟨by simp only [List.length_append,List.length_singleton];rfl,rfl⟩,
    H8 (by simp only [List.map_append,F0];rfl),inv ⟨by simp only;omega,by simp only;omega,by simp only [List.length_append,List.length_singleton];omega,(fun h=>by cases h),(fun i hi=>by cases hi;omega),rfl⟩,by simp only;omega⟩
  ·have hst:G2 (f+1) s at_ acc=([],(at_:Int),(A5 (s.drop at_)).err):=by
    rw [G2,if_neg (by omega),if_pos hz]
   rw [hst];obtain ⟨x,hx⟩:∃ x,x=A5 (s.drop at_):=⟨_,rfl⟩;rw [<- hx] at hnx hz ⊢;rw [nxR,if_neg hz,R2] at hnx;have hz':(x.err != 0)=true:=by simpa using hz
   have ne0:=U0 c (c+1) (by omega);repeat' ((with_reducible first|refine wr ?_|refine cpc hnx ?_|refine k_cu ?_ ?_|refine wb2 ?_ ?_<;>(intro hb;try simp only [hb])|fail)<;>try simp only [go_sem,seval,hd,hz',ne0])
   exact A2z
 ·have hd:decide ((at_:Int)<s.length)=false:=by simpa using hlt
  repeat' ((with_reducible first|refine wr ?_|refine k_cu ?_ ?_|refine wb2 ?_ ?_<;>(intro hb;try simp only [hb])|fail)<;>try simp only [go_sem,seval,hd])
  have hM2:G2 f s at_ acc=(acc,0,0):=by
   cases f with
   | zero=>rfl
   | succ f=>rw [G2,if_pos (by omega)]
  rw [hM2];exact pc_todo3 (fun e=>by rw [hno e];rfl) (by simp) (K1 acc)
theorem c_IsNameR (s:List UInt8) (hs:s.length<=1000000000):PC Tryz.prog 150 [.str s] (.bool (C4 s)):=by
 refine PC.ofT A6 rfl (Nat.le_of_ble_eq_true rfl) (by simp [DV.nlL,DV.nl]) (by simp [DV.nlL,DV.nl]) ?_;have hw:=c_IsWordR s;cases s with
 | nil =>
  repeat' ((with_reducible first|refine wr ?_|refine k_cu ?_ ?_|refine wb2 ?_ ?_<;>(intro hb;try simp only [hb])|fail)<;>try simp only [go_sem,seval])
  exact A4 rfl
 | cons c r =>
  have hx:A4v (DV.str (c :: r)) (.int .i64 0)=some (.int .u8 (c.toNat:Int)):=rfl;have hlt:=c_letterR c;have hd1:decide (((r.length+1:Nat):Int)<1)=false:=by simp;omega
  have hN:C4 (c :: r)=(decide ((r.length+1)<=12) && ltB c && decide (B8 ptB (c :: r)=r.length+1) && !C9 (c :: r)):=by
   simp [C4]
  rw [hN];have hN2:∀ b:Bool,decide (((r.length+1:Nat):Int)>12)=b->decide ((r.length+1)<=12) = !b:=by
   intro b hb;subst hb;rw [Bool.eq_iff_iff];simp;omega
  obtain ⟨dd,hdd⟩:∃ dd,dd=decide ((r.length+1)<=12):=⟨_,rfl⟩;rw [<- hdd] at hN2 ⊢;obtain ⟨ee,hee⟩:∃ ee,ee=decide (B8 ptB (c :: r)=r.length+1):=⟨_,rfl⟩;rw [<- hee];obtain ⟨ff,hff⟩:∃ ff,ff=C9 (c :: r):=⟨_,rfl⟩;rw [<- hff] at hw ⊢;repeat' ((with_reducible first|refine wr ?_|refine cpc hw ?_|refine cpc hlt ?_|refine k_cu ?_ ?_|refine wb2 ?_ ?_<;>(intro hb;try simp only [hb])|fail)<;>try simp only [go_sem,seval,hx,hd1])
  ·refine A4 (congrArg DV.bool ?_);rw [hN2 _ hb];rfl
  ·refine A4 (congrArg DV.bool ?_);have:ltB c=false:=by simpa using hb
   rw [this];simp
  ·refine A4 (congrArg DV.bool ?_);simp
  ·have hN3:=hN2 _ (by assumption);have hl:ltB c=true:=by simpa using (by assumption:(!ltB c)=false)
   rw [hN3,hl];refine D6 (fun k:Nat=>[(0,.str (c :: r)),(3,I64 k)]) (fun _=>nil) (fun k _=>k<=(c :: r).length/\k<=B8 ptB (c :: r)) (fun k=>(c :: r).length-k) 0 (by simp [C5,tm,Tm.upd]) (Sub.nil _) (by simp) ?_;rintro k cc ⟨hk,he⟩;have hsl:=O9 ptB (c :: r);have hS:(c :: r).length=r.length+1:=rfl;by_cases hlt2:k<(c :: r).length
   ·have hd:decide ((k:Int)<((r.length+1:Nat):Int))=true:=by simp only [decide_eq_true_eq];omega
    have hg:=List.getElem?_eq_getElem hlt2;have hw:IntKind.i64.wrap ((k:Int)+1)=((k+1:Nat):Int):=by rw [w64 (by omega) (by omega)];omega
    have hst:=A5l hg he;obtain ⟨x,hxx⟩:∃ x,x=(c :: r)[k]:=⟨_,rfl⟩;rw [<- hxx] at hg hst;have h1:=c_letterR x;have h2:=c_digitR x;obtain ⟨L,hL⟩:∃ L,L=c :: r:=⟨_,rfl⟩;have hd3:decide ((k:Int)<(L.length:Int))=true:=by rw [hL];exact hd
    rw [<- hL] at hg hst hk he hsl hee ⊢;by_cases hp:ptB x=true
    ·have hgo:∃ b,DV.int IntKind.i64 ((k+1:Nat):Int)=I64 ((b:Nat):Int)/\Sym.Sub Sym.nil Sym.nil/\A5b (fun k _=>k<=L.length/\k<=B8 ptB L) b cc/\L.length-b<L.length-k :=
      ⟨k+1,rfl,Sub.refl _,inv ⟨by rw [hL];exact hlt2,hst.1 hp⟩,by rw [hL];omega⟩
     simp only [ptB,Bool.or_eq_true,decide_eq_true_eq] at hp;repeat' ((with_reducible first|refine wr ?_|refine cpc h1 ?_|refine cpc h2 ?_|refine k_cu ?_ ?_|refine wb2 ?_ ?_<;>(intro hb;try simp only [hb])|fail)<;>try simp only [go_sem,seval,hd3,hg,hw])
     ·exfalso;have p1:ltB x=false:=by simpa using (by assumption:(!ltB x)=true)
      have p2:dgB x=false:=by simpa using (by assumption:(!dgB x)=true)
      have p3:=bn_t (b:=95) hb;rw [p1,p2] at hp;rcases hp with (hp|hp)|hp
      ·cases hp
      ·cases hp
      ·exact p3 hp
     ·exact hgo
     ·exact hgo
     ·exact hgo
    ·have hp':ptB x=false:=by simpa using hp
     have hj:=hst.2 hp';simp only [ptB,Bool.or_eq_false_iff,decide_eq_false_iff_not] at hp';obtain ⟨⟨q1,q2⟩,q3⟩:=hp';have q4:((x.toNat:Int) != 95)=true:=by simp;omega
     repeat' ((with_reducible first|refine wr ?_|refine cpc h1 ?_|refine cpc h2 ?_|refine k_cu ?_ ?_|refine wb2 ?_ ?_<;>(intro hb;try simp only [hb])|fail)<;>try simp only [go_sem,seval,hd3,hg,hw,q1,q2,q4])
     refine A4 (congrArg DV.bool ?_);rw [hee,hj,decide_eq_false];have:L.length=r.length+1:=by rw [hL];rfl
     have:k<L.length:=by rw [hL];exact hlt2
     omega
   ·have hd:decide ((k:Int)<((r.length+1:Nat):Int))=false:=by simp only [decide_eq_false_iff_not];omega
    repeat' ((with_reducible first|refine wr ?_|refine k_cu ?_ ?_|refine wb2 ?_ ?_<;>(intro hb;try simp only [hb])|fail)<;>try simp only [go_sem,seval,hd])
    refine A4 (congrArg DV.bool ?_);rw [hee,decide_eq_true (by omega)]
end Go.Proofs.YthlpinppaclofaaGreatDoor
namespace Go.Pb
variable [Go.Sym.Tab]
open Go.Sym
def T0:Tok:=⟨0,[],0,0⟩
theorem A8n:∀ (f:Nat) (s:List UInt8) (k:Nat) (acc:List Tok),acc.length<=k->k<=s.length->(G2 f s k acc).1.length<=s.length
 | 0,s,k,acc,h1,h2=>by simp only [G2];omega
 | f+1,s,k,acc,h1,h2=>by
  rw [G2];split
  ·simp only;omega
  ·split
   ·simp
   ·rename_i h3 h4;have h4:(A5 (s.drop k)).err=0:=by simpa using h4
    have hn:=A1n h4;rw [List.length_drop] at hn;have hk:=T6 false (s.drop (k+(A5 (s.drop k)).n));rw [List.length_drop] at hk;exact A8n f s _ _ (by rw [List.length_append,List.length_singleton];omega) (by omega)
theorem A8o (s:List UInt8):(B4 s).1.length<=s.length:=by
 unfold B4;split
 ·simp
 ·have:=T6 false s;exact A8n _ _ _ _ (by simp) this
end Go.Pb
namespace Go.Pb
variable [Go.Sym.Tab]
open Go.Sym
def B0v (c:UInt8):Bool:=S3 c || decide (c.toNat=35)
theorem U4 {c:UInt8} (h:B0v c=true):c.toNat=9\/c.toNat=10\/c.toNat=13\/c.toNat=32\/c.toNat=35:=by
 simp only [B0v,S3,Bool.or_eq_true,decide_eq_true_eq] at h;omega
theorem end_lt {c:UInt8} (h:B0v c=true):ltB c=false:=by
 have:=U4 h;simp only [ltB];simp;omega
theorem end_dg {c:UInt8} (h:B0v c=true):dgB c=false:=by
 have:=U4 h;simp only [dgB];simp;omega
theorem end_two1 {c d:UInt8} (h:B0v c=true):A2w c d=false:=by
 have:=U4 h;unfold A2w;rw [Bool.eq_false_iff];intro h2;simp at h2;omega
theorem end_one {c:UInt8} (h:B0v c=true):A0v c=false:=by
 have:=U4 h;unfold A0v;rw [Bool.eq_false_iff];intro h2;simp at h2;omega
theorem end_34 {c:UInt8} (h:B0v c=true):¬ c.toNat=34:=by
 have:=U4 h;omega
theorem qu_loc (r:List UInt8):∀ {s t:List UInt8} {n:Nat},quM s=some (t,n)->quM (s.take n++r)=some (t,n)
 | [],t,n,h=>by simp [quM] at h
 | c :: q,t,n,h=>by
  rw [I1] at h;by_cases h1:c.toNat=34
  ·rw [if_pos h1] at h;cases h;rw [List.take_succ_cons,List.cons_append,I1,if_pos h1]
  ·rw [if_neg h1] at h;by_cases h2:c.toNat<32\/126<c.toNat
   ·rw [if_pos h2] at h;cases h
   ·rw [if_neg h2] at h;by_cases h3:c.toNat=92
    ·rw [if_pos h3] at h;cases q with
     | nil=>cases h
     | cons d q =>
      simp only at h;by_cases h4:d.toNat=34\/d.toNat=92
      ·rw [if_pos h4] at h;obtain ⟨⟨t',n'⟩,g1,g2⟩:=Option.map_eq_some_iff.1 h;have ih:=qu_loc r g1;cases g2;rw [List.take_succ_cons,List.take_succ_cons,List.cons_append,List.cons_append,I1,if_neg h1,if_neg h2,if_pos h3];simp only;rw [if_pos h4,ih];rfl
      ·rw [if_neg h4] at h;cases h
    ·rw [if_neg h3] at h;obtain ⟨⟨t',n'⟩,g1,g2⟩:=Option.map_eq_some_iff.1 h;have ih:=qu_loc r g1;cases g2;rw [List.take_succ_cons,List.cons_append,I1,if_neg h1,if_neg h2,if_neg h3,ih];rfl
theorem take_app {α : Type} {s r:List α} {n:Nat} (h:n<=s.length):(s.take n++r).take n=s.take n:=by
 have hl:(s.take n).length=n:=by rw [List.length_take];omega
 exact List.take_left' hl
theorem next_sk {s:List UInt8} (h:(A5 s).err=0):skM false s=0:=by
 cases s with
 | nil=>rfl
 | cons c q =>
  by_cases he:B0v c=true
  ·have hs:D2 (c :: q)=0:=by
    cases q with
    | nil=>simp only [D2];rw [if_neg (by rw [end_one he];simp)]
    | cons d q=>simp only [D2];rw [if_neg (by rw [end_two1 he];simp),if_neg (by rw [end_one he];simp)]
   rw [A5,if_neg (by rw [end_lt he];simp),if_neg (by rw [end_dg he];simp),if_neg (end_34 he),if_pos hs] at h;simp [nxE] at h
  ·have he:S3 c=false/\¬ c.toNat=35:=by simpa [B0v] using he
   simp only [skM];rw [if_neg (by rw [he.1];simp),if_neg he.2]
def I5 (t:Tok):List UInt8:=if t.kind=1\/t.kind=2\/t.kind=5 then t.text else if t.kind=3 then G5 t.value else if t.kind=4 then R5 t.text else []
def nxT (x:Nx) (p:Int):Tok:=⟨x.kind,x.text,x.value,p⟩
theorem numV_app (s:List UInt8) (c:UInt8):J7 (s++[c])=10 * J7 s+(c.toNat-48):=by
 unfold J7;rw [List.foldl_append];rfl
def Z1 (s:List UInt8):Nat->List Tok->Prop
 | k,[]=>s.length<=k
 | k,t :: l=>k<s.length/\(A5 (s.drop k)).err=0/\t=nxT (A5 (s.drop k)) (k:Int)/\Z1 s (k+(A5 (s.drop k)).n+skM false (s.drop (k+(A5 (s.drop k)).n))) l
theorem A4n:∀ (f:Nat) (s:List UInt8) (k:Nat) (acc:List Tok),s.length+1<=k+f->(G2 f s k acc).2.2=0->∃ l,(G2 f s k acc).1=acc++l/\Z1 s k l
 | 0,s,k,acc,hf,h=>⟨[],by simp [G2],by show s.length<=k;omega⟩
 | f+1,s,k,acc,hf,h=>by
  rw [G2] at h ⊢;by_cases h1:s.length<=k
  ·rw [if_pos h1];exact ⟨[],by simp,h1⟩
  ·rw [if_neg h1] at h ⊢;by_cases h2:(A5 (s.drop k)).err=0
   ·rw [if_neg (by simpa using h2)] at h ⊢;have hn:=A1n h2;obtain ⟨l,e,hr⟩:=A4n f s _ _ (by omega) h;exact ⟨_ :: l,by rw [e,List.append_assoc];rfl,by omega,h2,rfl,hr⟩
   ·rw [if_pos h2] at h;exact absurd h h2
theorem A4o:∀ (f:Nat) (s:List UInt8) (k:Nat) (acc l:List Tok),s.length+1<=k+f->Z1 s k l->G2 f s k acc=(acc++l,0,0)
 | 0,s,k,acc,l,hf,h=>by
  cases l with
  | nil=>simp [G2]
  | cons t l=>have:=h.1;omega
 | f+1,s,k,acc,[],hf,h=>by
  rw [G2,if_pos (show s.length<=k from h)];simp
 | f+1,s,k,acc,t :: l,hf,h=>by
  obtain ⟨h1,h2,h3,h4⟩:=h;have hn:=A1n h2;rw [G2,if_neg (by omega),if_neg (by simpa using h2),A4o f s _ _ l (by omega) h4,h3,List.append_assoc];rfl
theorem A0r {s:List UInt8} (h:(B4 s).2.2=0):s.length<=20000/\Z1 s (skM false s) (B4 s).1:=by
 unfold B4 at h ⊢;by_cases h1:20000<s.length
 ·rw [if_pos h1] at h;cases h
 ·rw [if_neg h1] at h ⊢;have:=T6 false s;obtain ⟨l,e,hr⟩:=A4n _ s _ [] (by omega) h;rw [e];exact ⟨by omega,hr⟩
theorem reads_scanM {s:List UInt8} {l:List Tok} (h1:s.length<=20000) (h:Z1 s (skM false s) l):B4 s=(l,0,0):=by
 unfold B4;rw [if_neg (by omega),A4o _ s _ [] l (by omega) h];rfl
def TOk (t:Tok):Prop:=∃ s p,(A5 s).err=0/\t=nxT (A5 s) p
theorem Z1.ok {s:List UInt8}:∀ {k:Nat} {l:List Tok},Z1 s k l->∀ t∈l,TOk t
 | k,[],_,t,h=>by cases h
 | k,x :: l,h,t,ht=>by
  rcases List.mem_cons.1 ht with rfl|ht
  ·exact ⟨_,_,h.2.1,h.2.2.1⟩
  ·exact Z1.ok h.2.2.2 t ht
def sumT (l:List Tok):Nat:=(l.map fun t=>(I5 t).length).sum
def P7 (sp:Nat->List UInt8):Nat->List Tok->List UInt8
 | _,[]=>[]
 | i,t :: l=>sp i++I5 t++P7 sp (i+1) l
theorem glue_app (sp:Nat->List UInt8) (t:Tok):∀ (l:List Tok) (i:Nat),P7 sp i (l++[t])=P7 sp i l++sp (i+l.length)++I5 t
 | [],i=>by simp [P7]
 | x :: l,i=>by
  simp only [List.cons_append,P7];rw [glue_app sp t l (i+1),show i+1+l.length=i+(x :: l).length by simp;omega];simp only [List.append_assoc]
theorem glue_step {sp:Nat->List UInt8} {l:List Tok} {k:Nat} {t:Tok} (h:l[k]? = some t):P7 sp 0 (l.take (k+1))=P7 sp 0 (l.take k)++sp k++I5 t:=by
 have hk:=(List.getElem?_eq_some_iff.1 h).1;rw [List.take_add_one,h,Option.toList_some,glue_app,List.length_take,show 0+min k l.length=k by omega]
theorem glue_len {sp:Nat->List UInt8} {m:Nat} (h:∀ i,(sp i).length<=m):∀ (l:List Tok) (i:Nat),(P7 sp i l).length<=m * l.length+sumT l
 | [],i=>by simp [P7]
 | t :: l,i=>by
  have ih:=glue_len h l (i+1);have hi:=h i;simp only [P7,List.length_append,sumT,List.map_cons,List.sum_cons,List.length_cons,Nat.mul_succ] at ih ⊢;omega
end Go.Pb
namespace Go.Pb
variable [Go.Sym.Tab]
open Go.Sym
def spB (i:Nat):List UInt8:=if i=0 then [] else [32]
def O4 (l:List Tok):List UInt8:=P7 spB 0 l
theorem spB_len (i:Nat):(spB i).length<=1:=by unfold spB;split<;>simp
theorem A8p (s:List UInt8):(R5 s).length<=2 * s.length+2:=by
 have:=A6p s;unfold R5;rw [List.length_append,List.length_singleton];omega
def Fit (t:Tok):Prop:=t.text.length<=100000/\I6 t.value
theorem oneT_len {t:Tok} (h:Fit t):(I5 t).length<=200024:=by
 have h1:=A8p t.text;have h2:=N6 h.2.1 h.2.2;have h3:=h.1;unfold I5;split
 ·omega
 ·split
  ·omega
  ·split
   ·omega
   ·simp
theorem sumT_le:∀ {l:List Tok},(∀ t∈l,Fit t)->sumT l<=200024 * l.length
 | [],_=>by simp [sumT]
 | t :: l,h=>by
  have h1:=oneT_len (h t List.mem_cons_self);have h2:=sumT_le (l:=l) fun x hx=>h x (List.mem_cons_of_mem _ hx);simp only [sumT,List.map_cons,List.sum_cons,List.length_cons] at h2 ⊢;omega
theorem A3v {l:List Tok} (h:∀ t∈l,Fit t):(O4 l).length<=200025 * l.length:=by
 have h1:=glue_len spB_len l 0;have h2:=sumT_le h;unfold O4;omega
theorem A9c:∀ (l:List Tok) (i:Nat),1<=i->P7 spB i l=Lib.joinTail [32] (l.map I5)
 | [],i,_=>rfl
 | t :: l,i,h=>by
  have ih:=A9c l (i+1) (by omega);simp only [P7,ih,Lib.joinTail,List.map_cons,List.flatten_cons];rw [spB,if_neg (by omega)]
theorem X3 (l:List Tok):Lib.join (l.map I5) [32]=O4 l:=by
 cases l with
 | nil=>rfl
 | cons t l =>
  rw [List.map_cons,Lib.join_cons,O4,P7,A9c l 1 (by omega),spB,if_pos rfl];simp
theorem A9u {s:List UInt8} (h:(B4 s).2.2=0):∀ t∈(B4 s).1,TOk t:=(A0r h).2.ok
end Go.Pb
namespace Go.Proofs.YthlpinppaclofaaGreatDoor
open Go.Eng (IC IOper DReg IFn B5 G0)
open Go.Sym Go.Pb Go.RowKit
theorem c_Dec:∀ (m:Nat) (n:Int),n.natAbs<m -> -9223372036854775808<=n->n<=9223372036854775807->PC Tryz.prog 42 [I64 n] (.str (G5 n)):=by
 intro m
 induction m with
 | zero=>intro n h;omega
 | succ m ih =>
  intro n h h1 h2;have b:=dig_u8 (d:=R0 n) (lo10_lt n);have hl:=lo10_lt n;by_cases h0:n<0
  ·have hd:decide (n<0)=true:=by simpa using h0
   have e1:=neg_div h0;have e2:=neg_mod h0;have hh:=hi10_le (n:=n) (by omega);have w1:=w64 (n := -((V0 n:Nat):Int)) (by omega) (by omega);have w2:=w64 (n:=0 - -((R0 n:Nat):Int)) (by omega) (by omega);have w3:0 - -((R0 n:Nat):Int)=(R0 n:Int):=by omega
   rw [w3] at w2;have hlen:=N6 (n := -((V0 n:Nat):Int)) (by omega) (by omega);have a0:=N9 (s:=G5 (-((V0 n:Nat):Int))) (t:=[S8 (R0 n)]) (by simp;omega);have a2:V5 (nil.upd 5 ⟨1,true,[DV.int .u8 ((S8 (R0 n)).toNat:Int)]⟩) (.slc 5 0 1)=some (.str [S8 (R0 n)]):=A2q A0 rfl rfl;have a1:=N9 (s:=[45]) (t:=[S8 (R0 n)]) (by simp);refine PC.ofT A6 rfl (Nat.le_of_ble_eq_true rfl) (by simp [DV.nlL,DV.nl]) (by simp [DV.nlL,DV.nl]) ?_;repeat' ((first|(with_reducible first|refine wr ?_|refine cpc (ih (-((V0 n:Nat):Int)) (by omega) (by omega) (by omega)) ?_|refine k_cu ?_ ?_)|(with_reducible refine wb2 ?_ ?_<;>(intro hb;try simp only [hb]))|((with_reducible refine k_val (A2q (l:=[S8 (R0 n)]) A0 rfl rfl) ?_))|fail)<;>try simp only [go_sem,seval,hd,A6o,r_quo,e1,e2,w1,w3,w2,b,a0,a1,a2])
   ·rw [decI_neg0 h0 (by simpa using hb)];exact A4 rfl
   ·rw [decI_neg h0 (by simpa using hb)];exact A4 rfl
  ·have hd:decide (n<0)=false:=by simpa using h0
   have e1:=pos_div (n:=n) (by omega);have e2:=pos_mod (n:=n) (by omega);have hh:V0 n<=n.natAbs:=by unfold V0;omega
   have w1:=w64 (n:=((V0 n:Nat):Int)) (by omega) (by omega);have hlen:=N6 (n:=((V0 n:Nat):Int)) (by omega) (by omega);have a0:=N9 (s:=G5 ((V0 n:Nat):Int)) (t:=[S8 (R0 n)]) (by simp;omega);by_cases h9:n<10
   ·have hd9:decide (n<10)=true:=by simpa using h9
    refine PC.ofT A6 rfl (Nat.le_of_ble_eq_true rfl) (by simp [DV.nlL,DV.nl]) (by simp [DV.nlL,DV.nl]) ?_;repeat' ((first|(with_reducible first|refine wr ?_|refine k_cu ?_ ?_)|(with_reducible refine wb2 ?_ ?_<;>(intro hb;try simp only [hb]))|((with_reducible refine k_val (A2q (l:=[S8 (R0 n)]) A0 rfl rfl) ?_))|fail)<;>try simp only [go_sem,seval,hd,hd9,A6o,r_quo,e1,e2,w1,b])
    rw [decI_lt (by omega) h9];exact A4 rfl
   ·have hd9:decide (n<10)=false:=by simpa using h9
    have hh:=hi10_le (n:=n) (by omega);refine PC.ofT A6 rfl (Nat.le_of_ble_eq_true rfl) (by simp [DV.nlL,DV.nl]) (by simp [DV.nlL,DV.nl]) ?_;repeat' ((first|(with_reducible first|refine wr ?_|refine cpc (ih ((V0 n:Nat):Int) (by omega) (by omega) (by omega)) ?_|refine k_cu ?_ ?_)|(with_reducible refine wb2 ?_ ?_<;>(intro hb;try simp only [hb]))|((with_reducible refine k_val (A2q (l:=[S8 (R0 n)]) A0 rfl rfl) ?_))|fail)<;>try simp only [go_sem,seval,hd,hd9,A6o,r_quo,e1,e2,w1,b,a0])
    rw [decI_ge h9];exact A4 rfl
theorem c_Dec' (n:Int) (h1 : -9223372036854775808<=n) (h2:n<=9223372036854775807):PC Tryz.prog 42 [I64 n] (.str (G5 n)):=c_Dec (n.natAbs+1) n (by omega) h1 h2
theorem c_QuoteR (s:List UInt8) (hs:s.length<=100000):PC Tryz.prog 103 [.str s] (.str (R5 s)):=by
 refine PC.ofT A6 rfl (Nat.le_of_ble_eq_true rfl) (by simp [DV.nlL,DV.nl]) (by simp [DV.nlL,DV.nl]) ?_;repeat' ((with_reducible first|refine wr ?_|refine k_cu ?_ ?_|refine wb2 ?_ ?_<;>(intro hb;try simp only [hb])|fail)<;>try simp only [go_sem,seval])
 refine D6 (fun q:Nat × Nat=>[(0,.str s),(3,.slc q.2 0 (A0n (s.take q.1)).length),(4,I64 q.1)]) (fun q=>Sym.nil.upd q.2 ⟨1,true,bytesC (A0n (s.take q.1))⟩)
  (fun q c=>q.1<=s.length/\q.2<c) (fun q=>s.length-q.1) (0,0) (by simp [C5,tm,Tm.upd,A0n]) (Sub.refl _) (by simp) ?_
 rintro ⟨k,id⟩ c ⟨hk,hid⟩;simp only at hk hid;simp only;have hal:(A0n (s.take k)).length<=2 * k+1:=by
  have:=A6p (s.take k);rw [List.length_take] at this;omega
 obtain ⟨acc,hacc⟩:∃ acc,acc=A0n (s.take k):=⟨_,rfl⟩;rw [<- hacc] at hal ⊢;by_cases hlt:k<s.length
 ·have hd:decide ((k:Int)<s.length)=true:=by simpa using hlt
  have hg:=List.getElem?_eq_getElem hlt;have hw:IntKind.i64.wrap ((k:Int)+1)=((k+1:Nat):Int):=by rw [w64 (by omega) (by omega)];omega
  have hA:∀ H c id,apB H c id 1 1 acc.length 1 [.int .u8 92] (some ⟨1,true,bytesC acc⟩)=some (.slc c 0 (acc.length+1),(H.del id).upd c ⟨1,true,bytesC (acc++[92])⟩,c+1):=fun H c id=>apb1 (x:=92) rfl (by omega);have hB:∀ H c id,apB H c id 1 1 (acc.length+1) 1 [.int .u8 (s[k].toNat:Int)] (some ⟨1,true,bytesC (acc++[92])⟩)=some (.slc c 0 (acc.length+1+1),(H.del id).upd c ⟨1,true,bytesC (acc++[92]++[s[k]])⟩,c+1):=fun H c id=>apb1 (by simp) (by omega);have hC:∀ H c id,apB H c id 1 1 acc.length 1 [.int .u8 (s[k].toNat:Int)] (some ⟨1,true,bytesC acc⟩)=some (.slc c 0 (acc.length+1),(H.del id).upd c ⟨1,true,bytesC (acc++[s[k]])⟩,c+1):=fun H c id=>apb1 rfl (by omega);have est:A0n (s.take (k+1))=acc++quB s[k]:=by rw [hacc,A8q hg]
  have ne0:=R7 id c (c+1) (c+2) (c+3) (by omega);repeat' ((with_reducible first|refine wr ?_|refine k_cu ?_ ?_|refine wb2 ?_ ?_<;>(intro hb;try simp only [hb])|fail)<;>try simp only [go_sem,seval,hd,hg,hw,ne0,hA,hB,hC])
  ·have e2:quB s[k]=[92,s[k]]:=if_pos (.inl (A2r (b:=34) hb));exact ⟨(k+1,c+1+1+1),⟨by simp only [est,e2,List.length_append];rfl,rfl⟩,H8 (by simp only [est,e2,List.append_assoc];rfl),inv ⟨hlt,by simp only;omega⟩,by simp only;omega⟩
  ·have e2:quB s[k]=[92,s[k]]:=if_pos (.inr (A2r (b:=92) hb));exact ⟨(k+1,c+1+1+1),⟨by simp only [est,e2,List.length_append];rfl,rfl⟩,H8 (by simp only [est,e2,List.append_assoc];rfl),inv ⟨hlt,by simp only;omega⟩,by simp only;omega⟩
  ·have e2:quB s[k]=[s[k]]:=if_neg (fun h=>h.elim (Y8 (b:=34) (by assumption)) (Y8 (b:=92) hb));exact ⟨(k+1,c+1),⟨by simp only [est,e2,List.length_append];rfl,rfl⟩,H8 (by simp only [est,e2]),inv ⟨hlt,by simp only;omega⟩,by simp only;omega⟩
 ·have hd:decide ((k:Int)<s.length)=false:=by simpa using hlt
  have hZ:∀ H c id,apB H c id 1 1 acc.length 1 [.int .u8 34] (some ⟨1,true,bytesC acc⟩)=some (.slc c 0 (acc.length+1),(H.del id).upd c ⟨1,true,bytesC (acc++[34])⟩,c+1):=fun H c id=>apb1 (x:=34) rfl (by omega);have ne0:=O0 id c (c+1) (by omega);have hcv:∀ (H:Hp) u,V5 (H.upd (c+1) ⟨u,true,bytesC (acc++[34])⟩) (.slc (c+1) 0 (acc.length+1))=some (.str (acc++[34])):=fun H u=>A2q A0 rfl (by simp);repeat' ((with_reducible first|refine wr ?_|refine k_cu ?_ ?_|refine wb2 ?_ ?_<;>(intro hb;try simp only [hb])|fail)<;>try simp only [go_sem,seval,hd,ne0,hZ,hcv])
  refine A4 ?_;rw [hacc,List.take_of_length_le (by omega)];rfl
theorem c_OneR (t:Tok) (ht:Fit t):PC Tryz.prog 61 [t.v] (.str (I5 t)):=by
 refine PC.ofT A6 rfl (Nat.le_of_ble_eq_true rfl) (by simp [DV.nlL,DV.nl]) (by simp [DV.nlL,DV.nl]) ?_;have hq:=c_QuoteR t.text ht.1;have hd:=c_Dec' t.value ht.2.1 ht.2.2;repeat' ((with_reducible first|refine wr ?_|refine cpc hq ?_|refine cpc hd ?_|refine k_cu ?_ ?_|refine wb2 ?_ ?_<;>(intro hb;try simp only [hb])|fail)<;>try simp only [go_sem,seval])
 all_goals (refine A4 (congrArg DV.str ?_);unfold I5;simp_all)
theorem c_Join (l:List (List UInt8)) (sp:List UInt8) (h1:l.length<=140737488355328) (h2:(Lib.join l sp).length<=140737488355328):PC Tryz.prog 64 [strs l,.str sp] (.str (Lib.join l sp)):=by
 refine PC.of_calls (by kernel_rfl) (by simp [DV.nlL,DV.nl,K5]) rfl fun ρ w vs hf hA=>?_;obtain ⟨y,g1,g2⟩:=hA.get (i:=0) rfl;obtain ⟨z,g3,g4⟩:=hA.get (i:=1) rfl;obtain rfl:=g4.str_inv;have hvs:vs = #[y,.string ⟨sp.toArray⟩]:=by
  have hs:vs.size=2:=hA.1.symm;cases vs with|mk r=>match r,hs,g1,g3 with
   | [a,b],_,h1,h3=>simp at h1 h3;subst h1 h3;rfl
 rw [hvs];rcases g2.lst_inv with ⟨e0,e1|⟨a,c,e1⟩⟩|⟨u,b,off,c,row,e1,e2,e3,e4,e5,e6⟩
 ·subst e1;have:l=[]:=by simpa using e0
  subst this;refine (Tryz.strings_Join_none none 0 ⟨sp.toArray⟩ w).mono ?_;rintro e w' ⟨rfl,rfl⟩;exact ⟨_,rfl,fun ρ'=>.mkStr,Below.refl _ _⟩
 ·subst e1;have:l=[]:=by simpa using e0
  subst this;refine (Tryz.strings_Join_none (some a) c ⟨sp.toArray⟩ w).mono ?_;rintro e w' ⟨rfl,rfl⟩;exact ⟨_,rfl,fun ρ'=>.mkStr,Below.refl _ _⟩
 ·subst e1;obtain ⟨e,fr,hb⟩:=hf b row e2;obtain ⟨bs,hbs⟩:∃ bs:List ByteArray,bs=l.map fun s=>(⟨s.toArray⟩:ByteArray):=⟨_,rfl⟩;have hL:(l.map DV.str).length=bs.length:=by rw [hbs];simp
  have hmap:bs.map (fun x=>x.data.toList)=l:=by
   rw [hbs,List.map_map];exact (List.map_congr_left fun s _=>rfl).trans (List.map_id l)
  have hmap2:bs.map (·.data.toList)=l:=hmap;have p1:∀ (j:Nat) x,bs[j]? = some x->w.cell? ⟨b,off+j,none⟩=some (.string x):=by
   intro j x hx;rw [hbs,List.getElem?_map] at hx;obtain ⟨s,hs,rfl⟩:=Option.map_eq_some_iff.1 hx;have hc:(A7 (l.map DV.str))[j]? = some (DV.str s):=by rw [V6 (fun _=>rfl),List.getElem?_map,hs];rfl
   obtain ⟨v,v1,v2⟩:=e6.get hc;rw [v2.str_inv] at v1;simp only [World.cell?,hb];exact v1
  have p2:b<w.heap.size:=(Array.getElem?_eq_some_iff.1 hb).1;have p3:bs.length<=140737488355328:=by rw [hbs];simpa using h1
  have p4:bs.length<=c:=by rw [<- hL];exact e3
  have p5:(Lib.join (bs.map (·.data.toList)) (⟨sp.toArray⟩:ByteArray).data.toList).length<=140737488355328:=by
   rw [hmap2];exact h2
  rw [hL];have key:=Tryz.strings_Join b off c bs ⟨sp.toArray⟩ w p1 p2 p3 p4 p5;rw [hmap2] at key;refine key.mono fun e w' hq=>⟨_,hq.1,fun ρ'=>?_,hq.2⟩;exact .mkStr
theorem c_Text (l:List Tok) (hl:l.length<=100000) (hx:∀ t∈l,Fit t):PC Tryz.prog 114 [G6 l] (.str (O4 l)):=by
 refine PC.ofT A6 rfl (Nat.le_of_ble_eq_true rfl) (by simp only [DV.nlL,DV.nl,Q9,Bool.and_true]) rfl ?_;have htl:=A3v hx;repeat' ((with_reducible first|refine wr ?_|refine k_cu ?_ ?_|refine wb2 ?_ ?_<;>(intro hb;try simp only [hb])|fail)<;>try simp only [go_sem,seval])
 refine D6 (fun q:Nat × Option Nat=>[(3,C2 q.2 q.1),(6,G6 l),(7,I64 l.length),(8,I64 q.1)]) (fun q=>D1 Sym.nil q.2 ⟨1,true,A7 (((l.take q.1).map I5).map DV.str)⟩)
  (fun q cc=>q.1<=l.length/\(q.2=none->q.1=0)/\∀ i,q.2=some i->i<cc) (fun q=>l.length-q.1) (0,none)
  (by simp [C5,tm,Tm.upd,C2]) (Sub.nil _) ⟨by simp,by simp,by simp⟩ ?_
 rintro ⟨k,o⟩ c ⟨hk,hno,ho⟩;simp only at hk hno ho;simp only;have hkl:((l.take k).map I5).length=k:=by rw [List.length_map,List.length_take];omega
 by_cases hlt:k<l.length
 ·have hd:decide ((k:Int)<l.length)=true:=by simpa using hlt
  have hg:=List.getElem?_eq_getElem hlt;have hw:IntKind.i64.wrap ((k:Int)+1)=((k+1:Nat):Int):=by rw [w64 (by omega) (by omega)];omega
  have hfit:=hx _ (List.getElem_mem hlt);have est:A7 (((l.take (k+1)).map I5).map DV.str)=A7 (((l.take k).map I5).map DV.str)++[DV.str (I5 l[k])]:=by
   rw [List.take_add_one,hg,Option.toList_some,List.map_append,List.map_append,F0];rfl
  obtain ⟨t,ht⟩:∃ t,t=l[k]:=⟨_,rfl⟩;rw [<- ht] at hg hfit est;have h1:=c_Quote t.text (by have:=hfit.1;omega);have h2:=c_Itoa t.value hfit.2.1 hfit.2.2;obtain ⟨cs,hcs⟩:∃ cs,cs=A7 (((l.take k).map I5).map DV.str):=⟨_,rfl⟩;have hcl:cs.length=k * 1:=by rw [hcs,strC_len,hkl]
  rw [<- hcs] at est ⊢;have hno2:o=none->k=0/\cs=[]:=fun e=>⟨hno e,by rw [hcs,hno e];rfl⟩;have ne0:=O0 c (c+1) (c+2) (by omega);repeat' ((with_reducible first|refine wr ?_|refine cpc h1 ?_|refine cpc h2 ?_|refine k_cu ?_ ?_|refine wb2 ?_ ?_<;>(intro hb;try simp only [hb])|fail)<;>try simp only [go_sem,seval,hd,hg,hw,ne0])
  all_goals
   refine D4 (F7 (cs:=cs) hno2 (fun i hi=>?_) hcl (by omega) (by omega) (by omega)) ?_
   ·have:=ho i hi;rw [A2 (by omega),A2 (by omega),A2 (by omega)];exact A0u hi
   simp only [go_sem,seval,ne0,hw];repeat' ((with_reducible first|refine wr ?_|refine cpc h1 ?_|refine cpc h2 ?_|refine k_cu ?_ ?_|refine wb2 ?_ ?_<;>(intro hb;try simp only [hb])|fail)<;>try simp only [go_sem,seval,hd,hg,hw,ne0])
   exact ⟨(k+1,some (c+1+1)),⟨rfl,rfl⟩,H8 (by simp only [est];exact congrArg (fun z=>(⟨1,true,cs++[DV.str z]⟩:Blk)) (by unfold I5;simp_all)),inv ⟨hlt,by simp,fun i hi=>by cases hi;omega⟩,by simp only;omega⟩
 ·have hd:decide ((k:Int)<l.length)=false:=by simpa using hlt
  have hj:=c_Join (l.map I5) [32] (by rw [List.length_map];omega) (by rw [X3];omega);rw [X3] at hj;obtain rfl:k=l.length:=by omega
  rw [List.take_length] at hkl ⊢;rcases o with _|id
  ·have hk0:=hno rfl;have h00:l=[]:=List.eq_nil_of_length_eq_zero (by omega);repeat' ((with_reducible first|refine wr ?_|refine k_cu ?_ ?_|refine wb2 ?_ ?_<;>(intro hb;try simp only [hb])|fail)<;>try simp only [go_sem,seval,hd])
   refine AC.call (hj.give (H0:=Sym.nil) ⟨fun _ h=>h,fun ρ w vs h1 h2=>⟨ρ,rfl,h1,?_,Ext.refl _ _ _⟩⟩) ?_
   ·rw [h00];exact ⟨h2.1,fun i x y hx hy=>by
     match i with
     | 0=>cases hx;exact (h2.2 0 _ y rfl hy).snil_lst
     | 1=>cases hx;exact h2.2 1 _ y rfl hy
     | _+2=>cases hx⟩
   ·rintro v H' c' ⟨rfl,rfl,rfl⟩ -;simp only [go_sem,seval];repeat' ((with_reducible first|refine wr ?_|refine k_cu ?_ ?_|refine wb2 ?_ ?_<;>(intro hb;try simp only [hb])|fail)<;>try simp only [go_sem,seval])
    exact A4 rfl
  ·repeat' ((with_reducible first|refine wr ?_|refine k_cu ?_ ?_|refine wb2 ?_ ?_<;>(intro hb;try simp only [hb])|fail)<;>try simp only [go_sem,seval,hd])
   refine AC.call (hj.give (H0:=Sym.nil) (GL.one (id:=id) A0 rfl (.cons _ _ _ _ (J8 (u:=1) (by rw [List.length_map,hkl]) (K3 _) ⟨[],by simp⟩) (.cons _ _ _ _ (.same _) .nil)))) ?_;rintro v H' c' ⟨rfl,rfl,rfl⟩ -;simp only [go_sem,seval];repeat' ((with_reducible first|refine wr ?_|refine k_cu ?_ ?_|refine wb2 ?_ ?_<;>(intro hb;try simp only [hb])|fail)<;>try simp only [go_sem,seval])
   exact A4 rfl
end Go.Proofs.YthlpinppaclofaaGreatDoor
namespace Go.Pb
variable [Go.Sym.Tab]
open Go.Sym
def Evt {α : Type} (g:Nat->Option α) (r : α):Prop:=∃ N, ∀ f,N<=f->g f=some r
theorem Evt.one {α : Type} {g:Nat->Option α} {r : α} (h:∀ f,g (f+1)=some r):Evt g r :=
 ⟨1,fun f hf=>by obtain ⟨k,rfl⟩:∃ k,f=k+1:=⟨f-1,by omega⟩;exact h k⟩
theorem Evt.ext {α β : Type} {g:Nat->Option α} {h:Nat->Option β} {r : α} {q : β} (hg:Evt g r) (e:∀ f,g f=some r->h (f+1)=some q):Evt h q:=by
 obtain ⟨N,hg⟩:=hg;exact ⟨N+1,fun f hf=>by obtain ⟨k,rfl⟩:∃ k,f=k+1:=⟨f-1,by omega⟩;exact e k (hg k (by omega))⟩
theorem Evt.map {α β : Type} {g:Nat->Option α} {h:Nat->Option β} {r : α} {q : β} (hg:Evt g r) (e:∀ f,g f=some r->h f=some q):Evt h q:=by
 obtain ⟨N,hg⟩:=hg;exact ⟨N,fun f hf=>e f (hg f hf)⟩
theorem Evt.and {α β : Type} {g:Nat->Option α} {h:Nat->Option β} {r : α} {q : β} (hg:Evt g r) (hh:Evt h q):Evt (fun f=>match g f,h f with|some a,some b=>some (a,b)|_,_=>none) (r,q):=by
 obtain ⟨N,hg⟩:=hg;obtain ⟨M,hh⟩:=hh;exact ⟨max N M,fun f hf=>by dsimp only;rw [hg f (by omega),hh f (by omega)]⟩
theorem Evt.ext2 {α β γ : Type} {g:Nat->Option α} {h:Nat->Option β} {k:Nat->Option γ} {r : α} {q : β} {w : γ} (hg:Evt g r) (hh:Evt h q) (e:∀ f,g f=some r->h f=some q->k (f+1)=some w):Evt k w:=by
 obtain ⟨N,hg⟩:=hg;obtain ⟨M,hh⟩:=hh;exact ⟨max N M+1,fun f hf=>by obtain ⟨j,rfl⟩:∃ j,f=j+1:=⟨f-1,by omega⟩;exact e j (hg j (by omega)) (hh j (by omega))⟩
theorem Evt.map2 {α β γ : Type} {g:Nat->Option α} {h:Nat->Option β} {k:Nat->Option γ} {r : α} {q : β} {w : γ} (hg:Evt g r) (hh:Evt h q) (e:∀ f,g f=some r->h f=some q->k f=some w):Evt k w:=by
 obtain ⟨N,hg⟩:=hg;obtain ⟨M,hh⟩:=hh;exact ⟨max N M,fun f hf=>e f (hg f (by omega)) (hh f (by omega))⟩
theorem Evt.uniq {α : Type} {g:Nat->Option α} {r q : α} (h1:Evt g r) (h2:Evt g q):r=q:=by
 obtain ⟨N,h1⟩:=h1;obtain ⟨M,h2⟩:=h2;exact Option.some.inj ((h1 (max N M) (by omega)).symm.trans (h2 (max N M) (by omega)))
theorem Evt.get {α : Type} {g:Nat->Option α} {r : α} (h:Evt g r):∃ f,g f=some r:=by
 obtain ⟨N,h⟩:=h;exact ⟨N,h N (Nat.le_refl _)⟩
section
variable {L:List Tok} {E:Int}
abbrev Bin (L:List Tok) (E n:Int) (s:Rd) (r:Ex × Rd):Prop:=Evt (fun f=>D3 L E f n s) r
abbrev Lop (L:List Tok) (E n:Int) (e:Ex) (s:Rd) (r:Ex × Rd):Prop:=Evt (fun f=>F9 L E f n e s) r
abbrev Un (L:List Tok) (E:Int) (s:Rd) (r:Ex × Rd):Prop:=Evt (fun f=>G8 L E f s) r
theorem Bin.un {n:Int} {s:Rd} {r:Ex × Rd} (hn:5<n) (h:Un L E s r):Bin L E n s r :=
 h.ext fun f h=>by rw [D3,if_pos hn];exact h
theorem Bin.go {n:Int} {s s1:Rd} {e:Ex} {r:Ex × Rd} (hn:n<=5) (h:Bin L E (n+1) s (e,s1)) (h2:Lop L E n e s1 r):Bin L E n s r :=
 h.ext2 h2 fun f h h2=>by rw [D3,if_neg (by omega),h];exact h2
theorem Lop.stop {n:Int} {e:Ex} {s:Rd} (h:B7 L E s B6<0\/A8 (12+B7 L E s B6)≠n):Lop L E n e s (e,s) :=
 Evt.one fun f=>by rw [F9];dsimp only;rw [if_pos h]
theorem Lop.three {n:Int} {e x:Ex} {s s1:Rd} (h0:0<=B7 L E s B6) (h1:A8 (12+B7 L E s B6)=n) (hn:n=3) (hb:Bin L E (n+1) (B3 s) (x,s1)):Lop L E n e s (.mk (12+B7 L E s B6) 0 [] [e,x] (A3 L E s).pos,s1) :=
 hb.ext fun f h=>by rw [F9];dsimp only;rw [if_neg (by omega),h];dsimp only;rw [if_pos hn]
theorem Lop.more {n:Int} {e x:Ex} {s s1:Rd} {r:Ex × Rd} (h0:0<=B7 L E s B6) (h1:A8 (12+B7 L E s B6)=n) (hn:n≠3) (hb:Bin L E (n+1) (B3 s) (x,s1)) (hl:Lop L E n (.mk (12+B7 L E s B6) 0 [] [e,x] (A3 L E s).pos) s1 r):Lop L E n e s r :=
 hb.ext2 hl fun f h h2=>by rw [F9];dsimp only;rw [if_neg (by omega),h];dsimp only;rw [if_neg hn];exact h2
theorem Un.prim {s:Rd} (h:B7 L E s J1<0):Un L E s (E6 L E s) :=
 Evt.one fun f=>by rw [G8];dsimp only;rw [if_pos h]
theorem Un.bad {s:Rd} (h:0<=B7 L E s J1) (hl:okR (C0 L E s (s.par+1) 16 50)=false):Un L E s (Ex0,C0 L E s (s.par+1) 16 50) :=
 Evt.one fun f=>by rw [G8];dsimp only;rw [if_neg (by omega),if_pos hl]
theorem Un.par {s s3:Rd} {e:Ex} (h:B7 L E s J1=2) (hl:okR (C0 L E s (s.par+1) 16 50)=true) (hb:Bin L E 1 { s with i:=s.i+1,par:=s.par+1 } (e,s3)):Un L E s (e, { C7 L E s3 [41] with par:=(C7 L E s3 [41]).par-1 }) :=
 hb.ext fun f hf=>by
  have e0:=(N0 (by decide) hl).2.2;rw [G8];dsimp only;rw [if_neg (by omega),if_neg (by rw [hl];decide),e0,if_pos h,hf]
theorem Un.pre {s s3:Rd} {e:Ex} (h0:0<=B7 L E s J1) (h:B7 L E s J1≠2) (hl:okR (C0 L E s (s.par+1) 16 50)=true) (hb:Un L E { s with i:=s.i+1,par:=s.par+1 } (e,s3)):Un L E s (.mk (10+B7 L E s J1) 0 [] [e] (A3 L E s).pos, { s3 with par:=s3.par-1 }) :=
 hb.ext fun f hf=>by
  have e0:=(N0 (by decide) hl).2.2;rw [G8];dsimp only;rw [if_neg (by omega),if_neg (by rw [hl];decide),e0,if_neg h,hf]
theorem H7 {s:Rd} {x:List UInt8}:s.i<=(C7 L E s x).i:=by
 unfold C7;cases k:isR L E s x with
 | false=>rw [if_pos rfl,A4l];exact Nat.le_refl _
 | true=>rw [if_neg (by simp)];exact Nat.le_succ _
theorem N7 {s:Rd} {x:Int}:s.i<=(A9 L E s x).2.i:=by
 unfold A9;cases k:F2 L E s x with
 | false=>rw [if_pos rfl];show s.i<=(K8 L E s).i;rw [A4l];exact Nat.le_refl _
 | true=>rw [if_neg (by simp)];exact Nat.le_succ _
theorem prim_ge {s:Rd}:s.i<=(E6 L E s).2.i:=by
 unfold E6;dsimp only;have h2:(C0 L E { s with ops:=s.ops+1 } (s.ops+1) 32 9).i=s.i:=U2;have h3:(B3 (C0 L E { s with ops:=s.ops+1 } (s.ops+1) 32 9)).i=s.i+1:=by show (C0 L E { s with ops:=s.ops+1 } (s.ops+1) 32 9).i+1=_;rw [h2]
 split
 ·show s.i<=(K8 L E s).i;rw [A4l];exact Nat.le_refl _
 ·split
  ·show s.i<=(C0 L E { s with ops:=s.ops+1 } (s.ops+1) 32 9).i;rw [h2];exact Nat.le_refl _
  ·have:=N7 (L:=L) (E:=E) (s:=B3 (C0 L E { s with ops:=s.ops+1 } (s.ops+1) 32 9)) (x:=1);repeat' split
   all_goals (first|(show s.i<=(A9 L E _ 1).2.i;omega)|(show s.i<=(B3 _).i;omega))
theorem ET.all:∀ (m:Nat),(∀ s:Rd,L.length-s.i<=m->∃ r,Un L E s r/\s.i<=r.2.i)/\(∀ (n:Int) e (s:Rd),n<=5->1<=n->L.length-s.i<=m->∃ r,Lop L E n e s r/\s.i<=r.2.i)/\(∀ (n:Int) (s:Rd),1<=n->L.length-s.i<=m->∃ r,Bin L E n s r/\s.i<=r.2.i):=by
 intro m
 induction m using Nat.strongRecOn with
 | _ m ih =>
  have A:∀ s:Rd,L.length-s.i<=m->∃ r,Un L E s r/\s.i<=r.2.i:=by
   intro s hs;by_cases hk:B7 L E s J1<0
   ·exact ⟨_,Un.prim hk,prim_ge⟩
   ·obtain ⟨-,hi, -⟩:=K9 (show 0<=B7 L E s J1 by omega);cases hl:okR (C0 L E s (s.par+1) 16 50) with
    | false=>exact ⟨_,Un.bad (by omega) hl,by show s.i<=(C0 L E s (s.par+1) 16 50).i;rw [U2];exact Nat.le_refl _⟩
    | true =>
     by_cases h2:B7 L E s J1=2
     ·obtain ⟨⟨e,s3⟩,hb,hge⟩:=(ih (m-1) (by omega)).2.2 1 { s with i:=s.i+1,par:=s.par+1 } (by decide) (by show L.length-(s.i+1)<=m-1;omega);refine ⟨_,Un.par h2 hl hb,?_⟩;have h4:=H7 (L:=L) (E:=E) (s:=s3) (x:=[41]);have h5:s.i+1<=s3.i:=hge;show s.i<=(C7 L E s3 [41]).i;omega
     ·obtain ⟨⟨e,s3⟩,hb,hge⟩:=(ih (m-1) (by omega)).1 { s with i:=s.i+1,par:=s.par+1 } (by show L.length-(s.i+1)<=m-1;omega);refine ⟨_,Un.pre (by omega) h2 hl hb,?_⟩;have h5:s.i+1<=s3.i:=hge;show s.i<=s3.i;omega
  have B:∀ (n:Int) e (s:Rd),n<=5->1<=n->L.length-s.i<=m->∃ r,Lop L E n e s r/\s.i<=r.2.i:=by
   intro n e s h5 h1 hs;by_cases hk:B7 L E s B6<0\/A8 (12+B7 L E s B6)≠n
   ·exact ⟨_,Lop.stop hk,Nat.le_refl _⟩
   ·have h0:0<=B7 L E s B6:=by omega
    obtain ⟨-,hi, -⟩:=K9 h0;obtain ⟨⟨x,s1⟩,hb,hge⟩:=(ih (m-1) (by omega)).2.2 (n+1) (B3 s) (by omega) (by show L.length-(s.i+1)<=m-1;omega);have hge:s.i+1<=s1.i:=hge;by_cases h3:n=3
    ·exact ⟨_,Lop.three h0 (by omega) h3 hb,by show s.i<=s1.i;omega⟩
    ·obtain ⟨r,hl,hg2⟩:=(ih (m-1) (by omega)).2.1 n (.mk (12+B7 L E s B6) 0 [] [e,x] (A3 L E s).pos) s1 h5 h1 (by omega);exact ⟨_,Lop.more h0 (by omega) h3 hb hl,by omega⟩
  refine ⟨A,B,?_⟩;have C:∀ (j:Nat) (n:Int) (s:Rd),6-n<=j->1<=n->L.length-s.i<=m->∃ r,Bin L E n s r/\s.i<=r.2.i:=by
   intro j
   induction j with
   | zero =>
    intro n s hj h1 hs;obtain ⟨r,h,hg⟩:=A s hs;exact ⟨r,Bin.un (by omega) h,hg⟩
   | succ j ihj =>
    intro n s hj h1 hs;by_cases h5:5<n
    ·obtain ⟨r,h,hg⟩:=A s hs;exact ⟨r,Bin.un h5 h,hg⟩
    ·obtain ⟨⟨e,s1⟩,h,hg⟩:=ihj (n+1) s (by omega) (by omega) hs;have hg:s.i<=s1.i:=hg;obtain ⟨r,h2,hg2⟩:=B n e s1 (by omega) h1 (by omega);exact ⟨r,Bin.go (by omega) h h2,by omega⟩
  exact fun n s h1 hs=>C (6-n).toNat n s (by omega) h1 hs
abbrev Xpn (L:List Tok) (E:Int) (s:Rd) (r:Ex × Rd):Prop:=Evt (fun f=>F4 L E f s) r
theorem V1 (s:Rd):∃ r,Xpn L E s r/\s.i<=r.2.i:=by
 obtain ⟨r,h,hg⟩:=(ET.all (L:=L) (E:=E) (L.length-s.i)).2.2 1 { s with ops:=0,par:=0 } (by decide) (Nat.le_refl _);exact ⟨r,h,hg⟩
theorem tail_tot (k p:Int) (s:Rd):∃ r,Evt (fun f=>X4 L E f k p s) r/\s.i<=r.2.i:=by
 by_cases h4:k=4
 ·obtain ⟨⟨e,s1⟩,h,hg⟩:=V1 (L:=L) (E:=E) s;exact ⟨_,h.map fun f h=>by unfold X4;rw [if_pos h4,h],Nat.le_trans hg H7⟩
 by_cases h18:k=18
 ·obtain ⟨⟨e,s1⟩,h,hg⟩:=V1 (L:=L) (E:=E) (C7 L E (A9 L E s 4).2 [44]);exact ⟨_,h.map fun f h=>by unfold X4;rw [if_neg h4,if_pos h18,h],Nat.le_trans (Nat.le_trans N7 (Nat.le_trans H7 hg)) H7⟩
 by_cases h19:k=19
 ·exact ⟨_,Evt.one fun f=>by unfold X4;rw [if_neg h4,if_neg h18,if_pos h19],H7⟩
 by_cases h8:k=8\/k=9\/k=10
 ·obtain ⟨⟨e,s1⟩,h,hg⟩:=V1 (L:=L) (E:=E) (A9 L E s 1).2;by_cases h9:k=9
  ·obtain ⟨⟨e2,s2⟩,h2,hg2⟩:=V1 (L:=L) (E:=E) (C7 L E s1 [44]);exact ⟨_,h.map2 h2 fun f h h2=>by unfold X4;rw [if_neg h4,if_neg h18,if_neg h19];dsimp only;rw [if_pos h8,h];dsimp only;rw [if_pos h9,h2],Nat.le_trans (Nat.le_trans N7 (Nat.le_trans hg (Nat.le_trans H7 hg2))) H7⟩
  ·exact ⟨_,h.map fun f h=>by unfold X4;rw [if_neg h4,if_neg h18,if_neg h19];dsimp only;rw [if_pos h8,h];dsimp only;rw [if_neg h9],Nat.le_trans (Nat.le_trans N7 hg) H7⟩
 ·exact ⟨_,Evt.one fun f=>by unfold X4;rw [if_neg h4,if_neg h18,if_neg h19];dsimp only;rw [if_neg h8],Nat.le_trans N7 H7⟩
abbrev B1a (L:List Tok) (E d:Int) (s:Rd) (r:List St × Rd):Prop:=Evt (fun f=>I8 L E f d s) r
abbrev A2a (L:List Tok) (E d:Int) (l:List St) (s:Rd) (r:List St × Rd):Prop:=Evt (fun f=>S1 L E f d l s) r
abbrev X0 (L:List Tok) (E d:Int) (s:Rd) (r:St × Rd):Prop:=Evt (fun f=>O8 L E f d s) r
abbrev Oth' (L:List Tok) (E d:Int) (s:Rd) (r:List St × Rd):Prop:=Evt (fun f=>A0h L E f d s) r
theorem B1a.mk {d:Int} {s:Rd} {r:List St × Rd} (h:A2a L E d [] (C7 L E s [123]) r):B1a L E d s r :=
 h.ext fun f h=>by rw [I8];exact h
theorem A2a.stop {d:Int} {l:List St} {s:Rd} (h:¬ (okR s=true/\isR L E s [125]=false)):A2a L E d l s (l,C7 L E s [125]) :=
 Evt.one fun f=>by rw [S1,if_neg h]
theorem A2a.bad {d:Int} {l:List St} {s:Rd} (h:okR s=true/\isR L E s [125]=false) (h2:B7 L E s C1<0/\F2 L E s 1=false):A2a L E d l s ([],K8 L E s) :=
 Evt.one fun f=>by rw [S1,if_pos h,if_pos h2]
theorem A2a.more {d:Int} {l:List St} {s s1:Rd} {x:St} {r:List St × Rd} (h:okR s=true/\isR L E s [125]=false) (h2:¬ (B7 L E s C1<0/\F2 L E s 1=false)) (hx:X0 L E d (C0 L E s ((l.length:Int)+1) 64 9) (x,s1)) (hl:A2a L E d (l++[x]) s1 r):A2a L E d l s r :=
 hx.ext2 hl fun f hx hl=>by rw [S1,if_pos h,if_neg h2,hx];exact hl
theorem X0.bad {d:Int} {s:Rd} (h:okR (C0 L E s d 8 50)=false):X0 L E d s (St0,C0 L E s d 8 50) :=
 Evt.one fun f=>by rw [O8];dsimp only;rw [if_pos h]
theorem X0.set {d:Int} {s s1:Rd} {e:Ex} (h:okR (C0 L E s d 8 50)=true) (hk:B7 L E s C1<0) (he:Xpn L E (C7 L E (A9 L E s 1).2 [61]) (e,s1)):X0 L E d s (.mk 1 (A9 L E s 1).1.text [] [e] [] [] (A3 L E s).pos,C7 L E s1 [59]) :=
 he.ext fun f hf=>by
  have e0:=(N0 (by decide) h).2.2;rw [O8];dsimp only;rw [if_neg (by rw [h];decide),e0,if_pos hk,hf]
theorem X0.els {d:Int} {s s2 s3 s4:Rd} {e:Ex} {t o:List St} (h:okR (C0 L E s d 8 50)=true) (hk:B7 L E s C1=0) (he:Xpn L E (B3 s) (e,s2)) (ht:B1a L E (d+1) s2 (t,s3)) (hi:isR L E s3 [101,108,115,101]=true) (ho:Oth' L E d (B3 s3) (o,s4)):X0 L E d s (.mk 2 [] [] [e] t o (A3 L E s).pos,s4) :=
 (he.and ht).ext2 ho fun f hf h2=>by
  have e0:=(N0 (by decide) h).2.2;cases h3:F4 L E f (B3 s) with
  | none=>rw [h3] at hf;cases hf
  | some q =>
   cases h4:I8 L E f (d+1) s2 with
   | none=>rw [h3,h4] at hf;cases hf
   | some w =>
    rw [h3,h4] at hf;obtain ⟨rfl,rfl⟩:=Prod.mk.inj (Option.some.inj hf);rw [O8];dsimp only;rw [if_neg (by rw [h];decide),e0,if_neg (by omega),if_pos (.inl hk),h3];dsimp only;rw [h4];dsimp only;rw [if_pos ⟨hk,hi⟩,h2]
theorem X0.blk {d:Int} {s s2 s3:Rd} {e:Ex} {t:List St} (h:okR (C0 L E s d 8 50)=true) (hk:B7 L E s C1=0\/B7 L E s C1=1) (he:Xpn L E (B3 s) (e,s2)) (ht:B1a L E (d+1) s2 (t,s3)) (hi:¬ (B7 L E s C1=0/\isR L E s3 [101,108,115,101]=true)):X0 L E d s (.mk (2+B7 L E s C1) [] [] [e] t [] (A3 L E s).pos,s3) :=
 he.ext2 ht fun f h3 h4=>by
  have e0:=(N0 (by decide) h).2.2;rw [O8];dsimp only;rw [if_neg (by rw [h];decide),e0,if_neg (by omega),if_pos hk,h3];dsimp only;rw [h4];dsimp only;rw [if_neg hi]
theorem X0.tail {d:Int} {s:Rd} {r:St × Rd} (h:okR (C0 L E s d 8 50)=true) (hk:2<=B7 L E s C1) (he:Evt (fun f=>X4 L E f (2+B7 L E s C1) (A3 L E s).pos (B3 s)) r):X0 L E d s r :=
 he.ext fun f h3=>by
  have e0:=(N0 (by decide) h).2.2;rw [O8];dsimp only;rw [if_neg (by rw [h];decide),e0,if_neg (by omega),if_neg (by omega)];exact h3
theorem Oth'.iff {d:Int} {s s1:Rd} {x:St} (h:isR L E s [105,102]=true) (hs:X0 L E (d+1) s (x,s1)):Oth' L E d s ([x],s1) :=
 hs.ext fun f hf=>by rw [A0h,if_pos h,hf]
theorem Oth'.blk {d:Int} {s:Rd} {r:List St × Rd} (h:isR L E s [105,102]=false) (hs:B1a L E (d+1) s r):Oth' L E d s r :=
 hs.ext fun f hf=>by rw [A0h,if_neg (by rw [h];decide)];exact hf
theorem ST.all:∀ (m:Nat),(∀ d (s:Rd),L.length-s.i<=m->∃ r,X0 L E d s r/\s.i<=r.2.i/\(okR (C0 L E s d 8 50)=true->(0<=B7 L E s C1\/F2 L E s 1=true)->s.i<r.2.i)) /\
  (∀ d l (s:Rd),L.length-s.i<=m->∃ r,A2a L E d l s r/\s.i<=r.2.i):=by
 intro m
 induction m using Nat.strongRecOn with
 | _ m ih =>
  have blk:∀ d (s:Rd),L.length-s.i<m->∃ r,B1a L E d s r/\s.i<=r.2.i:=by
   intro d s hs;have h0:=H7 (L:=L) (E:=E) (s:=s) (x:=[123]);obtain ⟨r,h,hg⟩:=(ih _ hs).2 d [] (C7 L E s [123]) (by omega);exact ⟨r,B1a.mk h,by omega⟩
  have oth:∀ d (s:Rd),L.length-s.i<m->∃ r,Oth' L E d s r/\s.i<=r.2.i:=by
   intro d s hs;cases hi:isR L E s [105,102] with
   | true =>
    obtain ⟨⟨x,s1⟩,h,hg, -⟩:=(ih _ hs).1 (d+1) s (Nat.le_refl _);exact ⟨_,Oth'.iff hi h,hg⟩
   | false =>
    obtain ⟨r,h,hg⟩:=blk (d+1) s hs;exact ⟨r,Oth'.blk hi h,hg⟩
  have A:∀ d (s:Rd),L.length-s.i<=m->∃ r,X0 L E d s r/\s.i<=r.2.i/\(okR (C0 L E s d 8 50)=true->(0<=B7 L E s C1\/F2 L E s 1=true)->s.i<r.2.i):=by
   intro d s hs;cases hl:okR (C0 L E s d 8 50) with
   | false=>exact ⟨_,X0.bad hl,by show s.i<=(C0 L E s d 8 50).i;rw [U2];exact Nat.le_refl _,fun h=>by cases h⟩
   | true =>
    by_cases hk:B7 L E s C1<0
    ·obtain ⟨⟨e,s1⟩,he,hg⟩:=V1 (L:=L) (E:=E) (C7 L E (A9 L E s 1).2 [61]);have hg:(C7 L E (A9 L E s 1).2 [61]).i<=s1.i:=hg;have h1:=H7 (L:=L) (E:=E) (s:=s1) (x:=[59]);have h2:=H7 (L:=L) (E:=E) (s:=(A9 L E s 1).2) (x:=[61]);have h3:=N7 (L:=L) (E:=E) (s:=s) (x:=1);refine ⟨_,X0.set hl hk he,by show s.i<=(C7 L E s1 [59]).i;omega,fun _ hc=>?_⟩;have h4:F2 L E s 1=true:=hc.resolve_left (by omega);have h5:(A9 L E s 1).2.i=s.i+1:=by unfold A9;rw [if_neg (by rw [h4];decide)];rfl
     show s.i<(C7 L E s1 [59]).i;omega
    ·obtain ⟨-,hi, -,hk18⟩:=K9 (show 0<=B7 L E s C1 by omega);by_cases h01:B7 L E s C1=0\/B7 L E s C1=1
     ·obtain ⟨⟨e,s2⟩,he,hg⟩:=V1 (L:=L) (E:=E) (B3 s);have hg:s.i+1<=s2.i:=hg;obtain ⟨⟨t,s3⟩,ht,hg3⟩:=blk (d+1) s2 (by omega);have hg3:s2.i<=s3.i:=hg3;by_cases hc:B7 L E s C1=0/\isR L E s3 [101,108,115,101]=true
      ·have hi3:=(A3g hc.2).2;obtain ⟨⟨o,s4⟩,ho,hg4⟩:=oth d (B3 s3) (by show L.length-(s3.i+1)<m;omega);have hg4:s3.i+1<=s4.i:=hg4;exact ⟨_,X0.els hl hc.1 he ht hc.2 ho,by show s.i<=s4.i;omega,fun _ _=>by show s.i<s4.i;omega⟩
      ·exact ⟨_,X0.blk hl h01 he ht hc,by show s.i<=s3.i;omega,fun _ _=>by show s.i<s3.i;omega⟩
     ·obtain ⟨r,hr,hg⟩:=tail_tot (L:=L) (E:=E) (2+B7 L E s C1) (A3 L E s).pos (B3 s);have hg:s.i+1<=r.2.i:=hg;exact ⟨_,X0.tail hl (by omega) hr,by omega,fun _ _=>by omega⟩
  refine ⟨A,fun d l s hs=>?_⟩;by_cases hc:okR s=true/\isR L E s [125]=false
  ·by_cases h2:B7 L E s C1<0/\F2 L E s 1=false
   ·exact ⟨_,A2a.bad hc h2,by show s.i<=(K8 L E s).i;rw [A4l];exact Nat.le_refl _⟩
   ·have hlt:s.i<L.length:=by
     by_cases hk:0<=B7 L E s C1
     ·exact (K9 hk).2.1
     ·cases h1:F2 L E s 1 with
      | false=>exact absurd ⟨by omega,h1⟩ h2
      | true=>exact (G9 (by decide) (J2 h1).2).2
    cases hl:okR (C0 L E s ((l.length:Int)+1) 64 9) with
    | false =>
     have hb:okR (C0 L E (C0 L E s ((l.length:Int)+1) 64 9) d 8 50)=false:=by
      cases hz:okR (C0 L E (C0 L E s ((l.length:Int)+1) 64 9) d 8 50) with
      | false=>rfl
      | true=>rw [(N0 (by decide) hz).1] at hl;cases hl
     have hx:=X0.bad hb;refine ⟨_,A2a.more hc h2 hx (A2a.stop (by rw [hb];simp)),?_⟩;have h1:=H7 (L:=L) (E:=E) (s:=C0 L E (C0 L E s ((l.length:Int)+1) 64 9) d 8 50) (x:=[125]);rw [U2,U2] at h1;exact h1
    | true =>
     have e0:=(N0 (by decide) hl).2.2;obtain ⟨⟨x,s1⟩,hx,hg,hprog⟩:=A d s hs;have hg:s.i<=s1.i:=hg;cases hd:okR (C0 L E s d 8 50) with
     | false =>
      have hx:=X0.bad hd;refine ⟨_,A2a.more hc h2 (by rw [e0];exact hx) (A2a.stop (by rw [hd];simp)),?_⟩;have h1:=H7 (L:=L) (E:=E) (s:=C0 L E s d 8 50) (x:=[125]);rw [U2] at h1;exact h1
     | true =>
      have hlt2:s.i<s1.i:=hprog hd (by
       by_cases hk:0<=B7 L E s C1
       ·exact .inl hk
       ·cases h1:F2 L E s 1 with
        | false=>exact absurd ⟨by omega,h1⟩ h2
        | true=>exact .inr rfl)
      obtain ⟨r,hr,hg2⟩:=(ih (L.length-s1.i) (by omega)).2 d (l++[x]) s1 (Nat.le_refl _);exact ⟨r,A2a.more hc h2 (by rw [e0];exact hx) hr,by omega⟩
  ·exact ⟨_,A2a.stop hc,H7⟩
theorem blk_tot (d:Int) (s:Rd):∃ r,B1a L E d s r/\s.i<=r.2.i:=by
 obtain ⟨r,h,hg⟩:=(ST.all (L:=L) (E:=E) _).2 d [] (C7 L E s [123]) (Nat.le_refl _);exact ⟨r,B1a.mk h,Nat.le_trans H7 hg⟩
theorem mlp_tot:∀ (m:Nat) (l:List Hd) (s:Rd),L.length-s.i<=m->∃ r,Evt (fun f=>R8 L E f l s) r/\s.i<=r.2.i:=by
 intro m
 induction m using Nat.strongRecOn with
 | _ m ih =>
  intro l s hs;by_cases hc:okR s=true/\isR L E s [125]=false
  ·cases hon:isR L E s [111,110] with
   | false=>exact ⟨_,Evt.one fun f=>by rw [R8,if_pos hc,if_pos hon],by show s.i<=(K8 L E s).i;rw [A4l];exact Nat.le_refl _⟩
   | true =>
    have hi:=(A3g hon).2;have h1:(C0 L E s ((l.length:Int)+1) 32 9).i=s.i:=U2;generalize hl:C0 L E s ((l.length:Int)+1) 32 9=s1 at h1;have h2:=H7 (L:=L) (E:=E) (s:=s1) (x:=[111,110]);generalize he:C7 L E s1 [111,110]=s2 at h2;by_cases hk:B7 L E s2 E1<0
    ·exact ⟨_,Evt.one fun f=>by rw [R8,if_pos hc,if_neg (by rw [hon];decide),hl];dsimp only;rw [he,if_pos hk],by show s.i<=(K8 L E s2).i;rw [A4l];omega⟩
    ·have hi2:=(K9 (show 0<=B7 L E s2 E1 by omega)).2.1;have h4:s2.i+1<=(if 2<=B7 L E s2 E1 then (A9 L E (B3 s2) 1).2 else B3 s2).i:=by
      split
      ·exact N7 (L:=L) (E:=E) (s:=B3 s2) (x:=1)
      ·exact Nat.le_refl _
     obtain ⟨⟨b,s5⟩,hb,hg⟩:=blk_tot (L:=L) (E:=E) 1 (if 2<=B7 L E s2 E1 then (A9 L E (B3 s2) 1).2 else B3 s2);have hg:(if 2<=B7 L E s2 E1 then (A9 L E (B3 s2) 1).2 else B3 s2).i<=s5.i:=hg;obtain ⟨r,hr,hg2⟩:=ih (L.length-s5.i) (by omega) (l++[⟨1+B7 L E s2 E1,if 2<=B7 L E s2 E1 then (A9 L E (B3 s2) 1).1.text else [],b,(A3 L E s1).pos⟩]) s5 (Nat.le_refl _);exact ⟨r,hb.ext2 hr fun f hb hr=>by rw [R8,if_pos hc,if_neg (by rw [hon];decide),hl];dsimp only;rw [he,if_neg hk,hb];exact hr,by omega⟩
  ·exact ⟨_,Evt.one fun f=>by rw [R8,if_neg hc],H7⟩
theorem mod_tot (s:Rd):∃ r,Evt (fun f=>A8d L E f s) r/\s.i<=r.2.i/\(isR L E s [109,111,100,101]=true->s.i<r.2.i):=by
 obtain ⟨⟨l,s3⟩,h,hg⟩:=mlp_tot (L:=L) (E:=E) _ [] (C7 L E (A9 L E (A9 L E (C7 L E s [109,111,100,101]) 1).2 3).2 [123]) (Nat.le_refl _);have hg:(C7 L E (A9 L E (A9 L E (C7 L E s [109,111,100,101]) 1).2 3).2 [123]).i<=s3.i:=hg;have h1:=H7 (L:=L) (E:=E) (s:=(A9 L E (A9 L E (C7 L E s [109,111,100,101]) 1).2 3).2) (x:=[123]);have h2:=N7 (L:=L) (E:=E) (s:=(A9 L E (C7 L E s [109,111,100,101]) 1).2) (x:=3);have h3:=N7 (L:=L) (E:=E) (s:=C7 L E s [109,111,100,101]) (x:=1);have h4:=H7 (L:=L) (E:=E) (s:=s) (x:=[109,111,100,101]);refine ⟨_,h.map fun f h=>by unfold A8d;dsimp only;rw [h],by show s.i<=s3.i;omega,fun hi=>?_⟩;have h5:(C7 L E s [109,111,100,101]).i=s.i+1:=by unfold C7;rw [if_neg (by rw [hi];decide)];rfl
 show s.i<s3.i;omega
theorem dcl_ge {k:Int} {s:Rd}:s.i+1<=(A4f L E k s).2.i:=by
 unfold A4f;dsimp only;have h1:=N7 (L:=L) (E:=E) (s:=B3 s) (x:=1);have h0:(B3 s).i=s.i+1:=rfl;split
 ·generalize (A9 L E (B3 s) 1).2=s2 at h1 ⊢;have h3:s2.i<=(if (k+1 == 6 && isR L E s2 [45])=true then B3 s2 else s2).i:=by
   split
   ·exact Nat.le_succ _
   ·exact Nat.le_refl _
  generalize (if (k+1 == 6 && isR L E s2 [45])=true then B3 s2 else s2)=s3 at h3 ⊢;have h4:=N7 (L:=L) (E:=E) (s:=s3) (x:=3);have h5:=H7 (L:=L) (E:=E) (s:=(A9 L E s3 3).2) (x:=[59]);show s.i+1<=(C7 L E (A9 L E s3 3).2 [59]).i;omega
 ·have h5:=H7 (L:=L) (E:=E) (s:=(A9 L E (B3 s) 1).2) (x:=[59]);show s.i+1<=(C7 L E (A9 L E (B3 s) 1).2 [59]).i;omega
theorem A0f {s:Rd} (h:okR s=false):∀ (l:List (List UInt8)) (k:Nat),P5 L E s k l = -1
 | [],k=>rfl
 | t :: l,k=>by rw [P5,show isR L E s t=false by unfold isR;rw [h];rfl,if_neg (by decide),A0f h l]
theorem rld_tot:∀ (m:Nat) (l:List Dc) (s:Rd),L.length-s.i<=m->∃ r,Evt (fun f=>W4 L E f l s) r/\s.i<=r.2.i:=by
 intro m
 induction m using Nat.strongRecOn with
 | _ m ih =>
  intro l s hs;by_cases hk:B7 L E s D7<0
  ·exact ⟨_,Evt.one fun f=>by rw [W4];dsimp only;rw [if_pos hk],Nat.le_refl _⟩
  ·have hi:=(K9 (show 0<=B7 L E s D7 by omega)).2.1;have h1:(C0 L E s ((l.length:Int)+1) 128 9).i=s.i:=U2;cases hl:okR (C0 L E s ((l.length:Int)+1) 128 9) with
   | false =>
    have hz:B7 L E (C0 L E s ((l.length:Int)+1) 128 9) D7<0:=by
     show P5 L E _ 0 D7<0;rw [A0f hl];decide
    have h2:Evt (fun f=>W4 L E f l (C0 L E s ((l.length:Int)+1) 128 9)) (l,C0 L E s ((l.length:Int)+1) 128 9):=Evt.one fun f=>by rw [W4];dsimp only;rw [if_pos hz]
    exact ⟨_,h2.ext fun f h=>by rw [W4];dsimp only;rw [if_neg hk,if_neg (by rw [hl];decide)];exact h,by show s.i<=(C0 L E s ((l.length:Int)+1) 128 9).i;omega⟩
   | true =>
    have h3:=dcl_ge (L:=L) (E:=E) (k:=B7 L E s D7) (s:=C0 L E s ((l.length:Int)+1) 128 9);obtain ⟨r,hr,hg⟩:=ih (L.length-(A4f L E (B7 L E s D7) (C0 L E s ((l.length:Int)+1) 128 9)).2.i) (by omega) (l++[(A4f L E (B7 L E s D7) (C0 L E s ((l.length:Int)+1) 128 9)).1]) _ (Nat.le_refl _);exact ⟨r,hr.ext fun f h=>by rw [W4];dsimp only;rw [if_neg hk,if_pos hl];exact h,by omega⟩
theorem rlm_tot:∀ (m:Nat) (l:List Md) (s:Rd),L.length-s.i<=m->∃ r,Evt (fun f=>R4 L E f l s) r/\s.i<=r.2.i:=by
 intro m
 induction m using Nat.strongRecOn with
 | _ m ih =>
  intro l s hs;by_cases hc:okR s=true/\s.i<L.length
  ·cases hm:isR L E s [109,111,100,101] with
   | false=>exact ⟨_,Evt.one fun f=>by rw [R4,if_pos hc,if_pos hm],by show s.i<=(K8 L E s).i;rw [A4l];exact Nat.le_refl _⟩
   | true =>
    have h1:(C0 L E s ((l.length:Int)+1) 16 9).i=s.i:=U2;cases hl:okR (C0 L E s ((l.length:Int)+1) 16 9) with
    | false =>
     have h2:Evt (fun f=>R4 L E f l (C0 L E s ((l.length:Int)+1) 16 9)) (l,C0 L E s ((l.length:Int)+1) 16 9):=Evt.one fun f=>by rw [R4,if_neg (by rw [hl];simp)]
     exact ⟨_,h2.ext fun f h=>by rw [R4,if_pos hc,if_neg (by rw [hm];decide)];dsimp only;rw [if_neg (by rw [hl];decide)];exact h,by show s.i<=(C0 L E s ((l.length:Int)+1) 16 9).i;omega⟩
    | true =>
     have e0:=(N0 (by decide) hl).2.2;obtain ⟨⟨md,s2⟩,h2,hg,hlt⟩:=mod_tot (L:=L) (E:=E) s;have hlt:s.i<s2.i:=hlt hm;obtain ⟨r,hr,hg2⟩:=ih (L.length-s2.i) (by omega) (l++[md]) s2 (Nat.le_refl _);exact ⟨r,h2.ext2 hr fun f h2 hr=>by rw [R4,if_pos hc,if_neg (by rw [hm];decide)];dsimp only;rw [if_pos hl,e0,h2];exact hr,by omega⟩
  ·exact ⟨_,Evt.one fun f=>by rw [R4,if_neg hc],Nat.le_refl _⟩
theorem rul_tot (s:Rd):∃ r,Evt (fun f=>A8a L E f s) r:=by
 obtain ⟨⟨d,s1⟩,h1, -⟩:=rld_tot (L:=L) (E:=E) _ [] s (Nat.le_refl _);obtain ⟨⟨m,s2⟩,h2, -⟩:=rlm_tot (L:=L) (E:=E) _ [] s1 (Nat.le_refl _);exact ⟨_,h1.map2 h2 fun f h1 h2=>by unfold A8a;rw [h1];dsimp only;rw [h2]⟩
end
end Go.Pb
namespace Go.Pb
variable [Go.Sym.Tab]
open Go.Sym
def B1 (s:List UInt8):Tok:=⟨if C9 s=true then 2 else if C4 s=true then 1 else 5,s,0,0⟩
def D5 (s:List UInt8):List Tok:=if C4 s=false then [M1] else [⟨1,s,0,0⟩]
def Y0 (n:Int):List Tok:=if n<0\/2147483647<n then [M1] else [⟨3,[],n,0⟩]
def txB (c:UInt8):Bool:=decide (32<=c.toNat) && decide (c.toNat<=126)
def A6h (s:List UInt8):List Tok:=if s.all txB=false\/32<s.length then [M1] else [⟨4,s,0,0⟩]
def C6 (q:Int × List Tok) (least:Int):List Tok:=if A8 q.1<least then [B1 [40]]++q.2++[B1 [41]] else q.2
def D9 (k v:Int) (n:List UInt8) (as1:List (Int × List Tok)):List Tok :=
 let lv:=A8 k
 if k=1 then Y0 v
 else if k=2 then D5 n
 else if k=3 then [B1 [116,114,117,101]]
 else if k=4 then [B1 [102,97,108,115,101]]
 else if k=8 then [B1 [112,108,97,121,101,114]]
 else if k=9 then [B1 [98,97,108,108]]
 else if k=5 then [B1 [99,108,111,115,101,100]]++D5 n
 else if k=6 then [B1 [97,99,116,105,118,101]]++D5 n
 else if k=7 then [B1 [108,101,102,116]]++D5 n
 else match as1 with
  | [q]=>if lv=6 then [B1 (if k=10 then [45] else [33])]++C6 q 6 else [M1]
  | [q,r]=>if lv<6 then C6 q (if lv=3 then 4 else lv)++[B1 (B6.getD (k-12).toNat [])]++C6 r (lv+1) else [M1]
  | _=>[M1]
mutual
def exT:Ex->List Tok
 | .mk k v n a p=>D9 k v n (A4x a)
def A4x:List Ex->List (Int × List Tok)
 | []=>[]
 | e :: l=>(e.kind,exT e) :: A4x l
end
def agT (l:List Ex) (i:Nat):List Tok:=match l[i]? with
 | some e=>exT e
 | none=>[M1]
mutual
def stT:St->List Tok
 | .mk k n t a x y p =>
  if k=1 then D5 n++[B1 [61]]++agT a 0++[B1 [59]]
  else if k<2\/19<k then [M1]
  else
   let w:=B1 (C1.getD (k-2).toNat [])
   if k=2\/k=3 then
    let o:=[w]++agT a 0++([B1 [123]]++A1w x++[B1 [125]])
    match y with
    | []=>o
    | [s]=>if s.kind=2 then o++[B1 [101,108,115,101]]++stT s else o++[B1 [101,108,115,101]]++([B1 [123]]++stT s++[B1 [125]])
    | s :: s2 :: r=>o++[B1 [101,108,115,101]]++([B1 [123]]++A1w (s :: s2 :: r)++[B1 [125]])
   else if k=4 then [w]++agT a 0++[B1 [59]]
   else if k=18 then [w]++A6h t++[B1 [44]]++agT a 0++[B1 [59]]
   else if k=8\/k=10 then [w]++D5 n++agT a 0++[B1 [59]]
   else if k=9 then [w]++D5 n++agT a 0++[B1 [44]]++agT a 1++[B1 [59]]
   else if k=19 then [w]++[B1 [59]]
   else [w]++D5 n++[B1 [59]]
def A1w:List St->List Tok
 | []=>[]
 | s :: l=>stT s++A1w l
end
def blT (l:List St):List Tok:=[B1 [123]]++A1w l++[B1 [125]]
def dcT (d:Dc):List Tok :=
 if d.kind<1\/8<d.kind then [M1]
 else
  let o:=[B1 (D7.getD (d.kind-1).toNat [])]++D5 d.name
  (if 6<d.kind then o
  else if d.value<0 /\ -2147483647<=d.value/\d.kind=6 then o++[B1 [45]]++Y0 (-d.value)
  else o++Y0 d.value)++[B1 [59]]
def hdT (h:Hd):List Tok:=[B1 [111,110],B1 (E1.getD (h.trig-1).toNat [])]++(if 2<h.trig then D5 h.name else [])++blT h.body
def hdBad (h:Hd):Bool:=decide (h.trig<1) || decide (6<h.trig)
def mdT (m:Md):List Tok:=[B1 [109,111,100,101]]++D5 m.name++Y0 m.prio++[B1 [123]]++m.hds.flatMap hdT++[B1 [125]]
def ruT (r:Ru):List Tok:=if (r.modes.any fun m=>m.hds.any hdBad)=true then [M1] else r.decls.flatMap dcT++r.modes.flatMap mdT
mutual
def Ex.plain:Ex->Ex
 | .mk k v n a p=>.mk k v n (Ex.plains a) 0
def Ex.plains:List Ex->List Ex
 | []=>[]
 | e :: l=>e.plain :: Ex.plains l
end
theorem Ex.plains_map:∀ l:List Ex,Ex.plains l=l.map Ex.plain
 | []=>rfl
 | e :: l=>by rw [Ex.plains,Ex.plains_map l];rfl
mutual
def A4y (p:Bool):Ex->Ex->Bool
 | .mk k v n a q,.mk k' v' n' a' q'=>k == k' && (v == v' && (n == n' && ((p || q == q') && O6 p a a')))
def O6 (p:Bool):List Ex->List Ex->Bool
 | [],[]=>true
 | e :: l,e' :: l'=>A4y p e e' && O6 p l l'
 | _,_=>false
end
end Go.Pb
namespace Go.Pb
variable [Go.Sym.Tab]
open Go.Sym
def G1 (k:Int):Nat:=if A8 k=6 then 1 else if A8 k<6 then 2 else 0
def W6 (k:Int):Bool:=k == 5 || (k == 6 || k == 7)
def kOk (k:Int):Bool:=decide (A8 k<7) || (decide (1<=k) && decide (k<=24))
def T9 (k:Int) (n:List UInt8):Bool:=if k=2\/W6 k=true then C4 n else n == []
def U8 (k v:Int):Bool:=v == 0 || (k == 1 && (decide (0<v) && decide (v<=2147483647)))
def N3 (k q:Int) (i:Nat):Bool:=decide (A8 q<A8 k) || (A8 q == A8 k && (i == 1 || A8 k == 3))
mutual
def msM:Ex->Option (Nat × Nat)
 | .mk k v n a p =>
  if kOk k=false\/a.length≠G1 k\/T9 k n=false\/U8 k v=false then none
  else if G1 k=0 then some (1,0)
  else match msL k 0 a with
   | none=>none
   | some (o,d)=>some (o,if G1 k=1 then d+1 else d)
def msL (k:Int):Nat->List Ex->Option (Nat × Nat)
 | _,[]=>some (0,0)
 | i,e :: l=>match msM e with
  | none=>none
  | some (o,d)=>match msL k (i+1) l with
   | none=>none
   | some (o2,d2)=>some (o+o2,max (if N3 k e.kind i=true then d+1 else d) d2)
end
def Q7 (e:Ex):Bool:=match msM e with
 | some (o,d)=>decide (o<=32) && decide (d<=16)
 | none=>false
structure Shp where
 name:Bool
 text:Bool
 args:Nat
 thn:Bool
 els:Bool
def M9 (k:Int):Shp :=
 if k=1\/k=8\/k=10 then ⟨true,false,1,false,false⟩
 else if k=9 then ⟨true,false,2,false,false⟩
 else if k=2 then ⟨false,false,1,true,true⟩
 else if k=3 then ⟨false,false,1,true,false⟩
 else if k=4 then ⟨false,false,1,false,false⟩
 else if k=18 then ⟨false,true,1,false,false⟩
 else if k=19 then ⟨false,false,0,false,false⟩
 else ⟨true,false,0,false,false⟩
def S0 (s:List UInt8):Bool:=s.all txB && decide (s.length<=32)
mutual
def A3s:Nat->St->Bool
 | d,.mk k n t a x y p =>
  (decide (1<=k) && decide (k<=19)) && (a.length == (M9 k).args && a.all Q7) &&
   ((if (M9 k).name=true then C4 n else n == []) && (if (M9 k).text=true then S0 t else t == [])) &&
   (((M9 k).thn || x.isEmpty) && ((M9 k).els || y.isEmpty)) &&
   ((decide (x.length<=64) && (x.isEmpty || decide (d+1<=8)) && A2u (d+1) x) && (decide (y.length<=64) && (y.isEmpty || decide (d+1<=8)) && A2u (d+1) y))
def A2u:Nat->List St->Bool
 | _,[]=>true
 | d,s :: l=>A3s d s && A2u d l
end
def A2v (l:List St) (d:Nat):Bool:=decide (l.length<=64) && (l.isEmpty || decide (d<=8)) && A2u d l
def A7x (d:Dc):Bool:=decide (1<=d.kind) && decide (d.kind<=8) && C4 d.name && decide ((if d.kind=6 then -2147483647 else 0)<=d.value) && decide (d.value<=(if d.kind=7\/d.kind=8 then 0 else 2147483647))
def A3t (h:Hd):Bool:=decide (1<=h.trig) && decide (h.trig<=6) && (if 3<=h.trig then C4 h.name else h.name == []) && A2v h.body 1
def A1v (m:Md):Bool:=C4 m.name && decide (0<=m.prio) && decide (m.prio<=2147483647) && decide (m.hds.length<=32) && m.hds.all A3t
def A9o (r:Ru):Bool:=decide (r.decls.length<=128) && decide (r.modes.length<=16) && r.decls.all A7x && r.modes.all A1v
def W1 (t:Tok):Prop:=(t.kind=1->C4 t.text=true)/\(t.kind=3->0<=t.value/\t.value<=2147483647)/\(t.kind=4->S0 t.text=true)
def SE (n:Int) (s:Rd) (e:Ex) (s':Rd):Prop :=
 okR s=true/\s'.par=s.par/\∃ o d,msM e=some (o,d)/\s'.ops=s.ops+(o:Int)/\s'.ops<=32/\((n<=A8 e.kind/\s.par+(d:Int)<=16)\/s.par+(d:Int)+1<=16)
theorem O5 (k:Int):1<=A8 k/\A8 k<=7:=by
 unfold A8;repeat' split
 all_goals omega
theorem A7c {k:Int} (h:A8 k<7):10<=k/\k<=24:=by
 unfold A8 at h;repeat' split at h
 all_goals omega
theorem lev_ops {k:Int} (h0:0<=k) (h1:k<13):A8 (12+k)<6:=by
 unfold A8;repeat' split
 all_goals omega
theorem Q4 {k:Int} (h:k=10\/k=11):A8 k=6:=by
 rcases h with rfl|rfl<;>rfl
theorem ms_bin {k:Int} {a b:Ex} {o1 d1 o2 d2:Nat} {p:Int} (hk:A8 k<6) (ha:msM a=some (o1,d1)) (hb:msM b=some (o2,d2)) :
  msM (.mk k 0 [] [a,b] p)=some (o1+o2,max (if N3 k a.kind 0=true then d1+1 else d1) (if N3 k b.kind 1=true then d2+1 else d2)):=by
 have hl:=A7c (k:=k) (by omega);have h1:kOk k=true:=by simp [kOk];left;omega
 have h2:G1 k=2:=by unfold G1;rw [if_neg (by omega),if_pos hk]
 have h3:T9 k []=true:=by
  unfold T9;rw [if_neg]
  ·rfl
  ·simp only [W6,Bool.or_eq_true,beq_iff_eq];omega
 have h4:U8 k 0=true:=by simp [U8]
 unfold msM;rw [if_neg (by simp [h1,h2,h3,h4]),h2,if_neg (by omega)];simp only [msL,ha,hb,Nat.add_zero,Nat.zero_add,Nat.max_zero,if_neg (show ¬ 2=1 by omega)]
theorem ms_un {k:Int} {a:Ex} {o d:Nat} {p:Int} (hk:k=10\/k=11) (ha:msM a=some (o,d)) :
  msM (.mk k 0 [] [a] p)=some (o,(if N3 k a.kind 0=true then d+1 else d)+1):=by
 have hl:=Q4 hk;have h1:kOk k=true:=by simp [kOk];left;omega
 have h2:G1 k=1:=by unfold G1;rw [if_pos hl]
 have h3:T9 k []=true:=by
  unfold T9;rw [if_neg]
  ·rfl
  ·simp only [W6,Bool.or_eq_true,beq_iff_eq];omega
 have h4:U8 k 0=true:=by simp [U8]
 unfold msM;rw [if_neg (by simp [h1,h2,h3,h4]),h2,if_neg (by omega)];simp only [msL,ha,Nat.add_zero,Nat.max_zero,if_true]
theorem ms_leaf {k v:Int} {n:List UInt8} {p:Int} (hk:A8 k=7) (h1:kOk k=true) (h3:T9 k n=true) (h4:U8 k v=true):msM (.mk k v n [] p)=some (1,0):=by
 have h2:G1 k=0:=by unfold G1;rw [if_neg (by omega),if_neg (by omega)]
 unfold msM;rw [if_neg (by simp [h1,h2,h3,h4]),if_pos h2]
section
variable {L:List Tok} {E:Int}
theorem okb_exp {s:Rd} {t:List UInt8} (h:okR (C7 L E s t)=true):okR s=true:=(A3g (B0u h).1).1
theorem prim_ok {s:Rd} (h:okR (E6 L E s).2=true):okR s=true:=by
 unfold E6 at h;dsimp only at h;split at h
 ·rw [Z4] at h;cases h
 ·split at h
  ·rename_i h1;rw [h1] at h;cases h
  ·rename_i h1;have h2:okR (C0 L E { s with ops:=s.ops+1 } (s.ops+1) 32 9)=true:=by simpa using h1
   exact (N0 (by decide) h2).1
theorem prim_sound (hG:∀ t∈L,W1 t) {s s':Rd} {e:Ex} (h:E6 L E s=(e,s')) (hok:okR s'=true) (hp:s.par<=16):SE 7 s e s':=by
 have hs:okR s=true:=prim_ok (L:=L) (E:=E) (by rw [h];exact hok);have leaf:∀ (k v:Int) (n:List UInt8) (p:Int),A8 k=7->kOk k=true->T9 k n=true->U8 k v=true->s.ops+1<=32->∀ s2:Rd,s2.par=s.par->s2.ops=s.ops+1->SE 7 s (.mk k v n [] p) s2:=by
  intro k v n p q1 q2 q3 q4 q6 s2 q7 q8;refine ⟨hs,q7,1,0,ms_leaf q1 q2 q3 q4,by rw [q8];rfl,by omega,.inl ⟨?_,by simpa using hp⟩⟩;show 7<=A8 k;omega
 unfold E6 at h;dsimp only at h;split at h
 ·cases h;rw [Z4] at hok;cases hok
 rename_i hc;split at h
 ·rename_i h1;cases h;rw [h1] at hok;cases hok
 rename_i h1;have h2:okR (C0 L E { s with ops:=s.ops+1 } (s.ops+1) 32 9)=true:=by simpa using h1
 obtain ⟨-,h3,h4⟩:=N0 (by decide) h2;rw [h4] at h;split at h
 ·rename_i hk;obtain ⟨-, -, -,hk7⟩:=K9 hk;have hk7:B7 L E s D8<7:=hk7;generalize B7 L E s D8=k at h hk hk7;split at h
  ·rename_i hk4;cases h;obtain ⟨t1,t2⟩:=take_ok hok;obtain ⟨t3,t4⟩:=J2 t1;have hn:=(hG _ (G9 (by decide) t4).1).1 t4;rw [t2];have:k=4\/k=5\/k=6:=by omega
   rcases this with rfl|rfl|rfl
   ·exact leaf 5 _ _ _ (by decide) (by decide) hn (by decide) h3 _ rfl rfl
   ·exact leaf 6 _ _ _ (by decide) (by decide) hn (by decide) h3 _ rfl rfl
   ·exact leaf 7 _ _ _ (by decide) (by decide) hn (by decide) h3 _ rfl rfl
  ·rename_i hk4;cases h;have:k=0\/k=1\/k=2\/k=3:=by omega
   rcases this with rfl|rfl|rfl|rfl
   all_goals exact leaf _ _ _ _ (by decide) (by decide) (by decide) (by decide) h3 _ rfl rfl
 ·rename_i hk;split at h
  ·rename_i hk3;cases h;have hn:=(hG _ (G9 (by decide) hk3).1).2.1 hk3;refine leaf 1 _ _ _ (by decide) (by decide) (by decide) ?_ h3 _ rfl rfl;simp only [U8,Bool.or_eq_true,Bool.and_eq_true,beq_iff_eq,decide_eq_true_eq];by_cases h0:(A3 L E s).value=0
   ·exact .inl h0
   ·exact .inr ⟨trivial,by omega,hn.2⟩
  ·rename_i hk3;cases h;have h1k:F2 L E s 1=true:=by
    cases hz:F2 L E s 1 with
    | true=>rfl
    | false =>
     refine absurd ⟨by omega,?_,hz⟩ hc;cases hy:F2 L E s 3 with
     | false=>rfl
     | true=>exact absurd (J2 hy).2 hk3
   have hn:=(hG _ (G9 (by decide) (J2 h1k).2).1).1 (J2 h1k).2;exact leaf 2 _ _ _ (by decide) (by decide) hn (by decide) h3 _ rfl rfl
theorem OB.all:∀ f:Nat,(∀ n s r,D3 L E f n s=some r->okR r.2=true->okR s=true)/\(∀ n e s r,F9 L E f n e s=some r->okR r.2=true->okR s=true)/\(∀ s r,G8 L E f s=some r->okR r.2=true->okR s=true)
 | 0=>⟨fun n s r h=>by simp [D3] at h,fun n e s r h=>by simp [F9] at h,fun s r h=>by simp [G8] at h⟩
 | f+1=>by
  obtain ⟨i1,i2,i3⟩:=OB.all f;refine ⟨fun n s r h k=>?_,fun n e s r h k=>?_,fun s r h k=>?_⟩
  ·unfold D3 at h;split at h
   ·exact i3 _ _ h k
   ·split at h
    ·cases h
    ·rename_i hb;exact i1 _ _ _ hb (i2 _ _ _ _ h k)
  ·unfold F9 at h;dsimp only at h;split at h
   ·cases h;exact k
   ·rename_i hk;exact (K9 (show 0<=B7 L E s B6 from Classical.byContradiction fun g=>hk (.inl (by omega)))).1
  ·unfold G8 at h;dsimp only at h;split at h
   ·cases h;exact prim_ok k
   ·rename_i hk;exact (K9 (show 0<=B7 L E s J1 by omega)).1
theorem SE.weak {m n:Int} {s s':Rd} {e:Ex} (hmn:n<=m) (h:SE m s e s'):SE n s e s':=by
 obtain ⟨h1,h2,o,d,h3,h4,h5,h6⟩:=h;exact ⟨h1,h2,o,d,h3,h4,h5,h6.imp (fun h=>⟨by omega,h.2⟩) id⟩
theorem SE.all (hG:∀ t∈L,W1 t):∀ f:Nat,(∀ n s r,1<=n->n<=6->D3 L E f n s=some r->okR r.2=true->s.par<=16->SE n s r.1 r.2) /\
  (∀ n m e s s0 r,1<=n->n<=5->(m=n+1\/m=n/\n≠3)->F9 L E f n e s=some r->okR r.2=true->SE m s0 e s->s0.par<=16->SE n s0 r.1 r.2) /\
  (∀ s r,G8 L E f s=some r->okR r.2=true->s.par<=16->SE 6 s r.1 r.2)
 | 0=>⟨fun n s r _ _ h=>by simp [D3] at h,fun n m e s s0 r _ _ _ h=>by simp [F9] at h,fun s r h=>by simp [G8] at h⟩
 | f+1=>by
  obtain ⟨i1,i2,i3⟩:=SE.all hG f;refine ⟨fun n s r n1 n6 h k hp=>?_,fun n m e s s0 r n1 n5 hm h k he hp=>?_,fun s r h k hp=>?_⟩
  ·unfold D3 at h;split at h
   ·have:=i3 _ _ h k hp;exact this.weak n6
   ·rename_i hn;split at h
    ·cases h
    ·rename_i e s1 hb;have k1:=(OB.all f).2.1 _ _ _ _ h k;have h1:=i1 _ _ _ (by omega) (by omega) hb k1 hp;exact i2 n (n+1) _ _ s _ n1 (by omega) (.inl rfl) h k h1 hp
  ·unfold F9 at h;dsimp only at h;split at h
   ·cases h;exact he.weak (by omega)
   ·rename_i hk;have hk0:0<=B7 L E s B6:=Classical.byContradiction fun g=>hk (.inl (by omega));have hlv:A8 (12+B7 L E s B6)=n:=Classical.byContradiction fun g=>hk (.inr g);split at h
    ·cases h
    ·rename_i x s1 hb;obtain ⟨e1,e2,o1,d1,e3,e4,e5,e6⟩:=he;have step:okR s1=true->SE n s0 (.mk (12+B7 L E s B6) 0 [] [e,x] (A3 L E s).pos) s1:=by
      intro k1;obtain ⟨x1,x2,o2,d2,x3,x4,x5,x6⟩:=i1 _ _ _ (by omega) (by omega) hb k1 (by show s.par<=16;omega);have x2':s1.par=s.par:=x2;have x4':s1.ops=s.ops+(o2:Int):=x4;have x6':((n+1<=A8 x.kind/\s.par+(d2:Int)<=16)\/s.par+(d2:Int)+1<=16):=x6;refine ⟨e1,by omega,_,_,ms_bin (by omega) e3 x3,by rw [x4',e4];omega,x5,.inl ⟨?_,?_⟩⟩
      ·show n<=A8 (12+B7 L E s B6);omega
      ·have w1:s0.par+((if N3 (12+B7 L E s B6) e.kind 0=true then d1+1 else d1:Nat):Int)<=16:=by
        split
        ·rename_i hw;simp only [N3,Bool.or_eq_true,Bool.and_eq_true,decide_eq_true_eq,beq_iff_eq,hlv] at hw;omega
        ·omega
       have w2:s0.par+((if N3 (12+B7 L E s B6) x.kind 1=true then d2+1 else d2:Nat):Int)<=16:=by
        split
        ·rename_i hw;simp only [N3,Bool.or_eq_true,Bool.and_eq_true,decide_eq_true_eq,beq_iff_eq,hlv] at hw;omega
        ·omega
       omega
     split at h
     ·cases h;exact step k
     ·rename_i hn3;have k1:=(OB.all f).2.1 _ _ _ _ h k;exact i2 n n _ _ s0 _ n1 n5 (.inr ⟨rfl,hn3⟩) h k (step k1) hp
  ·unfold G8 at h;dsimp only at h;split at h
   ·cases h;exact (prim_sound hG rfl k hp).weak (by decide)
   ·rename_i hk;obtain ⟨hs,hi, -,hk3⟩:=K9 (show 0<=B7 L E s J1 by omega);have hk3:B7 L E s J1<3:=hk3;split at h
    ·rename_i hl;cases h;rw [hl] at k;cases k
    rename_i hl;have hl:okR (C0 L E s (s.par+1) 16 50)=true:=by simpa using hl
    obtain ⟨-,h2,h3⟩:=N0 (by decide) hl;rw [h3] at h;split at h
    ·split at h
     ·cases h
     ·rename_i e s3 hb;cases h;have k3:okR (C7 L E s3 [41])=true:=k;obtain ⟨-,x2⟩:=B0u k3;obtain ⟨e1,e2,o,d,e3,e4,e5,e6⟩:=i1 1 _ _ (by decide) (by decide) hb (okb_exp k3) (show s.par+1<=16 from h2);have e2':s3.par=s.par+1:=e2;have e4':s3.ops=s.ops+(o:Int):=e4;have e6':((1<=A8 e.kind/\s.par+1+(d:Int)<=16)\/s.par+1+(d:Int)+1<=16):=e6;rw [x2];refine ⟨hs,by show s3.par-1=s.par;omega,o,d,e3,e4',e5,.inr (by omega)⟩
    ·rename_i hk2;split at h
     ·cases h
     ·rename_i e s3 hb;cases h;have k3:okR s3=true:=k;obtain ⟨e1,e2,o,d,e3,e4,e5,e6⟩:=i3 _ _ hb k3 (show s.par+1<=16 from h2);have e2':s3.par=s.par+1:=e2;have e4':s3.ops=s.ops+(o:Int):=e4;have e6':((6<=A8 e.kind/\s.par+1+(d:Int)<=16)\/s.par+1+(d:Int)+1<=16):=e6;have hk10:10+B7 L E s J1=10\/10+B7 L E s J1=11:=by omega
      refine ⟨hs,by show s3.par-1=s.par;omega,o,_,ms_un hk10 e3,e4',e5,.inl ⟨?_,?_⟩⟩
      ·show 6<=A8 (10+B7 L E s J1);rw [Q4 hk10];decide
      ·split
       ·rename_i hw;simp only [N3,Bool.or_eq_true,Bool.and_eq_true,decide_eq_true_eq,beq_iff_eq,Q4 hk10] at hw;omega
       ·omega
theorem expn_sound (hG:∀ t∈L,W1 t) {f:Nat} {s:Rd} {r:Ex × Rd} (h:F4 L E f s=some r) (hok:okR r.2=true):okR s=true/\Q7 r.1=true:=by
 obtain ⟨h1,h2,o,d,h3,h4,h5,h6⟩:=(SE.all hG f).1 1 _ _ (by decide) (by decide) h hok (by decide:(0:Int)<=16);refine ⟨h1,?_⟩;have h4':r.2.ops=0+(o:Int):=h4;have h6':((1<=A8 r.1.kind/\0+(d:Int)<=16)\/0+(d:Int)+1<=16):=h6;unfold Q7;rw [h3];simp only [Bool.and_eq_true,decide_eq_true_eq];omega
end
end Go.Pb
namespace Go.Pb
variable [Go.Sym.Tab]
open Go.Sym
theorem A8l {p:UInt8->Bool}:∀ (s:List UInt8),B8 p (s.take (B8 p s))=B8 p s
 | []=>rfl
 | c :: r=>by
  have ih:=A8l (p:=p) r;by_cases h:p c=true
  ·simp only [B8,h,if_true,List.take_succ_cons];rw [ih]
  ·simp only [B8,h,if_false,List.take_zero,Bool.false_eq_true]
theorem B0b:∀ {s t:List UInt8} {n:Nat},quM s=some (t,n)->t.all txB=true
 | [],t,n,h=>by simp [quM] at h
 | c :: r,t,n,h=>by
  rw [I1] at h;split at h
  ·cases h;rfl
  ·split at h
   ·cases h
   ·rename_i h34 hr;split at h
    ·cases r with
     | nil=>cases h
     | cons d q =>
      simp only at h;split at h
      ·rename_i hd;obtain ⟨⟨t',n'⟩,h1,h2⟩:=Option.map_eq_some_iff.1 h;have:=B0b h1;cases h2;simp only [List.all_cons,this,Bool.and_true,txB,Bool.and_eq_true,decide_eq_true_eq];omega
      ·cases h
    ·obtain ⟨⟨t',n'⟩,h1,h2⟩:=Option.map_eq_some_iff.1 h;have:=B0b h1;cases h2;simp only [List.all_cons,this,Bool.and_true,txB,Bool.and_eq_true,decide_eq_true_eq];omega
theorem nextM_good {s:List UInt8} {p:Int} (h:(A5 s).err=0):W1 (nxT (A5 s) p)/\0<=(A5 s).value/\(A5 s).value<=2147483647:=by
 unfold W1;cases s with
 | nil=>simp [A5,nxE] at h
 | cons c q =>
  by_cases hl:ltB c=true
  ·by_cases h12:12<B8 ptB (c :: q)
   ·rw [A5,if_pos hl,if_pos h12] at h;simp [nxE] at h
   ·rw [A5,if_pos hl,if_neg h12,nxT];refine ⟨⟨fun hk=>?_,fun hk=>?_,fun hk=>?_⟩,by simp,by simp⟩
    ·simp only at hk ⊢;have hw:C9 ((c :: q).take (B8 ptB (c :: q)))=false:=by
      cases hz:C9 ((c :: q).take (B8 ptB (c :: q))) with
      | false=>rfl
      | true=>rw [hz] at hk;simp at hk
     have hp:ptB c=true:=by unfold ptB;rw [hl];rfl
     have h1:1<=B8 ptB (c :: q):=by simp only [B8,hp,if_true];omega
     have hle:=O9 ptB (c :: q);have hlen:((c :: q).take (B8 ptB (c :: q))).length=B8 ptB (c :: q):=by rw [List.length_take];omega
     have hhd:∃ r,(c :: q).take (B8 ptB (c :: q))=c :: r:=by
      obtain ⟨k,hk⟩:∃ k,B8 ptB (c :: q)=k+1:=⟨B8 ptB (c :: q)-1,by omega⟩;rw [hk];exact ⟨_,rfl⟩
     unfold C4;rw [hlen,hw,A8l];obtain ⟨r,hr⟩:=hhd;rw [hr];simp only [hl,Bool.and_true,Bool.not_false,Bool.and_eq_true,decide_eq_true_eq];exact ⟨⟨h1,by omega⟩,trivial⟩
    ·simp only at hk;split at hk<;>simp at hk
    ·simp only at hk;split at hk<;>simp at hk
  ·by_cases hd:dgB c=true
   ·by_cases h3:1<B8 dgB (c :: q)/\c.toNat=48
    ·rw [A5,if_neg hl,if_pos hd,if_pos h3] at h;simp [nxE] at h
    ·by_cases h2:2147483647<J7 ((c :: q).take (B8 dgB (c :: q)))
     ·rw [A5,if_neg hl,if_pos hd,if_neg h3,if_pos h2] at h;simp [nxE] at h
     ·rw [A5,if_neg hl,if_pos hd,if_neg h3,if_neg h2,nxT];refine ⟨⟨fun hk=>by simp at hk,fun hk=>?_,fun hk=>by simp at hk⟩,?_⟩
      ·simp only;omega
      ·simp only;omega
   ·by_cases h34:c.toNat=34
    ·cases hq:quM q with
     | none=>rw [A5,if_neg hl,if_neg hd,if_pos h34,hq] at h;simp [nxE] at h
     | some x =>
      obtain ⟨t,m⟩:=x;by_cases h32:32<t.length
      ·rw [A5,if_neg hl,if_neg hd,if_pos h34,hq] at h;simp only at h;rw [if_pos h32] at h;simp [nxE] at h
      ·rw [A5,if_neg hl,if_neg hd,if_pos h34,hq];simp only;rw [if_neg h32,nxT];refine ⟨⟨fun hk=>by simp at hk,fun hk=>by simp at hk,fun hk=>?_⟩,by simp,by simp⟩;simp only [S0,B0b hq,Bool.true_and,decide_eq_true_eq];omega
    ·by_cases hs:D2 (c :: q)=0
     ·rw [A5,if_neg hl,if_neg hd,if_neg h34,if_pos hs] at h;simp [nxE] at h
     ·rw [A5,if_neg hl,if_neg hd,if_neg h34,if_neg hs,nxT];exact ⟨⟨fun hk=>by simp at hk,fun hk=>by simp at hk,fun hk=>by simp at hk⟩,by simp,by simp⟩
theorem TOk.good {t:Tok} (h:TOk t):W1 t/\0<=t.value/\t.value<=2147483647:=by
 obtain ⟨s,p,h1,rfl⟩:=h;obtain ⟨h2,h3⟩:=nextM_good (p:=p) h1;exact ⟨h2,h3⟩
theorem scanT_good {s:List UInt8} (h:(B4 s).2.2=0):∀ t∈(B4 s).1,W1 t:=fun t ht=>(A9u h t ht).good.1
theorem scan_val {s:List UInt8} (h:(B4 s).2.2=0):∀ t∈(B4 s).1,0<=t.value/\t.value<=9223372036854775807:=fun t ht=>by
 have:=(A9u h t ht).good.2;omega
theorem A9v {s:List UInt8} (h:(B4 s).2.2=0):(B4 s).1.length<=20000:=Nat.le_trans (A8o s) (A0r h).1
def rd0:Rd:=⟨0,0,0,0,0⟩
def A6m (L:List Tok) (E:Int):Ru × Rd:=Classical.choose (rul_tot (L:=L) (E:=E) rd0)
theorem rulF_e (L:List Tok) (E:Int):Evt (fun f=>A8a L E f rd0) (A6m L E):=Classical.choose_spec (rul_tot (L:=L) (E:=E) rd0)
def J3 (L:List Tok) (E:Int):Ex × Rd:=Classical.choose (V1 (L:=L) (E:=E) rd0)
theorem W3 (L:List Tok) (E:Int):Xpn L E rd0 (J3 L E):=(Classical.choose_spec (V1 (L:=L) (E:=E) rd0)).1
def Ru0:Ru:=⟨[],[]⟩
def parM (s:List UInt8):Ru × Int × Int :=
 let q:=B4 s
 if q.2.2≠0 then (Ru0,q.2.1,q.2.2)
 else if okR (A6m q.1 s.length).2=false then (Ru0,(A6m q.1 s.length).2.pos,(A6m q.1 s.length).2.e)
 else ((A6m q.1 s.length).1,0,0)
abbrev parV (q:Ru × Int × Int):DV:=.tup [q.1.v,I64 q.2.1,I64 q.2.2]
def X8 (s:List UInt8):Ex × Int × Int :=
 let q:=B4 s
 if q.2.2≠0 then (Ex0,q.2.1,q.2.2)
 else
  let w:=J3 q.1 s.length
  let z:=if okR w.2=true/\w.2.i<q.1.length then K8 q.1 s.length w.2 else w.2
  if okR z=false then (Ex0,z.pos,z.e) else (w.1,0,0)
abbrev A6t (q:Ex × Int × Int):DV:=.tup [q.1.v,I64 q.2.1,I64 q.2.2]
theorem parV_nl (q:Ru × Int × Int):(parV q).nl=true:=by
 simp only [DV.nl,DV.nlL,Ru.nl,A1m,A1l,Bool.and_true]
theorem parEV_nl (q:Ex × Int × Int):(A6t q).nl=true:=by
 simp only [DV.nl,DV.nlL,Ex.nl,Bool.and_true]
end Go.Pb
namespace Go.Proofs.YthlpinppaclofaaGreatDoor
open Go.Eng (IC IOper DReg IFn B5)
open Go.Sym Go.Pb
theorem pc_ru0 {H:Hp} {a b:DV}:∃ H2,GL H [.tup [.agg [.snil,.snil],a,b]] H2 [.tup [.agg [.lst [],.lst []],a,b]] :=
 ⟨H,GL.view fun ρ vs hA=>K6 (fun v h=>by
  obtain ⟨b',rfl,k1,k2⟩:=h.tup_inv;refine .tup _ _ k1 fun i x y hx hy=>?_
  match i with
  | 0 =>
   cases hx;obtain ⟨c',rfl,m1,m2⟩:=(k2 0 _ y rfl hy).agg_inv;refine .agg _ _ m1 fun j x z hx hz=>?_
   match j with
   | 0=>cases hx;exact (m2 0 _ z rfl hz).snil_lst
   | 1=>cases hx;exact (m2 1 _ z rfl hz).snil_lst
   | _+2=>cases hx
  | 1=>cases hx;exact k2 1 _ y rfl hy
  | 2=>cases hx;exact k2 2 _ y rfl hy
  | _+3=>cases hx) vs hA⟩
theorem A6s {H:Hp} {a b k z n p:DV}:∃ H2,GL H [.tup [.agg [k,z,n,.snil,p],a,b]] H2 [.tup [.agg [k,z,n,.lst [],p],a,b]] :=
 ⟨H,GL.view fun ρ vs hA=>K6 (fun v h=>by
  obtain ⟨b',rfl,k1,k2⟩:=h.tup_inv;refine .tup _ _ k1 fun i x y hx hy=>?_
  match i with
  | 0=>cases hx;exact v_ex (k2 0 _ y rfl hy)
  | 1=>cases hx;exact k2 1 _ y rfl hy
  | 2=>cases hx;exact k2 2 _ y rfl hy
  | _+3=>cases hx) vs hA⟩
theorem c_ParseExpr (s:List UInt8) (hs:s.length<=1000000000):PC Tryz.prog 28 [.str s] (A6t (X8 s)):=by
 refine PC.ofT A6 rfl (Nat.le_of_ble_eq_true rfl) rfl (parEV_nl _) ?_;have hsc:=c_ScanR s hs;by_cases h0:(B4 s).2.2=0
 ·have hd:((B4 s).2.2 != 0)=false:=by simpa using h0
  repeat' ((with_reducible first|refine wr ?_|refine cpc hsc ?_|refine k_cu ?_ ?_|refine wb2 ?_ ?_<;>(intro hb;try simp only [hb])|fail)<;>try simp only [go_sem,seval,hd])
  obtain ⟨f,hf⟩:=(W3 (B4 s).1 s.length).get;refine AC.call (c_expression (B4 s).1 s.length (by have:=A9v h0;omega) f rd0 _ hf (Nat.zero_le _) _ _ 1 rfl (by decide)) ?_;rintro v H' c2 ⟨rfl,rfl⟩ hc2;have hM:X8 s=if okR (if okR (J3 (B4 s).1 s.length).2=true/\(J3 (B4 s).1 s.length).2.i<(B4 s).1.length then K8 (B4 s).1 s.length (J3 (B4 s).1 s.length).2 else (J3 (B4 s).1 s.length).2)=false then (Ex0,(if okR (J3 (B4 s).1 s.length).2=true/\(J3 (B4 s).1 s.length).2.i<(B4 s).1.length then K8 (B4 s).1 s.length (J3 (B4 s).1 s.length).2 else (J3 (B4 s).1 s.length).2).pos,(if okR (J3 (B4 s).1 s.length).2=true/\(J3 (B4 s).1 s.length).2.i<(B4 s).1.length then K8 (B4 s).1 s.length (J3 (B4 s).1 s.length).2 else (J3 (B4 s).1 s.length).2).e) else ((J3 (B4 s).1 s.length).1,0,0):=by
   unfold X8;dsimp only;rw [if_neg (by simpa using h0)]
  rw [hM];generalize J3 (B4 s).1 s.length=w;clear hM hf;try dsimp only
  rw [Ex.v_w];have ne0:=O0 0 1 c2 (by omega);simp only [go_sem,seval,ne0,A0,A1];repeat' ((with_reducible first|refine wr ?_|refine k_cu ?_ ?_|refine wb2 ?_ ?_<;>(intro hb;try simp only [hb])|fail)<;>try simp only [go_sem,seval,ne0,A0,A1])
  refine AC.call (c_rdok (B4 s).1 s.length w.2 _ _ 1 (by rw [A2 (by omega)];exact A0) (by omega)) ?_;rintro v H' c3 ⟨rfl,rfl⟩ hc3;obtain ⟨z,hz⟩:∃ z,z=(if okR w.2=true/\w.2.i<(B4 s).1.length then K8 (B4 s).1 s.length w.2 else w.2):=⟨_,rfl⟩;rw [<- hz];by_cases hok:okR w.2=true
  case neg =>
   rw [if_neg (fun h=>hok h.1)] at hz;rw [hz];have hok:okR w.2=false:=by simpa using hok
   rw [if_pos hok];simp only [go_sem,seval,hok,ne0,A0,A1];repeat' ((with_reducible first|refine wr ?_|refine k_cu ?_ ?_|refine wb2 ?_ ?_<;>(intro hb;try simp only [hb])|fail)<;>try simp only [go_sem,seval,hok,ne0,A0,A1])
   refine AC.call (c_rdok (B4 s).1 s.length w.2 _ _ 1 (by rw [A2 (by omega)];exact A0) (by omega)) ?_;rintro v H' c4 ⟨rfl,rfl⟩ hc4;have ne0:=A1y 0 1 c2 c4 (by omega);simp only [go_sem,seval,hok,ne0,A0,A1];repeat' ((with_reducible first|refine wr ?_|refine k_cu ?_ ?_|refine wb2 ?_ ?_<;>(intro hb;try simp only [hb])|fail)<;>try simp only [go_sem,seval,hok,ne0,A0,A1])
   repeat refine ⟨by and_intros<;>(repeat rw [A2 (by omega)])<;>rfl,?_⟩
   repeat' ((with_reducible first|refine wr ?_|refine k_cu ?_ ?_|refine wb2 ?_ ?_<;>(intro hb;try simp only [hb])|fail)<;>try simp only [go_sem,seval,hok,ne0,A0,A1])
   rw [C3 (v:=.tup [.agg [I64 0,I64 0,.str [],.snil,I64 0],I64 (w.2).pos,I64 (w.2).e]) rfl];exact A6s
  case pos =>
   by_cases hlt:w.2.i<(B4 s).1.length
   ·have hdl:decide ((w.2.i:Int)<((B4 s).1.length:Int))=true:=by simpa using hlt
    rw [if_pos ⟨hok,hlt⟩] at hz;have hsy:okR z=false:=by rw [hz];exact Z4
    rw [if_pos hsy];simp only [go_sem,seval,hok,hdl,ne0,A0,A1];repeat' ((with_reducible first|refine wr ?_|refine k_cu ?_ ?_|refine wb2 ?_ ?_<;>(intro hb;try simp only [hb])|fail)<;>try simp only [go_sem,seval,hok,hdl,ne0,A0,A1])
    refine AC.call (c_syntax (B4 s).1 s.length w.2 _ _ 1 (by rw [A2 (by omega)];exact A0) (by omega)) ?_;rintro v H' c5 ⟨rfl,rfl⟩ hc5;rw [<- hz];simp only [go_sem,seval,ne0,A0,A1];repeat' ((with_reducible first|refine wr ?_|refine k_cu ?_ ?_|refine wb2 ?_ ?_<;>(intro hb;try simp only [hb])|fail)<;>try simp only [go_sem,seval,ne0,A0,A1])
    refine AC.call (c_rdok (B4 s).1 s.length z _ _ 1 A0 (by omega)) ?_;rintro v H' c4 ⟨rfl,rfl⟩ hc4;have ne0:=A1y 0 1 c2 c4 (by omega);simp only [go_sem,seval,hsy,ne0,A0,A1];repeat' ((with_reducible first|refine wr ?_|refine k_cu ?_ ?_|refine wb2 ?_ ?_<;>(intro hb;try simp only [hb])|fail)<;>try simp only [go_sem,seval,hsy,ne0,A0,A1])
    repeat refine ⟨by and_intros<;>(repeat rw [A2 (by omega)])<;>rfl,?_⟩
    repeat' ((with_reducible first|refine wr ?_|refine k_cu ?_ ?_|refine wb2 ?_ ?_<;>(intro hb;try simp only [hb])|fail)<;>try simp only [go_sem,seval,hsy,ne0,A0,A1])
    rw [C3 (v:=.tup [.agg [I64 0,I64 0,.str [],.snil,I64 0],I64 z.pos,I64 z.e]) rfl];exact A6s
   ·have hdl:decide ((w.2.i:Int)<((B4 s).1.length:Int))=false:=by simpa using hlt
    rw [if_neg (fun h=>hlt h.2)] at hz;subst hz;rw [if_neg (by rw [hok];decide)];simp only [go_sem,seval,hok,hdl,ne0,A0,A1];repeat' ((with_reducible first|refine wr ?_|refine k_cu ?_ ?_|refine wb2 ?_ ?_<;>(intro hb;try simp only [hb])|fail)<;>try simp only [go_sem,seval,hok,hdl,ne0,A0,A1])
    refine AC.call (c_rdok (B4 s).1 s.length w.2 _ _ 1 (by rw [A2 (by omega)];exact A0) (by omega)) ?_;rintro v H' c4 ⟨rfl,rfl⟩ hc4;simp only [go_sem,seval,hok,ne0,A0,A1];repeat' ((with_reducible first|refine wr ?_|refine k_cu ?_ ?_|refine wb2 ?_ ?_<;>(intro hb;try simp only [hb])|fail)<;>try simp only [go_sem,seval,hok,ne0,A0,A1])
    rw [C3 (v:=.tup [w.1.w,I64 0,I64 0]) rfl];rw [<- Ex.v_w];exact ⟨_,GL.refl _ _⟩
 ·have hd:((B4 s).2.2 != 0)=true:=by simpa using h0
  have hM:X8 s=(Ex0,(B4 s).2.1,(B4 s).2.2):=by
   unfold X8;dsimp only;rw [if_pos h0]
  rw [hM];repeat' ((with_reducible first|refine wr ?_|refine cpc hsc ?_|refine k_cu ?_ ?_|refine wb2 ?_ ?_<;>(intro hb;try simp only [hb])|fail)<;>try simp only [go_sem,seval,hd])
  rw [C3 (v:=.tup [.agg [I64 0,I64 0,.str [],.snil,I64 0],I64 (B4 s).2.1,I64 (B4 s).2.2]) rfl];exact A6s
open Go.Sym
abbrev x96:XT Tryz.prog 96:=mkF (by unfold B5;conv=>lhs;reduce;simp only [seval,u8n]) (fun h=>by conv=>lhs;cbv)
instance t96:FT Tryz.prog 96 x96.d:=x96.ft
abbrev x97:XT Tryz.prog 97:=mkF (by unfold B5;conv=>lhs;reduce;simp only [seval,u8n]) (fun h=>by conv=>lhs;cbv)
instance t97:FT Tryz.prog 97 x97.d:=x97.ft
abbrev x98:XT Tryz.prog 98:=mkF (by unfold B5;conv=>lhs;reduce;simp only [seval,u8n]) (fun h=>by conv=>lhs;cbv)
instance t98:FT Tryz.prog 98 x98.d:=x98.ft
abbrev x95:XT Tryz.prog 95:=mkF (by unfold B5;conv=>lhs;reduce;simp only [seval,u8n]) (fun h=>by conv=>lhs;cbv)
instance t95:FT Tryz.prog 95 x95.d:=x95.ft
abbrev x118:XT Tryz.prog 118:=mkF (by unfold B5;conv=>lhs;reduce;simp only [seval,u8n]) (fun h=>by conv=>lhs;cbv)
instance t118:FT Tryz.prog 118 x118.d:=x118.ft
abbrev x67:XT Tryz.prog 67:=mkF (by unfold B5;conv=>lhs;reduce;simp only [seval,u8n]) (fun h=>by conv=>lhs;cbv)
instance t67:FT Tryz.prog 67 x67.d:=x67.ft
abbrev x31:XT Tryz.prog 31:=mkF (by unfold B5;conv=>lhs;reduce;simp only [seval,u8n]) (fun h=>by conv=>lhs;cbv)
instance t31:FT Tryz.prog 31 x31.d:=x31.ft
abbrev x34:XT Tryz.prog 34:=mkF (by unfold B5;conv=>lhs;reduce;simp only [seval,u8n]) (fun h=>by conv=>lhs;cbv)
instance t34:FT Tryz.prog 34 x34.d:=x34.ft
abbrev x72:XT Tryz.prog 72:=mkF (by unfold B5;conv=>lhs;reduce;simp only [seval,u8n]) (fun h=>by conv=>lhs;cbv)
instance t72:FT Tryz.prog 72 x72.d:=x72.ft
theorem A3b {k v p:Int} {x:List UInt8}:∃ H2,GL (nil.upd 0 ⟨4,true,[I64 k,.str x,I64 v,I64 p]⟩) [.slc 0 0 1] H2 [G6 [⟨k,x,v,p⟩]] :=
 A0t rfl rfl rfl (K1 _) ⟨[],rfl⟩
theorem pc_todo1 {o:Option Nat} {xs:List DV} {u n:Nat} (hno:o=none->xs=[]) (hl:xs.length=n) (hu:∀ x∈xs,x.cells.length=u) :
  ∃ H2,GL (D1 Sym.nil o ⟨u,true,A7 xs⟩) [C2 o n] H2 [.lst xs]:=by
 cases o with
 | none=>rw [hno rfl];exact pc_snil
 | some i=>exact A0t (id:=i) A0 rfl hl hu ⟨[],by simp⟩
theorem c_named (s:List UInt8) (hs:s.length<=1000000000):PC Tryz.prog 97 [.str s] (G6 (D5 s)):=by
 refine PC.ofT A6 rfl (Nat.le_of_ble_eq_true rfl) (by simp [DV.nlL,DV.nl]) (by simp [DV.nlL,DV.nl]) ?_;have h1:=c_IsNameR s hs;unfold D5;cases h:C4 s with
 | true =>
  rw [if_neg (by decide)];repeat' ((with_reducible first|refine wr ?_|refine cpc h1 ?_|refine k_cu ?_ ?_|refine wb2 ?_ ?_<;>(intro hb;try simp only [hb])|fail)<;>try simp only [go_sem,seval,h])
  exact A3b
 | false =>
  rw [if_pos rfl];repeat' ((with_reducible first|refine wr ?_|refine cpc h1 ?_|refine k_cu ?_ ?_|refine wb2 ?_ ?_<;>(intro hb;try simp only [hb])|fail)<;>try simp only [go_sem,seval,h])
  exact A3b
theorem c_number31 (n:Int):PC Tryz.prog 98 [I64 n] (G6 (Y0 n)):=by
 refine PC.ofT A6 rfl (Nat.le_of_ble_eq_true rfl) (by simp [DV.nlL,DV.nl]) (by simp [DV.nlL,DV.nl]) ?_;unfold Y0;by_cases h0:n<0
 ·have hd:decide (n<0)=true:=by simpa using h0
  rw [if_pos (.inl h0)];repeat' ((with_reducible first|refine wr ?_|refine k_cu ?_ ?_|refine wb2 ?_ ?_<;>(intro hb;try simp only [hb])|fail)<;>try simp only [go_sem,seval,hd])
  exact A3b
 ·have hd:decide (n<0)=false:=by simpa using h0
  by_cases h1:2147483647<n
  ·have hd1:decide (n>2147483647)=true:=by simpa using h1
   rw [if_pos (.inr h1)];repeat' ((with_reducible first|refine wr ?_|refine k_cu ?_ ?_|refine wb2 ?_ ?_<;>(intro hb;try simp only [hb])|fail)<;>try simp only [go_sem,seval,hd,hd1])
   exact A3b
  ·have hd1:decide (n>2147483647)=false:=by simpa using h1
   rw [if_neg (by omega)];repeat' ((with_reducible first|refine wr ?_|refine k_cu ?_ ?_|refine wb2 ?_ ?_<;>(intro hb;try simp only [hb])|fail)<;>try simp only [go_sem,seval,hd,hd1])
   exact A3b
theorem c_words1 (l:List (List UInt8)) (hl:l.length<=1000000) (hx:∀ x∈l,x.length<=1000000000):PC Tryz.prog 96 [X5 l] (G6 (l.map B1)):=by
 refine PC.ofT A6 rfl (Nat.le_of_ble_eq_true rfl) (by simp [DV.nlL,DV.nl,K5]) (Q9 _) ?_;repeat' ((with_reducible first|refine wr ?_|refine k_cu ?_ ?_|refine wb2 ?_ ?_<;>(intro hb;try simp only [hb])|fail)<;>try simp only [go_sem,seval])
 refine D6 (fun q:Nat × Option Nat=>[(0,X5 l),(3,C2 q.2 q.1),(4,I64 q.1)]) (fun q=>D1 Sym.nil q.2 ⟨4,true,A7 (((l.take q.1).map B1).map Tok.v)⟩)
  (fun q c=>q.1<=l.length/\(q.2=none->q.1=0)/\(∀ i,q.2=some i->i<c)) (fun q=>l.length-q.1) (0,none)
  (by simp [C5,tm,Tm.upd,C2]) (Sub.nil _) ⟨Nat.zero_le _,fun _=>rfl,(fun i hi=>by cases hi)⟩ ?_
 rintro ⟨k,o⟩ c ⟨hk,hno,ho⟩;dsimp only at hk hno ho ⊢;by_cases hlt:k<l.length
 ·have hd:decide ((k:Int)<(l.length:Int))=true:=by simpa using hlt
  have hg:=List.getElem?_eq_getElem hlt;have hx1:=hx _ (List.getElem_mem hlt);have hw:=w64 (n:=(k:Int)+1) (by omega) (by omega);have e0:(l.take (k+1)).map B1=(l.take k).map B1++[B1 l[k]]:=by rw [List.take_add_one,hg,List.map_append];rfl
  generalize l[k]=x at hg hx1 e0;have h1:=c_IsWordR x;have h2:=c_IsNameR x (by omega);have ne0:=U0 c (c+1) (by omega);have hln:(A7 (((l.take k).map B1).map Tok.v)).length=k * 4:=(C8 (u:=4) (K1 _)).trans (by rw [List.length_map,List.length_map,List.length_take,Nat.min_eq_left hk]);cases hw1:C9 x with
  | true =>
   repeat' ((with_reducible first|refine wr ?_|refine cpc h1 ?_|refine cpc h2 ?_|refine k_cu ?_ ?_|refine wb2 ?_ ?_<;>(intro hb;try simp only [hb])|fail)<;>try simp only [go_sem,seval,hd,hg,hw,hw1,ne0,A0,A1])
   refine D4 (F7 (cs:=A7 (((l.take k).map B1).map Tok.v)) (fun e=>by have:=hno e;subst this;exact ⟨rfl,rfl⟩) (fun i hi=>by have:=ho i hi;rw [A2 (by omega),A2 (by omega)];exact A0u hi) hln (by omega) (by omega) (by omega)) ?_;simp only [go_sem,seval,ne0];repeat' ((with_reducible first|refine wr ?_|refine k_cu ?_ ?_|refine wb2 ?_ ?_<;>(intro hb;try simp only [hb])|fail)<;>try simp only [go_sem,seval,hd,hw,ne0])
   refine ⟨(k+1,some (c+1+1)),by simp [C5,tm,Tm.upd,C2],?_,inv ⟨by omega,(fun h=>by cases h),(fun i hi=>by cases hi;omega)⟩,by simp only;omega⟩;dsimp only [D1];rw [e0,List.map_append,F0];refine H8 ?_;unfold B1;simp only [hw1,if_true,if_false,Bool.false_eq_true];rfl
  | false =>
   cases hn1:C4 x with
   | true =>
    repeat' ((with_reducible first|refine wr ?_|refine cpc h1 ?_|refine cpc h2 ?_|refine k_cu ?_ ?_|refine wb2 ?_ ?_<;>(intro hb;try simp only [hb])|fail)<;>try simp only [go_sem,seval,hd,hg,hw,hw1,hn1,ne0,A0,A1])
    refine D4 (F7 (cs:=A7 (((l.take k).map B1).map Tok.v)) (fun e=>by have:=hno e;subst this;exact ⟨rfl,rfl⟩) (fun i hi=>by have:=ho i hi;rw [A2 (by omega),A2 (by omega)];exact A0u hi) hln (by omega) (by omega) (by omega)) ?_;simp only [go_sem,seval,ne0];repeat' ((with_reducible first|refine wr ?_|refine k_cu ?_ ?_|refine wb2 ?_ ?_<;>(intro hb;try simp only [hb])|fail)<;>try simp only [go_sem,seval,hd,hw,ne0])
    refine ⟨(k+1,some (c+1+1)),by simp [C5,tm,Tm.upd,C2],?_,inv ⟨by omega,(fun h=>by cases h),(fun i hi=>by cases hi;omega)⟩,by simp only;omega⟩;dsimp only [D1];rw [e0,List.map_append,F0];refine H8 ?_;unfold B1;simp only [hw1,hn1,if_true,if_false,Bool.false_eq_true];rfl
   | false =>
    repeat' ((with_reducible first|refine wr ?_|refine cpc h1 ?_|refine cpc h2 ?_|refine k_cu ?_ ?_|refine wb2 ?_ ?_<;>(intro hb;try simp only [hb])|fail)<;>try simp only [go_sem,seval,hd,hg,hw,hw1,hn1,ne0,A0,A1])
    refine D4 (F7 (cs:=A7 (((l.take k).map B1).map Tok.v)) (fun e=>by have:=hno e;subst this;exact ⟨rfl,rfl⟩) (fun i hi=>by have:=ho i hi;rw [A2 (by omega),A2 (by omega)];exact A0u hi) hln (by omega) (by omega) (by omega)) ?_;simp only [go_sem,seval,ne0];repeat' ((with_reducible first|refine wr ?_|refine k_cu ?_ ?_|refine wb2 ?_ ?_<;>(intro hb;try simp only [hb])|fail)<;>try simp only [go_sem,seval,hd,hw,ne0])
    refine ⟨(k+1,some (c+1+1)),by simp [C5,tm,Tm.upd,C2],?_,inv ⟨by omega,(fun h=>by cases h),(fun i hi=>by cases hi;omega)⟩,by simp only;omega⟩;dsimp only [D1];rw [e0,List.map_append,F0];refine H8 ?_;unfold B1;simp only [hw1,hn1,if_true,if_false,Bool.false_eq_true];rfl
 ·have hd:decide ((k:Int)<(l.length:Int))=false:=by simpa using hlt
  repeat' ((with_reducible first|refine wr ?_|refine k_cu ?_ ?_|refine wb2 ?_ ?_<;>(intro hb;try simp only [hb])|fail)<;>try simp only [go_sem,seval,hd])
  rw [List.take_of_length_le (by omega)];exact pc_todo1 (fun e=>by rw [List.eq_nil_of_length_eq_zero (l:=l) (by have:=hno e;omega)];rfl) (by simp;omega) (K1 _)
theorem c_join1 (l:List (List Tok)) (hl:l.length<=1000) (hx:∀ x∈l,1<=x.length/\x.length<=1000000000):PC Tryz.prog 95 [.lst (l.map G6)] (G6 l.flatten):=by
 refine PC.ofT A6 rfl (Nat.le_of_ble_eq_true rfl) (by simp only [DV.nlL,DV.nl,L8 (f:=G6) (fun a=>Q9 a),Bool.and_true]) (Q9 _) ?_;repeat' ((with_reducible first|refine wr ?_|refine k_cu ?_ ?_|refine wb2 ?_ ?_<;>(intro hb;try simp only [hb])|fail)<;>try simp only [go_sem,seval])
 refine D6 (fun q:Nat × Option Nat=>[(0,.lst (l.map G6)),(3,C2 q.2 (l.take q.1).flatten.length),(4,I64 q.1)]) (fun q=>D1 Sym.nil q.2 ⟨4,true,A7 ((l.take q.1).flatten.map Tok.v)⟩)
  (fun q c=>q.1<=l.length/\(q.2=none->q.1=0)/\(∀ i,q.2=some i->i<c)/\(l.take q.1).flatten.length<=1000000000 * q.1) (fun q=>l.length-q.1) (0,none)
  (by simp [C5,tm,Tm.upd,C2]) (Sub.nil _) ⟨Nat.zero_le _,fun _=>rfl,(fun i hi=>by cases hi),by simp⟩ ?_
 rintro ⟨k,o⟩ c ⟨hk,hno,ho,hlen⟩;dsimp only at hk hno ho hlen ⊢;by_cases hlt:k<l.length
 ·have hd:decide ((k:Int)<(l.length:Int))=true:=by simpa using hlt
  have hg:=List.getElem?_eq_getElem hlt;obtain ⟨hx1,hx2⟩:=hx _ (List.getElem_mem hlt);have hw:=w64 (n:=(k:Int)+1) (by omega) (by omega);have e0:(l.take (k+1)).flatten=(l.take k).flatten++l[k]:=by rw [List.take_add_one,hg,List.flatten_append];simp
  generalize l[k]=x at hg hx1 hx2 e0;generalize hy:(l.take k).flatten=y at hlen e0 ⊢;have hun:unit 4 (x.map Tok.v)=true:=by unfold unit;rw [List.all_eq_true];intro d hd;simp [K1 x d hd]
  have hny:o=none->y=[]:=fun e=>by rw [<- hy,hno e];rfl
  have hln:(A7 (y.map Tok.v)).length=y.length * 4:=(C8 (u:=4) (K1 _)).trans (by simp);repeat' ((with_reducible first|refine wr ?_|refine k_cu ?_ ?_|refine wb2 ?_ ?_<;>(intro hb;try simp only [hb])|fail)<;>try simp only [go_sem,seval,hd,hg,hw,r_srcl hun])
  refine D4 (F7 (cs:=A7 (y.map Tok.v)) (fun e=>by rw [hny e];exact ⟨rfl,rfl⟩) (fun i hi=>A0u hi) hln (by omega) (by omega) (by omega)) ?_;simp only [go_sem,seval];repeat' ((with_reducible first|refine wr ?_|refine k_cu ?_ ?_|refine wb2 ?_ ?_<;>(intro hb;try simp only [hb])|fail)<;>try simp only [go_sem,seval,hd,hw])
  refine ⟨(k+1,some c),by simp [C5,tm,Tm.upd,C2,e0],?_,inv ⟨by omega,(fun h=>by cases h),(fun i hi=>by cases hi;omega),by simp only;rw [e0,List.length_append];omega⟩,by simp only;omega⟩;dsimp only [D1];rw [e0,List.map_append,F0];exact H8 rfl
 ·have hd:decide ((k:Int)<(l.length:Int))=false:=by simpa using hlt
  repeat' ((with_reducible first|refine wr ?_|refine k_cu ?_ ?_|refine wb2 ?_ ?_<;>(intro hb;try simp only [hb])|fail)<;>try simp only [go_sem,seval,hd])
  rw [List.take_of_length_le (by omega)];exact pc_todo1 (fun e=>by rw [List.eq_nil_of_length_eq_zero (l:=l) (by have:=hno e;omega)];rfl) (by rw [List.length_map]) (K1 _)
end Go.Proofs.YthlpinppaclofaaGreatDoor
namespace Go.Pb
variable [Go.Sym.Tab]
open Go.Sym
mutual
def Ex.sz:Ex->Nat
 | .mk k v n a p=>1+n.length+Ex.szs a
def Ex.szs:List Ex->Nat
 | []=>0
 | e :: l=>e.sz+Ex.szs l
end
mutual
def St.sz:St->Nat
 | .mk k n t a x y p=>1+n.length+t.length+Ex.szs a+St.szs x+St.szs y
def St.szs:List St->Nat
 | []=>0
 | e :: l=>e.sz+St.szs l
end
def Dc.sz (d:Dc):Nat:=1+d.name.length
def Hd.sz (h:Hd):Nat:=1+h.name.length+St.szs h.body
def Md.sz (m:Md):Nat:=1+m.name.length+(m.hds.map Hd.sz).sum
def Ru.sz (r:Ru):Nat:=(r.decls.map Dc.sz).sum+(r.modes.map Md.sz).sum
theorem Ex.szs_map:∀ l:List Ex,Ex.szs l=(l.map Ex.sz).sum
 | []=>rfl
 | e :: l=>by rw [Ex.szs,Ex.szs_map l];rfl
theorem St.szs_map:∀ l:List St,St.szs l=(l.map St.sz).sum
 | []=>rfl
 | e :: l=>by rw [St.szs,St.szs_map l];rfl
theorem S2 {α : Type} {f : α -> Nat} {x : α}:∀ {l:List α},x∈l->f x<=(l.map f).sum
 | a :: l,h=>by
  rw [List.map_cons,List.sum_cons];rcases List.mem_cons.1 h with rfl|h
  ·omega
  ·have:=S2 (f:=f) h;omega
theorem Z5 {α : Type} {f : α -> Nat}:∀ {l:List α},(∀ x∈l,1<=f x)->l.length<=(l.map f).sum
 | [],h=>Nat.zero_le _
 | a :: l,h=>by
  have:=Z5 (f:=f) (l:=l) fun x hx=>h x (List.mem_cons_of_mem _ hx);have:=h a List.mem_cons_self;rw [List.map_cons,List.sum_cons,List.length_cons];omega
theorem Ex.sz_pos (e:Ex):1<=e.sz:=by cases e with|mk k v n a p=>rw [Ex.sz];omega
theorem St.sz_pos (e:St):1<=e.sz:=by cases e with|mk k n t a x y p=>rw [St.sz];omega
theorem Ex.sz_arg {e x:Ex} (h:x∈e.args):x.sz<e.sz:=by
 cases e with|mk k v n a p =>
 have:=S2 (f:=Ex.sz) h;rw [Ex.sz,Ex.szs_map];have h':(Ex.mk k v n a p).args=a:=rfl;rw [h'] at this;omega
theorem Ex.sz_name (e:Ex):e.name.length<e.sz:=by
 cases e with|mk k v n a p=>rw [Ex.sz];show n.length<_;omega
theorem Ex.sz_args (e:Ex):e.args.length<e.sz:=by
 cases e with|mk k v n a p =>
 have:=Z5 (f:=Ex.sz) (l:=a) fun x _=>x.sz_pos;rw [Ex.sz,Ex.szs_map];show a.length<_;omega
theorem St.sz_name (e:St):e.name.length<e.sz:=by
 cases e with|mk k n t a x y p=>rw [St.sz];show n.length<_;omega
theorem St.sz_text (e:St):e.text.length<e.sz:=by
 cases e with|mk k n t a x y p=>rw [St.sz];show t.length<_;omega
theorem St.sz_thn (e:St):St.szs e.thn<e.sz:=by
 cases e with|mk k n t a u w p=>rw [St.sz];show St.szs u<_;omega
theorem St.sz_els (e:St):St.szs e.els<e.sz:=by
 cases e with|mk k n t a u w p=>rw [St.sz];show St.szs w<_;omega
theorem St.szs_len (l:List St):l.length<=St.szs l:=by rw [St.szs_map];exact Z5 fun x _=>x.sz_pos
theorem St.szs_mem {l:List St} {x:St} (h:x∈l):x.sz<=St.szs l:=by rw [St.szs_map];exact S2 h
theorem Ex.szs_mem {l:List Ex} {x:Ex} (h:x∈l):x.sz<=Ex.szs l:=by rw [Ex.szs_map];exact S2 h
theorem Ex.szs_len (l:List Ex):l.length<=Ex.szs l:=by rw [Ex.szs_map];exact Z5 fun x _=>x.sz_pos
theorem H3 (s:List UInt8):(D5 s).length=1:=by unfold D5;split<;>rfl
theorem X9 (n:Int):(Y0 n).length=1:=by unfold Y0;split<;>rfl
theorem A3u (s:List UInt8):(A6h s).length=1:=by unfold A6h;split<;>rfl
theorem A1h (q:Int × List Tok) (n:Int):q.2.length<=(C6 q n).length/\(C6 q n).length<=q.2.length+2:=by
 unfold C6;split
 ·simp only [List.length_append,List.length_singleton];omega
 ·omega
theorem A0z:∀ l:List Ex,A4x l=l.map fun e=>(e.kind,exT e)
 | []=>rfl
 | e :: l=>by rw [A4x,A0z l];rfl
set_option maxHeartbeats 2000000 in
theorem buildT_len {k v:Int} {n:List UInt8} {as1:List (Int × List Tok)}:1<=(D9 k v n as1).length/\(D9 k v n as1).length<=5+(as1.map fun q=>q.2.length).sum:=by
 unfold D9
 match as1 with
 | [] =>
  dsimp only;repeat' split
  all_goals simp only [List.length_append,List.length_singleton,H3,X9]
  all_goals omega
 | [q] =>
  have:=A1h q 6;dsimp only;repeat' split
  all_goals simp only [List.length_append,List.length_singleton,H3,X9,List.map_cons,List.map_nil,List.sum_cons,List.sum_nil]
  all_goals omega
 | [q,r] =>
  have h1:=A1h q (if A8 k=3 then 4 else A8 k);have h2:=A1h r (A8 k+1);dsimp only;generalize C6 q (if A8 k=3 then 4 else A8 k)=A at h1 ⊢;generalize C6 r (A8 k+1)=B at h2 ⊢;generalize B1 (B6.getD (k-12).toNat [])=W;generalize A8 k=lv;repeat' split
  all_goals simp only [List.length_append,List.length_singleton,H3,X9,List.map_cons,List.map_nil,List.sum_cons,List.sum_nil]
  all_goals omega
 | q :: r :: w :: l =>
  dsimp only;repeat' split
  all_goals simp only [List.length_append,List.length_singleton,H3,X9]
  all_goals omega
theorem V4:∀ e:Ex,1<=(exT e).length/\(exT e).length<=5 * e.sz
 | .mk k v n a p=>by
  have ih:∀ x∈a,(exT x).length<=5 * x.sz:=fun x hx=>(V4 x).2;have h:=buildT_len (k:=k) (v:=v) (n:=n) (as1:=A4x a);rw [exT];refine ⟨h.1,?_⟩;have h2:((A4x a).map fun q=>q.2.length).sum<=5 * Ex.szs a:=by
   rw [A0z,List.map_map,Ex.szs_map];clear h
   induction a with
   | nil=>simp
   | cons x l ihl =>
    have h1:=ih x List.mem_cons_self;have h2:=ihl fun y hy=>ih y (List.mem_cons_of_mem _ hy);simp only [List.map_cons,List.sum_cons,Function.comp] at h2 ⊢;omega
  rw [Ex.sz];omega
theorem agT_le (l:List Ex) (i:Nat):1<=(agT l i).length/\(agT l i).length<=1+5 * Ex.szs l:=by
 unfold agT;cases h:l[i]? with
 | none=>exact ⟨Nat.le_refl _,by show 1<=_;omega⟩
 | some e =>
  have h1:=V4 e;have h2:=Ex.szs_mem (List.mem_of_getElem? h);dsimp only;omega
mutual
theorem A5k:∀ s:St,1<=(stT s).length/\(stT s).length<=11 * s.sz
 | .mk k n t a x y p=>by
  have h0:=agT_le a 0;have h1:=agT_le a 1;have hx:=A0q x;have hy:∀ l,l=y->(A1w l).length<=11 * St.szs l:=fun l h=>by subst h;exact A0q l
  have hq:∀ q,y=[q]->(stT q).length<=11 * q.sz:=fun q h=>by subst h;exact (A5k q).2
  rw [St.sz];unfold stT;dsimp only;generalize agT a 0=A at h0 ⊢;generalize agT a 1=B at h1 ⊢;generalize A1w x=X at hx ⊢;generalize B1 (C1.getD (k-2).toNat [])=W
  match y,hy,hq with
  | [],hy,hq =>
   dsimp only;rw [St.szs];repeat' split
   all_goals simp only [List.length_append,List.length_singleton,H3,A3u]
   all_goals omega
  | [q],hy,hq =>
   have hq:=hq q rfl;dsimp only;rw [St.szs,St.szs];generalize stT q=Q at hq ⊢;repeat' split
   all_goals simp only [List.length_append,List.length_singleton,H3,A3u]
   all_goals omega
  | q :: q2 :: r,hy,hq =>
   have hy:=hy _ rfl;dsimp only;generalize A1w (q :: q2 :: r)=Y at hy ⊢;generalize St.szs (q :: q2 :: r)=z at hy ⊢;repeat' split
   all_goals simp only [List.length_append,List.length_singleton,H3,A3u]
   all_goals omega
theorem A0q:∀ l:List St,(A1w l).length<=11 * St.szs l
 | []=>Nat.zero_le _
 | s :: l=>by
  have h1:=A5k s;have h2:=A0q l;rw [A1w,St.szs,List.length_append];omega
end
theorem B0w (l:List St):1<=(blT l).length/\(blT l).length<=11 * St.szs l+2:=by
 have:=A0q l;unfold blT;simp only [List.length_append,List.length_singleton];omega
theorem dcT_len (d:Dc):1<=(dcT d).length/\(dcT d).length<=6:=by
 unfold dcT;dsimp only;generalize B1 (D7.getD (d.kind-1).toNat [])=W;repeat' split
 all_goals simp only [List.length_append,List.length_singleton,H3,X9]
 all_goals (first|omega|simp)
theorem hdT_len (h:Hd):1<=(hdT h).length/\(hdT h).length<=11 * h.sz:=by
 have:=B0w h.body;unfold hdT Hd.sz;generalize B1 (E1.getD (h.trig-1).toNat [])=W;split
 ·simp only [List.length_append,List.length_cons,List.length_nil,H3];omega
 ·simp only [List.length_append,List.length_cons,List.length_nil];omega
theorem A5v {α : Type} {f : α -> List Tok} {g : α -> Nat} {c:Nat}:∀ {l:List α},(∀ x∈l,(f x).length<=c * g x)->(l.flatMap f).length<=c * (l.map g).sum
 | [],_=>by simp
 | a :: l,h=>by
  have h1:=h a List.mem_cons_self;have h2:=A5v (l:=l) fun x hx=>h x (List.mem_cons_of_mem _ hx);rw [List.flatMap_cons,List.length_append,List.map_cons,List.sum_cons,Nat.mul_add];omega
theorem mdT_len (m:Md):1<=(mdT m).length/\(mdT m).length<=11 * m.sz:=by
 have:=A5v (l:=m.hds) (f:=hdT) (g:=Hd.sz) (c:=11) fun x _=>(hdT_len x).2;unfold mdT Md.sz;simp only [List.length_append,List.length_singleton,H3,X9];omega
theorem ruT_len (r:Ru):(ruT r).length<=11 * r.sz+1/\(r.decls.flatMap dcT++r.modes.flatMap mdT).length<=11 * r.sz:=by
 have h1:=A5v (l:=r.decls) (f:=dcT) (g:=Dc.sz) (c:=11) fun x _=>by have:=dcT_len x;unfold Dc.sz;omega
 have h2:=A5v (l:=r.modes) (f:=mdT) (g:=Md.sz) (c:=11) fun x _=>(mdT_len x).2;have h3:(r.decls.flatMap dcT++r.modes.flatMap mdT).length<=11 * r.sz:=by
  unfold Ru.sz;rw [List.length_append];omega
 refine ⟨?_,h3⟩;unfold ruT;split
 ·show 1<=_;omega
 ·omega
end Go.Pb
namespace Go.Proofs.YthlpinppaclofaaGreatDoor
open Go.Eng (IC IOper DReg IFn B5)
open Go.Sym Go.Pb
theorem P9 {H:Hp} {i j:Nat}:Q1 H (some i) j=if j=i then none else H j:=_root_.id rfl
theorem del_same {H:Hp} {i:Nat} {b:Blk}:Q1 (H.upd i b) (some i)=Q1 H (some i):=by
 funext j;rw [P9,P9];split
 ·rfl
 ·rename_i h;rw [A2 h]
theorem del_upd {H:Hp} {i k:Nat} {b:Blk} (h:¬ k=i):Q1 (H.upd k b) (some i)=(Q1 H (some i)).upd k b:=by
 funext j;rw [P9]
 by_cases e:j=k
 ·subst e;rw [A0,if_neg h,A0]
 ·rw [A2 e,A2 e,P9]
theorem del_nil {i:Nat}:Q1 nil (some i)=nil:=by
 funext j;rw [P9];split<;>rfl
theorem mg_del {ks:List Nat} {H:Hp} {i:Nat} (h:ks.all (fun k=>k != i)=true):H4 ks H (Q1 (N2 H ks) (some i))=Q1 H (some i):=by
 have hi:i ∉ ks:=fun hm=>by simpa using List.all_eq_true.1 h i hm
 funext j
 simp only [H4,P9,N2];by_cases e:j=i
 ·subst e;rw [if_neg hi,if_pos rfl,if_pos rfl]
 ·by_cases e2:j∈ks
  ·rw [if_pos e2,if_neg e]
  ·rw [if_neg e2,if_neg e,if_neg e,if_neg e2]
attribute [go_sem] del_same del_upd del_nil
theorem mg_del1 {k i:Nat} {H:Hp} (h:¬ k=i):H4 [k] H (Q1 (N2 H [k]) (some i))=Q1 H (some i):=mg_del (by simpa using h)
attribute [go_sem] mg_del1
theorem A3c {f:Nat} {xs:List DV} {r:DV} {u id n cc:Nat} {H:Hp} {cs:List DV} (h:PC Tryz.prog f [.lst xs] r) (hb:H id=some ⟨u,true,cs⟩) (hcs:cs=A7 xs) (hl:xs.length=n) (hu:∀ x∈xs,x.cells.length=u) :
  AC Tryz.prog f [.slc id 0 n] H cc (fun v H' c'=>v=r/\H'=Q1 H (some id)/\c'=cc) :=
 AC.ghost (GL.frzS (id:=id) hb rfl (fun j=>by
  by_cases e:j=id
  ·subst e;exact .inl (by rw [P9,if_pos rfl])
  ·exact .inr ⟨e,by rw [P9,if_neg e]⟩) (.cons _ _ _ _ (J8 hl hu ⟨[],by rw [hcs];simp⟩) .nil)) (h.at _ cc)
def wT (x:List UInt8):List Tok:=[B1 x]
theorem Z3 (x:List UInt8):1<=(wT x).length/\(wT x).length<=1000000000:=⟨Nat.le_refl _,by show 1<=_;omega⟩
theorem wd1 {x:List UInt8} {id cc:Nat} {H:Hp} (hb:H id=some ⟨1,true,[.str x]⟩) (hx:x.length<=1000000000) :
  AC Tryz.prog 96 [.slc id 0 1] H cc (fun v H' c'=>v=G6 (wT x)/\H'=Q1 H (some id)/\c'=cc) :=
 A3c (xs:=[.str x]) (c_words1 [x] (by simp) (by simpa using hx)) hb rfl rfl (K3 [x])
theorem tks_unit (l:List (List Tok)):∀ x∈l.map G6,x.cells.length=1:=fun x hx=>by obtain ⟨y, -,rfl⟩:=List.mem_map.1 hx;rfl
theorem jn2 {a b:List Tok} {id cc:Nat} {H:Hp} (hH:H id=some ⟨1,true,[G6 a,G6 b]⟩) (ha:1<=a.length/\a.length<=1000000000) (hb:1<=b.length/\b.length<=1000000000) :
  AC Tryz.prog 95 [.slc id 0 2] H cc (fun v H' c'=>v=G6 (a++b)/\H'=Q1 H (some id)/\c'=cc):=by
 have:=A3c (id:=id) (cc:=cc) (H:=H) (u:=1) (n:=2) (c_join1 [a,b] (by simp) (by simp [ha,hb])) hH rfl rfl (tks_unit [a,b])
 rwa [List.flatten_cons,List.flatten_cons,List.flatten_nil,List.append_nil] at this
theorem jn3 {a b c:List Tok} {id cc:Nat} {H:Hp} (hH:H id=some ⟨1,true,[G6 a,G6 b,G6 c]⟩) (ha:1<=a.length/\a.length<=1000000000) (hb:1<=b.length/\b.length<=1000000000) (hc:1<=c.length/\c.length<=1000000000) :
  AC Tryz.prog 95 [.slc id 0 3] H cc (fun v H' c'=>v=G6 (a++b++c)/\H'=Q1 H (some id)/\c'=cc):=by
 have:=A3c (id:=id) (cc:=cc) (H:=H) (u:=1) (n:=3) (c_join1 [a,b,c] (by simp) (by simp [ha,hb,hc])) hH rfl rfl (tks_unit [a,b,c])
 rwa [List.flatten_cons,List.flatten_cons,List.flatten_cons,List.flatten_nil,List.append_nil, <- List.append_assoc] at this
theorem nm_len (x:List UInt8):1<=(D5 x).length/\(D5 x).length<=1000000000:=by rw [H3];omega
theorem c_operand (e:Ex) (n:Int) (hT:(exT e).length<=100000000) (h:PC Tryz.prog 67 [e.v] (G6 (exT e))):PC Tryz.prog 118 [e.v,I64 n] (G6 (C6 (e.kind,exT e) n)):=by
 refine PC.ofT A6 rfl (Nat.le_of_ble_eq_true rfl) (by simp [DV.nlL,DV.nl,Ex.nl]) (Q9 _) ?_;rw [Ex.v_w] at h ⊢;have hlv:=c_level e.kind;obtain ⟨hl1, -⟩:=V4 e;obtain ⟨R,hR⟩:∃ R,R=G6 (C6 (e.kind,exT e) n):=⟨_,rfl⟩;rw [<- hR];unfold C6 at hR;dsimp only at hR;generalize exT e=T at h hT hl1 hR;by_cases hlt:A8 e.kind<n
 ·have hd:decide (A8 e.kind<n)=true:=by simpa using hlt
  rw [if_pos hlt] at hR;repeat' ((first|(with_reducible first|refine wr ?_|refine cpc hlv ?_|refine cpc h ?_|refine k_cu ?_ ?_)|(with_reducible refine wb2 ?_ ?_<;>(intro hb;try simp only [hb]))|(refine AC.call (wd1 rfl (by decide)) ?_<;>rintro _ _ _ ⟨rfl,rfl,rfl⟩ -)|(refine AC.call (jn3 rfl (Z3 _) ⟨hl1,by omega⟩ (Z3 _)) ?_<;>rintro _ _ _ ⟨rfl,rfl,rfl⟩ -)|fail)<;>try simp only [go_sem,seval,hd])
  exact ⟨_,by rw [hR];exact GL.refl _ _⟩
 ·have hd:decide (A8 e.kind<n)=false:=by simpa using hlt
  rw [if_neg hlt] at hR;repeat' ((with_reducible first|refine wr ?_|refine cpc hlv ?_|refine cpc h ?_|refine k_cu ?_ ?_|refine wb2 ?_ ?_<;>(intro hb;try simp only [hb])|fail)<;>try simp only [go_sem,seval,hd])
  exact ⟨_,by rw [hR];exact GL.refl _ _⟩
theorem r_iad1 {sz:Nat} {xs:List DV} {k:IntKind}:Y3 sz (.lst xs) (.int k 1)=iadO sz xs[1]? := A9z (l:=1)
theorem c_exprT:∀ (m:Nat) (e:Ex),e.sz<m->e.sz<=10000000->PC Tryz.prog 67 [e.v] (G6 (exT e)):=by
 intro m
 induction m with
 | zero=>intro e h;omega
 | succ m ih =>
 intro e hm hB;have ihx:∀ x∈e.args,PC Tryz.prog 67 [x.v] (G6 (exT x)):=fun x hx=>ih x (by have:=Ex.sz_arg hx;omega) (by have:=Ex.sz_arg hx;omega);have hop:∀ x∈e.args, ∀ n,PC Tryz.prog 118 [x.v,I64 n] (G6 (C6 (x.kind,exT x) n)):=fun x hx n=>c_operand x n (by have:=(V4 x).2;have:=Ex.sz_arg hx;omega) (ihx x hx);have hle:∀ x∈e.args, ∀ n,1<=(C6 (x.kind,exT x) n).length/\(C6 (x.kind,exT x) n).length<=1000000000:=fun x hx n=>by
  have h1:=V4 x;have h2:=Ex.sz_arg hx;have h3:=A1h (x.kind,exT x) n;dsimp only at h3;omega
 clear ih ihx;obtain ⟨R,hR⟩:∃ R,R=G6 (exT e):=⟨_,rfl⟩;have hnm:=e.sz_name;refine PC.ofT A6 rfl (Nat.le_of_ble_eq_true rfl) (by simp [DV.nlL,DV.nl,Ex.nl]) (Q9 _) ?_;rw [Ex.v_w, <- hR];cases e with|mk k v n a p =>
 rw [exT,A0z] at hR;dsimp only [Ex.w,Ex.kind,Ex.value,Ex.name,Ex.args,Ex.pos] at hop hle hnm ⊢;unfold D9 at hR;dsimp only at hR;have hlv:=c_level k;have hnu:=c_number31 v;have hna:=c_named n (by omega);by_cases h1:k=1
 ·subst h1;rw [if_pos rfl] at hR;repeat' ((with_reducible first|refine wr ?_|refine cpc hlv ?_|refine cpc hnu ?_|refine k_cu ?_ ?_|refine wb2 ?_ ?_<;>(intro hb;try simp only [hb])|fail)<;>try simp only [go_sem,seval])
  exact ⟨_,by rw [hR];exact GL.refl _ _⟩
 have d1:(k == 1)=false:=by simpa using h1
 rw [if_neg h1] at hR;by_cases h2:k=2
 ·subst h2;rw [if_pos rfl] at hR;repeat' ((with_reducible first|refine wr ?_|refine cpc hlv ?_|refine cpc hna ?_|refine k_cu ?_ ?_|refine wb2 ?_ ?_<;>(intro hb;try simp only [hb])|fail)<;>try simp only [go_sem,seval])
  exact ⟨_,by rw [hR];exact GL.refl _ _⟩
 have d2:(k == 2)=false:=by simpa using h2
 rw [if_neg h2] at hR;by_cases h3:k=3
 ·subst h3;rw [if_pos rfl] at hR;repeat' ((first|(with_reducible first|refine wr ?_|refine cpc hlv ?_|refine k_cu ?_ ?_)|(with_reducible refine wb2 ?_ ?_<;>(intro hb;try simp only [hb]))|(refine AC.call (wd1 rfl (by decide)) ?_<;>rintro _ _ _ ⟨rfl,rfl,rfl⟩ -)|fail)<;>try simp only [go_sem,seval])
  exact ⟨_,by rw [hR];exact GL.refl _ _⟩
 have d3:(k == 3)=false:=by simpa using h3
 rw [if_neg h3] at hR;by_cases h4:k=4
 ·subst h4;rw [if_pos rfl] at hR;repeat' ((first|(with_reducible first|refine wr ?_|refine cpc hlv ?_|refine k_cu ?_ ?_)|(with_reducible refine wb2 ?_ ?_<;>(intro hb;try simp only [hb]))|(refine AC.call (wd1 rfl (by decide)) ?_<;>rintro _ _ _ ⟨rfl,rfl,rfl⟩ -)|fail)<;>try simp only [go_sem,seval])
  exact ⟨_,by rw [hR];exact GL.refl _ _⟩
 have d4:(k == 4)=false:=by simpa using h4
 rw [if_neg h4] at hR;by_cases h8:k=8
 ·subst h8;rw [if_pos rfl] at hR;repeat' ((first|(with_reducible first|refine wr ?_|refine cpc hlv ?_|refine k_cu ?_ ?_)|(with_reducible refine wb2 ?_ ?_<;>(intro hb;try simp only [hb]))|(refine AC.call (wd1 rfl (by decide)) ?_<;>rintro _ _ _ ⟨rfl,rfl,rfl⟩ -)|fail)<;>try simp only [go_sem,seval])
  exact ⟨_,by rw [hR];exact GL.refl _ _⟩
 have d8:(k == 8)=false:=by simpa using h8
 rw [if_neg h8] at hR;by_cases h9:k=9
 ·subst h9;rw [if_pos rfl] at hR;repeat' ((first|(with_reducible first|refine wr ?_|refine cpc hlv ?_|refine k_cu ?_ ?_)|(with_reducible refine wb2 ?_ ?_<;>(intro hb;try simp only [hb]))|(refine AC.call (wd1 rfl (by decide)) ?_<;>rintro _ _ _ ⟨rfl,rfl,rfl⟩ -)|fail)<;>try simp only [go_sem,seval])
  exact ⟨_,by rw [hR];exact GL.refl _ _⟩
 have d9:(k == 9)=false:=by simpa using h9
 rw [if_neg h9] at hR;by_cases h5:k=5
 ·subst h5;rw [if_pos rfl] at hR;repeat' ((first|(with_reducible first|refine wr ?_|refine cpc hlv ?_|refine cpc hna ?_|refine k_cu ?_ ?_)|(with_reducible refine wb2 ?_ ?_<;>(intro hb;try simp only [hb]))|(refine AC.call (wd1 rfl (by decide)) ?_<;>rintro _ _ _ ⟨rfl,rfl,rfl⟩ -)|(refine AC.call (jn2 rfl (Z3 _) (nm_len _)) ?_<;>rintro _ _ _ ⟨rfl,rfl,rfl⟩ -)|fail)<;>try simp only [go_sem,seval])
  exact ⟨_,by rw [hR];exact GL.refl _ _⟩
 have d5:(k == 5)=false:=by simpa using h5
 rw [if_neg h5] at hR;by_cases h6:k=6
 ·subst h6;rw [if_pos rfl] at hR;repeat' ((first|(with_reducible first|refine wr ?_|refine cpc hlv ?_|refine cpc hna ?_|refine k_cu ?_ ?_)|(with_reducible refine wb2 ?_ ?_<;>(intro hb;try simp only [hb]))|(refine AC.call (wd1 rfl (by decide)) ?_<;>rintro _ _ _ ⟨rfl,rfl,rfl⟩ -)|(refine AC.call (jn2 rfl (Z3 _) (nm_len _)) ?_<;>rintro _ _ _ ⟨rfl,rfl,rfl⟩ -)|fail)<;>try simp only [go_sem,seval])
  exact ⟨_,by rw [hR];exact GL.refl _ _⟩
 have d6:(k == 6)=false:=by simpa using h6
 rw [if_neg h6] at hR;by_cases h7:k=7
 ·subst h7;rw [if_pos rfl] at hR;repeat' ((first|(with_reducible first|refine wr ?_|refine cpc hlv ?_|refine cpc hna ?_|refine k_cu ?_ ?_)|(with_reducible refine wb2 ?_ ?_<;>(intro hb;try simp only [hb]))|(refine AC.call (wd1 rfl (by decide)) ?_<;>rintro _ _ _ ⟨rfl,rfl,rfl⟩ -)|(refine AC.call (jn2 rfl (Z3 _) (nm_len _)) ?_<;>rintro _ _ _ ⟨rfl,rfl,rfl⟩ -)|fail)<;>try simp only [go_sem,seval])
  exact ⟨_,by rw [hR];exact GL.refl _ _⟩
 have d7:(k == 7)=false:=by simpa using h7
 rw [if_neg h7] at hR;have hbad:∀ q:List Tok,R=G6 q->q=[M1]->∃ H2,GL ((nil.upd 0 ⟨0,true,[I64 k,I64 v,.str n,H9 a,I64 p]⟩).upd 1 ⟨4,true,[I64 0,.str [],I64 0,I64 0]⟩) [.slc 1 0 1] H2 [R]:=fun q h1 h2=>by
  rw [h1,h2];exact A0t (id:=1) A0 rfl rfl (K1 [M1]) ⟨[],rfl⟩
 have w0:IntKind.i64.wrap 0=0:=by decide
 have w1:IntKind.i64.wrap 1=1:=by decide
 match a with
 | [] =>
  have e1:((0:Int) == 1)=false:=rfl;have e2:((0:Int) == 2)=false:=rfl;try dsimp only [List.map_nil] at hR
  by_cases l6:A8 k=6
  ·have m6:(A8 k == 6)=true:=by simpa using l6
   have m5:decide (A8 k<6)=false:=by simp;omega
   repeat' ((with_reducible first|refine wr ?_|refine cpc hlv ?_|refine k_cu ?_ ?_|refine wb2 ?_ ?_<;>(intro hb;try simp only [hb])|fail)<;>try simp only [go_sem,seval,d1,d2,d3,d4,d8,d9,d5,d6,d7,m6,m5,List.length_nil,List.map_nil,List.length_map])
   exact hbad _ hR rfl
  ·have m6:(A8 k == 6)=false:=by simpa using l6
   by_cases l5:A8 k<6
   ·have m5:decide (A8 k<6)=true:=by simpa using l5
    repeat' ((with_reducible first|refine wr ?_|refine cpc hlv ?_|refine k_cu ?_ ?_|refine wb2 ?_ ?_<;>(intro hb;try simp only [hb])|fail)<;>try simp only [go_sem,seval,d1,d2,d3,d4,d8,d9,d5,d6,d7,m6,m5,List.length_nil,List.map_nil,List.length_map])
    exact hbad _ hR rfl
   ·have m5:decide (A8 k<6)=false:=by simpa using l5
    repeat' ((with_reducible first|refine wr ?_|refine cpc hlv ?_|refine k_cu ?_ ?_|refine wb2 ?_ ?_<;>(intro hb;try simp only [hb])|fail)<;>try simp only [go_sem,seval,d1,d2,d3,d4,d8,d9,d5,d6,d7,m6,m5,List.length_nil,List.map_nil,List.length_map])
    exact hbad _ hR rfl
 | [x] =>
  have hx:=fun n=>by have:=hop x List.mem_cons_self n;rwa [Ex.v_w] at this
  have hxl:=hle x List.mem_cons_self;simp only [List.map_cons,List.map_nil] at hR;by_cases l6:A8 k=6
  ·have m6:(A8 k == 6)=true:=by simpa using l6
   rw [if_pos l6] at hR;have hk:k=10\/k=11:=by
    unfold A8 at l6;repeat' split at l6
    all_goals omega
   rcases hk with rfl|rfl
   ·rw [if_pos rfl] at hR;repeat' ((first|(with_reducible first|refine wr ?_|refine cpc hlv ?_|refine cpc (hx 6) ?_|refine k_cu ?_ ?_)|(with_reducible refine wb2 ?_ ?_<;>(intro hb;try simp only [hb]))|(refine AC.call (wd1 rfl (by decide)) ?_<;>rintro _ _ _ ⟨rfl,rfl,rfl⟩ -)|(refine AC.call (jn2 rfl (Z3 _) (hxl 6)) ?_<;>rintro _ _ _ ⟨rfl,rfl,rfl⟩ -)|fail)<;>try simp only [go_sem,seval,d1,d2,d3,d4,d8,d9,d5,d6,d7,m6,w0,w1,Ex.v_w])
    exact ⟨_,by rw [hR];exact GL.refl _ _⟩
   ·rw [if_neg (by decide)] at hR;repeat' ((first|(with_reducible first|refine wr ?_|refine cpc hlv ?_|refine cpc (hx 6) ?_|refine k_cu ?_ ?_)|(with_reducible refine wb2 ?_ ?_<;>(intro hb;try simp only [hb]))|(refine AC.call (wd1 rfl (by decide)) ?_<;>rintro _ _ _ ⟨rfl,rfl,rfl⟩ -)|(refine AC.call (jn2 rfl (Z3 _) (hxl 6)) ?_<;>rintro _ _ _ ⟨rfl,rfl,rfl⟩ -)|fail)<;>try simp only [go_sem,seval,d1,d2,d3,d4,d8,d9,d5,d6,d7,m6,w0,w1,Ex.v_w])
    exact ⟨_,by rw [hR];exact GL.refl _ _⟩
  ·have m6:(A8 k == 6)=false:=by simpa using l6
   rw [if_neg l6] at hR;by_cases l5:A8 k<6
   ·have m5:decide (A8 k<6)=true:=by simpa using l5
    repeat' ((with_reducible first|refine wr ?_|refine cpc hlv ?_|refine k_cu ?_ ?_|refine wb2 ?_ ?_<;>(intro hb;try simp only [hb])|fail)<;>try simp only [go_sem,seval,d1,d2,d3,d4,d8,d9,d5,d6,d7,m6,m5])
    exact hbad _ hR rfl
   ·have m5:decide (A8 k<6)=false:=by simpa using l5
    repeat' ((with_reducible first|refine wr ?_|refine cpc hlv ?_|refine k_cu ?_ ?_|refine wb2 ?_ ?_<;>(intro hb;try simp only [hb])|fail)<;>try simp only [go_sem,seval,d1,d2,d3,d4,d8,d9,d5,d6,d7,m6,m5])
    exact hbad _ hR rfl
 | [x,y] =>
  have hx:=fun n=>by have:=hop x List.mem_cons_self n;rwa [Ex.v_w] at this
  have hxl:=hle x List.mem_cons_self;have hy:=fun n=>by have:=hop y (List.mem_cons_of_mem _ List.mem_cons_self) n;rwa [Ex.v_w] at this
  have hyl:=hle y (List.mem_cons_of_mem _ List.mem_cons_self);simp only [List.map_cons,List.map_nil] at hR;by_cases l5:A8 k<6
  ·have m5:decide (A8 k<6)=true:=by simpa using l5
   have m6:(A8 k == 6)=false:=by simp;omega
   rw [if_pos l5] at hR;obtain ⟨k1,k2⟩:=A7c (k:=k) (by omega);have k3:12<=k:=by
    apply Classical.byContradiction;intro hc;have:k=10\/k=11:=by omega
    rw [Q4 this] at l5;omega
   obtain ⟨j,hj⟩:∃ j:Nat,k=12+(j:Int):=⟨(k-12).toNat,by omega⟩;have hjw:IntKind.i64.wrap (k-12)=(j:Int):=by rw [w64 (by omega) (by omega)];omega
   have hjn:(k-12).toNat=j:=by omega
   rw [hjn] at hR;have hj13:j<13:=by omega
   have hgj:B6[j]? = some (B6.getD j []):=by
    rw [List.getD_eq_getElem?_getD,List.getElem?_eq_getElem (show j<B6.length from hj13)];rfl
   have hsl:(B6.getD j []).length<=1000000000:=by
    have:∀ i:Nat,i<13->(B6.getD i []).length<=1000000000:=by decide
    exact this j hj13
   generalize B6.getD j []=S at hR hgj hsl;have hw1:IntKind.i64.wrap (A8 k+1)=A8 k+1:=w64 (by have:=O5 k;omega) (by have:=O5 k;omega);by_cases l3:A8 k=3
   ·have m3:(A8 k == 3)=true:=by simpa using l3
    rw [if_pos l3] at hR;repeat' ((first|(with_reducible first|refine wr ?_|refine cpc hlv ?_|refine cpc (hx 4) ?_|refine cpc c_signs31 ?_|refine cpc (hy (A8 k+1)) ?_|refine k_cu ?_ ?_)|(with_reducible refine wb2 ?_ ?_<;>(intro hb;try simp only [hb]))|(refine AC.call (wd1 rfl hsl) ?_<;>rintro _ _ _ ⟨rfl,rfl,rfl⟩ -)|(refine AC.call (jn3 rfl (hxl 4) (Z3 _) (hyl (A8 k+1))) ?_<;>rintro _ _ _ ⟨rfl,rfl,rfl⟩ -)|fail)<;>try simp only [go_sem,seval,d1,d2,d3,d4,d8,d9,d5,d6,d7,m6,m5,m3,hjw,hgj,hw1,Ex.v_w,r_iad1,List.getElem?_cons_succ,List.getElem?_cons_zero])
    exact ⟨_,by rw [hR];exact GL.refl _ _⟩
   ·have m3:(A8 k == 3)=false:=by simpa using l3
    rw [if_neg l3] at hR;repeat' ((first|(with_reducible first|refine wr ?_|refine cpc hlv ?_|refine cpc (hx (A8 k)) ?_|refine cpc c_signs31 ?_|refine cpc (hy (A8 k+1)) ?_|refine k_cu ?_ ?_)|(with_reducible refine wb2 ?_ ?_<;>(intro hb;try simp only [hb]))|(refine AC.call (wd1 rfl hsl) ?_<;>rintro _ _ _ ⟨rfl,rfl,rfl⟩ -)|(refine AC.call (jn3 rfl (hxl (A8 k)) (Z3 _) (hyl (A8 k+1))) ?_<;>rintro _ _ _ ⟨rfl,rfl,rfl⟩ -)|fail)<;>try simp only [go_sem,seval,d1,d2,d3,d4,d8,d9,d5,d6,d7,m6,m5,m3,hjw,hgj,hw1,Ex.v_w,r_iad1,List.getElem?_cons_succ,List.getElem?_cons_zero])
    exact ⟨_,by rw [hR];exact GL.refl _ _⟩
  ·have m5:decide (A8 k<6)=false:=by simpa using l5
   rw [if_neg l5] at hR;by_cases l6:A8 k=6
   ·have m6:(A8 k == 6)=true:=by simpa using l6
    repeat' ((with_reducible first|refine wr ?_|refine cpc hlv ?_|refine k_cu ?_ ?_|refine wb2 ?_ ?_<;>(intro hb;try simp only [hb])|fail)<;>try simp only [go_sem,seval,d1,d2,d3,d4,d8,d9,d5,d6,d7,m6,m5])
    exact hbad _ hR rfl
   ·have m6:(A8 k == 6)=false:=by simpa using l6
    repeat' ((with_reducible first|refine wr ?_|refine cpc hlv ?_|refine k_cu ?_ ?_|refine wb2 ?_ ?_<;>(intro hb;try simp only [hb])|fail)<;>try simp only [go_sem,seval,d1,d2,d3,d4,d8,d9,d5,d6,d7,m6,m5])
    exact hbad _ hR rfl
 | x :: y :: z :: l =>
  simp only [List.map_cons] at hR;obtain ⟨A,hA⟩:∃ A,A=(x :: y :: z :: l).map Ex.v:=⟨_,rfl⟩;have n1:((A.length:Int) == 1)=false:=by rw [hA];simp;omega
  have n2:((A.length:Int) == 2)=false:=by rw [hA];simp;omega
  have hex:H9 (x :: y :: z :: l)=.lst A:=by rw [hA]
  rw [hex] at hbad ⊢;by_cases l6:A8 k=6
  ·have m6:(A8 k == 6)=true:=by simpa using l6
   have m5:decide (A8 k<6)=false:=by simp;omega
   repeat' ((with_reducible first|refine wr ?_|refine cpc hlv ?_|refine k_cu ?_ ?_|refine wb2 ?_ ?_<;>(intro hb;try simp only [hb])|fail)<;>try simp only [go_sem,seval,d1,d2,d3,d4,d8,d9,d5,d6,d7,m6,m5,n1,n2])
   exact hbad _ hR rfl
  ·have m6:(A8 k == 6)=false:=by simpa using l6
   by_cases l5:A8 k<6
   ·have m5:decide (A8 k<6)=true:=by simpa using l5
    repeat' ((with_reducible first|refine wr ?_|refine cpc hlv ?_|refine k_cu ?_ ?_|refine wb2 ?_ ?_<;>(intro hb;try simp only [hb])|fail)<;>try simp only [go_sem,seval,d1,d2,d3,d4,d8,d9,d5,d6,d7,m6,m5,n1,n2])
    exact hbad _ hR rfl
   ·have m5:decide (A8 k<6)=false:=by simpa using l5
    repeat' ((with_reducible first|refine wr ?_|refine cpc hlv ?_|refine k_cu ?_ ?_|refine wb2 ?_ ?_<;>(intro hb;try simp only [hb])|fail)<;>try simp only [go_sem,seval,d1,d2,d3,d4,d8,d9,d5,d6,d7,m6,m5,n1,n2])
    exact hbad _ hR rfl
end Go.Proofs.YthlpinppaclofaaGreatDoor
set_option maxHeartbeats 8000000
namespace Go.Proofs.YthlpinppaclofaaGreatDoor
open Go.Eng (IC IOper DReg IFn B5)
open Go.Sym Go.Pb
theorem exsEq_at (p:Bool):∀ (l l':List Ex) (k:Nat),l.length=l'.length->(O6 p (l.take k) (l'.take k)=true)->∀ x x',l[k]? = some x->l'[k]? = some x'->O6 p (l.take (k+1)) (l'.take (k+1))=A4y p x x'/\(A4y p x x'=false->O6 p l l'=false)
 | [],_,k,_,_,x,x',h,_=>by simp at h
 | _ :: _,[],k,h,_,_,_,_,_=>by simp at h
 | a :: l,a' :: l',0,_,_,x,x',h,h'=>by
  cases h;cases h';refine ⟨?_,fun e=>?_⟩
  ·simp [O6]
  ·rw [O6,e];rfl
 | a :: l,a' :: l',k+1,hl,he,x,x',h,h'=>by
  rw [List.take_succ_cons,List.take_succ_cons,O6,Bool.and_eq_true] at he;have ih:=exsEq_at p l l' k (by simpa using hl) he.2 x x' (by simpa using h) (by simpa using h');refine ⟨?_,fun e=>?_⟩
  ·rw [List.take_succ_cons,List.take_succ_cons,O6,he.1,Bool.true_and];exact ih.1
  ·rw [O6,ih.2 e,Bool.and_false]
theorem A9f (p:Bool):∀ (l l':List Ex),¬ l.length=l'.length->O6 p l l'=false
 | [],[],h=>absurd rfl h
 | [],_ :: _,_=>rfl
 | _ :: _,[],_=>rfl
 | a :: l,a' :: l',h=>by rw [O6,A9f p l l' (by simpa using h),Bool.and_false]
theorem c_sameEs (p:Bool) (l l':List Ex) (hl:l.length<=100000000000) (h:∀ x∈l, ∀ y,PC Tryz.prog 34 [x.v,y.v,.bool p] (.bool (A4y p x y))):PC Tryz.prog 72 [H9 l,H9 l',.bool p] (.bool (O6 p l l')):=by
 refine PC.ofT A6 rfl (Nat.le_of_ble_eq_true rfl) (by simp [DV.nlL,DV.nl,Z8]) rfl ?_;by_cases hlen:l.length=l'.length
 ·have hd0:((l.length:Int) != (l'.length:Int))=false:=by simp [hlen]
  repeat' ((with_reducible first|refine wr ?_|refine k_cu ?_ ?_|refine wb2 ?_ ?_<;>(intro hb;try simp only [hb])|fail)<;>try simp only [go_sem,seval,hd0,List.length_map])
  refine D6 (fun k:Nat=>[(0,H9 l),(1,H9 l'),(2,.bool p),(7,I64 k)]) (fun _=>Sym.nil) (fun k c=>k<=l.length/\O6 p (l.take k) (l'.take k)=true) (fun k=>l.length-k) 0 (by simp [C5,tm,Tm.upd]) (Sub.nil _) ⟨Nat.zero_le _,rfl⟩ ?_;rintro k c ⟨hk,he⟩;by_cases hlt:k<l.length
  ·have hd:decide ((k:Int)<(l.length:Int))=true:=by simpa using hlt
   have hg:=List.getElem?_eq_getElem hlt;have hg':=List.getElem?_eq_getElem (l:=l') (i:=k) (by omega);have hw:=w64 (n:=(k:Int)+1) (by omega) (by omega);have hc:=h _ (List.getElem_mem hlt) (l'[k]'(by omega));obtain ⟨s1,s2⟩:=exsEq_at p l l' k hlen he _ _ hg hg';generalize l[k]=x at hg hc s1 s2;generalize l'[k]'(by omega)=x' at hg' hc s1 s2;rw [Ex.v_w,Ex.v_w] at hc;cases hx:A4y p x x' with
   | true =>
    repeat' ((with_reducible first|refine wr ?_|refine cpc hc ?_|refine k_cu ?_ ?_|refine wb2 ?_ ?_<;>(intro hb;try simp only [hb])|fail)<;>try simp only [go_sem,seval,hd,hg,hg',hw,hx,Ex.v_w,List.length_map])
    exact ⟨k+1,by simp [C5,tm,Tm.upd],Sub.nil _,inv ⟨by omega,by rw [s1];exact hx⟩,by omega⟩
   | false =>
    repeat' ((with_reducible first|refine wr ?_|refine cpc hc ?_|refine k_cu ?_ ?_|refine wb2 ?_ ?_<;>(intro hb;try simp only [hb])|fail)<;>try simp only [go_sem,seval,hd,hg,hg',hw,hx,Ex.v_w,List.length_map])
    exact ⟨_,by rw [s2 hx];exact GL.refl _ _⟩
  ·have hd:decide ((k:Int)<(l.length:Int))=false:=by simpa using hlt
   rw [List.take_of_length_le (by omega),List.take_of_length_le (by omega)] at he;repeat' ((with_reducible first|refine wr ?_|refine k_cu ?_ ?_|refine wb2 ?_ ?_<;>(intro hb;try simp only [hb])|fail)<;>try simp only [go_sem,seval,hd,List.length_map])
   exact ⟨_,by rw [he];exact GL.refl _ _⟩
 ·have hd0:((l.length:Int) != (l'.length:Int))=true:=by simp;omega
  repeat' ((with_reducible first|refine wr ?_|refine k_cu ?_ ?_|refine wb2 ?_ ?_<;>(intro hb;try simp only [hb])|fail)<;>try simp only [go_sem,seval,hd0,List.length_map])
  exact ⟨_,by rw [A9f p l l' hlen];exact GL.refl _ _⟩
theorem c_sameE (p:Bool):∀ (m:Nat) (a b:Ex),a.sz<m->a.sz<=100000000000->PC Tryz.prog 34 [a.v,b.v,.bool p] (.bool (A4y p a b)):=by
 intro m
 induction m with
 | zero=>intro a b h;omega
 | succ m ih =>
 intro a b hm hB;have hs:=c_sameEs p a.args b.args (by have:=a.sz_args;omega) (fun x hx y=>ih x y (by have:=Ex.sz_arg hx;omega) (by have:=Ex.sz_arg hx;omega));have e0:A4y p a b=(a.kind == b.kind && (a.value == b.value && (a.name == b.name && ((p || a.pos == b.pos) && O6 p a.args b.args)))):=by
  cases a with|mk k v n l q=>cases b with|mk k' v' n' l' q'=>rw [A4y];rfl
 refine PC.ofT A6 rfl (Nat.le_of_ble_eq_true rfl) (by simp [DV.nlL,DV.nl,Ex.nl]) rfl ?_;rw [Ex.v_w,Ex.v_w,e0];cases h1:a.kind == b.kind with
 | false =>
  repeat' ((with_reducible first|refine wr ?_|refine k_cu ?_ ?_|refine wb2 ?_ ?_<;>(intro hb;try simp only [hb])|fail)<;>try simp only [go_sem,seval,h1])
  exact ⟨_,GL.refl _ _⟩
 | true =>
  cases h2:a.value == b.value with
  | false =>
   repeat' ((with_reducible first|refine wr ?_|refine k_cu ?_ ?_|refine wb2 ?_ ?_<;>(intro hb;try simp only [hb])|fail)<;>try simp only [go_sem,seval,h1,h2])
   exact ⟨_,GL.refl _ _⟩
  | true =>
   cases h3:a.name == b.name with
   | false =>
    repeat' ((with_reducible first|refine wr ?_|refine k_cu ?_ ?_|refine wb2 ?_ ?_<;>(intro hb;try simp only [hb])|fail)<;>try simp only [go_sem,seval,h1,h2,h3])
    exact ⟨_,GL.refl _ _⟩
   | true =>
    cases hp:p with
    | true =>
     subst hp;repeat' ((with_reducible first|refine wr ?_|refine cpc hs ?_|refine k_cu ?_ ?_|refine wb2 ?_ ?_<;>(intro hb;try simp only [hb])|fail)<;>try simp only [go_sem,seval,h1,h2,h3])
     exact ⟨_,GL.refl _ _⟩
    | false =>
     subst hp;cases h4:a.pos == b.pos with
     | false =>
      repeat' ((with_reducible first|refine wr ?_|refine cpc hs ?_|refine k_cu ?_ ?_|refine wb2 ?_ ?_<;>(intro hb;try simp only [hb])|fail)<;>try simp only [go_sem,seval,h1,h2,h3,h4])
      exact ⟨_,GL.refl _ _⟩
     | true =>
      repeat' ((with_reducible first|refine wr ?_|refine cpc hs ?_|refine k_cu ?_ ?_|refine wb2 ?_ ?_<;>(intro hb;try simp only [hb])|fail)<;>try simp only [go_sem,seval,h1,h2,h3,h4])
      exact ⟨_,GL.refl _ _⟩
end Go.Proofs.YthlpinppaclofaaGreatDoor
namespace Go.Pb
variable [Go.Sym.Tab]
open Go.Sym
def GoodV (t:Tok):Prop:=W1 t/\0<=t.value/\t.value<=2147483647
abbrev I4 (l:List Tok):Prop:=∀ t∈l,GoodV t
theorem A9b:GoodV M1:=⟨⟨fun h=>by simp [M1] at h,fun h=>by simp [M1] at h,fun h=>by simp [M1] at h⟩,by simp [M1],by simp [M1]⟩
theorem A0w (s:List UInt8):GoodV (B1 s):=by
 refine ⟨⟨fun h=>?_,fun h=>?_,fun h=>?_⟩,by simp [B1],by simp [B1]⟩;all_goals simp only [B1] at h ⊢
 all_goals (by_cases h1:C9 s=true)
 all_goals (by_cases h2:C4 s=true)
 all_goals (simp_all)
theorem goodN (s:List UInt8):I4 (D5 s):=by
 intro t ht;unfold D5 at ht;split at ht
 ·rw [List.mem_singleton] at ht;subst ht;exact A9b
 ·rename_i h;rw [List.mem_singleton] at ht;subst ht;exact ⟨⟨fun _=>by simpa using h,fun h=>by simp at h,fun h=>by simp at h⟩,by simp,by simp⟩
theorem goodI (n:Int):I4 (Y0 n):=by
 intro t ht;unfold Y0 at ht;split at ht
 ·rw [List.mem_singleton] at ht;subst ht;exact A9b
 ·rename_i h;rw [List.mem_singleton] at ht;subst ht;refine ⟨⟨fun h=>by simp at h,fun _=>?_,fun h=>by simp at h⟩,?_,?_⟩<;>simp only<;>omega
theorem I4.app {a b:List Tok} (ha:I4 a) (hb:I4 b):I4 (a++b):=fun t ht=>(List.mem_append.1 ht).elim (ha t) (hb t)
theorem I4.one {t:Tok} (h:GoodV t):I4 [t]:=fun x hx=>by rw [List.mem_singleton] at hx;subst hx;exact h
theorem goodO {q:Int × List Tok} (n:Int) (h:I4 q.2):I4 (C6 q n):=by
 unfold C6;split
 ·exact ((I4.one (A0w _)).app h).app (I4.one (A0w _))
 ·exact h
theorem goodB {k v:Int} {n:List UInt8} {as1:List (Int × List Tok)} (h:∀ q∈as1,I4 q.2):I4 (D9 k v n as1):=by
 unfold D9;dsimp only;by_cases h1:k=1
 ·rw [if_pos h1];exact goodI _
 rw [if_neg h1];by_cases h2:k=2
 ·rw [if_pos h2];exact goodN _
 rw [if_neg h2];by_cases h3:k=3
 ·rw [if_pos h3];exact I4.one (A0w _)
 rw [if_neg h3];by_cases h4:k=4
 ·rw [if_pos h4];exact I4.one (A0w _)
 rw [if_neg h4];by_cases h8:k=8
 ·rw [if_pos h8];exact I4.one (A0w _)
 rw [if_neg h8];by_cases h9:k=9
 ·rw [if_pos h9];exact I4.one (A0w _)
 rw [if_neg h9];by_cases h5:k=5
 ·rw [if_pos h5];exact (I4.one (A0w _)).app (goodN _)
 rw [if_neg h5];by_cases h6:k=6
 ·rw [if_pos h6];exact (I4.one (A0w _)).app (goodN _)
 rw [if_neg h6];by_cases h7:k=7
 ·rw [if_pos h7];exact (I4.one (A0w _)).app (goodN _)
 rw [if_neg h7]
 match as1,h with
 | [],_=>exact I4.one A9b
 | [q],h =>
  dsimp only;split
  ·exact (I4.one (A0w _)).app (goodO _ (h q List.mem_cons_self))
  ·exact I4.one A9b
 | [q,r],h =>
  dsimp only;split
  ·exact ((goodO _ (h q List.mem_cons_self)).app (I4.one (A0w _))).app (goodO _ (h r (List.mem_cons_of_mem _ List.mem_cons_self)))
  ·exact I4.one A9b
 | _ :: _ :: _ :: _,_=>exact I4.one A9b
theorem goodE:∀ e:Ex,I4 (exT e)
 | .mk k v n a p=>by
  have ih:∀ x∈a,I4 (exT x):=fun x hx=>goodE x;rw [exT,A0z];exact goodB fun q hq=>by
   obtain ⟨x,hx,rfl⟩:=List.mem_map.1 hq;exact ih x hx
section
variable {L:List Tok} {E:Int}
theorem name_le {s:List UInt8} (h:C4 s=true):s.length<=12:=by
 unfold C4 at h;simp only [Bool.and_eq_true,decide_eq_true_eq] at h;exact h.1.1.1.2
theorem take_nm (hG:∀ t∈L,W1 t) {s:Rd}:(A9 L E s 1).1.text.length<=12:=by
 cases h:F2 L E s 1 with
 | false=>unfold A9;rw [if_pos h];exact Nat.zero_le _
 | true =>
  unfold A9;rw [if_neg (by rw [h];decide)];exact name_le ((hG _ (G9 (by decide) (J2 h).2).1).1 (J2 h).2)
theorem prim_sz (hG:∀ t∈L,W1 t) {s:Rd}:(E6 L E s).1.sz+13 * s.i<=13 * (E6 L E s).2.i+1:=by
 have hge:=prim_ge (L:=L) (E:=E) (s:=s);have h2:(C0 L E { s with ops:=s.ops+1 } (s.ops+1) 32 9).i=s.i:=U2;unfold E6 at hge ⊢;dsimp only at hge ⊢;split
 ·rename_i hc;rw [if_pos hc] at hge;show 1+0+0+_<=_;have:s.i<=(K8 L E s).i:=hge;show 1+0+0+13 * s.i<=13 * (K8 L E s).i+1;omega
 ·rename_i hc;rw [if_neg hc] at hge;split
  ·show 1+0+0+13 * s.i<=13 * (C0 L E { s with ops:=s.ops+1 } (s.ops+1) 32 9).i+1;omega
  ·have h3:(B3 (C0 L E { s with ops:=s.ops+1 } (s.ops+1) 32 9)).i=s.i+1:=by show (C0 L E { s with ops:=s.ops+1 } (s.ops+1) 32 9).i+1=_;rw [h2]
   generalize B3 (C0 L E { s with ops:=s.ops+1 } (s.ops+1) 32 9)=s3 at h3;have h4:=N7 (L:=L) (E:=E) (s:=s3) (x:=1);have h5:=take_nm (L:=L) (E:=E) hG (s:=s3);split
   ·split
    ·show 1+(A9 L E s3 1).1.text.length+0+13 * s.i<=13 * (A9 L E s3 1).2.i+1;omega
    ·show 1+0+0+13 * s.i<=13 * s3.i+1;omega
   ·rename_i hk;split
    ·show 1+0+0+13 * s.i<=13 * s3.i+1;omega
    ·rename_i hk3;have h1k:F2 L E s 1=true:=by
      cases hz:F2 L E s 1 with
      | true=>rfl
      | false =>
       refine absurd ⟨by omega,?_,hz⟩ hc;cases hy:F2 L E s 3 with
       | false=>rfl
       | true=>exact absurd (J2 hy).2 hk3
     have:=name_le ((hG _ (G9 (by decide) (J2 h1k).2).1).1 (J2 h1k).2);show 1+(A3 L E s).text.length+0+13 * s.i<=13 * s3.i+1;omega
theorem EZ.all (hG:∀ t∈L,W1 t):∀ f:Nat,(∀ n s r,D3 L E f n s=some r->r.1.sz+13 * s.i<=13 * r.2.i+1)/\(∀ n e s r,F9 L E f n e s=some r->r.1.sz+13 * s.i<=13 * r.2.i+e.sz)/\(∀ s r,G8 L E f s=some r->r.1.sz+13 * s.i<=13 * r.2.i+1)
 | 0=>⟨fun n s r h=>by simp [D3] at h,fun n e s r h=>by simp [F9] at h,fun s r h=>by simp [G8] at h⟩
 | f+1=>by
  obtain ⟨i1,i2,i3⟩:=EZ.all hG f;refine ⟨fun n s r h=>?_,fun n e s r h=>?_,fun s r h=>?_⟩
  ·unfold D3 at h;split at h
   ·exact i3 _ _ h
   ·split at h
    ·cases h
    ·rename_i hb;have h1:=i1 _ _ _ hb;have h2:=i2 _ _ _ _ h;dsimp only at h1;omega
  ·unfold F9 at h;dsimp only at h;split at h
   ·cases h;dsimp only;omega
   ·split at h
    ·cases h
    ·rename_i x s1 hb;have h1:=i1 _ _ _ hb;have h1:x.sz+13 * (s.i+1)<=13 * s1.i+1:=h1;have h3:(Ex.mk (12+B7 L E s B6) 0 [] [e,x] (A3 L E s).pos).sz=1+e.sz+x.sz:=by rw [Ex.sz,Ex.szs,Ex.szs,Ex.szs];simp;omega
     split at h
     ·cases h;rw [h3];show 1+e.sz+x.sz+13 * s.i<=13 * s1.i+e.sz;omega
     ·have h2:=i2 _ _ _ _ h;rw [h3] at h2;omega
  ·unfold G8 at h;dsimp only at h;split at h
   ·cases h;exact prim_sz hG
   ·split at h
    ·cases h;show 1+0+0+13 * s.i<=13 * (C0 L E s (s.par+1) 16 50).i+1;rw [U2];omega
    ·rename_i hl;have hl:okR (C0 L E s (s.par+1) 16 50)=true:=by simpa using hl
     obtain ⟨-, -,h3⟩:=N0 (by decide) hl;rw [h3] at h;split at h
     ·split at h
      ·cases h
      ·rename_i e s3 hb;cases h;have h1:=i1 _ _ _ hb;have h1:e.sz+13 * (s.i+1)<=13 * s3.i+1:=h1;have h2:=H7 (L:=L) (E:=E) (s:=s3) (x:=[41]);show e.sz+13 * s.i<=13 * (C7 L E s3 [41]).i+1;omega
     ·split at h
      ·cases h
      ·rename_i e s3 hb;cases h;have h1:=i3 _ _ hb;have h1:e.sz+13 * (s.i+1)<=13 * s3.i+1:=h1;have h4:(Ex.mk (10+B7 L E s J1) 0 [] [e] (A3 L E s).pos).sz=1+e.sz:=by rw [Ex.sz,Ex.szs,Ex.szs];simp
       rw [h4];show 1+e.sz+13 * s.i<=13 * s3.i+1;omega
theorem expn_sz (hG:∀ t∈L,W1 t) {f:Nat} {s:Rd} {r:Ex × Rd} (h:F4 L E f s=some r):r.1.sz+13 * s.i<=13 * r.2.i+1:=(EZ.all hG f).1 1 { s with ops:=0,par:=0 } r h
end
end Go.Pb
namespace Go.Pb
variable [Go.Sym.Tab]
open Go.Sym
section
variable {L:List Tok} {E:Int}
end
theorem xpnF_sz {L:List Tok} {E:Int} (hG:∀ t∈L,W1 t):(J3 L E).1.sz<=13 * L.length+1:=by
 obtain ⟨f,hf⟩:=(W3 L E).get;have h1:=expn_sz hG hf;have h2:=expn_i hf (show rd0.i<=L.length from Nat.zero_le _);omega
def A8i (e:Ex):Bool:=okR (J3 (exT e) 0).2 && (decide ((J3 (exT e) 0).2.i=(exT e).length) && A4y true (J3 (exT e) 0).1 e)
end Go.Pb
namespace Go.Proofs.YthlpinppaclofaaGreatDoor
open Go.Eng (IC IOper DReg IFn B5)
open Go.Sym Go.Pb
theorem c_ValidE31 (e:Ex) (hB:e.sz<4000000):PC Tryz.prog 31 [e.v] (.bool (A8i e)):=by
 refine PC.ofT A6 rfl (Nat.le_of_ble_eq_true rfl) (by simp [DV.nlL,DV.nl,Ex.nl]) rfl ?_;have hg:=goodE e;have hGT:∀ t∈exT e,W1 t:=fun t ht=>(hg t ht).1;obtain ⟨l1,l2⟩:=V4 e;have hsz:=xpnF_sz (E:=0) hGT;have ht:=c_exprT (e.sz+1) e (by omega) (by omega);obtain ⟨f,hf⟩:=(W3 (exT e) 0).get;have hr:=c_expression (exT e) 0 (by omega) f rd0 _ hf (Nat.zero_le _);have hv:A8i e=(okR (J3 (exT e) 0).2 && (decide ((J3 (exT e) 0).2.i=(exT e).length) && A4y true (J3 (exT e) 0).1 e)):=rfl;rw [hv];have hsm:=c_sameE true ((J3 (exT e) 0).1.sz+1) (J3 (exT e) 0).1 e (by omega) (by omega);generalize J3 (exT e) 0=w at hr hsm hsz ⊢;generalize hL:exT e=L at ht hr;rw [Ex.v_w] at ht ⊢;rw [Ex.v_w,Ex.v_w] at hsm;repeat' ((with_reducible first|refine wr ?_|refine cpc ht ?_|refine k_cu ?_ ?_|refine wb2 ?_ ?_<;>(intro hb;try simp only [hb])|fail)<;>try simp only [go_sem,seval])
 refine AC.call (hr _ _ 1 rfl (by decide)) ?_;rintro v H' c2 ⟨rfl,rfl⟩ hc2;dsimp only at hc2 ⊢;rw [Ex.v_w];have ne0:=O0 0 1 c2 (by omega);simp only [go_sem,seval,ne0,A0,A1];repeat' ((with_reducible first|refine wr ?_|refine k_cu ?_ ?_|refine wb2 ?_ ?_<;>(intro hb;try simp only [hb])|fail)<;>try simp only [go_sem,seval,ne0,A0,A1])
 refine AC.call (c_rdok L 0 w.2 _ _ 1 (by rw [A2 (by omega)];exact A0) (by omega)) ?_;rintro v H' c3 ⟨rfl,rfl⟩ hc3;cases hok:okR w.2 with
 | false =>
  simp only [go_sem,seval,hok,ne0,A0,A1];repeat' ((with_reducible first|refine wr ?_|refine k_cu ?_ ?_|refine wb2 ?_ ?_<;>(intro hb;try simp only [hb])|fail)<;>try simp only [go_sem,seval,hok,ne0,A0,A1])
  exact ⟨_,GL.refl _ _⟩
 | true =>
  by_cases hlt:w.2.i=L.length
  ·have hd:((w.2.i:Int) == (L.length:Int))=true:=by simp [hlt]
   simp only [go_sem,seval,hok,hd,ne0,A0,A1];repeat' ((with_reducible first|refine wr ?_|refine cpc hsm ?_|refine k_cu ?_ ?_|refine wb2 ?_ ?_<;>(intro hb;try simp only [hb])|fail)<;>try simp only [go_sem,seval,hok,hd,ne0,A0,A1])
   rw [decide_eq_true hlt,Bool.true_and];exact ⟨_,GL.refl _ _⟩
  ·have hd:((w.2.i:Int) == (L.length:Int))=false:=by simp;omega
   simp only [go_sem,seval,hok,hd,ne0,A0,A1];repeat' ((with_reducible first|refine wr ?_|refine cpc hsm ?_|refine k_cu ?_ ?_|refine wb2 ?_ ?_<;>(intro hb;try simp only [hb])|fail)<;>try simp only [go_sem,seval,hok,hd,ne0,A0,A1])
   rw [decide_eq_false hlt,Bool.false_and];exact ⟨_,GL.refl _ _⟩
end Go.Proofs.YthlpinppaclofaaGreatDoor
set_option maxHeartbeats 4000000
namespace Go.Proofs.YthlpinppaclofaaGreatDoor
open Go.Eng (IC IOper DReg IFn B5)
open Go.Sym
abbrev x66:XT Tryz.prog 66:=mkF (by unfold B5;conv=>lhs;reduce;simp only [seval,u8n]) (fun h=>by conv=>lhs;cbv)
instance t66:FT Tryz.prog 66 x66.d:=x66.ft
abbrev x30:XT Tryz.prog 30:=mkF (by unfold B5;conv=>lhs;reduce;simp only [seval,u8n]) (fun h=>by conv=>lhs;cbv)
instance t30:FT Tryz.prog 30 x30.d:=x30.ft
abbrev x116:XT Tryz.prog 116:=mkF (by unfold B5;conv=>lhs;reduce;simp only [seval,u8n]) (fun h=>by conv=>lhs;cbv)
instance t116:FT Tryz.prog 116 x116.d:=x116.ft
abbrev x112:XT Tryz.prog 112:=mkF (by unfold B5;conv=>lhs;reduce;simp only [seval,u8n]) (fun h=>by conv=>lhs;cbv)
instance t112:FT Tryz.prog 112 x112.d:=x112.ft
abbrev x111:XT Tryz.prog 111:=mkF (by unfold B5;conv=>lhs;reduce;simp only [seval,u8n]) (fun h=>by conv=>lhs;cbv)
instance t111:FT Tryz.prog 111 x111.d:=x111.ft
abbrev x153:XT Tryz.prog 153:=mkF (by unfold B5;conv=>lhs;reduce;simp only [seval,u8n]) (fun h=>by conv=>lhs;cbv)
instance t153:FT Tryz.prog 153 x153.d:=x153.ft
abbrev x180:XT Tryz.prog 180:=mkF (by unfold B5;conv=>lhs;reduce;simp only [seval,u8n]) (fun h=>by conv=>lhs;cbv)
instance t180:FT Tryz.prog 180 x180.d:=x180.ft
abbrev x93:XT Tryz.prog 93:=mkF (by unfold B5;conv=>lhs;reduce;simp only [seval,u8n]) (fun h=>by conv=>lhs;cbv)
instance t93:FT Tryz.prog 93 x93.d:=x93.ft
abbrev x147:XT Tryz.prog 147:=mkF (by unfold B5;conv=>lhs;reduce;simp only [seval,u8n]) (fun h=>by conv=>lhs;cbv)
instance t147:FT Tryz.prog 147 x147.d:=x147.ft
abbrev x148:XT Tryz.prog 148:=mkF (by unfold B5;conv=>lhs;reduce;simp only [seval,u8n]) (fun h=>by conv=>lhs;cbv)
instance t148:FT Tryz.prog 148 x148.d:=x148.ft
abbrev x179:XT Tryz.prog 179:=mkF (by unfold B5;conv=>lhs;reduce;simp only [seval,u8n]) (fun h=>by conv=>lhs;cbv)
instance t179:FT Tryz.prog 179 x179.d:=x179.ft
abbrev x51:XT Tryz.prog 51:=mkF (by unfold B5;conv=>lhs;reduce;simp only [seval,u8n]) (fun h=>by conv=>lhs;cbv)
instance t51:FT Tryz.prog 51 x51.d:=x51.ft
abbrev x54:XT Tryz.prog 54:=mkF (by unfold B5;conv=>lhs;reduce;simp only [seval,u8n]) (fun h=>by conv=>lhs;cbv)
instance t54:FT Tryz.prog 54 x54.d:=x54.ft
abbrev x23:XT Tryz.prog 23:=mkF (by unfold B5;conv=>lhs;reduce;simp only [seval,u8n]) (fun h=>by conv=>lhs;cbv)
instance t23:FT Tryz.prog 23 x23.d:=x23.ft
abbrev x50:XT Tryz.prog 50:=mkF (by unfold B5;conv=>lhs;reduce;simp only [seval,u8n]) (fun h=>by conv=>lhs;cbv)
instance t50:FT Tryz.prog 50 x50.d:=x50.ft
abbrev x53:XT Tryz.prog 53:=mkF (by unfold B5;conv=>lhs;reduce;simp only [seval,u8n]) (fun h=>by conv=>lhs;cbv)
instance t53:FT Tryz.prog 53 x53.d:=x53.ft
abbrev x49:XT Tryz.prog 49:=mkF (by unfold B5;conv=>lhs;reduce;simp only [seval,u8n]) (fun h=>by conv=>lhs;cbv)
instance t49:FT Tryz.prog 49 x49.d:=x49.ft
abbrev x90:XT Tryz.prog 90:=mkF (by unfold B5;conv=>lhs;reduce;simp only [seval,u8n]) (fun h=>by conv=>lhs;cbv)
instance t90:FT Tryz.prog 90 x90.d:=x90.ft
abbrev x52:XT Tryz.prog 52:=mkF (by unfold B5;conv=>lhs;reduce;simp only [seval,u8n]) (fun h=>by conv=>lhs;cbv)
instance t52:FT Tryz.prog 52 x52.d:=x52.ft
abbrev x92:XT Tryz.prog 92:=mkF (by unfold B5;conv=>lhs;reduce;simp only [seval,u8n]) (fun h=>by conv=>lhs;cbv)
instance t92:FT Tryz.prog 92 x92.d:=x92.ft
abbrev x146:XT Tryz.prog 146:=mkF (by unfold B5;conv=>lhs;reduce;simp only [seval,u8n]) (fun h=>by conv=>lhs;cbv)
instance t146:FT Tryz.prog 146 x146.d:=x146.ft
abbrev x177:XT Tryz.prog 177:=mkF (by unfold B5;conv=>lhs;reduce;simp only [seval,u8n]) (fun h=>by conv=>lhs;cbv)
instance t177:FT Tryz.prog 177 x177.d:=x177.ft
abbrev x178:XT Tryz.prog 178:=mkF (by unfold B5;conv=>lhs;reduce;simp only [seval,u8n]) (fun h=>by conv=>lhs;cbv)
instance t178:FT Tryz.prog 178 x178.d:=x178.ft
abbrev x200:XT Tryz.prog 200:=mkF (by unfold B5;conv=>lhs;reduce;simp only [seval,u8n]) (fun h=>by conv=>lhs;cbv)
instance t200:FT Tryz.prog 200 x200.d:=x200.ft
end Go.Proofs.YthlpinppaclofaaGreatDoor
end
