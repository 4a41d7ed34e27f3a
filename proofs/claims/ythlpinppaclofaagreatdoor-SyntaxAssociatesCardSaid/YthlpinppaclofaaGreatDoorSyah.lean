/-
  HELPERS of the claim: part 8 of its texts.
-/
import Derived.Test.YthlpinppaclofaaGreatDoorSyag
import Derived.Shelf.LaysC
import Derived.Shelf.Strconv.ParseIntPublic10
import Derived.Test.YthlpinppaclofaaGreatDoorProg
import Derived.Maps.RangeRun
noncomputable section
set_option linter.unusedVariables false
namespace Go.Proofs
open Go.Shelf
def Tryz.laysC174_ren:Go.Shelf.Ren:=⟨fun | 174=>194 | 247=>207 | 245=>208 | 287=>216 | 279=>217 | 280=>218 | 281=>219 | 282=>220 | 321=>223 | 322=>224 | 316=>225 | 171=>57 | 205=>226 | 243=>101 | 246=>152 | 283=>184 | 284=>185 | 285=>186 | 286=>187 | 129=>202 | 317=>201 | 318=>203 | 319=>204 | 320=>205 | 337=>212 | 338=>213|n=>n,fun | 9=>9 | 3=>3 | 2=>2 | 75=>138 | 85=>195 | 4=>4 | 167=>223 | 5=>5 | 53=>184 | 175=>224 | 46=>203 | 168=>226 | 37=>22 | 0=>0 | 210=>235 | 21=>21 | 127=>170 | 145=>239 | 143=>237 | 171=>183 | 173=>187 | 212=>200 | 51=>201 | 20=>20 | 213=>202 | 232=>229 | 233=>230 | 80=>29|n=>n,fun | 15=>6 | 16=>7 | 17=>1 | 18=>4 | 19=>5|n=>n⟩
theorem Tryz.laysC174:Go.Proofs.LaysC.n174 Tryz.prog Tryz.laysC174_ren:={
 mixed:=by kernel_rfl
 f129:=Tryz.func202.trans (congrArg some (by kernel_rfl))
 f171:=Tryz.func57.trans (congrArg some (by kernel_rfl))
 f174:=Tryz.func194.trans (congrArg some (by kernel_rfl))
 f205:=Tryz.func226.trans (congrArg some (by kernel_rfl))
 f243:=Tryz.func101.trans (congrArg some (by kernel_rfl))
 f245:=Tryz.func208.trans (congrArg some (by kernel_rfl))
 f246:=Tryz.func152.trans (congrArg some (by kernel_rfl))
 f247:=Tryz.func207.trans (congrArg some (by kernel_rfl))
 f279:=Tryz.func217.trans (congrArg some (by kernel_rfl))
 f280:=Tryz.func218.trans (congrArg some (by kernel_rfl))
 f281:=Tryz.func219.trans (congrArg some (by kernel_rfl))
 f282:=Tryz.func220.trans (congrArg some (by kernel_rfl))
 f283:=Tryz.func184.trans (congrArg some (by kernel_rfl))
 f284:=Tryz.func185.trans (congrArg some (by kernel_rfl))
 f285:=Tryz.func186.trans (congrArg some (by kernel_rfl))
 f286:=Tryz.func187.trans (congrArg some (by kernel_rfl))
 f287:=Tryz.func216.trans (congrArg some (by kernel_rfl))
 f316:=Tryz.func225.trans (congrArg some (by kernel_rfl))
 f317:=Tryz.func201.trans (congrArg some (by kernel_rfl))
 f318:=Tryz.func203.trans (congrArg some (by kernel_rfl))
 f319:=Tryz.func204.trans (congrArg some (by kernel_rfl))
 f320:=Tryz.func205.trans (congrArg some (by kernel_rfl))
 f321:=Tryz.func223.trans (congrArg some (by kernel_rfl))
 f322:=Tryz.func224.trans (congrArg some (by kernel_rfl))
 f337:=Tryz.func212.trans (congrArg some (by kernel_rfl))
 f338:=Tryz.func213.trans (congrArg some (by kernel_rfl))
 t0:=Tryz.underlying0
 a0:=Tryz.isAgg0
 z0:=Tryz.sizeOf0
 v0:=Tryz.zeroValue0
 t2:=Tryz.underlying2
 a2:=Tryz.isAgg2
 z2:=Tryz.sizeOf2
 v2:=Tryz.zeroValue2
 t3:=Tryz.underlying3
 a3:=Tryz.isAgg3
 z3:=Tryz.sizeOf3
 v3:=Tryz.zeroValue3
 t4:=Tryz.underlying4
 a4:=Tryz.isAgg4
 z4:=Tryz.sizeOf4
 v4:=Tryz.zeroValue4
 t5:=Tryz.underlying5
 a5:=Tryz.isAgg5
 z5:=Tryz.sizeOf5
 v5:=Tryz.zeroValue5
 t9:=Tryz.underlying9
 a9:=Tryz.isAgg9
 z9:=Tryz.sizeOf9
 v9:=Tryz.zeroValue9
 t20:=Tryz.underlying20
 a20:=Tryz.isAgg20
 z20:=Tryz.sizeOf20
 v20:=Tryz.zeroValue20
 t21:=Tryz.underlying21
 a21:=Tryz.isAgg21
 z21:=Tryz.sizeOf21
 v21:=Tryz.zeroValue21
 t37:=Tryz.underlying22
 a37:=Tryz.isAgg22
 z37:=Tryz.sizeOf22
 v37:=Tryz.zeroValue22
 t46:=Tryz.underlying203
 a46:=Tryz.isAgg203
 z46:=Tryz.sizeOf203
 v46:=Tryz.zeroValue203
 t51:=Tryz.underlying201
 a51:=Tryz.isAgg201
 z51:=Tryz.sizeOf201
 v51:=Tryz.zeroValue201
 t53:=Tryz.underlying184
 a53:=Tryz.isAgg184
 z53:=Tryz.sizeOf184
 v53:=Tryz.zeroValue184
 t75:=Tryz.underlying138
 a75:=Tryz.isAgg138
 z75:=Tryz.sizeOf138
 v75:=Tryz.zeroValue138
 t85:=Tryz.underlying195
 a85:=Tryz.isAgg195
 z85:=Tryz.sizeOf195
 v85:=Tryz.zeroValue195
 t127:=Tryz.underlying170
 a127:=Tryz.isAgg170
 z127:=Tryz.sizeOf170
 v127:=Tryz.zeroValue170
 t143:=Tryz.underlying237
 a143:=Tryz.isAgg237
 z143:=Tryz.sizeOf237
 v143:=Tryz.zeroValue237
 t145:=Tryz.underlying239
 a145:=Tryz.isAgg239
 z145:=Tryz.sizeOf239
 v145:=Tryz.zeroValue239
 t167:=Tryz.underlying223
 a167:=Tryz.isAgg223
 z167:=Tryz.sizeOf223
 v167:=Tryz.zeroValue223
 t168:=Tryz.underlying226
 a168:=Tryz.isAgg226
 z168:=Tryz.sizeOf226
 v168:=Tryz.zeroValue226
 t171:=Tryz.underlying183
 a171:=Tryz.isAgg183
 z171:=Tryz.sizeOf183
 v171:=Tryz.zeroValue183
 t173:=Tryz.underlying187
 a173:=Tryz.isAgg187
 z173:=Tryz.sizeOf187
 v173:=Tryz.zeroValue187
 t175:=Tryz.underlying224
 a175:=Tryz.isAgg224
 z175:=Tryz.sizeOf224
 v175:=Tryz.zeroValue224
 t210:=Tryz.underlying235
 a210:=Tryz.isAgg235
 z210:=Tryz.sizeOf235
 v210:=Tryz.zeroValue235
 t212:=Tryz.underlying200
 a212:=Tryz.isAgg200
 z212:=Tryz.sizeOf200
 v212:=Tryz.zeroValue200
 t213:=Tryz.underlying202
 a213:=Tryz.isAgg202
 z213:=Tryz.sizeOf202
 t232:=Tryz.underlying229
 a232:=Tryz.isAgg229
 z232:=Tryz.sizeOf229
 v232:=Tryz.zeroValue229
 t233:=Tryz.underlying230
 a233:=Tryz.isAgg230
 z233:=Tryz.sizeOf230
 v233:=Tryz.zeroValue230
 g15:=by kernel_rfl
 g16:=by kernel_rfl
 g17:=by kernel_rfl
 g18:=by kernel_rfl
 g19:=by kernel_rfl
 t80:=Tryz.underlying29
 a80:=Tryz.isAgg29
 z80:=Tryz.sizeOf29
 v80:=Tryz.zeroValue29
 i0:=by kernel_rfl
 i2:=by kernel_rfl
 i3:=by kernel_rfl
 i4:=by kernel_rfl
 i5:=by kernel_rfl
 i9:=by kernel_rfl
 i20:=by kernel_rfl
 i21:=by kernel_rfl
 i37:=by kernel_rfl
 i46:=by kernel_rfl
 i51:=by kernel_rfl
 i53:=by kernel_rfl
 i75:=by kernel_rfl
 i80:=by kernel_rfl
 i85:=by kernel_rfl
 i127:=by kernel_rfl
 i143:=by kernel_rfl
 i145:=by kernel_rfl
 i167:=by kernel_rfl
 i168:=by kernel_rfl
 i171:=by kernel_rfl
 i173:=by kernel_rfl
 i175:=by kernel_rfl
 i210:=by kernel_rfl
 i212:=by kernel_rfl
 i232:=by kernel_rfl
 i233:=by kernel_rfl
 m15:=by kernel_rfl
 m16:=by kernel_rfl
 m17:=by kernel_rfl
 m18:=by kernel_rfl
 m19:=by kernel_rfl
 c0:=by kernel_rfl
 c2:=by kernel_rfl
 c3:=by kernel_rfl
 c4:=by kernel_rfl
 c5:=by kernel_rfl
 c9:=by kernel_rfl
 c20:=by kernel_rfl
 c21:=by kernel_rfl
 c37:=by kernel_rfl
 c46:=by kernel_rfl
 c51:=by kernel_rfl
 c53:=by kernel_rfl
 c75:=by kernel_rfl
 c80:=by kernel_rfl
 c85:=by kernel_rfl
 c127:=by kernel_rfl
 c143:=by kernel_rfl
 c145:=by kernel_rfl
 c167:=by kernel_rfl
 c168:=by kernel_rfl
 c171:=by kernel_rfl
 c173:=by kernel_rfl
 c175:=by kernel_rfl
 c210:=by kernel_rfl
 c212:=by kernel_rfl
 c213:=by kernel_rfl
 c232:=by kernel_rfl
 c233:=by kernel_rfl }
open Go.RowKit in
theorem Tryz.strconv_ParseInt_10_at64_ok (s:ByteArray) (hmax:s.size<=9223372036854775806) (v:Int) (h:Lib.parseIntB 64 s.data.toList=.ok v) (w:World) :
  Calls Tryz.prog 194 #[.string s,.int .i64 10,.int .i64 64] w fun e w'=>e=.returned (.tuple #[.int .i64 v,.nilIface])/\(w'=w\/∃ t,w'=Lib.bytesWorld w 5 t):=Any.strconv_ParseInt_10_at64_ok Tryz.laysC174 s hmax v h w
open Go.RowKit in
theorem Tryz.strconv_ParseInt_10_at64_range (s:ByteArray) (hlim:s.size<=281474976710656) (h:Lib.parseIntB 64 s.data.toList=.range) (ev:Value) (w:World) (hv:w.cell? ⟨7,0,none⟩=some ev) (hev:ev=.nilIface\/∃ te pe,ev=.iface te pe) :
  Calls Tryz.prog 194 #[.string s,.int .i64 10,.int .i64 64] w fun e w' => ∃ N,e=.returned (.tuple #[.int .i64 (Lib.intSat 64 s.data.toList),.iface 226 (.pointer (some ⟨N,0,none⟩))])/\w.heap.size<=N/\w'.heap[N]? = some (.cells #[.string ⟨#[80,97,114,115,101,73,110,116]⟩,.string s,ev] 235 (0,0))/\Below w.heap.size w w':=Any.strconv_ParseInt_10_at64_range Tryz.laysC174 s hlim h ev w hv hev
end Go.Proofs
set_option maxHeartbeats 4000000
set_option maxRecDepth 100000
set_option linter.unusedSimpArgs false
namespace Go.Proofs.YthlpinppaclofaaGreatDoor
open Go.Eng (IC IOper DReg IFn G0 E8)
open Go.Sym Go.Pb Go.RowKit
theorem dec_eq:∀ (m u:Nat),u<m->Lib.decDigits u=A4h u:=by
 intro m
 induction m with
 | zero=>intro u h;omega
 | succ m ih =>
  intro u h;unfold Lib.decDigits;by_cases h0:u<10
  ·rw [dif_pos h0,A6n h0];rfl
  ·rw [dif_neg h0,decB_ge h0,ih (u / 10) (by omega)];rfl
theorem itoa_eq (n:Int):Lib.itoa n=O8 n:=by
 unfold Lib.itoa O8;by_cases h:n<0
 ·rw [if_pos h,if_pos h,dec_eq (n.natAbs+1) _ (by omega)]
 ·rw [if_neg h,if_neg h,dec_eq (n.toNat+1) _ (by omega)]
  congr 1;omega
theorem arg1 {ρ : Ren} {x:DV} {u:Value} {vs:Array Value} (hA:D2 ρ [x] vs) (h:∀ y,VRel ρ x y->y=u):vs = #[u]:=by
 obtain ⟨y,h1,h2⟩:=hA.get (i:=0) rfl;have hs:vs.size=1:=hA.1.symm;obtain rfl:=h y h2;cases vs with|mk l=>match l,hs,h1 with
  | [a],_,h1=>simp at h1;subst h1;rfl
theorem c_Itoa (n:Int) (h0 : -9223372036854775808<=n) (h1:n<=9223372036854775807):PC Tryz.prog 57 [I64 n] (.str (O8 n)):=by
 refine PC.of_calls (by kernel_rfl) rfl rfl fun ρ w vs hf hA=>?_;have hvs:vs = #[.int .i64 n]:=arg1 hA fun y h=>h.int_inv;rw [hvs];obtain ⟨r,hr,rfl⟩ := ρ.tab _ (List.mem_cons_self);obtain ⟨e,fr,hb⟩:=hf _ _ hr;have ht : Lib.TabIs Tryz.prog w "internal/strconv.uint64pow10" .u64 Lib.pow10Tab := by
  unfold Lib.TabIs World.var?;rw [Tryz.laysM171.m17];show (match w.heap[1]? with|some (.cells cs _ _)=>some cs|_=>none)=_;rw [hb]
 refine (Tryz.strconv_Itoa n h0 h1 w ht).mono ?_;rintro e w' ⟨rfl,k,os,rfl⟩;exact ⟨_,rfl,fun ρ'=>by rw [itoa_eq];exact .mkStr,⟨rfl,rfl,rfl,by show w.heap.size<=(w.heap++os).size;rw [Array.size_append];omega,fun j hj=>by
  show (w.heap++os)[j]? = w.heap[j]?;rw [Array.getElem?_append,if_pos hj]⟩⟩
theorem arg2 {ρ : Ren} {x x2:DV} {u u2:Value} {vs:Array Value} (hA:D2 ρ [x,x2] vs) (h:∀ y,VRel ρ x y->y=u) (h2:∀ y,VRel ρ x2 y->y=u2):vs = #[u,u2]:=by
 obtain ⟨y,g1,g2⟩:=hA.get (i:=0) rfl;obtain ⟨z,g3,g4⟩:=hA.get (i:=1) rfl;obtain rfl:=h y g2;obtain rfl:=h2 z g4;have hs:vs.size=2:=hA.1.symm;cases vs with|mk r=>match r,hs,g1,g3 with
  | [a,b],_,h1,h3=>simp at h1 h3;subst h1 h3;rfl
theorem arg3 {ρ : Ren} {x x2 x3:DV} {u u2 u3:Value} {vs:Array Value} (hA:D2 ρ [x,x2,x3] vs) (h:∀ y,VRel ρ x y->y=u) (h2:∀ y,VRel ρ x2 y->y=u2) (h3:∀ y,VRel ρ x3 y->y=u3):vs = #[u,u2,u3]:=by
 obtain ⟨y,g1,g2⟩:=hA.get (i:=0) rfl;obtain ⟨z,g3,g4⟩:=hA.get (i:=1) rfl;obtain ⟨q,g5,g6⟩:=hA.get (i:=2) rfl;obtain rfl:=h y g2;obtain rfl:=h2 z g4;obtain rfl:=h3 q g6;have hs:vs.size=3:=hA.1.symm;cases vs with|mk r=>match r,hs,g1,g3,g5 with
  | [a,b,c],_,h1,h3,h5=>simp at h1 h3 h5;subst h1 h3 h5;rfl
theorem c_IndexByte (s:List UInt8) (c:UInt8):PC Tryz.prog 195 [.str s,.int .u8 c.toNat] (I64 (Lib.indexByte s c)):=by
 refine PC.of_calls (by kernel_rfl) rfl rfl fun ρ w vs hf hA=>?_;rw [arg2 hA (fun y h=>h.str_inv) (fun y h=>h.int_inv)];refine (Tryz.strings_IndexByte _ _ w).mono ?_;rintro e w' ⟨rfl,rfl⟩;refine ⟨_,rfl,fun ρ'=>?_,Below.refl _ _⟩;have:((c.toNat:Int).toNat.toUInt8)=c:=by rw [Int.toNat_natCast];exact UInt8.ofNat_toNat
 rw [this];exact .int _ _
theorem c_ParseOk (s:List UInt8) (hs:s.length<=281474976710656) (h:∀ c∈s,dgB c=true) (h0:s≠[]) (hv:V9 s<=9223372036854775807):PC Tryz.prog 194 [.str s,I64 10,I64 64] (.tup [I64 (V9 s),.inil]):=by
 refine PC.of_calls (by kernel_rfl) rfl rfl fun ρ w vs hf hA=>?_;rw [arg3 hA (fun y h=>h.str_inv) (fun y h=>h.int_inv) (fun y h=>h.int_inv)];refine (Tryz.strconv_ParseInt_10_at64_ok _ (by show s.toArray.size<=_;rw [List.size_toArray];omega) (V9 s:Int) (by have:=pib h h0;rw [if_pos hv] at this;exact this) w).mono ?_;rintro e w' ⟨rfl,hw⟩;refine ⟨_,rfl,fun ρ'=>.tup _ _ rfl (fun i x y hx hy=>?_),?_⟩
 ·match i with
  | 0=>simp at hx hy;subst hx hy;exact .int _ _
  | 1=>simp at hx hy;subst hx hy;exact .inil
  | _+2=>simp at hx
 ·rcases hw with rfl|⟨t,rfl⟩
  ·exact Below.refl _ _
  ·exact ⟨rfl,rfl,rfl,by rw [Lib.bytesWorld_size];omega,fun j hj=>Lib.bytesWorld_at_old _ _ _ _ hj⟩
theorem c_ParseBig (s:List UInt8) (hs:s.length<=281474976710656) (h:∀ c∈s,dgB c=true) (h0:s≠[]) (hv:9223372036854775807<V9 s):PC Tryz.prog 194 [.str s,I64 10,I64 64] (.tup [.bot,.iface 226 .bot]):=by
 refine PC.of_calls (by kernel_rfl) rfl rfl fun ρ w vs hf hA=>?_;rw [arg3 hA (fun y h=>h.str_inv) (fun y h=>h.int_inv) (fun y h=>h.int_inv)];obtain ⟨r,hr,te,pe,rfl⟩ := ρ.tab _ (List.mem_cons_of_mem _ (List.mem_cons_of_mem _ List.mem_cons_self));obtain ⟨e,fr,hb⟩:=hf _ _ hr;refine (Tryz.strconv_ParseInt_10_at64_range _ (by show s.toArray.size<=_;rw [List.size_toArray];omega) (by have:=pib h h0;rw [if_neg (by omega)] at this;exact this) (.iface te pe) w ?_ (.inr ⟨te,pe,rfl⟩)).mono ?_
 ·simp only [World.cell?];have hb':w.heap[7]? = _:=hb;rw [hb'];rfl
 ·rintro e w' ⟨N,rfl, -, -,hB⟩;refine ⟨_,rfl,fun ρ'=>.tup _ _ rfl (fun i x y hx hy=>?_),hB⟩
  match i with
  | 0=>simp at hx hy;subst hx hy;exact .bot _
  | 1=>simp at hx hy;subst hx hy;exact .iface _ _ _ (.bot _)
  | _+2=>simp at hx
def wlit:List UInt8:=w8 [115,119,105,116,99,104,32,99,111,105,108,32,108,97,109,112,32,115,111,117,110,100,32,115,104,111,119,32,118,97,114,32,116,105,109,101,114,32,101,118,101,110,116,32,109,111,100,101,32,111,110,32,115,116,97,114,116,32,115,116,111,112,32,99,108,111,115,101,32,111,112,101,110,32,105,102,32,101,108,115,101,32,114,101,112,101,97,116,32,115,99,111,114,101,32,102,105,114,101,32,104,111,108,100,32,114,101,108,101,97,115,101,32,108,105,103,104,116,32,98,108,105,110,107,32,98,101,103,105,110,32,101,110,100,32,112,111,115,116,32,112,108,97,121,32,114,117,110,32,104,97,108,116,32,116,101,120,116,32,99,111,110,115,117,109,101,32,99,108,111,115,101,100,32,97,99,116,105,118,101,32,108,101,102,116,32,112,108,97,121,101,114,32,98,97,108,108,32,116,114,117,101,32,102,97,108,115,101]
theorem wlit_f:Lib.fields wlit=D8:=by kernel_rfl
theorem wlit_a:wlit.all (fun b=>decide (b.toNat<128))=true:=by kernel_rfl
theorem c_Fields:PC Tryz.prog 160 [.str wlit] (.lst (D8.map DV.str)):=by
 refine PC.of_callsF (by kernel_rfl) rfl (N9 _) fun ρ w vs hf hA=>?_;rw [arg1 hA (fun y h=>h.str_inv)];obtain ⟨r,hr,rfl⟩ := ρ.tab _ (List.mem_cons_of_mem _ List.mem_cons_self);obtain ⟨e,fr,hb⟩:=hf _ _ hr;have ht : Lib.TabIs Tryz.prog w "strings.asciiSpace" .u8 Lib.asciiSpaceTab := by
  unfold Lib.TabIs World.var?;rw [show Tryz.prog.globalNamed "strings.asciiSpace" = some 0 by kernel_rfl]
  show (match w.heap[0]? with|some (.cells cs _ _)=>some cs|_=>none)=_;have hb':w.heap[0]? = _:=hb;rw [hb']
 refine (Tryz.strings_Fields _ w (by decide) ?_ ht).mono ?_
 ·intro j b hj;have:=List.all_eq_true.1 wlit_a b (List.mem_of_getElem? hj);simpa using this
 ·rintro e w' ⟨rfl,rfl⟩;have hl:Lib.fields (⟨wlit.toArray⟩:ByteArray).data.toList=D8:=wlit_f;rw [hl];refine ⟨_,w.heap.size,_,9,_,rfl,Nat.le_refl _,(by show (w.heap.push _)[w.heap.size]? = _;rw [Array.getElem?_push_size]),fun ρ' hρ => VRel.strs hρ rfl (Nat.le_refl _) (by decide),Below.alloc (Below.refl _ _) (Nat.le_refl _) _⟩
open Go.Eng (IC IOper DReg IFn G0)
open Go.Sym Go.Pb
theorem c_skip (s:List UInt8) (hs:s.length<=140737488355328):PC Tryz.prog 121 [.str s] (I64 (skM false s)):=by
 refine PC.ofT A9 rfl (Nat.le_of_ble_eq_true rfl) (by simp [DV.nlL,DV.nl]) (by simp [DV.nlL,DV.nl]) ?_;repeat' ((with_reducible first|refine wr ?_|refine A2 ?_ ?_|fail)<;>try simp only [go_sem,seval])
 refine F3 (fun k:Nat=>[(0,.str s),(3,I64 k)]) (fun _=>nil) (fun k _=>k<=s.length/\skM false s=k+skM false (s.drop k)) (fun k=>s.length-k) 0 (by simp [D5,tm,Tm.upd]) (Sub.nil _) (by simp) ?_;rintro k c ⟨hk,he⟩;by_cases hlt:k<s.length
 ·have hd:decide ((k:Int)<s.length)=true:=by simpa using hlt
  have hg:=List.getElem?_eq_getElem hlt;have hw:=w64 (n:=(k:Int)+1);have hsl:=A2r (s:=s) (k:=k) hk;have hcm:=c_spanCm (s.drop k) (by rw [List.length_drop];omega);have hle:=R3 (fun c=>decide (c.toNat≠10)) (s.drop k);rw [List.length_drop] at hle;have hw2:=w64 (n:=(k:Int)+(C3 (fun c=>decide (c.toNat≠10)) (s.drop k):Nat)) (by omega) (by omega);have hsep:A1q s[k]=true->∃ b,DV.int IntKind.i64 ((k:Int)+1)=I64 ((b:Nat):Int)/\Sym.Sub Sym.nil Sym.nil/\Keep (fun k _=>k<=s.length/\skM false s=k+skM false (s.drop k)) b c/\s.length-b<s.length-k :=
   fun h=>⟨k+1,rfl,Sub.refl _,inv ⟨by omega,by rw [he,sk_sep hg h];omega⟩,by omega⟩
  have hc0:∀ n:Nat,((s[k].toNat:Int) == (n:Int))=true->s[k].toNat=n:=fun n h=>by have:=beq_iff_eq.1 h;omega
  have hc1:∀ n:Nat,((s[k].toNat:Int) == (n:Int))=false->s[k].toNat≠n:=fun n h h2=>by rw [h2] at h;simp at h
  repeat' ((with_reducible first|refine wr ?_|refine cpc hcm ?_|refine A2 ?_ ?_|refine wb2 ?_ ?_<;>(intro hb;try simp only [hb])|fail)<;>try simp only [go_sem,seval,hd,hg,hw,hsl,hw2])
  ·exact hsep (by simp [A1q,hc0 9 hb])
  ·exact hsep (by simp [A1q,hc0 10 hb])
  ·exact hsep (by simp [A1q,hc0 13 hb])
  ·exact hsep (by simp [A1q,hc0 32 hb])
  ·have h35:=hc0 35 hb;have h1:=sk_cmt1 hg h35;exact ⟨k+C3 (fun c=>decide (c.toNat≠10)) (s.drop k),by simp,Sub.refl _,inv ⟨by omega,by rw [he,sk_cmt hg h35];omega⟩,by omega⟩
  ·refine A5 ?_;have h9:=hc1 9 (by assumption);have h10:=hc1 10 (by assumption);have h13:=hc1 13 (by assumption);have h32:=hc1 32 (by assumption);have h35:=hc1 35 (by assumption);rw [he,sk_stop hg (by simp [A1q,h9,h10,h13,h32]) h35];simp
 ·have hd:decide ((k:Int)<s.length)=false:=by simpa using hlt
  repeat' ((with_reducible first|refine wr ?_|refine A2 ?_ ?_|fail)<;>try simp only [go_sem,seval,hd])
  refine A5 ?_;rw [he,sk_end (by omega)];simp
theorem quV_nl (q:Option (List UInt8 × Nat)):(quV q).nl=true:=by cases q<;>rfl
theorem c_quoted (s:List UInt8) (hs:s.length<=10000000):PC Tryz.prog 164 [.str s] (quV (quA [] 1 (quM (s.drop 1)))):=by
 refine PC.ofT A9 rfl (Nat.le_of_ble_eq_true rfl) (by simp [DV.nlL,DV.nl]) (quV_nl _) ?_;repeat' ((with_reducible first|refine wr ?_|refine A2 ?_ ?_|fail)<;>try simp only [go_sem,seval])
 refine F3 (fun q:Nat × Option Nat × List UInt8=>[(0,.str s),(4,B6 q.2.1 q.2.2.length),(5,I64 q.1)]) (fun q=>C8 Sym.nil q.2.1 ⟨1,true,E0 q.2.2⟩)
  (fun q c=>1<=q.1/\q.2.2.length<=q.1/\q.1<=s.length+1/\(q.2.1=none->q.2.2=[])/\(∀ i,q.2.1=some i->i<c)/\quA [] 1 (quM (s.drop 1))=quA q.2.2 q.1 (quM (s.drop q.1))) (fun q=>s.length+1-q.1) (1,none,[])
  (by simp [D5,tm,Tm.upd,B6]) (Sub.nil _) ⟨by simp,by simp,by simp,fun _=>rfl,(fun i hi=>by cases hi),rfl⟩ ?_
 rintro ⟨k,o,acc⟩ c ⟨h1,hal,hk,hno,ho,he⟩;simp only at h1 hal hk hno ho he;simp only;rw [he];by_cases hlt:k<s.length
 ·have hd:decide ((k:Int)<s.length)=true:=by simpa using hlt
  have hg:=List.getElem?_eq_getElem hlt;have hw:IntKind.i64.wrap ((k:Int)+1)=((k+1:Nat):Int):=by rw [w6z (by omega)];omega
  have hw2:IntKind.i64.wrap (((k+1:Nat):Int)+1)=((k+2:Nat):Int):=by rw [w6z (by omega)];omega
  have hcv:=r_cvtodo (H:=C8 Sym.nil o ⟨1,true,E0 acc⟩) (u:=1) hno (fun i hi=>by subst hi;exact A0);have hc0:∀ n:Nat,((s[k].toNat:Int) == (n:Int))=true->s[k].toNat=n:=fun n h=>by have:=beq_iff_eq.1 h;omega
  have hc1:∀ n:Nat,((s[k].toNat:Int) == (n:Int))=false->s[k].toNat≠n:=fun n h h2=>by rw [h2] at h;simp at h
  by_cases hlt2:k+1<s.length
  ·have hd2:decide (((k+1:Nat):Int)≥s.length)=false:=by simp;omega
   have hg2:=List.getElem?_eq_getElem hlt2;have hc2:∀ n:Nat,((s[k+1].toNat:Int) == (n:Int))=true->s[k+1].toNat=n:=fun n h=>by have:=beq_iff_eq.1 h;omega
   have hc3:∀ n:Nat,((s[k+1].toNat:Int) == (n:Int))=false->s[k+1].toNat≠n:=fun n h h2=>by rw [h2] at h;simp at h
   have ne0:=A6c c (c+1) (by omega);have hap:=r_apbyte (X:=Sym.nil) hno ho (by omega);repeat' ((with_reducible first|refine wr ?_|refine A2 ?_ ?_|refine wb2 ?_ ?_<;>(intro hb;try simp only [hb])|fail)<;>try simp only [go_sem,seval,hd,hg,hw,hcv,hd2,hg2,hw2,ne0,hap])
   ·refine A5 ?_;rw [qu_quote hg (hc0 34 hb)];rfl
   ·refine A5 ?_;rw [A5v hg (hc1 34 (by assumption)) (.inl (by have:=of_decide_eq_true hb;omega))];rfl
   ·refine A5 ?_;rw [A5v hg (hc1 34 (by assumption)) (.inr (by have:=of_decide_eq_true hb;omega))];rfl
   ·refine A5 ?_;rw [qu_esc0 hg (hc0 92 (by assumption)) (fun d hd=>by
     rw [hg2] at hd;cases hd;exact ⟨bn_t (b:=34) (by assumption),bn_t (b:=92) hb⟩)];rfl
   ·have hq:=qu_esc (acc:=acc) hg (hc0 92 (by assumption)) hg2 (.inr (bn_f (b:=92) hb));exact ⟨(k+2,some (c+1),acc++[s[k+1]]),⟨by simp only [List.length_append,List.length_singleton];rfl,rfl⟩,N1 rfl,inv ⟨by omega,by simp;omega,by simp only;omega,(fun h=>by cases h),(fun i hi=>by cases hi;omega),hq⟩,by simp only;omega⟩
   ·have hq:=qu_esc (acc:=acc) hg (hc0 92 (by assumption)) hg2 (.inl (bn_f (b:=34) hb));exact ⟨(k+2,some (c+1),acc++[s[k+1]]),⟨by simp only [List.length_append,List.length_singleton];rfl,rfl⟩,N1 rfl,inv ⟨by omega,by simp;omega,by simp only;omega,(fun h=>by cases h),(fun i hi=>by cases hi;omega),hq⟩,by simp only;omega⟩
   ·have hq:=qu_char (acc:=acc) hg (hc1 34 (by assumption)) (by have:=of_decide_eq_false (by assumption:decide (((s[k].toNat:Int))<32)=false);omega) (by have:=of_decide_eq_false (by assumption:decide (((s[k].toNat:Int))>126)=false);omega) (hc1 92 (by assumption));exact ⟨(k+1,some (c+1),acc++[s[k]]),⟨by simp only [List.length_append,List.length_singleton];rfl,rfl⟩,N1 rfl,inv ⟨by omega,by simp;omega,by simp only;omega,(fun h=>by cases h),(fun i hi=>by cases hi;omega),hq⟩,by simp only;omega⟩
  ·have hd2:decide (((k+1:Nat):Int)≥s.length)=true:=by simp;omega
   have ne0:=A6c c (c+1) (by omega);have hap:=r_apbyte (X:=Sym.nil) hno ho (by omega);repeat' ((with_reducible first|refine wr ?_|refine A2 ?_ ?_|refine wb2 ?_ ?_<;>(intro hb;try simp only [hb])|fail)<;>try simp only [go_sem,seval,hd,hg,hw,hcv,hd2,ne0,hap])
   ·refine A5 ?_;rw [qu_quote hg (hc0 34 hb)];rfl
   ·refine A5 ?_;rw [A5v hg (hc1 34 (by assumption)) (.inl (by have:=of_decide_eq_true hb;omega))];rfl
   ·refine A5 ?_;rw [A5v hg (hc1 34 (by assumption)) (.inr (by have:=of_decide_eq_true hb;omega))];rfl
   ·refine A5 ?_;rw [qu_esc0 hg (hc0 92 (by assumption)) (fun d hd=>by rw [List.getElem?_eq_none (by omega)] at hd;cases hd)];rfl
   ·have hq:=qu_char (acc:=acc) hg (hc1 34 (by assumption)) (by have:=of_decide_eq_false (by assumption:decide (((s[k].toNat:Int))<32)=false);omega) (by have:=of_decide_eq_false (by assumption:decide (((s[k].toNat:Int))>126)=false);omega) (hc1 92 (by assumption));exact ⟨(k+1,some (c+1),acc++[s[k]]),⟨by simp only [List.length_append,List.length_singleton];rfl,rfl⟩,N1 rfl,inv ⟨by omega,by simp;omega,by simp only;omega,(fun h=>by cases h),(fun i hi=>by cases hi;omega),hq⟩,by simp only;omega⟩
 ·have hd:decide ((k:Int)<s.length)=false:=by simpa using hlt
  repeat' ((with_reducible first|refine wr ?_|refine A2 ?_ ?_|fail)<;>try simp only [go_sem,seval,hd])
  refine A5 ?_;rw [qu_end (by omega)];rfl
theorem c_sign (s:List UInt8) (hs:s.length<=10000000) (h0:s≠[]):PC Tryz.prog 165 [.str s] (I64 (L6 s)):=by
 refine PC.ofT A9 rfl (Nat.le_of_ble_eq_true rfl) (by simp [DV.nlL,DV.nl]) (by simp [DV.nlL,DV.nl]) ?_;have hix:∀ c,decide (Lib.indexByte [123,125,40,41,59,44,61,43,45,42,47,37,33,60,62] c≥0)=oneB c:=fun c=>ix_one c
 match s,h0 with
 | [c],_ =>
  have hi:=c_IndexByte [123,125,40,41,59,44,61,43,45,42,47,37,33,60,62] c;have hx:A3g (DV.str [c]) (.int .i64 0)=some (.int .u8 (c.toNat:Int)):=rfl;repeat' ((with_reducible first|refine wr ?_|refine cpc hi ?_|refine A2 ?_ ?_|refine wb2 ?_ ?_<;>(intro hb;try simp only [hb])|fail)<;>try simp only [go_sem,seval,hix,hx])
  all_goals (refine A5 ?_;simp [L6,hb])
 | c :: d :: r,_ =>
  have hi:=c_IndexByte [123,125,40,41,59,44,61,43,45,42,47,37,33,60,62] c;have hx:A3g (DV.str (c :: d :: r)) (.int .i64 0)=some (.int .u8 (c.toNat:Int)):=rfl;have hsl:slsR (c :: d :: r) none (some (DV.int .i64 2))=some (DV.str [c,d]):=A5q (s:=c :: d :: r) (k:=2) (by simp);have hd:decide (((r.length+1+1:Nat):Int)>1)=true:=by simp;omega
  have hk:∀ a b:UInt8,([c,d] == [a,b])=(c == a && d == b):=fun a b=>by simp [List.cons_beq_cons]
  have h2:=two_iff c d;repeat' ((with_reducible first|refine wr ?_|refine cpc hi ?_|refine A2 ?_ ?_|refine wb2 ?_ ?_<;>(intro hb;try simp only [hb])|fail)<;>try simp only [go_sem,seval,hd,hix,hx,hsl])
  all_goals (refine A5 ?_;simp_all [L6])
theorem c_Fields':PC Tryz.prog 160 [.str [115,119,105,116,99,104,32,99,111,105,108,32,108,97,109,112,32,115,111,117,110,100,32,115,104,111,119,32,118,97,114,32,116,105,109,101,114,32,101,118,101,110,116,32,109,111,100,101,32,111,110,32,115,116,97,114,116,32,115,116,111,112,32,99,108,111,115,101,32,111,112,101,110,32,105,102,32,101,108,115,101,32,114,101,112,101,97,116,32,115,99,111,114,101,32,102,105,114,101,32,104,111,108,100,32,114,101,108,101,97,115,101,32,108,105,103,104,116,32,98,108,105,110,107,32,98,101,103,105,110,32,101,110,100,32,112,111,115,116,32,112,108,97,121,32,114,117,110,32,104,97,108,116,32,116,101,120,116,32,99,111,110,115,117,109,101,32,99,108,111,115,101,100,32,97,99,116,105,118,101,32,108,101,102,116,32,112,108,97,121,101,114,32,98,97,108,108,32,116,114,117,101,32,102,97,108,115,101]] (.lst (D8.map DV.str)):=c_Fields
theorem words_new:∀ k:Nat,k<38->(D8.take k).contains (D8.getD k [])=false:=by decide +kernel
theorem c_words:PC Tryz.prog 120 [] (.mp .s (D8.map DV.str) (D8.map fun _=>DV.bool true)):=by
 refine PC.ofT A9 rfl (Nat.le_of_ble_eq_true rfl) rfl (by simp only [DV.nl];rw [N9,K4 (fun _=>rfl)];rfl) ?_;have hf:=c_Fields';repeat' ((with_reducible first|refine wr ?_|refine cpc hf ?_|refine A2 ?_ ?_|fail)<;>try simp only [go_sem,seval])
 clear hf;refine F3 (fun k:Nat=>[(1,.mid 0),(5,.lst (D8.map DV.str)),(6,I64 D8.length),(7,I64 k)]) (fun k=>Sym.nil.upd 0 ⟨0,true,[.mpc .s ((D8.take k).map DV.str) ((D8.take k).map fun _=>DV.bool true)]⟩) (fun k _=>k<=D8.length) (fun k=>D8.length-k) 0 (by simp [D5,tm,Tm.upd]) (Sub.refl _) (by simp) ?_;rintro k c hk;have hlen:D8.length=38:=rfl;by_cases hlt:k<D8.length
 ·have hd:decide ((k:Int)<D8.length)=true:=by simpa using hlt
  have hg:=List.getElem?_eq_getElem hlt;have hw:IntKind.i64.wrap ((k:Int)+1)=((k+1:Nat):Int):=by rw [w6z (by omega)];omega
  have hn:(D8.take k).contains D8[k]=false:=by
   have:=words_new k (by omega)
   rwa [List.getD_eq_getElem?_getD,hg,Option.getD_some] at this
  have hm:=A2z hn 0;have e1:D8.take (k+1)=D8.take k++[D8[k]]:=by rw [List.take_add_one,hg];rfl
  repeat' ((with_reducible first|refine wr ?_|refine A2 ?_ ?_|fail)<;>try simp only [go_sem,seval,hd,hg,hw,hm])
  refine ⟨k+1,rfl,?_,inv hlt,by omega⟩;rw [e1,List.map_append,List.map_append];intro j b hj;by_cases e:j=0
  ·subst e;rw [A0] at hj ⊢;exact hj
  ·rw [A3 e] at hj;cases hj
 ·have hd:decide ((k:Int)<D8.length)=false:=by simpa using hlt
  repeat' ((with_reducible first|refine wr ?_|refine A2 ?_ ?_|fail)<;>try simp only [go_sem,seval,hd])
  rw [List.take_of_length_le (by omega)];exact A5x A0
abbrev V5:DV:=.mp .s (D8.map DV.str) (D8.map fun _=>DV.bool true)
theorem c_number (c:UInt8) (r:List UInt8) (hs:(c :: r).length<=10000000) (hc:dgB c=true) (hl:ltB c=false):PC Tryz.prog 163 [.str (c :: r)] (nxV (B2 (c :: r))):=by
 have hsp:=c_spanDg (c :: r) (by omega);have hn1:1<=C3 dgB (c :: r):=by simp [C3,hc]
 have hle:=R3 dgB (c :: r);have hall:=span_all (p:=dgB) (c :: r);have hne:(c :: r).take (C3 dgB (c :: r))≠[]:=by
  intro e;have:=congrArg List.length e;rw [List.length_take,List.length_nil] at this;omega
 have hx:A3g (DV.str (c :: r)) (.int .i64 0)=some (.int .u8 (c.toNat:Int)):=rfl;have hsl:=A5q (s:=c :: r) (k:=C3 dgB (c :: r)) hle;have hlen:((c :: r).take (C3 dgB (c :: r))).length<=281474976710656:=by rw [List.length_take];omega
 have hM:B2 (c :: r)=if 1<C3 dgB (c :: r)/\c.toNat=48 then nxE 47
   else if 2147483647<V9 ((c :: r).take (C3 dgB (c :: r))) then nxE 5
   else ⟨3,[],(V9 ((c :: r).take (C3 dgB (c :: r))):Int),C3 dgB (c :: r),0⟩:=by
  rw [B2,if_neg (by rw [hl];simp),if_pos hc]
 rw [hM];generalize C3 dgB (c :: r)=n at *;generalize hnv:V9 ((c :: r).take n)=v at *;refine PC.ofT A9 rfl (Nat.le_of_ble_eq_true rfl) rfl (nxV_nl _) ?_;have z1:eqnR true 3 .inil (inj .nilIface)=some (.bool false):=rfl;have z2:∀ (t:TypeId) (x:DV),eqnR true 3 (.iface t x) (inj .nilIface)=some (.bool true):=fun _ _=>rfl;by_cases hbig:v<=9223372036854775807
 ·have hp:=c_ParseOk _ hlen hall hne (by rw [hnv];exact hbig);rw [hnv] at hp;repeat' ((with_reducible first|refine wr ?_|refine cpc hsp ?_|refine cpc hp ?_|refine A2 ?_ ?_|refine wb2 ?_ ?_<;>(intro hb;try simp only [hb])|fail)<;>try simp only [go_sem,seval,hx,hsl,z1])
  ·rw [D4 (v:=nxV (nxE 47)) rfl];refine A5 (congrArg nxV ?_);rw [if_pos ⟨gt_t (by assumption),bq_t (b:=48) hb⟩]
  ·rw [D4 (v:=nxV (nxE 5)) rfl];refine A5 (congrArg nxV ?_);rw [if_neg (fun h=>bq_f (b:=48) (by assumption) h.2),if_pos (gt_t hb)]
  ·rw [D4 (v:=nxV ⟨3,[],(v:Int),n,0⟩) rfl];refine A5 (congrArg nxV ?_);rw [if_neg (fun h=>bq_f (b:=48) (by assumption) h.2),if_neg (gt_f hb)]
  ·rw [D4 (v:=nxV (nxE 5)) rfl];refine A5 (congrArg nxV ?_);rw [if_neg (fun h=>gt_f (a:=n) (b:=1) (by assumption) h.1),if_pos (gt_t hb)]
  ·rw [D4 (v:=nxV ⟨3,[],(v:Int),n,0⟩) rfl];refine A5 (congrArg nxV ?_);rw [if_neg (fun h=>gt_f (a:=n) (b:=1) (by assumption) h.1),if_neg (gt_f hb)]
 ·have hp:=c_ParseBig _ hlen hall hne (by rw [hnv];omega);repeat' ((with_reducible first|refine wr ?_|refine cpc hsp ?_|refine cpc hp ?_|refine A2 ?_ ?_|refine wb2 ?_ ?_<;>(intro hb;try simp only [hb])|fail)<;>try simp only [go_sem,seval,hx,hsl,z2])
  ·rw [D4 (v:=nxV (nxE 47)) rfl];refine A5 (congrArg nxV ?_);rw [if_pos ⟨gt_t (by assumption),bq_t (b:=48) hb⟩]
  ·rw [D4 (v:=nxV (nxE 5)) rfl];refine A5 (congrArg nxV ?_);rw [if_neg (fun h=>bq_f (b:=48) (by assumption) h.2),if_pos (by omega)]
  ·rw [D4 (v:=nxV (nxE 5)) rfl];refine A5 (congrArg nxV ?_);rw [if_neg (fun h=>gt_f (a:=n) (b:=1) (by assumption) h.1),if_pos (by omega)]
theorem lk_res (w:List UInt8):lkV (.bool false) false (D8.map fun _=>DV.bool true) (G7 (.str w) (D8.map DV.str) 0)=some (.bool (E2 w)):=by
 cases h:E2 w with
 | false=>rw [A2z h 0];rfl
 | true =>
  obtain ⟨j,hj⟩:=mfind_some h 0;have hlt:=(mfind_lt hj).2;rw [List.length_map] at hlt;rw [hj,l_some,List.getElem?_map,List.getElem?_eq_getElem (by omega)];rfl
theorem c_next (c:UInt8) (r:List UInt8) (hs:(c :: r).length<=10000000):PC Tryz.prog 122 [.str (c :: r),V5] (nxV (B2 (c :: r))):=by
 have hx:A3g (DV.str (c :: r)) (.int .i64 0)=some (.int .u8 (c.toNat:Int)):=rfl;have hlt:=c_letter c;have hdg:=c_digit c;have hnl:DV.nlL (D8.map fun _=>DV.bool true)=true:=K4 (fun _=>rfl) _;refine PC.ofT A9 rfl (Nat.le_of_ble_eq_true rfl) (by simp [DV.nlL,DV.nl,N9,hnl]) (nxV_nl _) ?_;by_cases hl:ltB c=true
 ·have hsp:=c_spanPt (c :: r) (by omega);have hle:=R3 ptB (c :: r);have hsl:=A5q (s:=c :: r) (k:=C3 ptB (c :: r)) hle;have hM:B2 (c :: r)=if 12<C3 ptB (c :: r) then nxE 9 else ⟨if E2 ((c :: r).take (C3 ptB (c :: r)))=true then 2 else 1,(c :: r).take (C3 ptB (c :: r)),0,C3 ptB (c :: r),0⟩:=by
   rw [B2,if_pos hl]
  rw [hM];generalize C3 ptB (c :: r)=n at *;have hlk:=lk_res ((c :: r).take n);repeat' ((with_reducible first|refine wr ?_|refine cpc hlt ?_|refine cpc hsp ?_|refine A2 ?_ ?_|refine wb2 ?_ ?_<;>(intro hb;try simp only [hb])|fail)<;>try simp only [go_sem,seval,hl,hx,hsl,hlk])
  ·rw [D4 (v:=nxV (nxE 9)) rfl];refine A5 (congrArg nxV ?_);rw [if_pos (gt_t hb)]
  ·rw [D4 (v:=nxV ⟨2,(c :: r).take n,0,n,0⟩) rfl];refine A5 (congrArg nxV ?_);rw [if_neg (gt_f (a:=n) (b:=12) (by assumption))];try (rw [hb];rfl)
  ·rw [D4 (v:=nxV ⟨1,(c :: r).take n,0,n,0⟩) rfl];refine A5 (congrArg nxV ?_);rw [if_neg (gt_f (a:=n) (b:=12) (by assumption))];try (rw [hb];rfl)
 have hl0:ltB c=false:=by simpa using hl
 by_cases hd:dgB c=true
 ·have hnum:=c_number c r hs hd hl0;obtain ⟨x,hxx⟩:∃ x,x=B2 (c :: r):=⟨_,rfl⟩;rw [<- hxx] at hnum ⊢;have hnum:PC Tryz.prog 163 [.str (c :: r)] (.tup [.agg [I64 x.kind,.str x.text,I64 x.value,I64 0],I64 x.n,I64 x.err]):=hnum;repeat' ((with_reducible first|refine wr ?_|refine cpc hlt ?_|refine cpc hdg ?_|refine cpc hnum ?_|refine A2 ?_ ?_|fail)<;>try simp only [go_sem,seval,hl0,hx,hd])
  rw [D4 (v:=nxV x) rfl];exact A5 rfl
 have hd0:dgB c=false:=by simpa using hd
 by_cases hq:c.toNat=34
 ·have hqu:=c_quoted (c :: r) hs;rw [List.drop_one,List.tail_cons] at hqu;have hb34:((c.toNat:Int) == 34)=true:=by rw [hq];rfl
  cases hqr:quM r with
  | none =>
   have hM:B2 (c :: r)=nxE 48:=by
    rw [B2,if_neg hl,if_neg hd,if_pos hq,hqr]
   rw [hM];rw [hqr] at hqu;have hqu:PC Tryz.prog 164 [.str (c :: r)] (.tup [.str [],I64 0]):=hqu;repeat' ((with_reducible first|refine wr ?_|refine cpc hlt ?_|refine cpc hdg ?_|refine cpc hqu ?_|refine A2 ?_ ?_|fail)<;>try simp only [go_sem,seval,hl0,hx,hd0,hb34])
   rw [D4 (v:=nxV (nxE 48)) rfl];exact A5 rfl
  | some x =>
   obtain ⟨t,m⟩:=x;have hM:B2 (c :: r)=if 32<t.length then nxE 9 else ⟨4,t,0,m+1,0⟩:=by
    rw [B2,if_neg hl,if_neg hd,if_pos hq,hqr]
   rw [hM];rw [hqr] at hqu;have hqu:PC Tryz.prog 164 [.str (c :: r)] (.tup [.str t,I64 ((m+1:Nat):Int)]):=hqu;have hm0:(((m+1:Nat):Int) == 0)=false:=by simp;omega
   repeat' ((with_reducible first|refine wr ?_|refine cpc hlt ?_|refine cpc hdg ?_|refine cpc hqu ?_|refine A2 ?_ ?_|refine wb2 ?_ ?_<;>(intro hb;try simp only [hb])|fail)<;>try simp only [go_sem,seval,hl0,hx,hd0,hb34,hm0])
   ·rw [D4 (v:=nxV (nxE 9)) rfl];refine A5 (congrArg nxV ?_);rw [if_pos (gt_t hb)]
   ·rw [D4 (v:=nxV ⟨4,t,0,m+1,0⟩) rfl];refine A5 (congrArg nxV ?_);rw [if_neg (gt_f hb)]
 ·have hsg:=c_sign (c :: r) hs (by simp);have hb34:((c.toNat:Int) == 34)=false:=by simpa using (fun h=>hq (by omega))
  have hle:=signM_le (c :: r);have hsl:=A5q (s:=c :: r) (k:=L6 (c :: r)) hle;have hM:B2 (c :: r)=if L6 (c :: r)=0 then nxE 47 else ⟨5,(c :: r).take (L6 (c :: r)),0,L6 (c :: r),0⟩:=by
   rw [B2,if_neg hl,if_neg hd,if_neg hq]
  rw [hM];generalize L6 (c :: r)=n at *;repeat' ((with_reducible first|refine wr ?_|refine cpc hlt ?_|refine cpc hdg ?_|refine cpc hsg ?_|refine A2 ?_ ?_|refine wb2 ?_ ?_<;>(intro hb;try simp only [hb])|fail)<;>try simp only [go_sem,seval,hl0,hx,hd0,hb34,hsl])
  ·rw [D4 (v:=nxV (nxE 47)) rfl];refine A5 (congrArg nxV ?_);rw [if_pos (bq_t (b:=0) hb)]
  ·rw [D4 (v:=nxV ⟨5,(c :: r).take n,0,n,0⟩) rfl];refine A5 (congrArg nxV ?_);rw [if_neg (bq_f (b:=0) hb)]
theorem c_IsWord (s:List UInt8):PC Tryz.prog 145 [.str s] (.bool (E2 s)):=by
 refine PC.ofT A9 rfl (Nat.le_of_ble_eq_true rfl) (by simp [DV.nlL,DV.nl]) (by simp [DV.nlL,DV.nl]) ?_;have hw:=c_words;have hlk:=lk_res s;repeat' ((with_reducible first|refine wr ?_|refine cpc hw ?_|refine A2 ?_ ?_|fail)<;>try simp only [go_sem,seval,hlk])
 exact A5 rfl
theorem c_IsName (s:List UInt8) (hs:s.length<=1000000000):PC Tryz.prog 91 [.str s] (.bool (C1 s)):=by
 refine PC.ofT A9 rfl (Nat.le_of_ble_eq_true rfl) (by simp [DV.nlL,DV.nl]) (by simp [DV.nlL,DV.nl]) ?_;have hw:=c_IsWord s;have hsp:=c_spanPt s (by omega);cases s with
 | nil =>
  repeat' ((with_reducible first|refine wr ?_|refine A2 ?_ ?_|fail)<;>try simp only [go_sem,seval])
  exact A5 rfl
 | cons c r =>
  have hx:A3g (DV.str (c :: r)) (.int .i64 0)=some (.int .u8 (c.toNat:Int)):=rfl;have hlt:=c_letter c;have hd1:decide (((r.length+1:Nat):Int)≥1)=true:=by simp;omega
  repeat' ((with_reducible first|refine wr ?_|refine cpc hw ?_|refine cpc hsp ?_|refine cpc hlt ?_|refine A2 ?_ ?_|refine wb2 ?_ ?_<;>(intro hb;try simp only [hb])|fail)<;>try simp only [go_sem,seval,hx,hd1])
  all_goals (refine A5 (congrArg DV.bool ?_);simp_all [C1]<;>omega)
theorem c_Quote (s:List UInt8) (hs:s.length<=1000000):PC Tryz.prog 155 [.str s] (.str (Q1 s)):=by
 refine PC.ofT A9 rfl (Nat.le_of_ble_eq_true rfl) (by simp [DV.nlL,DV.nl]) (by simp [DV.nlL,DV.nl]) ?_;repeat' ((with_reducible first|refine wr ?_|refine A2 ?_ ?_|fail)<;>try simp only [go_sem,seval])
 refine F3 (fun q:Nat × Nat=>[(0,.str s),(3,.slc q.2 0 (A1r (s.take q.1)).length),(4,I64 q.1)]) (fun q=>Sym.nil.upd q.2 ⟨1,true,E0 (A1r (s.take q.1))⟩)
  (fun q c=>q.1<=s.length/\q.2<c) (fun q=>s.length-q.1) (0,0) (by simp [D5,tm,Tm.upd,A1r]) (Sub.refl _) (by simp) ?_
 rintro ⟨k,id⟩ c ⟨hk,hid⟩;simp only at hk hid;simp only;have hal:(A1r (s.take k)).length<=2 * k+1:=by
  have:=qpre_len (s.take k);rw [List.length_take] at this;omega
 obtain ⟨acc,hacc⟩:∃ acc,acc=A1r (s.take k):=⟨_,rfl⟩;rw [<- hacc] at hal ⊢;by_cases hlt:k<s.length
 ·have hd:decide ((k:Int)<s.length)=true:=by simpa using hlt
  have hg:=List.getElem?_eq_getElem hlt;have hw:IntKind.i64.wrap ((k:Int)+1)=((k+1:Nat):Int):=by rw [w6z (by omega)];omega
  have hA:∀ H c id,apB H c id 1 1 acc.length 1 [.int .u8 92] (some ⟨1,true,E0 acc⟩)=some (.slc c 0 (acc.length+1),(H.del id).upd c ⟨1,true,E0 (acc++[92])⟩,c+1):=fun H c id=>apb1 (x:=92) rfl (by omega);have hB:∀ H c id,apB H c id 1 1 (acc.length+1) 1 [.int .u8 (s[k].toNat:Int)] (some ⟨1,true,E0 (acc++[92])⟩)=some (.slc c 0 (acc.length+1+1),(H.del id).upd c ⟨1,true,E0 (acc++[92]++[s[k]])⟩,c+1):=fun H c id=>apb1 (by simp) (by omega);have hC:∀ H c id,apB H c id 1 1 acc.length 1 [.int .u8 (s[k].toNat:Int)] (some ⟨1,true,E0 acc⟩)=some (.slc c 0 (acc.length+1),(H.del id).upd c ⟨1,true,E0 (acc++[s[k]])⟩,c+1):=fun H c id=>apb1 rfl (by omega);have est:A1r (s.take (k+1))=acc++quB s[k]:=by rw [hacc,qpre_step hg]
  have ne0:=S3 id c (c+1) (c+2) (c+3) (by omega);repeat' ((with_reducible first|refine wr ?_|refine A2 ?_ ?_|refine wb2 ?_ ?_<;>(intro hb;try simp only [hb])|fail)<;>try simp only [go_sem,seval,hd,hg,hw,ne0,hA,hB,hC])
  ·have e2:quB s[k]=[92,s[k]]:=if_pos (.inl (bq_t (b:=34) hb));exact ⟨(k+1,c+1+1+1),⟨by simp only [est,e2,List.length_append];rfl,rfl⟩,N1 (by simp only [est,e2,List.append_assoc];rfl),inv ⟨hlt,by simp only;omega⟩,by simp only;omega⟩
  ·have e2:quB s[k]=[92,s[k]]:=if_pos (.inr (bq_t (b:=92) hb));exact ⟨(k+1,c+1+1+1),⟨by simp only [est,e2,List.length_append];rfl,rfl⟩,N1 (by simp only [est,e2,List.append_assoc];rfl),inv ⟨hlt,by simp only;omega⟩,by simp only;omega⟩
  ·have e2:quB s[k]=[s[k]]:=if_neg (fun h=>h.elim (bq_f (b:=34) (by assumption)) (bq_f (b:=92) hb));exact ⟨(k+1,c+1),⟨by simp only [est,e2,List.length_append];rfl,rfl⟩,N1 (by simp only [est,e2]),inv ⟨hlt,by simp only;omega⟩,by simp only;omega⟩
 ·have hd:decide ((k:Int)<s.length)=false:=by simpa using hlt
  have hZ:∀ H c id,apB H c id 1 1 acc.length 1 [.int .u8 34] (some ⟨1,true,E0 acc⟩)=some (.slc c 0 (acc.length+1),(H.del id).upd c ⟨1,true,E0 (acc++[34])⟩,c+1):=fun H c id=>apb1 (x:=34) rfl (by omega);have ne0:=R1 id c (c+1) (by omega);have hcv:∀ (H:Hp) u,V1 (H.upd (c+1) ⟨u,true,E0 (acc++[34])⟩) (.slc (c+1) 0 (acc.length+1))=some (.str (acc++[34])):=fun H u=>cv_own A0 rfl (by simp);repeat' ((with_reducible first|refine wr ?_|refine A2 ?_ ?_|fail)<;>try simp only [go_sem,seval,hd,ne0,hZ,hcv])
  refine A5 ?_;rw [hacc,List.take_of_length_le (by omega)];rfl
theorem c_Scan (s:List UInt8) (hs:s.length<=100000):PC Tryz.prog 68 [.str s] (scanV (B9 s)):=by
 refine PC.ofT A9 rfl (Nat.le_of_ble_eq_true rfl) rfl (scanV_nl _) ?_;have hwd:=c_words;have hsk:=c_skip s (by omega);by_cases h20:20000<s.length
 ·have hd0:decide ((s.length:Int)>20000)=true:=by simp;omega
  have hM:B9 s=([],0,9):=if_pos h20;rw [hM];repeat' ((with_reducible first|refine wr ?_|refine A2 ?_ ?_|fail)<;>try simp only [go_sem,seval,hd0])
  exact scan_nil
 have hd0:decide ((s.length:Int)>20000)=false:=by simp;omega
 have hM:B9 s=M0 (s.length+1) s (skM false s) []:=if_neg h20;rw [hM];have hle0:=U3 false s;repeat' ((with_reducible first|refine wr ?_|refine cpc hwd ?_|refine cpc hsk ?_|refine A2 ?_ ?_|fail)<;>try simp only [go_sem,seval,hd0])
 refine F3 (fun q:Nat × Nat × Option Nat × List Tok=>[(0,.str s),(5,V5),(6,B6 q.2.2.1 q.2.2.2.length),(7,I64 q.2.1)]) (fun q=>C8 Sym.nil q.2.2.1 ⟨4,true,A6 (q.2.2.2.map Tok.v)⟩)
  (fun q c=>q.2.1<=s.length/\s.length<q.1+q.2.1/\q.2.2.2.length<=q.2.1/\(q.2.2.1=none->q.2.2.2=[])/\(∀ i,q.2.2.1=some i->i<c)/\M0 (s.length+1) s (skM false s) []=M0 q.1 s q.2.1 q.2.2.2) (fun q=>q.1) (s.length+1,skM false s,none,[])
  (by simp [D5,tm,Tm.upd,B6]) (Sub.nil _) ⟨by simp only;omega,by simp only;omega,by simp,fun _=>rfl,(fun i hi=>by cases hi),rfl⟩ ?_
 rintro ⟨f,at_,o,acc⟩ c ⟨h1,hf,hal,hno,ho,he⟩;simp only at h1 hf hal hno ho he;simp only;rw [he];by_cases hlt:at_<s.length
 ·have hd:decide ((at_:Int)<s.length)=true:=by simpa using hlt
  have hg:=List.getElem?_eq_getElem hlt;have hsl:=A2r (s:=s) (k:=at_) h1;have hdr:=M7 hg;have hnx:PC Tryz.prog 122 [.str (s.drop at_),V5] (nxV (B2 (s.drop at_))):=by
   rw [hdr];exact c_next _ _ (by rw [<- hdr,List.length_drop];omega)
  obtain ⟨f,rfl⟩:∃ g,f=g+1:=⟨f-1,by omega⟩;by_cases hz:(B2 (s.drop at_)).err=0
  ·have hn:=A6b hz;rw [List.length_drop] at hn;have hst:M0 (f+1) s at_ acc=M0 f s (at_+(B2 (s.drop at_)).n+skM false (s.drop (at_+(B2 (s.drop at_)).n))) (acc++[⟨(B2 (s.drop at_)).kind,(B2 (s.drop at_)).text,(B2 (s.drop at_)).value,(at_:Int)⟩]):=by
    rw [M0,if_neg (by omega),if_neg (by simpa using hz)]
   rw [hst];obtain ⟨x,hx⟩:∃ x,x=B2 (s.drop at_):=⟨_,rfl⟩;rw [<- hx] at hnx hz hn ⊢;have hnx:PC Tryz.prog 122 [.str (s.drop at_),V5] (.tup [.agg [I64 x.kind,.str x.text,I64 x.value,I64 0],I64 x.n,I64 x.err]):=hnx;have hz':(x.err != 0)=false:=by simpa using hz
   have hw1:IntKind.i64.wrap ((at_:Int)+x.n)=((at_+x.n:Nat):Int):=by rw [w6z (by omega)];omega
   have hsl2:=A2r (s:=s) (k:=at_+x.n) (by omega);have hsk2:=c_skip (s.drop (at_+x.n)) (by rw [List.length_drop];omega);have hkl:=U3 false (s.drop (at_+x.n));rw [List.length_drop] at hkl;obtain ⟨z,hzz⟩:∃ z,z=skM false (s.drop (at_+x.n)):=⟨_,rfl⟩;rw [<- hzz] at hsk2 hkl ⊢;have hw2:IntKind.i64.wrap (((at_+x.n:Nat):Int)+z)=((at_+x.n+z:Nat):Int):=by rw [w6z (by omega)];omega
   have ne0:=R1 c (c+1) (c+2) (by omega);repeat' ((with_reducible first|refine wr ?_|refine cpc hnx ?_|refine cpc hsk2 ?_|refine A2 ?_ ?_|fail)<;>try simp only [go_sem,seval,hd,hsl,hz',hw1,hsl2,hw2,ne0])
   refine D3 (H9 (cs:=A6 (acc.map Tok.v)) (fun e=>by rw [hno e];exact ⟨rfl,rfl⟩) (fun i hi=>?_) (by rw [D1 (u:=4) (A2n _)];simp) (by omega) (by omega) (by omega)) ?_
   ·have:=ho i hi;rw [A3 (by omega),A3 (by omega),A3 (by omega),A3 (by omega)];exact opt_at hi
   simp only [go_sem,seval,ne0,hw1,hw2];repeat' ((with_reducible first|refine wr ?_|refine cpc hnx ?_|refine cpc hsk2 ?_|refine A2 ?_ ?_|fail)<;>try simp only [go_sem,seval,hd,hsl,hz',hw1,hsl2,hw2,ne0])
   exact ⟨(f,at_+x.n+z,some (c+1+1),acc++[⟨x.kind,x.text,x.value,(at_:Int)⟩]),⟨by simp only [List.length_append,List.length_singleton];rfl,rfl⟩,
    N1 (by simp only [List.map_append,I0];rfl),inv ⟨by simp only;omega,by simp only;omega,by simp only [List.length_append,List.length_singleton];omega,(fun h=>by cases h),(fun i hi=>by cases hi;omega),rfl⟩,by simp only;omega⟩
  ·have hst:M0 (f+1) s at_ acc=([],(at_:Int),(B2 (s.drop at_)).err):=by
    rw [M0,if_neg (by omega),if_pos hz]
   rw [hst];obtain ⟨x,hx⟩:∃ x,x=B2 (s.drop at_):=⟨_,rfl⟩;rw [<- hx] at hnx hz ⊢;have hnx:PC Tryz.prog 122 [.str (s.drop at_),V5] (.tup [.agg [I64 x.kind,.str x.text,I64 x.value,I64 0],I64 x.n,I64 x.err]):=hnx;have hz':(x.err != 0)=true:=by simpa using hz
   have ne0:=A6c c (c+1) (by omega);repeat' ((with_reducible first|refine wr ?_|refine cpc hnx ?_|refine A2 ?_ ?_|fail)<;>try simp only [go_sem,seval,hd,hsl,hz',ne0])
   exact scan_nil
 ·have hd:decide ((at_:Int)<s.length)=false:=by simpa using hlt
  repeat' ((with_reducible first|refine wr ?_|refine A2 ?_ ?_|fail)<;>try simp only [go_sem,seval,hd])
  have hM2:M0 f s at_ acc=(acc,0,0):=by
   cases f with
   | zero=>rfl
   | succ f=>rw [M0,if_pos (by omega)]
  rw [hM2];exact pc_todo3 (fun e=>by rw [hno e];rfl) (by simp) (A2n acc)
theorem c_Join (l:List (List UInt8)) (sp:List UInt8) (h1:l.length<=140737488355328) (h2:(Lib.join l sp).length<=140737488355328):PC Tryz.prog 64 [strs l,.str sp] (.str (Lib.join l sp)):=by
 refine PC.of_calls (by kernel_rfl) (by simp [DV.nlL,DV.nl,N9]) rfl fun ρ w vs hf hA=>?_;obtain ⟨y,g1,g2⟩:=hA.get (i:=0) rfl;obtain ⟨z,g3,g4⟩:=hA.get (i:=1) rfl;obtain rfl:=g4.str_inv;have hvs:vs = #[y,.string ⟨sp.toArray⟩]:=by
  have hs:vs.size=2:=hA.1.symm;cases vs with|mk r=>match r,hs,g1,g3 with
   | [a,b],_,h1,h3=>simp at h1 h3;subst h1 h3;rfl
 rw [hvs];rcases g2.lst_inv with ⟨e0,e1|⟨a,c,e1⟩⟩|⟨u,b,off,c,row,e1,e2,e3,e4,e5,e6⟩
 ·subst e1;have:l=[]:=by simpa using e0
  subst this;refine (Tryz.strings_Join_none none 0 ⟨sp.toArray⟩ w).mono ?_;rintro e w' ⟨rfl,rfl⟩;exact ⟨_,rfl,fun ρ'=>.mkStr,Below.refl _ _⟩
 ·subst e1;have:l=[]:=by simpa using e0
  subst this;refine (Tryz.strings_Join_none (some a) c ⟨sp.toArray⟩ w).mono ?_;rintro e w' ⟨rfl,rfl⟩;exact ⟨_,rfl,fun ρ'=>.mkStr,Below.refl _ _⟩
 ·subst e1;obtain ⟨e,fr,hb⟩:=hf b row e2;obtain ⟨bs,hbs⟩:∃ bs:List ByteArray,bs=l.map fun s=>(⟨s.toArray⟩:ByteArray):=⟨_,rfl⟩;have hL:(l.map DV.str).length=bs.length:=by rw [hbs];simp
  have hmap:bs.map (fun x=>x.data.toList)=l:=by
   rw [hbs,List.map_map];exact (List.map_congr_left fun s _=>rfl).trans (List.map_id l)
  have hmap2:bs.map (·.data.toList)=l:=hmap;have p1:∀ (j:Nat) x,bs[j]? = some x->w.cell? ⟨b,off+j,none⟩=some (.string x):=by
   intro j x hx;rw [hbs,List.getElem?_map] at hx;obtain ⟨s,hs,rfl⟩:=Option.map_eq_some_iff.1 hx;have hc:(A6 (l.map DV.str))[j]? = some (DV.str s):=by rw [W3 (fun _=>rfl),List.getElem?_map,hs];rfl
   obtain ⟨v,v1,v2⟩:=e6.get hc;rw [v2.str_inv] at v1;simp only [World.cell?,hb];exact v1
  have p2:b<w.heap.size:=(Array.getElem?_eq_some_iff.1 hb).1;have p3:bs.length<=140737488355328:=by rw [hbs];simpa using h1
  have p4:bs.length<=c:=by rw [<- hL];exact e3
  have p5:(Lib.join (bs.map (·.data.toList)) (⟨sp.toArray⟩:ByteArray).data.toList).length<=140737488355328:=by
   rw [hmap2];exact h2
  rw [hL];have key:=Tryz.strings_Join b off c bs ⟨sp.toArray⟩ w p1 p2 p3 p4 p5;rw [hmap2] at key;refine key.mono fun e w' hq=>⟨_,hq.1,fun ρ'=>?_,hq.2⟩;exact .mkStr
theorem c_Text (l:List Tok) (hl:l.length<=100000) (hx:∀ t∈l,Fit t):PC Tryz.prog 114 [toksV l] (.str (A1e l)):=by
 refine PC.ofT A9 rfl (Nat.le_of_ble_eq_true rfl) (by simp only [DV.nlL,DV.nl,nlL_toks,Bool.and_true]) rfl ?_;have htl:=A4m hx;repeat' ((with_reducible first|refine wr ?_|refine A2 ?_ ?_|fail)<;>try simp only [go_sem,seval])
 refine F3 (fun q:Nat × Option Nat=>[(3,B6 q.2 q.1),(6,toksV l),(7,I64 l.length),(8,I64 q.1)]) (fun q=>C8 Sym.nil q.2 ⟨1,true,A6 (((l.take q.1).map O3).map DV.str)⟩)
  (fun q cc=>q.1<=l.length/\(q.2=none->q.1=0)/\∀ i,q.2=some i->i<cc) (fun q=>l.length-q.1) (0,none)
  (by simp [D5,tm,Tm.upd,B6]) (Sub.nil _) ⟨by simp,by simp,by simp⟩ ?_
 rintro ⟨k,o⟩ c ⟨hk,hno,ho⟩;simp only at hk hno ho;simp only;have hkl:((l.take k).map O3).length=k:=by rw [List.length_map,List.length_take];omega
 by_cases hlt:k<l.length
 ·have hd:decide ((k:Int)<l.length)=true:=by simpa using hlt
  have hg:=List.getElem?_eq_getElem hlt;have hw:IntKind.i64.wrap ((k:Int)+1)=((k+1:Nat):Int):=by rw [w6z (by omega)];omega
  have hfit:=hx _ (List.getElem_mem hlt);have est:A6 (((l.take (k+1)).map O3).map DV.str)=A6 (((l.take k).map O3).map DV.str)++[DV.str (O3 l[k])]:=by
   rw [List.take_add_one,hg,Option.toList_some,List.map_append,List.map_append,I0];rfl
  obtain ⟨t,ht⟩:∃ t,t=l[k]:=⟨_,rfl⟩;rw [<- ht] at hg hfit est;have h1:=c_Quote t.text (by have:=hfit.1;omega);have h2:=c_Itoa t.value hfit.2.1 hfit.2.2;obtain ⟨cs,hcs⟩:∃ cs,cs=A6 (((l.take k).map O3).map DV.str):=⟨_,rfl⟩;have hcl:cs.length=k * 1:=by rw [hcs,strC_len,hkl]
  rw [<- hcs] at est ⊢;have hno2:o=none->k=0/\cs=[]:=fun e=>⟨hno e,by rw [hcs,hno e];rfl⟩;have ne0:=R1 c (c+1) (c+2) (by omega);repeat' ((with_reducible first|refine wr ?_|refine cpc h1 ?_|refine cpc h2 ?_|refine A2 ?_ ?_|refine wb2 ?_ ?_<;>(intro hb;try simp only [hb])|fail)<;>try simp only [go_sem,seval,hd,hg,hw,ne0])
  all_goals
   refine D3 (H9 (cs:=cs) hno2 (fun i hi=>?_) hcl (by omega) (by omega) (by omega)) ?_
   ·have:=ho i hi;rw [A3 (by omega),A3 (by omega),A3 (by omega)];exact opt_at hi
   simp only [go_sem,seval,ne0,hw];repeat' ((with_reducible first|refine wr ?_|refine cpc h1 ?_|refine cpc h2 ?_|refine A2 ?_ ?_|fail)<;>try simp only [go_sem,seval,hd,hg,hw,ne0])
   exact ⟨(k+1,some (c+1+1)),⟨rfl,rfl⟩,N1 (by simp only [est];exact congrArg (fun z=>(⟨1,true,cs++[DV.str z]⟩:Blk)) (by unfold O3;simp_all)),inv ⟨hlt,by simp,fun i hi=>by cases hi;omega⟩,by simp only;omega⟩
 ·have hd:decide ((k:Int)<l.length)=false:=by simpa using hlt
  have hj:=c_Join (l.map O3) [32] (by rw [List.length_map];omega) (by rw [W9];omega);rw [W9] at hj;obtain rfl:k=l.length:=by omega
  rw [List.take_length] at hkl ⊢;rcases o with _|id
  ·have hk0:=hno rfl;have h00:l=[]:=List.eq_nil_of_length_eq_zero (by omega);repeat' ((with_reducible first|refine wr ?_|refine A2 ?_ ?_|fail)<;>try simp only [go_sem,seval,hd])
   refine AC.call (hj.give (H0:=Sym.nil) ⟨fun _ h=>h,fun ρ w vs h1 h2=>⟨ρ,rfl,h1,?_,Ext.refl _ _ _⟩⟩) ?_
   ·rw [h00];exact ⟨h2.1,fun i x y hx hy=>by
     match i with
     | 0=>cases hx;exact (h2.2 0 _ y rfl hy).snil_lst
     | 1=>cases hx;exact h2.2 1 _ y rfl hy
     | _+2=>cases hx⟩
   ·rintro v H' c' ⟨rfl,rfl,rfl⟩ -;simp only [go_sem,seval];repeat' ((with_reducible first|refine wr ?_|refine A2 ?_ ?_|fail)<;>try simp only [go_sem,seval])
    exact A5 rfl
  ·repeat' ((with_reducible first|refine wr ?_|refine A2 ?_ ?_|fail)<;>try simp only [go_sem,seval,hd])
   refine AC.call (hj.give (H0:=Sym.nil) (GL.one (id:=id) A0 rfl (.cons _ _ _ _ (I8 (u:=1) (by rw [List.length_map,hkl]) (N7 _) ⟨[],by simp⟩) (.cons _ _ _ _ (.same _) .nil)))) ?_;rintro v H' c' ⟨rfl,rfl,rfl⟩ -;simp only [go_sem,seval];repeat' ((with_reducible first|refine wr ?_|refine A2 ?_ ?_|fail)<;>try simp only [go_sem,seval])
   exact A5 rfl
theorem pc_ru0 {H:Hp} {a b:DV}:∃ H2,GL H [.tup [.agg [.snil,.snil],a,b]] H2 [.tup [.agg [.lst [],.lst []],a,b]] :=
 ⟨H,GL.view fun ρ vs hA=>J1 (fun v h=>by
  obtain ⟨b',rfl,k1,k2⟩:=h.tup_inv;refine .tup _ _ k1 fun i x y hx hy=>?_
  match i with
  | 0 =>
   cases hx;obtain ⟨c',rfl,m1,m2⟩:=(k2 0 _ y rfl hy).agg_inv;refine .agg _ _ m1 fun j x z hx hz=>?_
   match j with
   | 0=>cases hx;exact (m2 0 _ z rfl hz).snil_lst
   | 1=>cases hx;exact (m2 1 _ z rfl hz).snil_lst
   | _+2=>cases hx
  | 1=>cases hx;exact k2 1 _ y rfl hy
  | 2=>cases hx;exact k2 2 _ y rfl hy
  | _+3=>cases hx) vs hA⟩
theorem pc_ex0 {H:Hp} {a b k z n p:DV}:∃ H2,GL H [.tup [.agg [k,z,n,.snil,p],a,b]] H2 [.tup [.agg [k,z,n,.lst [],p],a,b]] :=
 ⟨H,GL.view fun ρ vs hA=>J1 (fun v h=>by
  obtain ⟨b',rfl,k1,k2⟩:=h.tup_inv;refine .tup _ _ k1 fun i x y hx hy=>?_
  match i with
  | 0=>cases hx;exact v_ex (k2 0 _ y rfl hy)
  | 1=>cases hx;exact k2 1 _ y rfl hy
  | 2=>cases hx;exact k2 2 _ y rfl hy
  | _+3=>cases hx) vs hA⟩
end Go.Proofs.YthlpinppaclofaaGreatDoor
set_option maxHeartbeats 8000000
namespace Go.Proofs.YthlpinppaclofaaGreatDoor
open Go.Eng (IC IOper DReg IFn G0)
open Go.Sym Go.Pb
theorem PI0 {L:List Tok}:PI L rd0:=⟨Nat.zero_le _,Int.le_refl 0,(by decide:(0:Int)<=32),Int.le_refl 0,(by decide:(0:Int)<=16)⟩
theorem c_PParse (s:List UInt8) (hs:s.length<=100000):PC Tryz.prog 36 [.str s] (parV (parM s)):=by
 refine PC.ofT A9 rfl (Nat.le_of_ble_eq_true rfl) rfl (parV_nl _) ?_;have hsc:=c_Scan s hs;by_cases h0:(B9 s).2.2=0
 ·have hd:((B9 s).2.2 != 0)=false:=by simpa using h0
  repeat' ((with_reducible first|refine wr ?_|refine cpc hsc ?_|refine A2 ?_ ?_|fail)<;>try simp only [go_sem,seval,hd])
  obtain ⟨f,hf⟩:=(rulF_e (B9 s).1 s.length).get;refine AC.call (c_prules (B9 s).1 s.length (by have:=A5s h0;omega) (scan_val h0) (A4p h0) f rd0 _ hf PI0 _ _ 1 rfl (by decide)) ?_;rintro v H' c2 ⟨x,s',rfl,rfl,q1,q2,q3⟩ hc2;have hM:parM s=if okR (A2s (B9 s).1 s.length).2=false then (Ru0,(A2s (B9 s).1 s.length).2.pos,(A2s (B9 s).1 s.length).2.e) else ((A2s (B9 s).1 s.length).1,0,0):=by
   unfold parM;dsimp only;rw [if_neg (by simpa using h0)]
  rw [hM];generalize A2s (B9 s).1 s.length=w at q1 q2 ⊢;clear hM hf;have ne0:=R1 0 1 c2 (by omega);simp only [go_sem,seval,ne0,A0,A1];repeat' ((with_reducible first|refine wr ?_|refine A2 ?_ ?_|fail)<;>try simp only [go_sem,seval,ne0,A0,A1])
  refine AC.call (c_pok (B9 s).1 s.length s' _ _ 1 (by rw [A3 (by omega)];exact A0) (by omega)) ?_;rintro v H' c3 ⟨rfl,rfl⟩ hc3;cases hok:okR w.2 with
  | true =>
   obtain rfl:=q2 hok;have hok':okR s'=true:=by rw [q1.ok,hok]
   rw [if_neg (by decide)];simp only [go_sem,seval,hok',ne0,A0,A1];repeat' ((with_reducible first|refine wr ?_|refine A2 ?_ ?_|fail)<;>try simp only [go_sem,seval,hok',ne0,A0,A1])
   rw [D4 (v:=parV (w.1,0,0)) rfl];exact ⟨_,GL.refl _ _⟩
  | false =>
   have hok':okR s'=false:=by rw [q1.ok,hok]
   rw [if_pos rfl, <- q1.p, <- q1.e];simp only [go_sem,seval,hok',ne0,A0,A1];repeat' ((with_reducible first|refine wr ?_|refine A2 ?_ ?_|fail)<;>try simp only [go_sem,seval,hok',ne0,A0,A1])
   repeat refine ⟨by and_intros<;>(repeat rw [A3 (by omega)])<;>rfl,?_⟩
   repeat' ((with_reducible first|refine wr ?_|refine A2 ?_ ?_|fail)<;>try simp only [go_sem,seval,hok',ne0,A0,A1])
   rw [D4 (v:=.tup [.agg [.snil,.snil],I64 s'.pos,I64 s'.e]) rfl];exact pc_ru0
 ·have hd:((B9 s).2.2 != 0)=true:=by simpa using h0
  have hM:parM s=(Ru0,(B9 s).2.1,(B9 s).2.2):=by
   unfold parM;dsimp only;rw [if_pos h0]
  rw [hM];repeat' ((with_reducible first|refine wr ?_|refine cpc hsc ?_|refine A2 ?_ ?_|fail)<;>try simp only [go_sem,seval,hd])
  rw [D4 (v:=.tup [.agg [.snil,.snil],I64 (B9 s).2.1,I64 (B9 s).2.2]) rfl];exact pc_ru0
theorem c_PParseE (s:List UInt8) (hs:s.length<=100000):PC Tryz.prog 33 [.str s] (A2w (J3 s)):=by
 refine PC.ofT A9 rfl (Nat.le_of_ble_eq_true rfl) rfl (parEV_nl _) ?_;have hsc:=c_Scan s hs;by_cases h0:(B9 s).2.2=0
 ·have hd:((B9 s).2.2 != 0)=false:=by simpa using h0
  repeat' ((with_reducible first|refine wr ?_|refine cpc hsc ?_|refine A2 ?_ ?_|fail)<;>try simp only [go_sem,seval,hd])
  obtain ⟨f,hf⟩:=(xpnF_e (B9 s).1 s.length).get;refine AC.call (c_pexpr (B9 s).1 s.length (by have:=A5s h0;omega) (A4p h0) f rd0 rd0 _ (.refl _) hf (Nat.zero_le _) _ _ 1 rfl (by decide)) ?_;rintro v H' c2 ⟨x,s',rfl,rfl,q1,q2,q3⟩ hc2;obtain ⟨w,hw⟩:∃ w,w=xpnF (B9 s).1 s.length:=⟨_,rfl⟩;obtain ⟨z,hz⟩:∃ z,z=(if okR w.2=true/\w.2.i<(B9 s).1.length then L8 (B9 s).1 s.length w.2 else w.2):=⟨_,rfl⟩;have hM:J3 s=if okR z=false then (Ex0,z.pos,z.e) else (w.1,0,0):=by
   unfold J3;dsimp only;rw [if_neg (by simpa using h0), <- hw, <- hz]
  rw [<- hw] at q1 q2;rw [hM];have hq:Eqv (if s'.i<(B9 s).1.length then pfl (B9 s).1 s.length s' 4 else s') z/\(okR z=true->x=w.1):=by
   rw [hz];rcases q1.cas with ⟨e1,e2⟩|⟨e1,e2⟩
   ·rw [e1];by_cases hlt:w.2.i<(B9 s).1.length
    ·rw [if_pos hlt,if_pos ⟨e2,hlt⟩];exact ⟨.refl _,fun k=>(by rw [A2q] at k;cases k)⟩
    ·rw [if_neg hlt,if_neg (fun h=>hlt h.2)];exact ⟨.refl _,q2⟩
   ·rw [show (if s'.i<(B9 s).1.length then pfl (B9 s).1 s.length s' 4 else s')=s' by rw [P3 e1];split<;>rfl,if_neg (fun h=>by rw [e2] at h;cases h.1)];exact ⟨q1,fun k=>by rw [e2] at k;cases k⟩
  clear hM hf hz hw;have ne0:=R1 0 1 c2 (by omega);simp only [go_sem,seval,ne0,A0,A1,Ex.v_w];repeat' ((with_reducible first|refine wr ?_|refine A2 ?_ ?_|fail)<;>try simp only [go_sem,seval,ne0,A0,A1])
  refine AC.call (c_pend (B9 s).1 s.length s' _ _ 1 (by rw [A3 (by omega)];exact A0) (by omega)) ?_;rintro v H' c3 ⟨rfl,rfl⟩ hc3;generalize (if s'.i<(B9 s).1.length then pfl (B9 s).1 s.length s' 4 else s')=u at hq ⊢;obtain ⟨r1,r2⟩:=hq;simp only [go_sem,seval,ne0,A0,A1];repeat' ((with_reducible first|refine wr ?_|refine A2 ?_ ?_|fail)<;>try simp only [go_sem,seval,ne0,A0,A1])
  refine AC.call (c_pok (B9 s).1 s.length u _ _ 1 A0 (by omega)) ?_;rintro v H' c4 ⟨rfl,rfl⟩ hc4;cases hok:okR z with
  | true =>
   obtain rfl:=r2 hok;have hok':okR u=true:=by rw [r1.ok,hok]
   rw [if_neg (by decide)];simp only [go_sem,seval,hok',ne0,A0,A1];repeat' ((with_reducible first|refine wr ?_|refine A2 ?_ ?_|fail)<;>try simp only [go_sem,seval,hok',ne0,A0,A1])
   rw [D4 (v:=.tup [w.1.w,I64 0,I64 0]) rfl];exact ⟨_,by rw [<- Ex.v_w];exact GL.refl _ _⟩
  | false =>
   have hok':okR u=false:=by rw [r1.ok,hok]
   rw [if_pos rfl, <- r1.p, <- r1.e];simp only [go_sem,seval,hok',ne0,A0,A1];repeat' ((with_reducible first|refine wr ?_|refine A2 ?_ ?_|fail)<;>try simp only [go_sem,seval,hok',ne0,A0,A1])
   repeat refine ⟨by and_intros<;>(repeat rw [A3 (by omega)])<;>rfl,?_⟩
   repeat' ((with_reducible first|refine wr ?_|refine A2 ?_ ?_|fail)<;>try simp only [go_sem,seval,hok',ne0,A0,A1])
   rw [D4 (v:=.tup [.agg [I64 0,I64 0,.str [],.snil,I64 0],I64 u.pos,I64 u.e]) rfl];exact pc_ex0
 ·have hd:((B9 s).2.2 != 0)=true:=by simpa using h0
  have hM:J3 s=(Ex0,(B9 s).2.1,(B9 s).2.2):=by
   unfold J3;dsimp only;rw [if_pos h0]
  rw [hM];repeat' ((with_reducible first|refine wr ?_|refine cpc hsc ?_|refine A2 ?_ ?_|fail)<;>try simp only [go_sem,seval,hd])
  rw [D4 (v:=.tup [.agg [I64 0,I64 0,.str [],.snil,I64 0],I64 (B9 s).2.1,I64 (B9 s).2.2]) rfl];exact pc_ex0
end Go.Proofs.YthlpinppaclofaaGreatDoor
set_option linter.unusedSectionVars false
namespace Go.Sym
variable [Go.Sym.Tab]
open Go.Eng (Opd FOp AOp EOp IOp IOper DReg IC RV IFn trC trR A2l G0 opd Y1 trO trF trA trE trI A3w trG trL T6 KKey Rg rgT rg1T)
open Go.ChangeMaps (setBlock)
section
variable {P:Program} {N:Nat} {ρ ρ' ρ1:Ren} {s s' s1:St} {w w' w1:World} {a:Act} {ops:Array Oper}
theorem wanted_none {o:Oper} (h:o.guard=none) (y:Nat->Option Bool):Region.wanted o y=true:=by simp [Region.wanted,h]
theorem A1u {Q:Exit->Act->World->Prop} {o:Oper} {rest:List Oper} {v:Value} (hg:o.guard=none) (h:(execOp a.eval o).run P w=.ok (.value v) w') (k:wpList P ops Q rest (a.put o.dst v) w') :
  wpList P ops Q (o :: rest) a w:=by
 unfold wpList;rw [wanted_none hg,if_pos rfl];left;unfold Oper.wp;rw [h];exact k
theorem Y8 {Q:Exit->Act->World->Prop} {Q':St->Prop} (rest:List Oper):∀ (os:List Oper) (is:List IOper) {ρ : Ren} {s:St} {a:Act} {w:World},trL P N ops os=some is->Sim N ρ s a w ->
  rwp P Q' is s->(∀ ρ' s' a' w',Q' s'->Sim N ρ' s' a' w'->Step ρ s w ρ' s' w'->wpList P ops Q rest a' w')->wpList P ops Q (os++rest) a w
 | [],is, ρ,s,a,w,htr,hS,h,hq=>by
  simp only [trL,Option.some.injEq] at htr;subst htr;exact hq ρ s a w h hS (Step.refl _ _ _)
 | o :: os,is, ρ,s,a,w,htr,hS,h,hq=>by
  simp only [trL] at htr;split at htr
  ·rename_i i is' ho his;cases htr;unfold trO at ho;split at ho
   ·rename_i op g hop hg hd;cases ho;rw [List.cons_append];unfold wpList;simp only [rwp] at h;split at h
    ·rename_i hw;rw [N5 hS hg rfl hw];rw [if_pos rfl];left;refine A0u hS hop h fun v v' H' c' ρ' w' hk d=>?_;obtain ⟨hS',hst⟩:=hS.did hd d;exact Y8 rest os is' his hS' hk fun ρ2 s2 a2 w2 q2 hS2 hst2=>hq ρ2 s2 a2 w2 q2 hS2 (hst.trans hst2)
    ·rename_i hw;rw [N5 hS hg rfl hw];rw [if_neg Bool.false_ne_true];have d:Did ρ s.H s.c w undef w (.tup []) s.H s.c ρ := ⟨S7 ρ,hS.rep,hS.fresh,Nat.le_refl _,fun _ _ h=>h,fun _ _=>rfl,Ext.refl _ _ _⟩;obtain ⟨hS',hst⟩:=hS.did hd d;exact Y8 rest os is' his hS' h fun ρ2 s2 a2 w2 q2 hS2 hst2=>hq ρ2 s2 a2 w2 q2 hS2 (hst.trans hst2)
    ·exact h.elim
   ·cases ho
  ·cases htr
structure Kp (ρ : Ren) (s:St) (w:World) (r id:Nat) (o:Obj):Prop where
 nm : ρ.nm id=some ⟨r,0,0,0,false⟩
 lt:id<s.c
 no:s.H id=none
 obj:w.heap[r]? = some o
 blk:∀ j b t,s.H j=some b -> ρ.nm j=some t->t.block≠r
 fz : ρ.fz r=none
 fm : ρ.fm r=none
theorem Kp.step {r id:Nat} {o:Obj} (h:Kp ρ s w r id o) (st:Step ρ s w ρ' s' w'):Kp ρ' s' w' r id o:=by
 have hr:r<w.heap.size:=(Array.getElem?_eq_some_iff.1 h.obj).1;refine ⟨(st.same id h.lt).trans h.nm,Nat.lt_of_lt_of_le h.lt st.up,?_,?_,fun j b t hb ht=>?_,?_,?_⟩
 ·cases hn:s'.H id with
  | none=>rfl
  | some x=>exact absurd h.no (st.dom id h.lt (by rw [hn];simp))
 ·rw [st.ext.keep r hr fun j b t hb _ ht=>h.blk j b t hb ht];exact h.obj
 ·rcases st.ext.mine j b t hb ht with h1|⟨i,b0,t0,e1, -,e2,e3⟩
  ·omega
  ·rw [<- e3];exact h.blk i b0 t0 e1 e2
 ·cases hf : ρ'.fz r with
  | none=>rfl
  | some x =>
   rcases st.ext.fzn r x hf with h1|h1|⟨i,b0,t0,e1, -,e2,e3⟩
   ·rw [h.fz] at h1;cases h1
   ·omega
   ·exact absurd e3 (h.blk i b0 t0 e1 e2)
 ·cases hf : ρ'.fm r with
  | none=>rfl
  | some x =>
   rcases st.ext.fmn r x hf with h1|h1|⟨i,b0,t0,e1, -,e2,e3⟩
   ·rw [h.fm] at h1;cases h1
   ·omega
   ·exact absurd e3 (h.blk i b0 t0 e1 e2)
theorem Kp.set {r id:Nat} {o o':Obj} (h:Kp ρ s w r id o) (hw:∀ k,k≠r->w'.heap[k]? = w.heap[k]?) (ho:w'.heap[r]? = some o'):Kp ρ s w' r id o' :=
 ⟨h.nm,h.lt,h.no,ho,h.blk,h.fz,h.fm⟩
theorem Sim.setKp {r id:Nat} {o:Obj} (hS:Sim N ρ s a w) (h:Kp ρ s w r id o) (hw:∀ k,k≠r->w'.heap[k]? = w.heap[k]?):Sim N ρ s a w':=by
 refine ⟨hS.tm,⟨fun j b hb=>?_,hS.rep.sep,fun k x hk=>?_,hS.rep.dis,fun k es hk=>?_⟩,hS.fresh,hS.size,hS.dfr⟩
 ·obtain ⟨t,h1,h2⟩:=hS.rep.blk j b hb;exact ⟨t,h1,h2.world (hw _ (h.blk j b t hb h1))⟩
 ·obtain ⟨e,fr,h1⟩:=hS.rep.frz k x hk;exact ⟨e,fr,by rw [hw k (fun e=>by rw [e,h.fz] at hk;cases hk)];exact h1⟩
 ·obtain ⟨⟨cl,h1,h2⟩,h3⟩:=hS.rep.frm k es hk;exact ⟨⟨cl,by rw [hw k (fun e=>by rw [e,h.fm] at hk;cases hk)];exact h1,h2⟩,h3⟩
theorem Step.set {r:Nat} (st:Step ρ1 s1 w1 ρ s w) (hr:w1.heap.size<=r) (hw:∀ k,k≠r->w'.heap[k]? = w.heap[k]?) (h1:w'.os=w.os) (h2:w'.tape=w.tape) (h3:w'.output=w.output) (h4:w'.heap.size=w.heap.size) :
  Step ρ1 s1 w1 ρ s w' :=
 ⟨st.up,st.dom,st.same,⟨st.ext.le,h1.trans st.ext.os,h2.trans st.ext.tape,h3.trans st.ext.output,h4▸st.ext.size,fun k hk hno=>(hw k (by omega)).trans (st.ext.keep k hk hno),st.ext.mine,st.ext.fzn,st.ext.fmn⟩⟩
theorem Sim.new (hS:Sim N ρ s a w) (o:Obj):Did ρ s.H s.c w (.pointer (some ⟨w.heap.size,0,none⟩)) (w.alloc o) (.ptr s.c 0) s.H (s.c+1) (ρ.upd s.c ⟨w.heap.size,0,0,0,false⟩) /\
  ∀ T,Kp (ρ.upd s.c ⟨w.heap.size,0,0,0,false⟩) ⟨T,s.H,s.c+1⟩ (w.alloc o) w.heap.size s.c o:=by
 have hid:=hS.fresh s.c (Nat.le_refl _);have hle : ρ.le (ρ.upd s.c ⟨w.heap.size,0,0,0,false⟩):=Ren.le_upd hid;have hno:s.H s.c=none:=by
  cases h:s.H s.c with
  | none=>rfl
  | some b=>obtain ⟨t,h1, -⟩:=hS.rep.blk _ _ h;rw [hid] at h1;cases h1
 have nmj:∀ j b,s.H j=some b->(ρ.upd s.c ⟨w.heap.size,0,0,0,false⟩).nm j = ρ.nm j:=fun j b hb=>by
  have:j≠s.c:=fun e=>by rw [e,hno] at hb;cases hb
  simp only [Ren.upd,this,if_false]
 have lt:∀ j b t,s.H j=some b -> ρ.nm j=some t->t.block<w.heap.size:=fun j b t hb ht=>by
  obtain ⟨t',h1,h2⟩:=hS.rep.blk j b hb;rw [ht] at h1;cases h1;exact h2.lt
 have fzn : ρ.fz w.heap.size=none:=by
  cases hf : ρ.fz w.heap.size with
  | none=>rfl
  | some x=>exact absurd (hS.rep.flt hf) (Nat.lt_irrefl _)
 have fmn : ρ.fm w.heap.size=none:=by
  cases hf : ρ.fm w.heap.size with
  | none=>rfl
  | some x =>
   obtain ⟨⟨cl,h1, -⟩, -⟩:=hS.rep.frm _ _ hf;exact absurd (Array.getElem?_eq_some_iff.1 h1).1 (Nat.lt_irrefl _)
 refine ⟨⟨.ptr s.c 0 _ (Ren.upd_same _ _ _) rfl,⟨fun j b hb=>?_,fun i j bi bj ti tj hi hj hij h1 h2 ho=>?_,fun k x hk=>?_,fun j b t hb ho ht=>?_,fun k es hk=>?_⟩,fun j hj=>?_,Nat.le_succ _,fun _ _ h=>h,fun j hj=>?_,?_⟩,fun T=>⟨Ren.upd_same _ _ _,Nat.lt_succ_self _,hno,heap_alloc_new w o,fun j b t hb ht=>?_,fzn,fmn⟩⟩
 ·obtain ⟨t,h1,h2⟩:=hS.rep.blk j b hb;exact ⟨t,hle.nm _ _ h1,(h2.mono hle).world (heap_alloc_old w o h2.lt)⟩
 ·rw [nmj i bi hi] at h1;rw [nmj j bj hj] at h2;exact hS.rep.sep i j bi bj ti tj hi hj hij h1 h2 ho
 ·obtain ⟨e,fr,h1⟩:=hS.rep.frz k x hk;exact ⟨e,fr,by rw [heap_alloc_old w o (hS.rep.flt hk)];exact h1⟩
 ·rw [nmj j b hb] at ht;exact hS.rep.dis j b t hb ho ht
 ·obtain ⟨⟨cl,h1,h2⟩,h3⟩:=hS.rep.frm k es hk;refine ⟨⟨cl,by rw [heap_alloc_old w o (Array.getElem?_eq_some_iff.1 h1).1];exact h1,h2⟩,fun j b t hb ho ht=>?_⟩;rw [nmj j b hb] at ht;exact h3 j b t hb ho ht
 ·simp only [Ren.upd,show j≠s.c by omega,if_false];exact hS.fresh j (by omega)
 ·simp only [Ren.upd,show j≠s.c by omega,if_false]
 ·refine ⟨hle,rfl,rfl,rfl,by simp,fun k hk _=>heap_alloc_old w o hk,fun j b t hb ht=>?_,fun k r hk=>.inl hk,fun k r hk=>.inl hk⟩;rw [nmj j b hb] at ht;exact .inr ⟨j,b,t,hb,fun h=>h,ht,rfl⟩
 ·rw [nmj j b hb] at ht;have:=lt j b t hb ht;omega
theorem A1x {c:Code} {x y:IC} (h:trC P N c=some (.seq x y)):∃ a b,c=.seq a b/\trC P N a=some x/\trC P N b=some y:=by
 cases c<;>simp only [trC] at h<;>(try (cases h;done))
 case seq a b =>
  split at h
  ·rename_i x' y' hx hy;cases h;exact ⟨a,b,rfl,hx,hy⟩
  ·cases h
 all_goals (repeat' (split at h))<;>(try (cases h;done))
 all_goals simp at h
theorem trC_blk {c:Code} {i:Nat} {x:IC} (h:trC P N c=some (.blk i x)):∃ b,c=.block i b/\trC P N b=some x:=by
 cases c<;>simp only [trC] at h<;>(try (cases h;done))
 case block j b =>
  simp only [Option.map_eq_some_iff] at h;obtain ⟨x',hx,he⟩:=h;cases he;exact ⟨b,rfl,hx⟩
 all_goals (repeat' (split at h))<;>(try (cases h;done))
 all_goals simp at h
theorem trC_loop {c:Code} {x:IC} (h:trC P N c=some (.loop x)):∃ b,c=.loop b/\trC P N b=some x:=by
 cases c<;>simp only [trC] at h<;>(try (cases h;done))
 case loop b =>
  simp only [Option.map_eq_some_iff] at h;obtain ⟨x',hx,he⟩:=h;cases he;exact ⟨b,rfl,hx⟩
 all_goals (repeat' (split at h))<;>(try (cases h;done))
 all_goals simp at h
theorem trC_cond {c:Code} {o:Opd} {x y:IC} (h:trC P N c=some (.cond o x y)):∃ c0 a b,c=.cond c0 a b/\opd c0=some o/\trC P N a=some x/\trC P N b=some y:=by
 cases c<;>simp only [trC] at h<;>(try (cases h;done))
 case cond c0 a b =>
  split at h
  ·rename_i c' x' y' hc0 hx hy;cases h;exact ⟨c0,a,b,rfl,hc0,hx,hy⟩
  ·cases h
 all_goals (repeat' (split at h))<;>(try (cases h;done))
 all_goals simp at h
theorem trC_rg {c:Code} {r:Rg} (h:trC P N c=some (.rg r)):∃ id ops d,c=.region id ops d/\rgT P N ops d=r:=by
 cases c<;>simp only [trC] at h<;>(try (cases h;done))
 case region id ops d =>
  split at h
  ·split at h
   ·cases h
   ·split at h<;>cases h
  ·cases h;exact ⟨id,ops,d,rfl,rfl⟩
 all_goals (repeat' (split at h))<;>(try (cases h;done))
 all_goals simp at h
theorem blt_lt {a b:Nat} (h:a.blt b=true):a<b:=by simpa [Nat.blt_eq] using h
theorem rg1T_ne {ops:Array Oper}:(∀ {i n io},rg1T P N ops≠.r2 i n io)/\∀ {i n io},rg1T P N ops≠.r3 i n io:=by
 constructor<;>intro i n io h<;>unfold rg1T at h<;>(repeat' (split at h))<;>cases h
theorem rg1_inv {ops:Array Oper} {d:Bool} {io:List IOper} {m it:Nat} (h:rgT P N ops d=.r1 io m it) :
  d=false/\∃ pre ty x p f k e,ops.toList=pre++[⟨some it,.range ty (.tmp m),x,p,f,none⟩]/\trL P N ops pre=some io/\P.underlying ty=some (.map k e)/\it<N:=by
 unfold rgT at h;split at h
 ·cases h
 ·refine ⟨rfl,?_⟩;split at h
  ·split at h<;>cases h
  ·split at h<;>cases h
  ·unfold rg1T at h;split at h
   ·rename_i it' ty m' x p f pre hops;split at h
    ·rename_i k e io' hu hl hb;cases h;refine ⟨pre.reverse,ty,x,p,f,k,e,?_,hl,hu,blt_lt hb⟩;have:=congrArg List.reverse hops;simpa using this
    ·cases h
   ·cases h
theorem rg2_inv {ops:Array Oper} {d:Bool} {io:List IOper} {it n:Nat} (h:rgT P N ops d=.r2 it n io) :
  d=false/\∃ rest x p f,ops.toList=⟨some n,.next (.tmp it) false,x,p,f,none⟩ :: rest/\trL P N ops rest=some io/\n<N:=by
 unfold rgT at h;split at h
 ·cases h
 ·refine ⟨rfl,?_⟩;split at h
  ·rename_i n' it' x p f rest hops;split at h
   ·rename_i io' hl hb;cases h;exact ⟨rest,x,p,f,hops,hl,blt_lt hb⟩
   ·cases h
  ·split at h<;>cases h
  ·exact absurd h rg1T_ne.1
theorem rg3_inv {ops:Array Oper} {d:Bool} {io:List IOper} {it n:Nat} (h:rgT P N ops d=.r3 it n io) :
  d=false/\∃ rest x p f,ops.toList=⟨some n,.entry (.tmp it),x,p,f,none⟩ :: rest/\trL P N ops rest=some io/\n<N:=by
 unfold rgT at h;split at h
 ·cases h
 ·refine ⟨rfl,?_⟩;split at h
  ·split at h<;>cases h
  ·rename_i n' it' x p f rest hops;split at h
   ·rename_i io' hl hb;cases h;exact ⟨rest,x,p,f,hops,hl,blt_lt hb⟩
   ·cases h
  ·exact absurd h rg1T_ne.2
end
structure RgI (P:Program) (N:Nat) (ks vs:List DV) (it n e id b1 b2:Nat) (ok:Opd) (io2 io3:List IOper) (Y:IC) (Q:Exit->St->Prop) (I:List Nat->St->Prop):Prop where
 hit:∀ L s,I L s->s.T it=.ptr id 0
 fin:∀ L s,I L s->(∀ i<ks.length,i∈L)->rwp P (fun s3=>ev s3.T ok=.bool false/\Q .normal s3) io2 ⟨s.T.upd n (.tup [.bool false]),s.H,s.c⟩
 rnd:∀ L s i k v,I L s->L.Nodup->(∀ j∈L,j<ks.length)->i ∉ L->ks[i]? = some k->vs[i]? = some v ->
  rwp P (fun s3=>ev s3.T ok=.bool true/\s3.T it=.ptr id 0/\rwp P (fun s4=>IW P N Y s4 (A3p b2 (A1d (fun s5=>I (i :: L) s5) (A3p b1 Q)))) io3 ⟨s3.T.upd e (.tup [k,v]),s3.H,s3.c⟩) io2 ⟨s.T.upd n (.tup [.bool true,k,v]),s.H,s.c⟩
theorem IW.range {P:Program} {N:Nat} {io1 io2 io3:List IOper} {m it n e b1 b2:Nat} {ok:Opd} {Y:IC} {s:St} {Q:Exit->St->Prop}
  (h:rwp P (fun s1 => ∃ kd ks vs,s1.T m=.mp kd ks vs/\∃ I:List Nat->St->Prop,I [] ⟨s1.T.upd it (.ptr s1.c 0),s1.H,s1.c+1⟩/\RgI P N ks vs it n e s1.c b1 b2 ok io2 io3 Y Q I) io1 s) :
  IW P N (.seq (.rg (.r1 io1 m it)) (.blk b1 (.loop (.seq (.rg (.r2 it n io2)) (.seq (.cond ok .skip (.exit b1)) (.blk b2 (.seq (.rg (.r3 it e io3)) Y))))))) s Q:=by
 intro hm c hc;obtain ⟨cA,c2,rfl,hA,h2⟩:=A1x hc;obtain ⟨c3,rfl,h3⟩:=trC_blk h2;obtain ⟨c4,rfl,h4⟩:=trC_loop h3;obtain ⟨cB,c5,rfl,hB,h5⟩:=A1x h4;obtain ⟨c6,c7,rfl,h6,h7⟩:=A1x h5;obtain ⟨cc,cs,ce,rfl,hcc,hcs,hce⟩:=trC_cond h6;obtain ⟨c8,rfl,h8⟩:=trC_blk h7;obtain ⟨cC,cY,rfl,hC,hY⟩:=A1x h8;obtain ⟨iA,opsA,dA,rfl,eA⟩:=trC_rg hA;obtain ⟨iB,opsB,dB,rfl,eB⟩:=trC_rg hB;obtain ⟨iC,opsC,dC,rfl,eC⟩:=trC_rg hC;obtain ⟨rfl,pre,ty,xA,pA,fA,kt,et,hopsA,hlA,hu,hitN⟩:=rg1_inv eA;obtain ⟨rfl,rB,xB,pB,fB,hopsB,hlB,hnN⟩:=rg2_inv eB;obtain ⟨rfl,rC,xC,pC,fC,hopsC,hlC,heN⟩:=rg3_inv eC;intro ρ a w hS;refine wp_seq (wp_region_list ?_);rw [hopsA];refine Y8 _ pre io1 hlA hS h fun ρ1 s1 a1 w1 hh hS1 hst1=>?_;obtain ⟨kd,ks,vs,hTm,I,hI0,hI⟩:=hh;have rm:=hS1.tm m;rw [hTm] at rm;obtain ⟨bm,es,hfm,q1,q2,q3,q4,q5⟩:∃ bm es, ρ1.fm bm=some es/\ks.length=es.size/\vs.length=es.size/\(∀ (i:Nat) x (e:MapEntry),ks[i]? = some x->es[i]? = some e->VRel ρ1 x e.key) /\
   (∀ (i:Nat) x (e:MapEntry),vs[i]? = some x->es[i]? = some e->VRel ρ1 x e.val)/\a1.eval (.tmp m)=.map (some bm):=by
  generalize hv:a1.tmps.getD m undef=v at rm;cases rm with
  | mp _ _ _ b es h0 h1 h2 h3 h4 h5=>exact ⟨b,es,h0,h2,h3,h4,h5,hv⟩
 obtain ⟨⟨cl,hbm,hnd,E1⟩,hown⟩:=hS1.rep.frm bm es hfm;have run1:(execOp a1.eval ⟨some it,.range ty (.tmp m),xA,pA,fA,none⟩).run P w1=.ok (.value (.pointer (some ⟨w1.heap.size,0,none⟩))) (w1.alloc (.mapIter (some bm) cl #[] cl)):=by
  simp only [execOp,Sem.run_bind,q5,run_range_map w1 ty kt et bm es cl hu hbm,Result.andThen_ok,Sem.run_pure]
 refine A1u rfl run1 ?_;obtain ⟨d2,hkp2⟩:=hS1.new (.mapIter (some bm) cl #[] cl);obtain ⟨hS2,hst2⟩:=hS1.did (d:=some it) (by simp [T6];omega) d2;unfold wpList;refine wp_block ?_;have hst12:=hst1.trans hst2;have hbmne:bm≠w1.heap.size:=fun e1=>by
  have:=(Array.getElem?_eq_some_iff.1 hbm).1;omega
 have hbm2:(w1.alloc (.mapIter (some bm) cl #[] cl)).heap[bm]? = some (.map es cl):=by rw [heap_alloc_old _ _ (Array.getElem?_eq_some_iff.1 hbm).1];exact hbm
 have map_keep:∀ {ρa:Ren} {sa:St} {wa:World} {ρb:Ren} {sb:St} {wb:World},Rep ρa sa.H wa -> ρa.fm bm=some es->wa.heap[bm]? = some (.map es cl)->Step ρa sa wa ρb sb wb->wb.heap[bm]? = some (.map es cl):=by
  intro ρa sa wa ρb sb wb hR hf hb st;rw [st.ext.keep bm (Array.getElem?_eq_some_iff.1 hb).1 fun id b t h1 h2 h3=>(hR.frm bm es hf).2 id b t h1 h2 h3];exact hb
 refine wp_loop_ghost (fun μ a' w' => ∃ ρ' s' L seen,I L s'/\L.Nodup/\(∀ i∈L,i<ks.length)/\Sim N ρ' s' a' w'/\Step ρ1 s1 w1 ρ' s' w'/\Kp ρ' s' w' w1.heap.size s1.c (.mapIter (some bm) cl seen cl) /\
   w'.heap[bm]? = some (.map es cl)/\(∀ (i:Nat) (e:MapEntry),es[i]? = some e->(seen.contains e.born=true↔i∈L)) /\ μ = (leftOf es seen).size) _
  ⟨_,_,[], #[],hI0,List.nodup_nil,fun i hi=>(by cases hi),hS2,hst2,hkp2 _,hbm2,fun i e _=>by simp,rfl⟩ ?_
 rintro μ a' w' ⟨ρ',s',L,seen,hIL,hLn,hLb,hS',hst',hkp,hb',hsn,rfl⟩;have hfm' : ρ'.fm bm=some es:=hst'.ext.le.fm _ _ hfm;have rit:=hS'.tm it;rw [hI.hit L s' hIL] at rit;obtain ⟨t,ht, -,rit⟩:=rit.ptr_inv;rw [hkp.nm] at ht;cases ht;have eit:a'.eval (.tmp it)=.pointer (some ⟨w1.heap.size,0,none⟩):=rit;refine wp_seq (wp_region_list ?_);rw [hopsB];rcases run_next_at (P:=P) w' xB w1.heap.size bm cl cl seen es cl hkp.obj hb' E1 (Nat.le_refl _) with ⟨h0,hrun⟩|⟨en,hen,wx,hal,hrun⟩
 ·have run2:(execOp a'.eval ⟨some n,.next (.tmp it) false,xB,pB,fB,none⟩).run P w'=.ok (.value (.tuple #[.bool false])) w':=by
   simp only [execOp,Sem.run_bind,eit,hrun,Result.andThen_ok,Sem.run_pure]
  refine A1u rfl run2 ?_;have d:Did ρ' s'.H s'.c w' (.tuple #[.bool false]) w' (.tup [.bool false]) s'.H s'.c ρ':=⟨.tup _ _ rfl (by
    intro i x y hx hy
    match i with
    | 0=>cases hx;cases hy;exact .bool _
    | _+1=>cases hx),hS'.rep,hS'.fresh,Nat.le_refl _,fun _ _ h=>h,fun _ _=>rfl,Ext.refl _ _ _⟩
  obtain ⟨hS3,hst3⟩:=hS'.did (d:=some n) (by simp [T6];omega) d;refine P8 rB io2 hlB hS3 (hI.fin L s' hIL fun i hi=>?_) fun ρ4 s4 a4 w4 hq hS4 hst4=>?_
  ·have hi':i<es.size:=q1▸hi;have:=all_seen es seen h0 es[i] (by simp);exact (hsn i es[i] (by simp [hi'])).1 this
  ·obtain ⟨hok,hQ⟩:=hq;have hr:=A8 hS4.tm hcc;rw [hok] at hr;refine wp_seq (wp_cond hr.bool_inv ?_);rw [if_neg Bool.false_ne_true];refine wp_mono (IW.of (ic:=.exit b1) (Q:=fun e s=>e=.exit b1/\s=s4) ⟨rfl,rfl⟩ hm ce hce ρ4 a4 w4 hS4) ?_;rintro e5 a5 w5 ⟨ρ5,s5,⟨rfl,rfl⟩,hS5,hst5⟩;show (if b1=b1 then Ends N ρ s w Q .normal a5 w5 else _);rw [if_pos rfl];exact ⟨ρ5,s5,hQ,hS5,(((hst1.trans hst').trans hst3).trans hst4).trans hst5⟩
 ·obtain ⟨hmem,hfr⟩:=mem_left hen;obtain ⟨i,hi⟩:=List.getElem?_of_mem hmem;have hi2:es[i]? = some en:=by simpa using hi
  have his:i<es.size:=(Array.getElem?_eq_some_iff.1 hi2).1;have hk:ks[i]? = some ks[i]:=List.getElem?_eq_getElem (by omega);have hv:vs[i]? = some vs[i]:=List.getElem?_eq_getElem (by omega);have hiL:i ∉ L:=fun hh=>by rw [(hsn i en hi2).2 hh] at hfr;cases hfr
  have rk:=(q3 i _ en hk hi2).mono hst'.ext.le;have rv:=(q4 i _ en hv hi2).mono hst'.ext.le;have hxh:wx.heap=w'.heap:=by rcases hal with rfl|rfl<;>rfl
  obtain ⟨w2,hw2⟩:∃ w2,w2=setBlock wx w1.heap.size (.mapIter (some bm) cl (seen.push en.born) cl):=⟨_,rfl⟩;rw [<- hw2] at hrun;have hrs:w1.heap.size<w'.heap.size:=(Array.getElem?_eq_some_iff.1 hkp.obj).1;have k1:∀ k,k≠w1.heap.size->w2.heap[k]? = w'.heap[k]? := fun k hk=>by
   rw [hw2];simp only [setBlock,hxh];rw [Array.getElem?_setIfInBounds,if_neg (Ne.symm hk)]
  have k2:w2.heap[w1.heap.size]? = some (.mapIter (some bm) cl (seen.push en.born) cl):=by
   rw [hw2];simp only [setBlock,hxh];rw [Array.getElem?_setIfInBounds,if_pos rfl,if_pos hrs]
  have k3:w2.os=w'.os/\w2.tape=w'.tape/\w2.output=w'.output/\w2.heap.size=w'.heap.size:=by
   rw [hw2];rcases hal with rfl|rfl<;>exact ⟨rfl,rfl,rfl,by simp [setBlock]⟩
  have hSx:=hS'.setKp hkp k1;have hkx:=hkp.set k1 k2;have hstx:=hst'.set (Nat.le_refl _) k1 k3.1 k3.2.1 k3.2.2.1 k3.2.2.2;have hbx:w2.heap[bm]? = some (.map es cl):=(k1 bm hbmne).trans hb';have run2:(execOp a'.eval ⟨some n,.next (.tmp it) false,xB,pB,fB,none⟩).run P w'=.ok (.value (.tuple #[.bool true,en.key,en.val])) w2:=by
   simp only [execOp,Sem.run_bind,eit,hrun,Result.andThen_ok,Sem.run_pure]
  refine A1u rfl run2 ?_;have d:Did ρ' s'.H s'.c w2 (.tuple #[.bool true,en.key,en.val]) w2 (.tup [.bool true,ks[i],vs[i]]) s'.H s'.c ρ':=⟨.tup _ _ rfl (by
    intro j x y hx hy
    match j with
    | 0=>cases hx;cases hy;exact .bool _
    | 1=>cases hx;cases hy;exact rk
    | 2=>cases hx;cases hy;exact rv
    | _+3=>cases hx),hSx.rep,hSx.fresh,Nat.le_refl _,fun _ _ h=>h,fun _ _=>rfl,Ext.refl _ _ _⟩
  obtain ⟨hS3,hst3⟩:=hSx.did (d:=some n) (by simp [T6];omega) d;have hk3:=hkx.step hst3;have hb3:=map_keep hSx.rep hfm' hbx hst3;have hf3:=hst3.ext.le.fm _ _ hfm';refine P8 rB io2 hlB hS3 (hI.rnd L s' i _ _ hIL hLn hLb hiL hk hv) fun ρ4 s4 a4 w4 hq hS4 hst4=>?_;obtain ⟨hok,hit4,hQ⟩:=hq;have hk4:=hk3.step hst4;have hb4:=map_keep hS3.rep hf3 hb3 hst4;have hf4:=hst4.ext.le.fm _ _ hf3;have hr:=A8 hS4.tm hcc;rw [hok] at hr;refine wp_seq (wp_cond hr.bool_inv ?_);rw [if_pos rfl];refine wp_mono (IW.of (ic:=.skip) (Q:=fun e s=>e=.normal/\s=s4) ⟨rfl,rfl⟩ hm cs hcs ρ4 a4 w4 hS4) ?_;rintro e5 a5 w5 ⟨ρ5,s5,⟨rfl,rfl⟩,hS5,hst5⟩;have hk5:=hk4.step hst5;have hb5:=map_keep hS4.rep hf4 hb4 hst5;have hf5:=hst5.ext.le.fm _ _ hf4;refine wp_block (wp_seq (wp_region_list ?_));rw [hopsC];have rit5:=hS5.tm it;rw [hit4] at rit5;obtain ⟨t,ht, -,rit5⟩:=rit5.ptr_inv;rw [hk5.nm] at ht;cases ht;have eit5:a5.eval (.tmp it)=.pointer (some ⟨w1.heap.size,0,none⟩):=rit5;have run3:(execOp a5.eval ⟨some e,.entry (.tmp it),xC,pC,fC,none⟩).run P w5=.ok (.value (.tuple #[en.key,en.val])) w5:=by
   simp only [execOp,Sem.run_bind,eit5,run_entry_at (P:=P) w5 w1.heap.size bm cl seen es cl en hk5.obj hb5 hmem hnd,Result.andThen_ok,Sem.run_pure]
  refine A1u rfl run3 ?_;have hst35:=(hst3.trans hst4).trans hst5;have d:Did ρ5 s5.H s5.c w5 (.tuple #[en.key,en.val]) w5 (.tup [ks[i],vs[i]]) s5.H s5.c ρ5:=⟨.tup _ _ rfl (by
    intro j x y hx hy
    match j with
    | 0=>cases hx;cases hy;exact rk.mono hst35.ext.le
    | 1=>cases hx;cases hy;exact rv.mono hst35.ext.le
    | _+2=>cases hx),hS5.rep,hS5.fresh,Nat.le_refl _,fun _ _ h=>h,fun _ _=>rfl,Ext.refl _ _ _⟩
  obtain ⟨hS6,hst6⟩:=hS5.did (d:=some e) (by simp [T6];omega) d;have hk6:=hk5.step hst6;have hb6:=map_keep hS5.rep hf5 hb5 hst6;have hf6:=hst6.ext.le.fm _ _ hf5;refine P8 rC io3 hlC hS6 hQ fun ρ7 s7 a7 w7 hY7 hS7 hst7=>?_;have hk7:=hk6.step hst7;have hb7:=map_keep hS6.rep hf6 hb6 hst7;have hf7:=hst7.ext.le.fm _ _ hf6;have hst17:=(((hstx.trans hst35).trans hst6).trans hst7);refine wp_mono (hY7 hm cY hY ρ7 a7 w7 hS7) ?_;rintro e8 a8 w8 ⟨ρ8,s8,hq8,hS8,hst8⟩;have hst18:=hst17.trans hst8;have hk8:=hk7.step hst8;have hb8:=map_keep hS7.rep hf7 hb7 hst8;have next:I (i :: L) s8->∃ n',n'<(leftOf es seen).size/\∃ ρ' s' L seen,I L s'/\L.Nodup/\(∀ i∈L,i<ks.length)/\Sim N ρ' s' a8 w8/\Step ρ1 s1 w1 ρ' s' w8/\Kp ρ' s' w8 w1.heap.size s1.c (.mapIter (some bm) cl seen cl) /\
   w8.heap[bm]? = some (.map es cl)/\(∀ (i:Nat) (e:MapEntry),es[i]? = some e->(seen.contains e.born=true↔i∈L))/\n'=(leftOf es seen).size:=fun hI8=>by
   refine ⟨_,left_shrinks es seen en hen, ρ8,s8,i :: L,seen.push en.born,hI8,List.nodup_cons.2 ⟨hiL,hLn⟩,fun j hj=>?_,hS8,hst18,hk8,hb8,fun j e' hj=>?_,rfl⟩
   ·rcases List.mem_cons.1 hj with rfl|hj
    ·omega
    ·exact hLb j hj
   ·rw [contains_push,Bool.or_eq_true,List.mem_cons,hsn j e' hj];constructor
    ·rintro (h1|h1)
     ·exact .inr h1
     ·refine .inl ?_;have h2:=beq_iff_eq.1 h1;have h3:(es.toList.map (·.born))[j]? = some en.born:=by rw [List.getElem?_map,show es.toList[j]? = some e' by simpa using hj];simp [h2]
      have h4:(es.toList.map (·.born))[i]? = some en.born:=by rw [List.getElem?_map,hi];rfl
      exact (List.getElem?_inj (List.getElem?_eq_some_iff.1 h3).1 hnd).1 (h3.trans h4.symm)
    ·rintro (rfl|h1)
     ·rw [hi2] at hj;cases hj;exact .inr (beq_self_eq_true _)
     ·exact .inl h1
  have hend:Step ρ s w ρ8 s8 w8:=hst1.trans hst18;cases e8 with
  | normal=>exact next hq8
  | exit j =>
   simp only [A3p] at hq8;simp only [Exit.inBlock];split at hq8
   ·rename_i hj;rw [if_pos hj];exact next hq8
   ·rename_i hj;rw [if_neg hj];simp only [A1d,A3p] at hq8;show (if j=b1 then Ends N ρ s w Q .normal a8 w8 else Ends N ρ s w Q (.exit j) a8 w8);split at hq8
    ·rename_i hj1;rw [if_pos hj1];exact ⟨ρ8,s8,hq8,hS8,hend⟩
    ·rename_i hj1;rw [if_neg hj1];exact ⟨ρ8,s8,hq8,hS8,hend⟩
  | _=>exact ⟨ρ8,s8,hq8,hS8,hend⟩
theorem G9 {n:Nat} {v:DV}:∀ {l:List (Nat × DV)} {T:Tm},D5 l T->(∀ p∈l,p.1≠n)->D5 l (T.upd n v)
 | [],_,_,_=>trivial
 | (k,x) :: r,T,⟨h1,h2⟩,h=>⟨by simp only [Tm.upd,h (k,x) List.mem_cons_self,if_false];exact h1,G9 h2 fun p hp=>h p (List.mem_cons_of_mem _ hp)⟩
theorem A4l (T:Tm) (n:Nat) (v:DV):(T.upd n v) n=v:=by simp [Tm.upd]
theorem K0 (T:Tm) {n k:Nat} (v:DV) (h:k≠n):(T.upd n v) k=T k:=by simp [Tm.upd,h]
def lpR {σ : Type} (it:Nat) (x:DV) (L : σ -> List (Nat × DV)) (h : σ -> Hp) (J:List Nat -> σ -> Nat->Prop) (D:List Nat) (Q:Exit->St->Prop):Exit->St->Prop
 | .normal,⟨T,H,c⟩=>T it=x/\∃ b,D5 (L b) T/\Sub (h b) H/\J D b c
 | e,s=>Q e s
theorem k_lRn {σ : Type} {it:Nat} {x:DV} {L : σ -> List (Nat × DV)} {h : σ -> Hp} {J:List Nat -> σ -> Nat->Prop} {D:List Nat} {Q:Exit->St->Prop} {T:Tm} {H:Hp} {c:Nat} :
  lpR it x L h J D Q .normal ⟨T,H,c⟩=(T it=x/\∃ b,D5 (L b) T/\Sub (h b) H/\Keep (J D) b c):=propext Iff.rfl
theorem k_lRr {σ : Type} {it:Nat} {x:DV} {L : σ -> List (Nat × DV)} {h : σ -> Hp} {J:List Nat -> σ -> Nat->Prop} {D:List Nat} {Q:Exit->St->Prop} {s:St}:lpR it x L h J D Q .ret s=Q .ret s:=propext Iff.rfl
attribute [go_sem] k_lRn k_lRr
theorem A6k {P:Program} {N f:Nat} {D:(Ps->IC)->TD} [F:FT P f D] {p0 p1 p2 p3 p4 p5:Ps} {g m it n ok e x y k v b1 b2:Nat} {Y z:IC} {L0 L1 L2 L3 L4 L5:List Nat}
  [g0:LkD (D (pz P f)) p0 (.Q (.rg (.r1 [⟨some m,.call g [],none⟩] m it)) (pz P f p1) L0)] [g1:LkD (D (pz P f)) p1 (.J (.loop (pz P f p2)) b1 L1)]
  [g2:LkD (D (pz P f)) p2 (.Q (.rg (.r2 it n [⟨some ok,.pur (.ext (.t n) 0),none⟩])) (pz P f p3) L2)] [g3:LkD (D (pz P f)) p3 (.C .skip (pz P f p4) (.exit b1) (.t ok) L3)]
  [g4:LkD (D (pz P f)) p4 (.J (pz P f p5) b2 L4)]
  [g5:LkD (D (pz P f)) p5 (.Q (.rg (.r3 it e [⟨some x,.pur (.ext (.t e) 0),none⟩,⟨some y,.pur (.ext (.t e) 1),none⟩,⟨some k,.pur (.mv (.t x)),none⟩,⟨some v,.pur (.mv (.t y)),none⟩])) Y L5)]
  {T:Tm} {H:Hp} {c:Nat} {Q0:Exit->St->Prop} {kd:KKey} {ks vs:List DV} (hc:PC P g [] (.mp kd ks vs)) {σ : Type} (L : σ -> List (Nat × DV)) (h : σ -> Hp) (J:List Nat -> σ -> Nat->Prop) (a : σ)
  (hd:[k,v,it,m,n,ok,e,x,y].Nodup) (hA:∀ b,((L b).map Prod.fst).all (fun q => !([k,v,it,m,n,ok,e,x,y].contains q))=true) (h0:D5 (L a) T) (hH:Sub (h a) H) (hJ:J [] a (c+1))
  (fin:∀ D b c,J D b c->(∀ i<ks.length,i∈D)->IW P N z ⟨tm (L b),h b,c⟩ Q0)
  (rnd:∀ it' D b c i kk vv,J D b c->D.Nodup->(∀ j∈D,j<ks.length)->i ∉ D->ks[i]? = some kk->vs[i]? = some vv ->
   IW P N Y ⟨tm ((it,it') :: (k,kk) :: (v,vv) :: L b),h b,c⟩ (bk b2 (lpR it it' L h J (i :: D) (bk b1 (sq P N z Q0))))) :
  IW P N (pz P f p0) ⟨T,H,c⟩ (sq P N z Q0):=by
 rw [wz g0.get,show PD.ic (.Q (.rg (.r1 [⟨some m,.call g [],none⟩] m it)) (pz P f p1) L0)=.seq (.rg (.r1 [⟨some m,.call g [],none⟩] m it)) (pz P f p1) from rfl,wz g1.get,show PD.ic (.J (.loop (pz P f p2)) b1 L1)=.blk b1 (.loop (pz P f p2)) from rfl,wz g2.get];show IW P N (.seq (.rg (.r1 [⟨some m,.call g [],none⟩] m it)) (.blk b1 (.loop (.seq (.rg (.r2 it n [⟨some ok,.pur (.ext (.t n) 0),none⟩])) (pz P f p3))))) _ _;rw [wz g3.get];show IW P N (.seq (.rg (.r1 [⟨some m,.call g [],none⟩] m it)) (.blk b1 (.loop (.seq (.rg (.r2 it n [⟨some ok,.pur (.ext (.t n) 0),none⟩])) (.seq (.cond (.t ok) .skip (.exit b1)) (pz P f p4)))))) _ _;rw [wz g4.get];show IW P N (.seq (.rg (.r1 [⟨some m,.call g [],none⟩] m it)) (.blk b1 (.loop (.seq (.rg (.r2 it n [⟨some ok,.pur (.ext (.t n) 0),none⟩])) (.seq (.cond (.t ok) .skip (.exit b1)) (.blk b2 (pz P f p5))))))) _ _;rw [wz g5.get];have hL:∀ b, ∀ p∈L b,p.1 ∉ [k,v,it,m,n,ok,e,x,y]:=fun b p hp hh=>by
  have h1:=List.all_eq_true.1 (hA b) p.1 (List.mem_map.2 ⟨p,hp,rfl⟩);rw [List.contains_iff_mem.2 hh] at h1;cases h1
 simp only [List.nodup_cons,List.mem_cons,List.not_mem_nil,or_false,not_or] at hd hL;obtain ⟨⟨d1,d2,d3,d4,d5,d6,d7,d8⟩,⟨d9,d10,d11,d12,d13,d14,d15⟩,⟨d16,d17,d18,d19,d20,d21⟩,⟨d22,d23,d24,d25,d26⟩,⟨d27,d28,d29,d30⟩,⟨d31,d32,d33⟩,⟨d34,d35⟩,d36, -⟩:=hd;refine IW.range ?_;simp only [rwp,G2,H4,List.map_nil];refine cpc hc ⟨kd,ks,vs,A4l _ _ _,fun D s=>s.T it=.ptr c 0/\∃ b,D5 (L b) s.T/\Sub (h b) s.H/\J D b s.c,⟨A4l _ _ _,a,?_,hH,hJ⟩,fun D s q=>q.1,?_,?_⟩
 ·exact G9 (G9 h0 fun p hp=>(hL a p hp).2.2.2.1) fun p hp=>(hL a p hp).2.2.1
 ·rintro D s ⟨q1,b,q2,q3,q4⟩ hall;simp only [rwp,G2,H4,f_ext,ev,A4l,r_ext,List.getElem?_cons_zero,D9];refine ⟨trivial,?_⟩;exact IW.weaken (N6 (G9 (G9 q2 fun p hp=>(hL b p hp).2.2.2.2.1) fun p hp=>(hL b p hp).2.2.2.2.2.1)) q3 (fin D b _ q4 hall)
 ·rintro D s i kk vv ⟨q1,b,q2,q3,q4⟩ hn hb hi hk hv;simp only [rwp,G2,H4,f_ext,ev,A4l,r_ext,List.getElem?_cons_zero,List.getElem?_cons_succ,D9,fev,K0 _ _ d36,K0 _ _ (Ne.symm d36),K0 _ _ d35,K0 _ _ d34,K0 _ _ (Ne.symm d34),K0 _ _ d7,K0 _ _ (Ne.symm d7),K0 _ _ (Ne.symm d8),K0 _ _ d15,K0 _ _ d14,K0 _ _ d18,K0 _ _ d19];refine ⟨trivial,by rw [K0 _ _ d17];exact q1,?_⟩;refine IW.weaken (T':=tm ((it,.ptr c 0) :: (k,kk) :: (v,vv) :: L b)) (N6 ⟨?_,?_,?_,?_⟩) q3 ((rnd (.ptr c 0) D b s.c i kk vv q4 hn hb hi hk hv).mono ?_)
  ·rw [K0 _ _ (Ne.symm d9),K0 _ _ (Ne.symm d2),K0 _ _ d21,K0 _ _ d20,K0 _ _ d19,K0 _ _ d18,K0 _ _ d17];exact q1
  ·rw [K0 _ _ d1,A4l]
  ·exact A4l _ _ _
  ·refine G9 (G9 (G9 (G9 (G9 (G9 (G9 q2 ?_) ?_) ?_) ?_) ?_) ?_) ?_<;>intro p hp<;>have h9:=hL b p hp
   ·exact h9.2.2.2.2.1
   ·exact h9.2.2.2.2.2.1
   ·exact h9.2.2.2.2.2.2.1
   ·exact h9.2.2.2.2.2.2.2.1
   ·exact h9.2.2.2.2.2.2.2.2
   ·exact h9.1
   ·exact h9.2.1
  ·rintro e5 ⟨T5,H5,c5⟩ q5;have key:∀ e6,lpR it (.ptr c 0) L h J (i :: D) (bk b1 (sq P N z Q0)) e6 ⟨T5,H5,c5⟩->A1d (fun s5=>s5.T it=.ptr c 0/\∃ b,D5 (L b) s5.T/\Sub (h b) s5.H/\J (i :: D) b s5.c) (A3p b1 (sq P N z Q0)) e6 ⟨T5,H5,c5⟩:=by
    intro e6 q6;cases e6<;>exact q6
   cases e5 with
   | exit j =>
    simp only [bk,A3p] at q5;simp only [A3p];split at q5
    ·rename_i hj;rw [if_pos hj];exact key _ q5
    ·rename_i hj;rw [if_neg hj];exact key _ q5
   | normal=>exact key .normal q5
   | ret=>exact key .ret q5
   | goto l=>exact key (.goto l) q5
   | panic l=>exact key (.panic l) q5
   | outgrown=>exact key .outgrown q5
end Go.Sym
set_option maxHeartbeats 4000000
namespace Go.Proofs.YthlpinppaclofaaGreatDoor
open Go.Eng (IC IOper DReg IFn G0)
open Go.Sym
abbrev x113:XT Tryz.prog 113:=mkF
instance t113:FT Tryz.prog 113 x113.d:=x113.ft
abbrev x154:XT Tryz.prog 154:=mkF
instance t154:FT Tryz.prog 154 x154.d:=x154.ft
abbrev x65:XT Tryz.prog 65:=mkF
instance t65:FT Tryz.prog 65 x65.d:=x65.ft
abbrev x110:XT Tryz.prog 110:=mkF
instance t110:FT Tryz.prog 110 x110.d:=x110.ft
abbrev x29:XT Tryz.prog 29:=mkF
instance t29:FT Tryz.prog 29 x29.d:=x29.ft
abbrev x60:XT Tryz.prog 60:=mkF
instance t60:FT Tryz.prog 60 x60.d:=x60.ft
abbrev x59:XT Tryz.prog 59:=mkF
instance t59:FT Tryz.prog 59 x59.d:=x59.ft
abbrev x102:XT Tryz.prog 102:=mkF
instance t102:FT Tryz.prog 102 x102.d:=x102.ft
abbrev x25:XT Tryz.prog 25:=mkF
instance t25:FT Tryz.prog 25 x25.d:=x25.ft
end Go.Proofs.YthlpinppaclofaaGreatDoor
namespace Go.Pb
variable [Go.Sym.Tab]
open Go.Sym
mutual
def Ex.sz:Ex->Nat
 | .mk k v n a p=>1+n.length+Ex.szs a
def Ex.szs:List Ex->Nat
 | []=>0
 | e :: l=>e.sz+Ex.szs l
end
mutual
def St.sz:St->Nat
 | .mk k n t a x y p=>1+n.length+t.length+Ex.szs a+St.szs x+St.szs y
def St.szs:List St->Nat
 | []=>0
 | e :: l=>e.sz+St.szs l
end
def Dc.sz (d:Dc):Nat:=1+d.name.length
def Hd.sz (h:Hd):Nat:=1+h.name.length+St.szs h.body
def Md.sz (m:Md):Nat:=1+m.name.length+(m.hds.map Hd.sz).sum
def Ru.sz (r:Ru):Nat:=(r.decls.map Dc.sz).sum+(r.modes.map Md.sz).sum
theorem Ex.szs_map:∀ l:List Ex,Ex.szs l=(l.map Ex.sz).sum
 | []=>rfl
 | e :: l=>by rw [Ex.szs,Ex.szs_map l];rfl
theorem St.szs_map:∀ l:List St,St.szs l=(l.map St.sz).sum
 | []=>rfl
 | e :: l=>by rw [St.szs,St.szs_map l];rfl
theorem P2 {α : Type} {f : α -> Nat} {x : α}:∀ {l:List α},x∈l->f x<=(l.map f).sum
 | a :: l,h=>by
  rw [List.map_cons,List.sum_cons];rcases List.mem_cons.1 h with rfl|h
  ·omega
  ·have:=P2 (f:=f) h;omega
theorem U2 {α : Type} {f : α -> Nat}:∀ {l:List α},(∀ x∈l,1<=f x)->l.length<=(l.map f).sum
 | [],h=>Nat.zero_le _
 | a :: l,h=>by
  have:=U2 (f:=f) (l:=l) fun x hx=>h x (List.mem_cons_of_mem _ hx);have:=h a List.mem_cons_self;rw [List.map_cons,List.sum_cons,List.length_cons];omega
theorem Ex.sz_pos (e:Ex):1<=e.sz:=by cases e with|mk k v n a p=>rw [Ex.sz];omega
theorem St.sz_pos (e:St):1<=e.sz:=by cases e with|mk k n t a x y p=>rw [St.sz];omega
theorem Ex.sz_arg {e x:Ex} (h:x∈e.args):x.sz<e.sz:=by
 cases e with|mk k v n a p =>
 have:=P2 (f:=Ex.sz) h;rw [Ex.sz,Ex.szs_map];have h':(Ex.mk k v n a p).args=a:=rfl;rw [h'] at this;omega
theorem Ex.sz_name (e:Ex):e.name.length<e.sz:=by
 cases e with|mk k v n a p=>rw [Ex.sz];show n.length<_;omega
theorem Ex.sz_args (e:Ex):e.args.length<e.sz:=by
 cases e with|mk k v n a p =>
 have:=U2 (f:=Ex.sz) (l:=a) fun x _=>x.sz_pos;rw [Ex.sz,Ex.szs_map];show a.length<_;omega
theorem St.sz_name (e:St):e.name.length<e.sz:=by
 cases e with|mk k n t a x y p=>rw [St.sz];show n.length<_;omega
theorem St.sz_text (e:St):e.text.length<e.sz:=by
 cases e with|mk k n t a x y p=>rw [St.sz];show t.length<_;omega
theorem St.sz_thn (e:St):St.szs e.thn<e.sz:=by
 cases e with|mk k n t a u w p=>rw [St.sz];show St.szs u<_;omega
theorem St.sz_els (e:St):St.szs e.els<e.sz:=by
 cases e with|mk k n t a u w p=>rw [St.sz];show St.szs w<_;omega
theorem St.szs_len (l:List St):l.length<=St.szs l:=by rw [St.szs_map];exact U2 fun x _=>x.sz_pos
theorem St.szs_mem {l:List St} {x:St} (h:x∈l):x.sz<=St.szs l:=by rw [St.szs_map];exact P2 h
theorem Ex.szs_mem {l:List Ex} {x:Ex} (h:x∈l):x.sz<=Ex.szs l:=by rw [Ex.szs_map];exact P2 h
theorem Ex.szs_len (l:List Ex):l.length<=Ex.szs l:=by rw [Ex.szs_map];exact U2 fun x _=>x.sz_pos
theorem F7 (s:List UInt8):(F0 s).length=1:=by unfold F0;split<;>rfl
theorem T1 (n:Int):(A0v n).length=1:=by unfold A0v;split<;>rfl
theorem A0r (s:List UInt8):(A2p s).length=1:=by unfold A2p;split<;>rfl
theorem A0t (q:Int × List Tok) (n:Int):q.2.length<=(N8 q n).length/\(N8 q n).length<=q.2.length+2:=by
 unfold N8;split
 ·simp only [List.length_append,List.length_singleton];omega
 ·omega
theorem A3k:∀ l:List Ex,exTs l=l.map fun e=>(e.kind,exT e)
 | []=>rfl
 | e :: l=>by rw [exTs,A3k l];rfl
set_option maxHeartbeats 2000000 in
theorem buildT_len {k v:Int} {n:List UInt8} {as1:List (Int × List Tok)}:1<=(G5 k v n as1).length/\(G5 k v n as1).length<=5+(as1.map fun q=>q.2.length).sum:=by
 unfold G5
 match as1 with
 | [] =>
  dsimp only;repeat' split
  all_goals simp only [List.length_append,List.length_singleton,F7,T1]
  all_goals omega
 | [q] =>
  have:=A0t q 6;dsimp only;repeat' split
  all_goals simp only [List.length_append,List.length_singleton,F7,T1,List.map_cons,List.map_nil,List.sum_cons,List.sum_nil]
  all_goals omega
 | [q,r] =>
  have h1:=A0t q (if C6 k=3 then 4 else C6 k);have h2:=A0t r (C6 k+1);dsimp only;generalize N8 q (if C6 k=3 then 4 else C6 k)=A at h1 ⊢;generalize N8 r (C6 k+1)=B at h2 ⊢;generalize B8 (C0.getD (k-12).toNat [])=W;generalize C6 k=lv;repeat' split
  all_goals simp only [List.length_append,List.length_singleton,F7,T1,List.map_cons,List.map_nil,List.sum_cons,List.sum_nil]
  all_goals omega
 | q :: r :: w :: l =>
  dsimp only;repeat' split
  all_goals simp only [List.length_append,List.length_singleton,F7,T1]
  all_goals omega
theorem A6m:∀ e:Ex,1<=(exT e).length/\(exT e).length<=5 * e.sz
 | .mk k v n a p=>by
  have ih:∀ x∈a,(exT x).length<=5 * x.sz:=fun x hx=>(A6m x).2;have h:=buildT_len (k:=k) (v:=v) (n:=n) (as1:=exTs a);rw [exT];refine ⟨h.1,?_⟩;have h2:((exTs a).map fun q=>q.2.length).sum<=5 * Ex.szs a:=by
   rw [A3k,List.map_map,Ex.szs_map];clear h
   induction a with
   | nil=>simp
   | cons x l ihl =>
    have h1:=ih x List.mem_cons_self;have h2:=ihl fun y hy=>ih y (List.mem_cons_of_mem _ hy);simp only [List.map_cons,List.sum_cons,Function.comp] at h2 ⊢;omega
  rw [Ex.sz];omega
theorem agT_le (l:List Ex) (i:Nat):1<=(agT l i).length/\(agT l i).length<=1+5 * Ex.szs l:=by
 unfold agT;cases h:l[i]? with
 | none=>exact ⟨Nat.le_refl _,by show 1<=_;omega⟩
 | some e =>
  have h1:=A6m e;have h2:=Ex.szs_mem (List.mem_of_getElem? h);dsimp only;omega
mutual
theorem A1z:∀ s:St,1<=(stT s).length/\(stT s).length<=11 * s.sz
 | .mk k n t a x y p=>by
  have h0:=agT_le a 0;have h1:=agT_le a 1;have hx:=V8 x;have hy:∀ l,l=y->(Y0 l).length<=11 * St.szs l:=fun l h=>by subst h;exact V8 l
  have hq:∀ q,y=[q]->(stT q).length<=11 * q.sz:=fun q h=>by subst h;exact (A1z q).2
  rw [St.sz];unfold stT;dsimp only;generalize agT a 0=A at h0 ⊢;generalize agT a 1=B at h1 ⊢;generalize Y0 x=X at hx ⊢;generalize B8 (B3.getD (k-2).toNat [])=W
  match y,hy,hq with
  | [],hy,hq =>
   dsimp only;rw [St.szs];repeat' split
   all_goals simp only [List.length_append,List.length_singleton,F7,A0r]
   all_goals omega
  | [q],hy,hq =>
   have hq:=hq q rfl;dsimp only;rw [St.szs,St.szs];generalize stT q=Q at hq ⊢;repeat' split
   all_goals simp only [List.length_append,List.length_singleton,F7,A0r]
   all_goals omega
  | q :: q2 :: r,hy,hq =>
   have hy:=hy _ rfl;dsimp only;generalize Y0 (q :: q2 :: r)=Y at hy ⊢;generalize St.szs (q :: q2 :: r)=z at hy ⊢;repeat' split
   all_goals simp only [List.length_append,List.length_singleton,F7,A0r]
   all_goals omega
theorem V8:∀ l:List St,(Y0 l).length<=11 * St.szs l
 | []=>Nat.zero_le _
 | s :: l=>by
  have h1:=A1z s;have h2:=V8 l;rw [Y0,St.szs,List.length_append];omega
end
theorem A6o (l:List St):1<=(blT l).length/\(blT l).length<=11 * St.szs l+2:=by
 have:=V8 l;unfold blT;simp only [List.length_append,List.length_singleton];omega
theorem dcT_len (d:Dc):1<=(dcT d).length/\(dcT d).length<=6:=by
 unfold dcT;dsimp only;generalize B8 (C4.getD (d.kind-1).toNat [])=W;repeat' split
 all_goals simp only [List.length_append,List.length_singleton,F7,T1]
 all_goals (first|omega|simp)
theorem hdT_len (h:Hd):1<=(hdT h).length/\(hdT h).length<=11 * h.sz:=by
 have:=A6o h.body;unfold hdT Hd.sz;generalize B8 (C7.getD (h.trig-1).toNat [])=W;split
 ·simp only [List.length_append,List.length_cons,List.length_nil,F7];omega
 ·simp only [List.length_append,List.length_cons,List.length_nil];omega
theorem A2f {α : Type} {f : α -> List Tok} {g : α -> Nat} {c:Nat}:∀ {l:List α},(∀ x∈l,(f x).length<=c * g x)->(l.flatMap f).length<=c * (l.map g).sum
 | [],_=>by simp
 | a :: l,h=>by
  have h1:=h a List.mem_cons_self;have h2:=A2f (l:=l) fun x hx=>h x (List.mem_cons_of_mem _ hx);rw [List.flatMap_cons,List.length_append,List.map_cons,List.sum_cons,Nat.mul_add];omega
theorem mdT_len (m:Md):1<=(mdT m).length/\(mdT m).length<=11 * m.sz:=by
 have:=A2f (l:=m.hds) (f:=hdT) (g:=Hd.sz) (c:=11) fun x _=>(hdT_len x).2;unfold mdT Md.sz;simp only [List.length_append,List.length_singleton,F7,T1];omega
theorem ruT_len (r:Ru):(ruT r).length<=11 * r.sz+1/\(r.decls.flatMap dcT++r.modes.flatMap mdT).length<=11 * r.sz:=by
 have h1:=A2f (l:=r.decls) (f:=dcT) (g:=Dc.sz) (c:=11) fun x _=>by have:=dcT_len x;unfold Dc.sz;omega
 have h2:=A2f (l:=r.modes) (f:=mdT) (g:=Md.sz) (c:=11) fun x _=>(mdT_len x).2;have h3:(r.decls.flatMap dcT++r.modes.flatMap mdT).length<=11 * r.sz:=by
  unfold Ru.sz;rw [List.length_append];omega
 refine ⟨?_,h3⟩;unfold ruT;split
 ·show 1<=_;omega
 ·omega
end Go.Pb
namespace Go.Pb
variable [Go.Sym.Tab]
open Go.Sym
section
variable {L:List Tok} {E:Int}
theorem name_le {s:List UInt8} (h:C1 s=true):s.length<=12:=by
 unfold C1 at h;simp only [Bool.and_eq_true,decide_eq_true_eq] at h;exact h.1.1.1.2
theorem take_nm (hG:∀ t∈L,A0m t) {s:Rd}:(A7 L E s 1).1.text.length<=12:=by
 cases h:F8 L E s 1 with
 | false=>unfold A7;rw [if_pos h];exact Nat.zero_le _
 | true =>
  unfold A7;rw [if_neg (by rw [h];decide)];exact name_le ((hG _ (H3 (by decide) (J8 h).2).1).1 (J8 h).2)
theorem prim_sz (hG:∀ t∈L,A0m t) {s:Rd}:(K1 L E s).1.sz+13 * s.i<=13 * (K1 L E s).2.i+1:=by
 have hge:=prim_ge (L:=L) (E:=E) (s:=s);have h2:(B5 L E { s with ops:=s.ops+1 } (s.ops+1) 32 9).i=s.i:=Q4;unfold K1 at hge ⊢;dsimp only at hge ⊢;split
 ·rename_i hc;rw [if_pos hc] at hge;show 1+0+0+_<=_;have:s.i<=(L8 L E s).i:=hge;show 1+0+0+13 * s.i<=13 * (L8 L E s).i+1;omega
 ·rename_i hc;rw [if_neg hc] at hge;split
  ·show 1+0+0+13 * s.i<=13 * (B5 L E { s with ops:=s.ops+1 } (s.ops+1) 32 9).i+1;omega
  ·have h3:(B1 (B5 L E { s with ops:=s.ops+1 } (s.ops+1) 32 9)).i=s.i+1:=by show (B5 L E { s with ops:=s.ops+1 } (s.ops+1) 32 9).i+1=_;rw [h2]
   generalize B1 (B5 L E { s with ops:=s.ops+1 } (s.ops+1) 32 9)=s3 at h3;have h4:=K3 (L:=L) (E:=E) (s:=s3) (x:=1);have h5:=take_nm (L:=L) (E:=E) hG (s:=s3);split
   ·split
    ·show 1+(A7 L E s3 1).1.text.length+0+13 * s.i<=13 * (A7 L E s3 1).2.i+1;omega
    ·show 1+0+0+13 * s.i<=13 * s3.i+1;omega
   ·rename_i hk;split
    ·show 1+0+0+13 * s.i<=13 * s3.i+1;omega
    ·rename_i hk3;have h1k:F8 L E s 1=true:=by
      cases hz:F8 L E s 1 with
      | true=>rfl
      | false =>
       refine absurd ⟨by omega,?_,hz⟩ hc;cases hy:F8 L E s 3 with
       | false=>rfl
       | true=>exact absurd (J8 hy).2 hk3
     have:=name_le ((hG _ (H3 (by decide) (J8 h1k).2).1).1 (J8 h1k).2);show 1+(A4 L E s).text.length+0+13 * s.i<=13 * s3.i+1;omega
theorem EZ.all (hG:∀ t∈L,A0m t):∀ f:Nat,(∀ n s r,E3 L E f n s=some r->r.1.sz+13 * s.i<=13 * r.2.i+1)/\(∀ n e s r,J6 L E f n e s=some r->r.1.sz+13 * s.i<=13 * r.2.i+e.sz)/\(∀ s r,K6 L E f s=some r->r.1.sz+13 * s.i<=13 * r.2.i+1)
 | 0=>⟨fun n s r h=>by simp [E3] at h,fun n e s r h=>by simp [J6] at h,fun s r h=>by simp [K6] at h⟩
 | f+1=>by
  obtain ⟨i1,i2,i3⟩:=EZ.all hG f;refine ⟨fun n s r h=>?_,fun n e s r h=>?_,fun s r h=>?_⟩
  ·unfold E3 at h;split at h
   ·exact i3 _ _ h
   ·split at h
    ·cases h
    ·rename_i hb;have h1:=i1 _ _ _ hb;have h2:=i2 _ _ _ _ h;dsimp only at h1;omega
  ·unfold J6 at h;dsimp only at h;split at h
   ·cases h;dsimp only;omega
   ·split at h
    ·cases h
    ·rename_i x s1 hb;have h1:=i1 _ _ _ hb;have h1:x.sz+13 * (s.i+1)<=13 * s1.i+1:=h1;have h3:(Ex.mk (12+B4 L E s C0) 0 [] [e,x] (A4 L E s).pos).sz=1+e.sz+x.sz:=by rw [Ex.sz,Ex.szs,Ex.szs,Ex.szs];simp;omega
     split at h
     ·cases h;rw [h3];show 1+e.sz+x.sz+13 * s.i<=13 * s1.i+e.sz;omega
     ·have h2:=i2 _ _ _ _ h;rw [h3] at h2;omega
  ·unfold K6 at h;dsimp only at h;split at h
   ·cases h;exact prim_sz hG
   ·split at h
    ·cases h;show 1+0+0+13 * s.i<=13 * (B5 L E s (s.par+1) 16 50).i+1;rw [Q4];omega
    ·rename_i hl;have hl:okR (B5 L E s (s.par+1) 16 50)=true:=by simpa using hl
     obtain ⟨-, -,h3⟩:=O6 (by decide) hl;rw [h3] at h;split at h
     ·split at h
      ·cases h
      ·rename_i e s3 hb;cases h;have h1:=i1 _ _ _ hb;have h1:e.sz+13 * (s.i+1)<=13 * s3.i+1:=h1;have h2:=F1 (L:=L) (E:=E) (s:=s3) (x:=[41]);show e.sz+13 * s.i<=13 * (C2 L E s3 [41]).i+1;omega
     ·split at h
      ·cases h
      ·rename_i e s3 hb;cases h;have h1:=i3 _ _ hb;have h1:e.sz+13 * (s.i+1)<=13 * s3.i+1:=h1;have h4:(Ex.mk (10+B4 L E s R0) 0 [] [e] (A4 L E s).pos).sz=1+e.sz:=by rw [Ex.sz,Ex.szs,Ex.szs];simp
       rw [h4];show 1+e.sz+13 * s.i<=13 * s3.i+1;omega
theorem expn_sz (hG:∀ t∈L,A0m t) {f:Nat} {s:Rd} {r:Ex × Rd} (h:E6 L E f s=some r):r.1.sz+13 * s.i<=13 * r.2.i+1:=(EZ.all hG f).1 1 { s with ops:=0,par:=0 } r h
end
end Go.Pb
namespace Go.Pb
variable [Go.Sym.Tab]
open Go.Sym
section
variable {L:List Tok} {E:Int}
end
theorem xpnF_sz {L:List Tok} {E:Int} (hG:∀ t∈L,A0m t):(xpnF L E).1.sz<=13 * L.length+1:=by
 obtain ⟨f,hf⟩:=(xpnF_e L E).get;have h1:=expn_sz hG hf;have h2:=expn_i hf (show rd0.i<=L.length from Nat.zero_le _);omega
theorem parE_sz (s:List UInt8):(J3 s).1.sz<=300000:=by
 have e0:Ex0.sz=1:=by unfold Ex0;rw [Ex.sz,Ex.szs];rfl
 unfold J3;dsimp only;split
 ·show Ex0.sz<=_;omega
 ·rename_i h;have h:(B9 s).2.2=0:=by simpa using h
  have h1:=A5s h;have h2:=xpnF_sz (E:=s.length) (scanT_good h);split
  ·split
   ·show Ex0.sz<=_;omega
   ·dsimp only;omega
  ·split
   ·show Ex0.sz<=_;omega
   ·dsimp only;omega
end Go.Pb
namespace Go.Pb
variable [Go.Sym.Tab]
open Go.Sym
def hd0 (E:Int) (ts:List Tok):Tok:=ts.headD ⟨0,[],0,E⟩
section
variable {L:List Tok} {E:Int}
theorem ms_inv {k v:Int} {n:List UInt8} {a:List Ex} {p:Int} {o d:Nat} (h:msM (.mk k v n a p)=some (o,d)) :
  kOk k=true/\a.length=I4 k/\A0a k n=true/\A2j k v=true/\(I4 k=0->o=1/\d=0)/\(I4 k≠0->∃ d',msL k 0 a=some (o,d')/\d=if I4 k=1 then d'+1 else d'):=by
 unfold msM at h;split at h
 ·cases h
 ·rename_i hc;have h1:kOk k=true:=by cases hz:kOk k with|true=>rfl|false=>exact absurd (.inl hz) hc
  have h2:a.length=I4 k:=Classical.byContradiction fun hz=>hc (.inr (.inl hz));have h3:A0a k n=true:=by cases hz:A0a k n with|true=>rfl|false=>exact absurd (.inr (.inr (.inl hz))) hc
  have h4:A2j k v=true:=by cases hz:A2j k v with|true=>rfl|false=>exact absurd (.inr (.inr (.inr hz))) hc
  refine ⟨h1,h2,h3,h4,?_,?_⟩
  ·intro h0;rw [if_pos h0] at h;cases h;exact ⟨rfl,rfl⟩
  ·intro h0;rw [if_neg h0] at h;split at h
   ·cases h
   ·rename_i o' d' hm;cases h;exact ⟨d',hm,rfl⟩
end
end Go.Pb
namespace Go.Pb
variable [Go.Sym.Tab]
open Go.Sym
mutual
theorem ms_le:∀ (e:Ex) (o d:Nat),msM e=some (o,d)->o<=e.sz/\d+1<=2 * e.sz
 | .mk k v n a p,o,d,h=>by
  have hs:(Ex.mk k v n a p).sz=1+n.length+Ex.szs a:=by rw [Ex.sz]
  obtain ⟨h1,h2,h3,h4,h5,h6⟩:=ms_inv h;by_cases hc:I4 k=0
  ·obtain ⟨rfl,rfl⟩:=h5 hc;omega
  ·obtain ⟨d',hl,hd⟩:=h6 hc;have:=msL_le k 0 a o d' hl;rw [hd];split<;>omega
theorem msL_le:∀ (k:Int) (i:Nat) (l:List Ex) (o d:Nat),msL k i l=some (o,d)->o<=Ex.szs l/\d<=2 * Ex.szs l
 | k,i,[],o,d,h=>by simp [msL] at h;omega
 | k,i,e :: l,o,d,h=>by
  rw [msL] at h;have hs:Ex.szs (e :: l)=e.sz+Ex.szs l:=by rw [Ex.szs]
  have hp:=e.sz_pos;cases he:msM e with
  | none=>rw [he] at h;cases h
  | some q =>
   obtain ⟨o1,d1⟩:=q;have h1:=ms_le e o1 d1 he;rw [he] at h;dsimp only at h;cases hl:msL k (i+1) l with
   | none=>rw [hl] at h;cases h
   | some q2 =>
    obtain ⟨o2,d2⟩:=q2;have h2:=msL_le k (i+1) l o2 d2 hl;rw [hl] at h;dsimp only at h;have h3:=Option.some.inj h;have h4:o1+o2=o:=congrArg Prod.fst h3;have h5:max (if V3 k e.kind i=true then d1+1 else d1) d2=d:=congrArg Prod.snd h3;rw [hs];split at h5<;>omega
end
def msV:Option (Nat × Nat)->DV
 | none=>.tup [I64 0,I64 0,.bool false]
 | some (o,d)=>.tup [I64 o,I64 d,.bool true]
theorem msV_nl (q:Option (Nat × Nat)):(msV q).nl=true:=by cases q<;>rfl
theorem msL_drop {k:Int} {a:List Ex} {i:Nat} {x:Ex} (h:a[i]? = some x):msL k i (a.drop i)=match msM x with
  | none=>none
  | some (o,d)=>match msL k (i+1) (a.drop (i+1)) with
   | none=>none
   | some (o2,d2)=>some (o+o2,max (if V3 k x.kind i=true then d+1 else d) d2):=by
 have hlt:=(List.getElem?_eq_some_iff.1 h).1;rw [List.drop_eq_getElem_cons hlt,(List.getElem?_eq_some_iff.1 h).2,msL];try rfl
end Go.Pb
namespace Go.Pb
variable [Go.Sym.Tab]
open Go.Sym
def K7:List (List UInt8)->List Int->Int->List UInt8
 | w :: ks,v :: vs,x=>if v=x then w else K7 ks vs x
 | _,_,_=>[]
theorem A2d:∀ {ks:List (List UInt8)} {vs:List Int} {x:Int} {i:Nat} {w:List UInt8},vs.Nodup->ks[i]? = some w->vs[i]? = some x->K7 ks vs x=w
 | a :: ks,b :: vs,x,0,w,hn,h1,h2=>by simp at h1 h2;simp [K7,h1,h2]
 | a :: ks,b :: vs,x,i+1,w,hn,h1,h2=>by
  simp only [List.getElem?_cons_succ] at h1 h2;have hne:b≠x:=fun e=>(List.nodup_cons.1 hn).1 (e▸List.mem_of_getElem? h2);rw [K7,if_neg hne];exact A2d (List.nodup_cons.1 hn).2 h1 h2
 | [],_,_,_,_,_,h1,_=>by simp at h1
 | _ :: _,[],_,_,_,_,_,h2=>by simp at h2
theorem A6g:∀ {ks:List (List UInt8)} {vs:List Int} {x:Int},(∀ (i:Nat) (v:Int),i<ks.length->vs[i]? = some v->v≠x)->K7 ks vs x=[]
 | [],_,_,_=>by unfold K7;rfl
 | _ :: _,[],_,_=>rfl
 | a :: ks,b :: vs,x,h=>by
  rw [K7,if_neg (h 0 b (by simp) rfl)];exact A6g fun i v hi hv=>h (i+1) v (by simpa using hi) (by simpa using hv)
def A2x (x:Int):List UInt8:=if x=10 then [45] else if x=11 then [33] else K7 C0 A3z x
def wrL (k q:Int) (i:Nat) (l:List (List UInt8)):List (List UInt8):=if V3 k q i=true then [40] :: (l++[[41]]) else l
def txT (l:List Tok):List (List UInt8):=l.map O3
theorem G4 (s:List UInt8):O3 (B8 s)=s:=by
 unfold O3 B8;dsimp only;repeat' split
 all_goals first|rfl|omega|simp_all
theorem C9 (a b:List Tok):txT (a++b)=txT a++txT b:=List.map_append
theorem A5n {k q m:Int} {i:Nat} {l:List Tok} (h:V3 k q i=decide (C6 q<m)):txT (N8 (q,l) m)=wrL k q i (txT l):=by
 unfold N8 wrL;rw [h];dsimp only;by_cases hc:C6 q<m
 ·rw [if_pos hc,if_pos (by simpa using hc),C9,C9];simp [txT,G4]
 ·rw [if_neg hc,if_neg (by simpa using hc)]
theorem A3l (k v:Int) (n:List UInt8) (a:List Ex) (p:Int):exT (.mk k v n a p)=G5 k v n (a.map fun e=>(e.kind,exT e)):=by rw [<- A3k];exact exT.eq_1 ..
theorem tx_un {k v:Int} {n:List UInt8} {x:Ex} {p:Int} (hk:k=10\/k=11):txT (exT (.mk k v n [x] p))=A2x k :: wrL k x.kind 0 (txT (exT x)):=by
 have hw:V3 k x.kind 0=decide (C6 x.kind<6):=by
  unfold V3;rw [A6f hk];simp
 rw [A3l, <- A5n hw];rcases hk with rfl|rfl<;>simp [G5,txT,G4,A2x,A6f]
theorem wrp0 (k q:Int):V3 k q 0=decide (C6 q<if C6 k=3 then 4 else C6 k):=by
 rw [Bool.eq_iff_iff];simp only [V3,Bool.or_eq_true,Bool.and_eq_true,decide_eq_true_eq,beq_iff_eq,Nat.zero_ne_one,false_or];split<;>omega
theorem wrp1 (k q:Int):V3 k q 1=decide (C6 q<C6 k+1):=by
 rw [Bool.eq_iff_iff];simp only [V3,Bool.or_eq_true,Bool.and_eq_true,decide_eq_true_eq,beq_iff_eq,true_or,and_true];omega
theorem tx_bin {k v:Int} {n:List UInt8} {x y:Ex} {p:Int} (hk:C6 k<6):txT (exT (.mk k v n [x,y] p))=wrL k x.kind 0 (txT (exT x))++A2x k :: wrL k y.kind 1 (txT (exT y)):=by
 rw [A3l, <- A5n (wrp0 k x.kind), <- A5n (wrp1 k y.kind)];obtain ⟨k1,k2⟩:=lev_lt (k:=k) (by omega);have k3:12<=k:=by
  apply Classical.byContradiction;intro hc;have:k=10\/k=11:=by omega
  rw [A6f this] at hk;omega
 have hs:C0.getD (k-12).toNat []=A2x k:=by
  obtain ⟨j,rfl⟩:∃ j:Nat,k=12+(j:Int):=⟨(k-12).toNat,by omega⟩;have hj:j<13:=by omega
  have:∀ j:Nat,j<13->C0.getD (12+(j:Int)-12).toNat []=A2x (12+(j:Int)):=by decide
  exact this j hj
 simp only [List.map_cons,List.map_nil];unfold G5;dsimp only;rw [if_neg (by omega),if_neg (by omega),if_neg (by omega),if_neg (by omega),if_neg (by omega),if_neg (by omega),if_neg (by omega),if_neg (by omega),if_neg (by omega),if_pos hk,C9,C9,hs];simp [txT,G4]
theorem tx_leaf {k v:Int} {n:List UInt8} {p:Int} (hk:C6 k=7) (h0:kOk k=true) (h1:A0a k n=true) (h2:A2j k v=true) :
  txT (exT (.mk k v n [] p))=if k=1 then [O8 v] else if k=2 then [n] else K7 E5 F2 k :: (if Z1 k=true then [n] else []):=by
 have hr:1<=k/\k<=9:=by
  unfold kOk at h0;simp only [hk,Int.lt_irrefl,decide_false,Bool.false_or,Bool.and_eq_true,decide_eq_true_eq] at h0;refine ⟨h0.1,Classical.byContradiction fun hc=>?_⟩;have:C6 k<7:=by unfold C6;repeat' split;all_goals omega
  omega
 rw [A3l];have hk9:k=1\/k=2\/k=3\/k=4\/k=5\/k=6\/k=7\/k=8\/k=9:=by omega
 rcases hk9 with rfl|rfl|rfl|rfl|rfl|rfl|rfl|rfl|rfl
 ·have hv:¬ (v<0\/2147483647<v):=by
   unfold A2j at h2;simp at h2;omega
  simp [G5,A0v,hv,txT,O3]
 ·have hn:C1 n=true:=by simpa [A0a] using h1
  simp [G5,F0,hn,txT,O3]
 ·simp [G5,txT,G4,K7,E5,F2,Z1]
 ·simp [G5,txT,G4,K7,E5,F2,Z1]
 ·have hn:C1 n=true:=by simpa [A0a,Z1] using h1
  simp [G5,txT,G4,K7,E5,F2,Z1,F0,hn];rfl
 ·have hn:C1 n=true:=by simpa [A0a,Z1] using h1
  simp [G5,txT,G4,K7,E5,F2,Z1,F0,hn];rfl
 ·have hn:C1 n=true:=by simpa [A0a,Z1] using h1
  simp [G5,txT,G4,K7,E5,F2,Z1,F0,hn];rfl
 ·simp [G5,txT,G4,K7,E5,F2,Z1]
 ·simp [G5,txT,G4,K7,E5,F2,Z1]
theorem msL_some {k:Int}:∀ {a:List Ex} {j o d:Nat},msL k j a=some (o,d)->∀ x∈a, ∃ o d,msM x=some (o,d)
 | [],_,_,_,_,x,hx=>by cases hx
 | e :: l,j,o,d,h,x,hx=>by
  unfold msL at h;split at h
  ·cases h
  ·rename_i o1 d1 h1;split at h
   ·cases h
   ·rename_i o2 d2 h2;rcases List.mem_cons.1 hx with rfl|hx
    ·exact ⟨_,_,h1⟩
    ·exact msL_some h2 x hx
theorem I9 {s:List UInt8} (h:s.length<=100000):Fit (B8 s):=⟨h,by show -9223372036854775808<=(0:Int);decide,by show (0:Int)<=9223372036854775807;decide⟩
theorem A5a:Fit P1:=⟨Nat.zero_le _,by show -9223372036854775808<=(0:Int);decide,by show (0:Int)<=9223372036854775807;decide⟩
theorem X5 (n:List UInt8):∀ t∈F0 n,Fit t:=by
 intro t ht;unfold F0 at ht;split at ht
 ·obtain rfl:=List.mem_singleton.1 ht;exact A5a
 ·rename_i hn;obtain rfl:=List.mem_singleton.1 ht;refine ⟨?_,by show -9223372036854775808<=(0:Int);decide,by show (0:Int)<=9223372036854775807;decide⟩;have h1:C1 n=true:=by cases h:C1 n with|true=>rfl|false=>exact absurd h hn
  unfold C1 at h1;simp only [Bool.and_eq_true,decide_eq_true_eq] at h1;show n.length<=100000;omega
theorem fit_num (v:Int):∀ t∈A0v v,Fit t:=by
 intro t ht;unfold A0v at ht;split at ht
 ·obtain rfl:=List.mem_singleton.1 ht;exact A5a
 ·obtain rfl:=List.mem_singleton.1 ht;exact ⟨Nat.zero_le _,by dsimp only;omega,by dsimp only;omega⟩
theorem A3i {q:Int × List Tok} {m:Int} (h:∀ t∈q.2,Fit t):∀ t∈N8 q m,Fit t:=by
 intro t ht;unfold N8 at ht;split at ht
 ·simp only [List.mem_append,List.mem_singleton] at ht;rcases ht with (rfl|ht)|rfl
  ·exact I9 (by decide)
  ·exact h t ht
  ·exact I9 (by decide)
 ·exact h t ht
theorem X6 {a b:List Tok} (h1:∀ t∈a,Fit t) (h2:∀ t∈b,Fit t):∀ t∈a++b,Fit t:=fun t ht=>by
 rcases List.mem_append.1 ht with h|h
 ·exact h1 t h
 ·exact h2 t h
theorem J4 {x:Tok} (h:Fit x):∀ t∈[x],Fit t:=fun t ht=>by obtain rfl:=List.mem_singleton.1 ht;exact h
theorem fit_build {k v:Int} {n:List UInt8} {as1:List (Int × List Tok)} (h:∀ q∈as1, ∀ t∈q.2,Fit t):∀ t∈G5 k v n as1,Fit t:=by
 have hsg:∀ i:Nat,(C0.getD i []).length<=100000:=fun i=>by
  by_cases hi:i<13
  ·have:∀ i:Nat,i<13->(C0.getD i []).length<=100000:=by decide
   exact this i hi
  ·rw [List.getD_eq_getElem?_getD,List.getElem?_eq_none (by show 13<=i;omega)];simp
 have fin:∀ t∈(match as1 with
  | [q]=>if C6 k=6 then [B8 (if k=10 then [45] else [33])]++N8 q 6 else [P1]
  | [q,r]=>if C6 k<6 then N8 q (if C6 k=3 then 4 else C6 k)++[B8 (C0.getD (k-12).toNat [])]++N8 r (C6 k+1) else [P1]
  | _=>[P1]),Fit t:=by
  match as1 with
  | [q] =>
   dsimp only;split
   ·refine X6 (J4 (I9 (by split<;>decide))) (A3i (h q (by simp)))
   ·exact J4 A5a
  | [q,r] =>
   dsimp only;split
   ·exact X6 (X6 (A3i (h q (by simp))) (J4 (I9 (hsg _)))) (A3i (h r (by simp)))
   ·exact J4 A5a
  | []=>exact J4 A5a
  | _ :: _ :: _ :: _=>exact J4 A5a
 unfold G5;dsimp only;by_cases k1:k=1
 ·rw [if_pos k1];exact fit_num v
 rw [if_neg k1];by_cases k2:k=2
 ·rw [if_pos k2];exact X5 n
 rw [if_neg k2];by_cases k3:k=3
 ·rw [if_pos k3];exact J4 (I9 (by decide))
 rw [if_neg k3];by_cases k4:k=4
 ·rw [if_pos k4];exact J4 (I9 (by decide))
 rw [if_neg k4];by_cases k8:k=8
 ·rw [if_pos k8];exact J4 (I9 (by decide))
 rw [if_neg k8];by_cases k9:k=9
 ·rw [if_pos k9];exact J4 (I9 (by decide))
 rw [if_neg k9];by_cases k5:k=5
 ·rw [if_pos k5];exact X6 (J4 (I9 (by decide))) (X5 n)
 rw [if_neg k5];by_cases k6:k=6
 ·rw [if_pos k6];exact X6 (J4 (I9 (by decide))) (X5 n)
 rw [if_neg k6];by_cases k7:k=7
 ·rw [if_pos k7];exact X6 (J4 (I9 (by decide))) (X5 n)
 rw [if_neg k7];exact fin
theorem fit_exT:∀ (e:Ex), ∀ t∈exT e,Fit t:=by
 have:∀ (m:Nat) (e:Ex),e.sz<m->∀ t∈exT e,Fit t:=by
  intro m
  induction m with
  | zero=>intro e h;omega
  | succ m ih =>
   rintro ⟨k,v,n,a,p⟩ hm;rw [A3l];refine fit_build fun q hq=>?_;obtain ⟨x,hx,rfl⟩:=List.mem_map.1 hq;exact ih x (by have:=Ex.sz_arg (e:=.mk k v n a p) hx;omega)
 exact fun e=>this _ e (Nat.lt_succ_self _)
end Go.Pb
namespace Go.Proofs.YthlpinppaclofaaGreatDoor
open Go.Eng (IC IOper DReg IFn G0)
open Go.Sym Go.Pb
theorem c_wordOf (x:Int):PC Tryz.prog 154 [I64 x] (.str (K7 B3 Q9 x)):=by
 refine PC.ofT A9 rfl (Nat.le_of_ble_eq_true rfl) rfl rfl ?_;repeat' ((with_reducible first|refine E1 (p:=IW _ _ (pz Tryz.prog 154 (.o (.o .h))) _ _) ?_|refine wr ?_|refine A2 ?_ ?_|fail)<;>try simp only [go_sem,seval])
 unfold W7;refine A6k c_stms (σ := Unit) (fun _=>[(0,I64 x)]) (fun _=>nil) (fun D _ _ => ∀ i∈D, ∀ v,Q9[i]? = some v->v≠x) () (by decide) (fun _=>rfl) ⟨rfl,trivial⟩ (Sub.refl _) (fun i hi=>by cases hi) ?_ ?_
 ·intro D _ c hJ hall;repeat' ((with_reducible first|refine wr ?_|refine A2 ?_ ?_|fail)<;>try simp only [go_sem,seval])
  rw [A6g fun i v hi hv=>hJ i (hall i (by simpa using hi)) v hv];exact A5 rfl
 ·rintro it D _ c i kk vv hJ hDn hDb hiD hk hv;rw [List.getElem?_map,Option.map_eq_some_iff] at hk hv;obtain ⟨w,hw,rfl⟩:=hk;obtain ⟨u,hu,rfl⟩:=hv;by_cases hx:u=x
  ·subst hx;repeat' ((with_reducible first|refine wr ?_|refine A2 ?_ ?_|fail)<;>try simp only [go_sem,seval])
   rw [A2d (by decide) hw hu];exact A5 rfl
  ·have hx':(u == x)=false:=by simpa using hx
   repeat' ((with_reducible first|refine wr ?_|refine A2 ?_ ?_|fail)<;>try simp only [go_sem,seval,hx'])
   refine ⟨(),Sub.refl _,inv (I:=fun _ _=>_) (b:=()) (c:=c) fun j hj v hv'=>?_⟩;rcases List.mem_cons.1 hj with rfl|hj
   ·rw [hu] at hv';cases hv';exact hx
   ·exact hJ j hj v hv'
theorem c_signOf (x:Int):PC Tryz.prog 113 [I64 x] (.str (A2x x)):=by
 refine PC.ofT A9 rfl (Nat.le_of_ble_eq_true rfl) rfl rfl ?_;by_cases h10:x=10
 ·subst h10;repeat' ((with_reducible first|refine wr ?_|refine A2 ?_ ?_|fail)<;>try simp only [go_sem,seval])
  exact A5 rfl
 by_cases h11:x=11
 ·subst h11;repeat' ((with_reducible first|refine wr ?_|refine A2 ?_ ?_|fail)<;>try simp only [go_sem,seval])
  exact A5 rfl
 have e10:(x == 10)=false:=by simpa using h10
 have e11:(x == 11)=false:=by simpa using h11
 rw [A2x,if_neg h10,if_neg h11];repeat' ((with_reducible first|refine E1 (p:=IW _ _ (pz Tryz.prog 113 (.i (.o (.i (.o .h))))) _ _) ?_|refine wr ?_|refine A2 ?_ ?_|fail)<;>try simp only [go_sem,seval,e10,e11])
 unfold W7;refine A6k c_ops (σ := Unit) (fun _=>[(0,I64 x)]) (fun _=>nil) (fun D _ _ => ∀ i∈D, ∀ v,A3z[i]? = some v->v≠x) () (by decide) (fun _=>rfl) ⟨rfl,trivial⟩ (Sub.refl _) (fun i hi=>by cases hi) ?_ ?_
 ·intro D _ c hJ hall;repeat' ((with_reducible first|refine wr ?_|refine A2 ?_ ?_|fail)<;>try simp only [go_sem,seval])
  rw [A6g fun i v hi hv=>hJ i (hall i (by simpa using hi)) v hv];exact A5 rfl
 ·rintro it D _ c i kk vv hJ hDn hDb hiD hk hv;rw [List.getElem?_map,Option.map_eq_some_iff] at hk hv;obtain ⟨w,hw,rfl⟩:=hk;obtain ⟨u,hu,rfl⟩:=hv;by_cases hx:u=x
  ·subst hx;repeat' ((with_reducible first|refine wr ?_|refine A2 ?_ ?_|fail)<;>try simp only [go_sem,seval])
   rw [A2d (by decide) hw hu];exact A5 rfl
  ·have hx':(u == x)=false:=by simpa using hx
   repeat' ((with_reducible first|refine wr ?_|refine A2 ?_ ?_|fail)<;>try simp only [go_sem,seval,hx'])
   refine ⟨(),Sub.refl _,inv (I:=fun _ _=>_) (b:=()) (c:=c) fun j hj v hv'=>?_⟩;rcases List.mem_cons.1 hj with rfl|hj
   ·rw [hu] at hv';cases hv';exact hx
   ·exact hJ j hj v hv'
theorem O7 {H:Hp} {i j:Nat}:U7 H (some i) j=if j=i then none else H j:=_root_.id rfl
theorem del_same {H:Hp} {i:Nat} {b:Blk}:U7 (H.upd i b) (some i)=U7 H (some i):=by
 funext j;rw [O7,O7];split
 ·rfl
 ·rename_i h;rw [A3 h]
theorem del_upd {H:Hp} {i k:Nat} {b:Blk} (h:¬ k=i):U7 (H.upd k b) (some i)=(U7 H (some i)).upd k b:=by
 funext j;rw [O7]
 by_cases e:j=k
 ·subst e;rw [A0,if_neg h,A0]
 ·rw [A3 e,A3 e,O7]
theorem del_nil {i:Nat}:U7 nil (some i)=nil:=by
 funext j;rw [O7];split<;>rfl
attribute [go_sem] del_same del_upd del_nil
theorem own_call {f:Nat} {xs:List DV} {r:DV} {u id n cc:Nat} {H:Hp} {cs:List DV} (h:PC Tryz.prog f [.lst xs] r) (hb:H id=some ⟨u,true,cs⟩) (hcs:cs=A6 xs) (hl:xs.length=n) (hu:∀ x∈xs,x.cells.length=u) :
  AC Tryz.prog f [.slc id 0 n] H cc (fun v H' c'=>v=r/\H'=U7 H (some id)/\c'=cc) :=
 AC.ghost (GL.frzS (id:=id) hb rfl (fun j=>by
  by_cases e:j=id
  ·subst e;exact .inl (by rw [O7,if_pos rfl])
  ·exact .inr ⟨e,by rw [O7,if_neg e]⟩) (.cons _ _ _ _ (I8 hl hu ⟨[],by rw [hcs];simp⟩) .nil)) (h.at _ cc)
end Go.Proofs.YthlpinppaclofaaGreatDoor
set_option maxHeartbeats 8000000
namespace Go.Proofs.YthlpinppaclofaaGreatDoor
open Go.Eng (IC IOper DReg IFn G0)
open Go.Sym Go.Pb
theorem exsEq_at (p:Bool):∀ (l l':List Ex) (k:Nat),l.length=l'.length->(Q6 p (l.take k) (l'.take k)=true)->∀ x x',l[k]? = some x->l'[k]? = some x'->Q6 p (l.take (k+1)) (l'.take (k+1))=A4f p x x'/\(A4f p x x'=false->Q6 p l l'=false)
 | [],_,k,_,_,x,x',h,_=>by simp at h
 | _ :: _,[],k,h,_,_,_,_,_=>by simp at h
 | a :: l,a' :: l',0,_,_,x,x',h,h'=>by
  cases h;cases h';refine ⟨?_,fun e=>?_⟩
  ·simp [Q6]
  ·rw [Q6,e];rfl
 | a :: l,a' :: l',k+1,hl,he,x,x',h,h'=>by
  rw [List.take_succ_cons,List.take_succ_cons,Q6,Bool.and_eq_true] at he;have ih:=exsEq_at p l l' k (by simpa using hl) he.2 x x' (by simpa using h) (by simpa using h');refine ⟨?_,fun e=>?_⟩
  ·rw [List.take_succ_cons,List.take_succ_cons,Q6,he.1,Bool.true_and];exact ih.1
  ·rw [Q6,ih.2 e,Bool.and_false]
theorem A5c (p:Bool):∀ (l l':List Ex),¬ l.length=l'.length->Q6 p l l'=false
 | [],[],h=>absurd rfl h
 | [],_ :: _,_=>rfl
 | _ :: _,[],_=>rfl
 | a :: l,a' :: l',h=>by rw [Q6,A5c p l l' (by simpa using h),Bool.and_false]
theorem c_sameEs (p:Bool) (l l':List Ex) (hl:l.length<=100000000000) (h:∀ x∈l, ∀ y,PC Tryz.prog 34 [x.v,y.v,.bool p] (.bool (A4f p x y))):PC Tryz.prog 72 [H7 l,H7 l',.bool p] (.bool (Q6 p l l')):=by
 refine PC.ofT A9 rfl (Nat.le_of_ble_eq_true rfl) (by simp [DV.nlL,DV.nl,A0b]) rfl ?_;by_cases hlen:l.length=l'.length
 ·have hd0:((l.length:Int) != (l'.length:Int))=false:=by simp [hlen]
  repeat' ((with_reducible first|refine wr ?_|refine A2 ?_ ?_|fail)<;>try simp only [go_sem,seval,hd0,List.length_map])
  refine F3 (fun k:Nat=>[(0,H7 l),(1,H7 l'),(2,.bool p),(7,I64 k)]) (fun _=>Sym.nil) (fun k c=>k<=l.length/\Q6 p (l.take k) (l'.take k)=true) (fun k=>l.length-k) 0 (by simp [D5,tm,Tm.upd]) (Sub.nil _) ⟨Nat.zero_le _,rfl⟩ ?_;rintro k c ⟨hk,he⟩;by_cases hlt:k<l.length
  ·have hd:decide ((k:Int)<(l.length:Int))=true:=by simpa using hlt
   have hg:=List.getElem?_eq_getElem hlt;have hg':=List.getElem?_eq_getElem (l:=l') (i:=k) (by omega);have hw:=w64 (n:=(k:Int)+1);have hc:=h _ (List.getElem_mem hlt) (l'[k]'(by omega));obtain ⟨s1,s2⟩:=exsEq_at p l l' k hlen he _ _ hg hg';generalize l[k]=x at hg hc s1 s2;generalize l'[k]'(by omega)=x' at hg' hc s1 s2;rw [Ex.v_w,Ex.v_w] at hc;cases hx:A4f p x x' with
   | true =>
    repeat' ((with_reducible first|refine wr ?_|refine cpc hc ?_|refine A2 ?_ ?_|fail)<;>try simp only [go_sem,seval,hd,hg,hg',hw,hx,Ex.v_w,List.length_map])
    exact ⟨k+1,by simp [D5,tm,Tm.upd],Sub.nil _,inv ⟨by omega,by rw [s1];exact hx⟩,by omega⟩
   | false =>
    repeat' ((with_reducible first|refine wr ?_|refine cpc hc ?_|refine A2 ?_ ?_|fail)<;>try simp only [go_sem,seval,hd,hg,hg',hw,hx,Ex.v_w,List.length_map])
    exact ⟨_,by rw [s2 hx];exact GL.refl _ _⟩
  ·have hd:decide ((k:Int)<(l.length:Int))=false:=by simpa using hlt
   rw [List.take_of_length_le (by omega),List.take_of_length_le (by omega)] at he;repeat' ((with_reducible first|refine wr ?_|refine A2 ?_ ?_|fail)<;>try simp only [go_sem,seval,hd,List.length_map])
   exact ⟨_,by rw [he];exact GL.refl _ _⟩
 ·have hd0:((l.length:Int) != (l'.length:Int))=true:=by simp;omega
  repeat' ((with_reducible first|refine wr ?_|refine A2 ?_ ?_|fail)<;>try simp only [go_sem,seval,hd0,List.length_map])
  exact ⟨_,by rw [A5c p l l' hlen];exact GL.refl _ _⟩
theorem c_sameE (p:Bool):∀ (m:Nat) (a b:Ex),a.sz<m->a.sz<=100000000000->PC Tryz.prog 34 [a.v,b.v,.bool p] (.bool (A4f p a b)):=by
 intro m
 induction m with
 | zero=>intro a b h;omega
 | succ m ih =>
 intro a b hm hB;have hs:=c_sameEs p a.args b.args (by have:=a.sz_args;omega) (fun x hx y=>ih x y (by have:=Ex.sz_arg hx;omega) (by have:=Ex.sz_arg hx;omega));have e0:A4f p a b=(a.kind == b.kind && (a.value == b.value && (a.name == b.name && ((p || a.pos == b.pos) && Q6 p a.args b.args)))):=by
  cases a with|mk k v n l q=>cases b with|mk k' v' n' l' q'=>rw [A4f];rfl
 refine PC.ofT A9 rfl (Nat.le_of_ble_eq_true rfl) (by simp [DV.nlL,DV.nl,Ex.nl]) rfl ?_;rw [Ex.v_w,Ex.v_w,e0];cases h1:a.kind == b.kind with
 | false =>
  repeat' ((with_reducible first|refine wr ?_|refine A2 ?_ ?_|fail)<;>try simp only [go_sem,seval,h1])
  exact ⟨_,GL.refl _ _⟩
 | true =>
  cases h2:a.value == b.value with
  | false =>
   repeat' ((with_reducible first|refine wr ?_|refine A2 ?_ ?_|fail)<;>try simp only [go_sem,seval,h1,h2])
   exact ⟨_,GL.refl _ _⟩
  | true =>
   cases h3:a.name == b.name with
   | false =>
    repeat' ((with_reducible first|refine wr ?_|refine A2 ?_ ?_|fail)<;>try simp only [go_sem,seval,h1,h2,h3])
    exact ⟨_,GL.refl _ _⟩
   | true =>
    cases hp:p with
    | true =>
     subst hp;repeat' ((with_reducible first|refine wr ?_|refine cpc hs ?_|refine A2 ?_ ?_|fail)<;>try simp only [go_sem,seval,h1,h2,h3])
     exact ⟨_,GL.refl _ _⟩
    | false =>
     subst hp;cases h4:a.pos == b.pos with
     | false =>
      repeat' ((with_reducible first|refine wr ?_|refine cpc hs ?_|refine A2 ?_ ?_|fail)<;>try simp only [go_sem,seval,h1,h2,h3,h4])
      exact ⟨_,GL.refl _ _⟩
     | true =>
      repeat' ((with_reducible first|refine wr ?_|refine cpc hs ?_|refine A2 ?_ ?_|fail)<;>try simp only [go_sem,seval,h1,h2,h3,h4])
      exact ⟨_,GL.refl _ _⟩
theorem c_IF_dc {g:Dc->Bool} {f:Nat} {a cs:List DV} (xs:List (Dc)) (hx:xs.length<=9223372036854775807) (na:DV.nlL a=true) (ncs:DV.nlL cs=true) (hf:∀ x∈xs,PC Tryz.prog f (a++[Dc.v x]++cs) (.bool (g x))) :
  PC Tryz.prog 90 [V6 xs,.func f a cs] (I64 (T4 g xs 0)):=by
 refine PC.ofT A9 rfl (Nat.le_of_ble_eq_true rfl) (by simp [DV.nlL,DV.nl,X2,na,ncs]) rfl ?_;repeat' ((with_reducible first|refine wr ?_|refine A2 ?_ ?_|fail)<;>try simp only [go_sem,seval,List.length_map])
 refine F3 (fun k:Nat=>[(0,V6 xs),(1,.func f a cs),(7,I64 xs.length),(8,I64 k)]) (fun _=>nil) (fun k _=>k<=xs.length/\T4 g xs 0=T4 g (xs.drop k) k) (fun k=>xs.length-k) 0 (by simp [D5,tm,Tm.upd]) (Sub.nil _) (by simp) ?_;rintro k c ⟨hk,he⟩;by_cases hlt:k<xs.length
 ·have hd:decide ((k:Int)<xs.length)=true:=by simpa using hlt
  have hg:=List.getElem?_eq_getElem hlt;have hw:=w64 (n:=(k:Int)+1);have hst:=X3 (g:=g) hg;have hc:=hf xs[k] (List.getElem_mem hlt);repeat' ((with_reducible first|refine wr ?_|refine cpc hc ?_|refine A2 ?_ ?_|refine wb2 ?_ ?_<;>(intro hb;try simp only [hb])|fail)<;>try simp only [go_sem,seval,hd,hg,hw])
  ·refine A5 ?_;rw [he,hst,hb];rfl
  ·exact ⟨k+1,rfl,Sub.refl _,inv ⟨by omega,by rw [he,hst,hb];rfl⟩,by omega⟩
 ·have hd:decide ((k:Int)<xs.length)=false:=by simpa using hlt
  repeat' ((with_reducible first|refine wr ?_|refine A2 ?_ ?_|fail)<;>try simp only [go_sem,seval,hd])
  refine A5 ?_;rw [he,A0d (by omega)]
theorem c_CF_dc {g:Dc->Bool} {f:Nat} {a cs:List DV} (xs:List (Dc)) (hx:xs.length<=9223372036854775807) (na:DV.nlL a=true) (ncs:DV.nlL cs=true) (hf:∀ x∈xs,PC Tryz.prog f (a++[Dc.v x]++cs) (.bool (g x))) :
  PC Tryz.prog 49 [V6 xs,.func f a cs] (.bool (xs.any g)):=by
 refine PC.ofT A9 rfl (Nat.le_of_ble_eq_true rfl) (by simp [DV.nlL,DV.nl,X2,na,ncs]) rfl ?_;have hc:=c_IF_dc xs hx na ncs hf;repeat' ((with_reducible first|refine wr ?_|refine cpc hc ?_|refine A2 ?_ ?_|fail)<;>try simp only [go_sem,seval])
 refine A5 ?_;rw [A0e]
theorem c_IF_md {g:Md->Bool} {f:Nat} {a cs:List DV} (xs:List (Md)) (hx:xs.length<=9223372036854775807) (na:DV.nlL a=true) (ncs:DV.nlL cs=true) (hf:∀ x∈xs,PC Tryz.prog f (a++[Md.v x]++cs) (.bool (g x))) :
  PC Tryz.prog 92 [A6d xs,.func f a cs] (I64 (T4 g xs 0)):=by
 refine PC.ofT A9 rfl (Nat.le_of_ble_eq_true rfl) (by simp [DV.nlL,DV.nl,X1,na,ncs]) rfl ?_;repeat' ((with_reducible first|refine wr ?_|refine A2 ?_ ?_|fail)<;>try simp only [go_sem,seval,List.length_map])
 refine F3 (fun k:Nat=>[(0,A6d xs),(1,.func f a cs),(7,I64 xs.length),(8,I64 k)]) (fun _=>nil) (fun k _=>k<=xs.length/\T4 g xs 0=T4 g (xs.drop k) k) (fun k=>xs.length-k) 0 (by simp [D5,tm,Tm.upd]) (Sub.nil _) (by simp) ?_;rintro k c ⟨hk,he⟩;by_cases hlt:k<xs.length
 ·have hd:decide ((k:Int)<xs.length)=true:=by simpa using hlt
  have hg:=List.getElem?_eq_getElem hlt;have hw:=w64 (n:=(k:Int)+1);have hst:=X3 (g:=g) hg;have hc:=hf xs[k] (List.getElem_mem hlt);repeat' ((with_reducible first|refine wr ?_|refine cpc hc ?_|refine A2 ?_ ?_|refine wb2 ?_ ?_<;>(intro hb;try simp only [hb])|fail)<;>try simp only [go_sem,seval,hd,hg,hw])
  ·refine A5 ?_;rw [he,hst,hb];rfl
  ·exact ⟨k+1,rfl,Sub.refl _,inv ⟨by omega,by rw [he,hst,hb];rfl⟩,by omega⟩
 ·have hd:decide ((k:Int)<xs.length)=false:=by simpa using hlt
  repeat' ((with_reducible first|refine wr ?_|refine A2 ?_ ?_|fail)<;>try simp only [go_sem,seval,hd])
  refine A5 ?_;rw [he,A0d (by omega)]
theorem c_CF_md {g:Md->Bool} {f:Nat} {a cs:List DV} (xs:List (Md)) (hx:xs.length<=9223372036854775807) (na:DV.nlL a=true) (ncs:DV.nlL cs=true) (hf:∀ x∈xs,PC Tryz.prog f (a++[Md.v x]++cs) (.bool (g x))) :
  PC Tryz.prog 52 [A6d xs,.func f a cs] (.bool (xs.any g)):=by
 refine PC.ofT A9 rfl (Nat.le_of_ble_eq_true rfl) (by simp [DV.nlL,DV.nl,X1,na,ncs]) rfl ?_;have hc:=c_IF_md xs hx na ncs hf;repeat' ((with_reducible first|refine wr ?_|refine cpc hc ?_|refine A2 ?_ ?_|fail)<;>try simp only [go_sem,seval])
 refine A5 ?_;rw [A0e]
theorem c_IF_st {g:Pb.St->Bool} {f:Nat} {a cs:List DV} (xs:List (Pb.St)) (hx:xs.length<=9223372036854775807) (na:DV.nlL a=true) (ncs:DV.nlL cs=true) (hf:∀ x∈xs,PC Tryz.prog f (a++[Pb.St.v x]++cs) (.bool (g x))) :
  PC Tryz.prog 177 [G6 xs,.func f a cs] (I64 (T4 g xs 0)):=by
 refine PC.ofT A9 rfl (Nat.le_of_ble_eq_true rfl) (by simp [DV.nlL,DV.nl,X0,na,ncs]) rfl ?_;repeat' ((with_reducible first|refine wr ?_|refine A2 ?_ ?_|fail)<;>try simp only [go_sem,seval,List.length_map])
 refine F3 (fun k:Nat=>[(0,G6 xs),(1,.func f a cs),(7,I64 xs.length),(8,I64 k)]) (fun _=>nil) (fun k _=>k<=xs.length/\T4 g xs 0=T4 g (xs.drop k) k) (fun k=>xs.length-k) 0 (by simp [D5,tm,Tm.upd]) (Sub.nil _) (by simp) ?_;rintro k c ⟨hk,he⟩;by_cases hlt:k<xs.length
 ·have hd:decide ((k:Int)<xs.length)=true:=by simpa using hlt
  have hg:=List.getElem?_eq_getElem hlt;have hw:=w64 (n:=(k:Int)+1);have hst:=X3 (g:=g) hg;have hc:=hf xs[k] (List.getElem_mem hlt);rw [Pb.St.v_w] at hc;repeat' ((with_reducible first|refine wr ?_|refine cpc hc ?_|refine A2 ?_ ?_|refine wb2 ?_ ?_<;>(intro hb;try simp only [hb])|fail)<;>try simp only [go_sem,seval,hd,hg,hw,Pb.St.v_w])
  ·refine A5 ?_;rw [he,hst,hb];rfl
  ·exact ⟨k+1,rfl,Sub.refl _,inv ⟨by omega,by rw [he,hst,hb];rfl⟩,by omega⟩
 ·have hd:decide ((k:Int)<xs.length)=false:=by simpa using hlt
  repeat' ((with_reducible first|refine wr ?_|refine A2 ?_ ?_|fail)<;>try simp only [go_sem,seval,hd])
  refine A5 ?_;rw [he,A0d (by omega)]
theorem c_CF_st {g:Pb.St->Bool} {f:Nat} {a cs:List DV} (xs:List (Pb.St)) (hx:xs.length<=9223372036854775807) (na:DV.nlL a=true) (ncs:DV.nlL cs=true) (hf:∀ x∈xs,PC Tryz.prog f (a++[Pb.St.v x]++cs) (.bool (g x))) :
  PC Tryz.prog 146 [G6 xs,.func f a cs] (.bool (xs.any g)):=by
 refine PC.ofT A9 rfl (Nat.le_of_ble_eq_true rfl) (by simp [DV.nlL,DV.nl,X0,na,ncs]) rfl ?_;have hc:=c_IF_st xs hx na ncs hf;repeat' ((with_reducible first|refine wr ?_|refine cpc hc ?_|refine A2 ?_ ?_|fail)<;>try simp only [go_sem,seval])
 refine A5 ?_;rw [A0e]
theorem c_IF_ex {g:Ex->Bool} {f:Nat} {a cs:List DV} (xs:List (Ex)) (hx:xs.length<=9223372036854775807) (na:DV.nlL a=true) (ncs:DV.nlL cs=true) (hf:∀ x∈xs,PC Tryz.prog f (a++[Ex.v x]++cs) (.bool (g x))) :
  PC Tryz.prog 200 [H7 xs,.func f a cs] (I64 (T4 g xs 0)):=by
 refine PC.ofT A9 rfl (Nat.le_of_ble_eq_true rfl) (by simp [DV.nlL,DV.nl,A0b,na,ncs]) rfl ?_;repeat' ((with_reducible first|refine wr ?_|refine A2 ?_ ?_|fail)<;>try simp only [go_sem,seval,List.length_map])
 refine F3 (fun k:Nat=>[(0,H7 xs),(1,.func f a cs),(7,I64 xs.length),(8,I64 k)]) (fun _=>nil) (fun k _=>k<=xs.length/\T4 g xs 0=T4 g (xs.drop k) k) (fun k=>xs.length-k) 0 (by simp [D5,tm,Tm.upd]) (Sub.nil _) (by simp) ?_;rintro k c ⟨hk,he⟩;by_cases hlt:k<xs.length
 ·have hd:decide ((k:Int)<xs.length)=true:=by simpa using hlt
  have hg:=List.getElem?_eq_getElem hlt;have hw:=w64 (n:=(k:Int)+1);have hst:=X3 (g:=g) hg;have hc:=hf xs[k] (List.getElem_mem hlt);rw [Ex.v_w] at hc;repeat' ((with_reducible first|refine wr ?_|refine cpc hc ?_|refine A2 ?_ ?_|refine wb2 ?_ ?_<;>(intro hb;try simp only [hb])|fail)<;>try simp only [go_sem,seval,hd,hg,hw,Ex.v_w])
  ·refine A5 ?_;rw [he,hst,hb];rfl
  ·exact ⟨k+1,rfl,Sub.refl _,inv ⟨by omega,by rw [he,hst,hb];rfl⟩,by omega⟩
 ·have hd:decide ((k:Int)<xs.length)=false:=by simpa using hlt
  repeat' ((with_reducible first|refine wr ?_|refine A2 ?_ ?_|fail)<;>try simp only [go_sem,seval,hd])
  refine A5 ?_;rw [he,A0d (by omega)]
theorem c_CF_ex {g:Ex->Bool} {f:Nat} {a cs:List DV} (xs:List (Ex)) (hx:xs.length<=9223372036854775807) (na:DV.nlL a=true) (ncs:DV.nlL cs=true) (hf:∀ x∈xs,PC Tryz.prog f (a++[Ex.v x]++cs) (.bool (g x))) :
  PC Tryz.prog 178 [H7 xs,.func f a cs] (.bool (xs.any g)):=by
 refine PC.ofT A9 rfl (Nat.le_of_ble_eq_true rfl) (by simp [DV.nlL,DV.nl,A0b,na,ncs]) rfl ?_;have hc:=c_IF_ex xs hx na ncs hf;repeat' ((with_reducible first|refine wr ?_|refine cpc hc ?_|refine A2 ?_ ?_|fail)<;>try simp only [go_sem,seval])
 refine A5 ?_;rw [A0e]
theorem pc_bool {H:Hp} {a b:Bool} (h:a=b):∃ H2,GL H [.bool a] H2 [.bool b]:=⟨H,by rw [h];exact GL.refl _ _⟩
theorem sub_upd2 {b1 b2 b3:Blk} {cc:Nat} (u:Unit) (h:1<=cc):Sym.Sub (Sym.nil.upd 0 b1) (((Sym.nil.upd 0 b1).upd cc b2).upd cc b3):=by
 intro j b hj;simp only [Hp.upd,Sym.nil] at hj ⊢;split at hj
 ·rename_i h0;rw [if_neg (by omega),if_neg (by omega),if_pos h0];exact hj
 ·cases hj
theorem c_levS (k:Int):PC Tryz.prog 112 [I64 k] (I64 (C6 k)):=by
 refine PC.ofT A9 rfl (Nat.le_of_ble_eq_true rfl) (by simp [DV.nlL,DV.nl]) (by simp [DV.nlL,DV.nl]) ?_;repeat' ((with_reducible first|refine wr ?_|refine A2 ?_ ?_|refine wb2 ?_ ?_<;>(intro hb;try simp only [hb])|fail)<;>try simp only [go_sem,seval])
 all_goals refine A5 (congrArg I64 ?_)
 all_goals simp_all [C6]
 all_goals omega
theorem c_namedS (k:Int):PC Tryz.prog 116 [I64 k] (.bool (Z1 k)):=by
 refine PC.ofT A9 rfl (Nat.le_of_ble_eq_true rfl) (by simp [DV.nlL,DV.nl]) (by simp [DV.nlL,DV.nl]) ?_;repeat' ((with_reducible first|refine wr ?_|refine A2 ?_ ?_|refine wb2 ?_ ?_<;>(intro hb;try simp only [hb])|fail)<;>try simp only [go_sem,seval])
 all_goals refine A5 (congrArg DV.bool ?_)
 all_goals (cases h5:k == 5<;>cases h6:k == 6<;>cases h7:k == 7<;>simp_all [Z1])
theorem c_wrapped (e x:Ex) (i:Nat) (h:e.args[i]? = some x) (hi:i<=1):PC Tryz.prog 111 [e.v,I64 i] (.bool (V3 e.kind x.kind i)):=by
 refine PC.ofT A9 rfl (Nat.le_of_ble_eq_true rfl) (by simp [DV.nlL,DV.nl,Ex.nl]) rfl ?_;rw [Ex.v_w];have h1:=c_levS e.kind;have h2:=c_levS x.kind;repeat' ((with_reducible first|refine wr ?_|refine cpc h1 ?_|refine cpc h2 ?_|refine A2 ?_ ?_|refine wb2 ?_ ?_<;>(intro hb;try simp only [hb])|fail)<;>try simp only [go_sem,seval,h,Ex.v_w])
 all_goals refine pc_bool ?_
 all_goals unfold V3
 all_goals (cases hi1:i == 1<;>cases h3:C6 e.kind == 3<;>simp_all)
 all_goals omega
theorem c_measure:∀ (m:Nat) (e:Ex),e.sz<m->e.sz<=100000000->PC Tryz.prog 66 [e.v] (msV (msM e)):=by
 intro m
 induction m with
 | zero=>intro e h;omega
 | succ m ih =>
 intro e hm hB;have hnl:=e.sz_name;have hx:∀ x∈e.args,PC Tryz.prog 66 [x.v] (msV (msM x)):=fun x hx=>ih x (by have:=Ex.sz_arg hx;omega) (by have:=Ex.sz_arg hx;omega);have hwr:∀ (x:Ex) (i:Nat),e.args[i]? = some x->i<=1->PC Tryz.prog 111 [e.w,I64 i] (.bool (V3 e.kind x.kind i)):=fun x i h hi=>by have:=c_wrapped e x i h hi;rwa [Ex.v_w] at this
 refine PC.ofT A9 rfl (Nat.le_of_ble_eq_true rfl) (by simp [DV.nlL,DV.nl,Ex.nl]) (msV_nl _) ?_;rw [Ex.v_w];obtain ⟨R,hR⟩:∃ R,R=msV (msM e):=⟨_,rfl⟩;rw [<- hR];have hle:=msL_le e.kind 0 e.args;have hal:Ex.szs e.args<e.sz:=by cases e with|mk k v n a p=>rw [Ex.sz];show Ex.szs a<_;omega
 have hargs:∀ x∈e.args,x.sz<=Ex.szs e.args:=fun x hx=>Ex.szs_mem hx;cases e with|mk k v n a p =>
 rw [msM] at hR;dsimp only [Ex.w,Ex.kind,Ex.value,Ex.name,Ex.args,Ex.pos] at hx hwr hle hal hargs hnl ⊢;have hl:=c_levS k;have hnk:=c_namedS k;have hin:=c_IsName n (by omega);have none0:kOk k=false\/a.length≠I4 k\/A0a k n=false\/A2j k v=false->R=.tup [I64 0,I64 0,.bool false]:=fun h=>by rw [hR,if_pos h];rfl
 have ci:((I4 k:Nat):Int)<=2:=by unfold I4;(repeat' split)<;>decide
 have kA:∀ nm vl:Bool,A0a k n=nm->A2j k v=vl->kOk k=true->IW Tryz.prog 113 (pz Tryz.prog 66 (.o (.i (.o (.o (.o .h)))))) ⟨tm [(1,.ptr 0 0),(2,I64 0),(3,I64 0),(5,I64 (I4 k)),(7,.bool nm),(8,.bool vl)],Sym.nil.upd 0 ⟨0,true,[I64 k,I64 v,.str n,H7 a,I64 p]⟩,1⟩ (rt [.tmp 2,.tmp 3,.tmp 4] fun v H' x => ∃ H2,GL H' [v] H2 [R]):=by
  intro nm vl hnm hvl hkk;by_cases hlen:a.length=I4 k
  ·have d0:((a.length:Int) != (I4 k:Int))=false:=by simp [hlen]
   cases nm with
   | false =>
    repeat' ((with_reducible first|refine wr ?_|refine A2 ?_ ?_|fail)<;>try simp only [go_sem,seval,d0])
    exact A5 (none0 (.inr (.inr (.inl hnm)))).symm
   | true =>
    cases vl with
    | false =>
     repeat' ((with_reducible first|refine wr ?_|refine A2 ?_ ?_|fail)<;>try simp only [go_sem,seval,d0])
     exact A5 (none0 (.inr (.inr (.inr hvl)))).symm
    | true =>
     rw [if_neg (by simp [hkk,hnm,hvl,hlen])] at hR;by_cases hc0:I4 k=0
     ·have d1:((I4 k:Int) == 0)=true:=by simp [hc0]
      rw [if_pos hc0] at hR;repeat' ((with_reducible first|refine wr ?_|refine A2 ?_ ?_|fail)<;>try simp only [go_sem,seval,d0,d1])
      exact A5 hR.symm
     ·have d1:((I4 k:Int) == 0)=false:=by simp [hc0]
      rw [if_neg hc0] at hR;repeat' ((with_reducible first|refine wr ?_|refine A2 ?_ ?_|fail)<;>try simp only [go_sem,seval,d0,d1])
      have hl2:a.length<=2:=by omega
      refine F3 (fun q:Nat × Nat × Nat=>[(1,.ptr 0 0),(5,I64 (I4 k)),(80,H7 a),(81,I64 a.length),(82,I64 q.1),(2,I64 q.2.1),(3,I64 q.2.2)]) (fun _=>Sym.nil.upd 0 ⟨0,true,[I64 k,I64 v,.str n,H7 a,I64 p]⟩)
       (fun q cc=>1<=cc/\q.1<=a.length/\q.2.1<=q.1 * 1000000000/\q.2.2<=1000000000/\msL k 0 a=(match msL k q.1 (a.drop q.1) with
        | none=>none
        | some (o2,d2)=>some (q.2.1+o2,max q.2.2 d2))) (fun q=>a.length-q.1) (0,0,0) (by simp [D5,tm,Tm.upd]) (Sub.refl _)
       ⟨Nat.le_refl _,Nat.zero_le _,Nat.zero_le _,Nat.zero_le _,by
        rw [List.drop_zero];cases msL k 0 a with
        | none=>rfl
        | some q=>obtain ⟨o2,d2⟩:=q;simp⟩ ?_
      rintro ⟨i,o,d⟩ cc ⟨h1c,hk,ho,hd3,he⟩;dsimp only at hk ho hd3 he ⊢;by_cases hlt:i<a.length
      ·have hd:decide ((i:Int)<a.length)=true:=by simpa using hlt
       have hg:=List.getElem?_eq_getElem hlt;have hw:=w64 (n:=(i:Int)+1);rw [msL_drop hg] at he;have hmx:=hx _ (List.getElem_mem hlt);have hax:=hargs _ (List.getElem_mem hlt);have hwx:=hwr _ i hg (by omega);have hms:=ms_le a[i];generalize a[i]=x at hg he hmx hax hwx hms;rw [Ex.v_w] at hmx;have hwx:PC Tryz.prog 111 [DV.agg [I64 k,I64 v,DV.str n,H7 a,I64 p],I64 i] (.bool (V3 k x.kind i)):=hwx;have ne0:=A6c 0 cc (by omega);cases hq:msM x with
       | none =>
        rw [hq] at he hmx;dsimp only [msV] at he hmx;rw [he] at hR;repeat' ((with_reducible first|refine wr ?_|refine cpc hmx ?_|refine cpc hwx ?_|refine A2 ?_ ?_|fail)<;>try simp only [go_sem,seval,hd,hg,hw,Ex.v_w,ne0])
        exact A5 hR.symm
       | some qq =>
        obtain ⟨o1,d1'⟩:=qq;rw [hq] at he hmx;dsimp only [msV] at he hmx;have:=hms o1 d1' hq;have w1:=w64 (n:=(o:Int)+(o1:Int));have w2:=w64 (n:=(d1':Int)+1);cases hwb:V3 k x.kind i with
        | true =>
         rw [hwb] at he;repeat' ((with_reducible first|refine wr ?_|refine cpc hmx ?_|refine cpc hwx ?_|refine A2 ?_ ?_|fail)<;>try simp only [go_sem,seval,hd,hg,hw,Ex.v_w,ne0,hwb,w1,w2])
         all_goals (refine ⟨(i+1,o+o1,max d (d1'+1)),⟨by simp,by simp,?_⟩,?_,inv ⟨by omega,by simp only;omega,by simp only;omega,by simp only;omega,?_⟩,by simp only;omega⟩)
         all_goals first
          | (refine congrArg I64 ?_;dsimp only;split<;>omega)
          | exact sub_upd2 () h1c
          | (rw [he];dsimp only;cases msL k (i+1) (a.drop (i+1)) with
           | none=>rfl
           | some q=>obtain ⟨o2,d2⟩:=q;simp [Nat.add_assoc,Nat.max_assoc])
        | false =>
         rw [hwb] at he;repeat' ((with_reducible first|refine wr ?_|refine cpc hmx ?_|refine cpc hwx ?_|refine A2 ?_ ?_|fail)<;>try simp only [go_sem,seval,hd,hg,hw,Ex.v_w,ne0,hwb,w1,w2])
         all_goals (refine ⟨(i+1,o+o1,max d (d1')),⟨by simp,by simp,?_⟩,?_,inv ⟨by omega,by simp only;omega,by simp only;omega,by simp only;omega,?_⟩,by simp only;omega⟩)
         all_goals first
          | (refine congrArg I64 ?_;dsimp only;split<;>omega)
          | exact sub_upd2 () h1c
          | (rw [he];dsimp only;cases msL k (i+1) (a.drop (i+1)) with
           | none=>rfl
           | some q=>obtain ⟨o2,d2⟩:=q;simp [Nat.add_assoc,Nat.max_assoc])
      ·have hd:decide ((i:Int)<a.length)=false:=by simpa using hlt
       rw [List.drop_of_length_le (by omega)] at he;have w1:=w64 (n:=(d:Int)+1);by_cases hc1:I4 k=1
       ·have e1:((I4 k:Int) == 1)=true:=by simp [hc1]
        rw [he,hc1] at hR;repeat' ((with_reducible first|refine wr ?_|refine A2 ?_ ?_|fail)<;>try simp only [go_sem,seval,hd,e1,w1])
        refine A5 ?_;rw [hR];simp [msV,msL]
       ·have e1:((I4 k:Int) == 1)=false:=by simp;omega
        rw [he] at hR;simp only [if_neg hc1] at hR;repeat' ((with_reducible first|refine wr ?_|refine A2 ?_ ?_|fail)<;>try simp only [go_sem,seval,hd,e1,w1])
        refine A5 ?_;rw [hR];simp [msV,msL]
  ·have d0:((a.length:Int) != (I4 k:Int))=true:=by simp;omega
   repeat' ((with_reducible first|refine wr ?_|refine A2 ?_ ?_|fail)<;>try simp only [go_sem,seval,d0])
   exact A5 (none0 (.inr (.inl hlen))).symm
 have kB:∀ nm:Bool,A0a k n=nm->kOk k=true->IW Tryz.prog 113 (pz Tryz.prog 66 (.o (.o (.o (.o (.o .h)))))) ⟨tm [(1,.ptr 0 0),(2,I64 0),(3,I64 0),(5,I64 (I4 k)),(7,.bool nm)],Sym.nil.upd 0 ⟨0,true,[I64 k,I64 v,.str n,H7 a,I64 p]⟩,1⟩ (rt [.tmp 2,.tmp 3,.tmp 4] fun v H' x => ∃ H2,GL H' [v] H2 [R]):=by
  intro nm hnm hkk;repeat' ((with_reducible first|refine E1 (p:=IW _ _ (pz Tryz.prog 66 (.o (.i (.o (.o (.o .h)))))) _ _) ?_|refine wr ?_|refine A2 ?_ ?_|refine wb2 ?_ ?_<;>(intro hb;try simp only [hb])|fail)<;>try simp only [go_sem,seval])
  all_goals refine IW.stage (L:=[(1,.ptr 0 0),(2,I64 0),(3,I64 0),(5,I64 (I4 k)),(7,.bool nm),(8,.bool (A2j k v))]) ?_ (kA nm _ hnm rfl hkk)
  all_goals simp_all [D5,tm,Tm.upd,A2j]
  all_goals omega
 have kC:kOk k=true->IW Tryz.prog 113 (pz Tryz.prog 66 (.o (.o (.o (.i .h))))) ⟨tm [(1,.ptr 0 0),(2,I64 0),(3,I64 0),(5,I64 (I4 k))],Sym.nil.upd 0 ⟨0,true,[I64 k,I64 v,.str n,H7 a,I64 p]⟩,1⟩ (rt [.tmp 2,.tmp 3,.tmp 4] fun v H' x => ∃ H2,GL H' [v] H2 [R]):=by
  intro hkk;repeat' ((with_reducible first|refine E1 (p:=IW _ _ (pz Tryz.prog 66 (.o (.o (.o (.o (.o .h)))))) _ _) ?_|refine wr ?_|refine cpc hnk ?_|refine cpc hin ?_|refine A2 ?_ ?_|refine wb2 ?_ ?_<;>(intro hb;try simp only [hb])|fail)<;>try simp only [go_sem,seval])
  all_goals refine IW.stage (L:=[(1,.ptr 0 0),(2,I64 0),(3,I64 0),(5,I64 (I4 k)),(7,.bool (A0a k n))]) ?_ (kB _ rfl hkk)
  all_goals simp_all [D5,tm,Tm.upd,A0a]
 by_cases l6:C6 k=6
 ·have m6:(C6 k == 6)=true:=by simpa using l6
  repeat' ((with_reducible first|refine E1 (p:=IW _ _ (pz Tryz.prog 66 (.o (.o (.o (.i .h))))) _ _) ?_|refine wr ?_|refine cpc hl ?_|refine A2 ?_ ?_|fail)<;>try simp only [go_sem,seval,m6])
  refine IW.stage ?_ (kC (by simp [kOk];left;omega));simp [D5,tm,Tm.upd,I4,l6]
 have m6:(C6 k == 6)=false:=by simpa using l6
 by_cases l5:C6 k<6
 ·have m5:decide (C6 k<6)=true:=by simpa using l5
  repeat' ((with_reducible first|refine E1 (p:=IW _ _ (pz Tryz.prog 66 (.o (.o (.o (.i .h))))) _ _) ?_|refine wr ?_|refine cpc hl ?_|refine A2 ?_ ?_|fail)<;>try simp only [go_sem,seval,m6,m5])
  refine IW.stage ?_ (kC (by simp [kOk];left;omega));simp [D5,tm,Tm.upd,I4,l6,l5]
 have m5:decide (C6 k<6)=false:=by simpa using l5
 repeat' ((with_reducible first|refine E1 (p:=IW _ _ (pz Tryz.prog 66 (.o (.o (.o (.i .h))))) _ _) ?_|refine wr ?_|refine cpc hl ?_|refine A2 ?_ ?_|refine wb2 ?_ ?_<;>(intro hb;try simp only [hb])|fail)<;>try simp only [go_sem,seval,m6,m5])
 all_goals first
  | (refine IW.stage ?_ (kC (by simp_all [kOk]<;>omega));simp [D5,tm,Tm.upd,I4,l6,l5];done)
  | (refine A5 (none0 (.inl ?_)).symm;simp_all [kOk]<;>omega)
theorem c_ValidExpr (e:Ex) (hB:e.sz<=100000000):PC Tryz.prog 30 [e.v] (.bool (A2k e)):=by
 refine PC.ofT A9 rfl (Nat.le_of_ble_eq_true rfl) (by simp [DV.nlL,DV.nl]) (by simp [DV.nlL,DV.nl]) ?_;have hm:=c_measure _ e (Nat.lt_succ_self _) hB;unfold A2k;rw [Ex.v_w] at hm ⊢;cases hq:msM e with
 | none =>
  rw [hq] at hm;dsimp only [msV] at hm;repeat' ((with_reducible first|refine wr ?_|refine cpc hm ?_|refine A2 ?_ ?_|fail)<;>try simp only [go_sem,seval])
  all_goals exact A5 rfl
 | some q =>
  obtain ⟨o,d⟩:=q;rw [hq] at hm;dsimp only [msV] at hm;repeat' ((with_reducible first|refine wr ?_|refine cpc hm ?_|refine A2 ?_ ?_|refine wb2 ?_ ?_<;>(intro hb;try simp only [hb])|fail)<;>try simp only [go_sem,seval])
  all_goals (refine A5 (congrArg DV.bool ?_);by_cases h1:o<=32<;>by_cases h2:d<=16<;>simp_all<;>omega)
end Go.Proofs.YthlpinppaclofaaGreatDoor
set_option maxHeartbeats 4000000
namespace Go.Proofs.YthlpinppaclofaaGreatDoor
open Go.Eng (IC IOper DReg IFn G0)
open Go.Sym Go.Pb
theorem slcMv {ρ ρ':Ren} {id id' o n:Nat} {v:Value} (h1 : ρ.nm id = ρ'.nm id') (h:VRel ρ (.slc id o n) v):VRel ρ' (.slc id' o n) v:=by
 cases h with|slc _ _ _ c t h hc hm hr hp=>exact .slc id' o n c t (h1▸h) hc hm hr hp
def OwL (f:Nat) (args:List DV) (l:List (List UInt8)):Prop:=∀ (H:Hp) (c:Nat),AC Tryz.prog f args H c (fun v H' c'=>v=.slc c 0 l.length/\H'=H.upd c ⟨1,true,l.map DV.str⟩/\c'=c+1)
theorem OwL.of {f:Nat} {args:List DV} {l:List (List UInt8)} (na:DV.nlL args=true) (h:AC Tryz.prog f args nil 0 (fun v H' _ => ∃ id,v=.slc id 0 l.length/\H'=nil.upd id ⟨1,true,l.map DV.str⟩)):OwL f args l:=fun H c =>
 AC.own (V:=fun id=>.slc id 0 l.length) h na (fun d hd=>by obtain ⟨x, -,rfl⟩:=List.mem_map.1 hd;rfl) (fun ρ ρ' id id' v h1 _ h3=>slcMv h1 h3) H c
theorem N0 {H H':Hp} {id n:Nat} {b:Blk} (hb:H id=some b) (h:∀ j,j≠id->H' j=none\/H' j=H j) (hi:H' id=some b):GL H [.slc id 0 n] H' [.slc id 0 n] :=
 GL.less fun j=>by
  by_cases e:j=id
  ·subst e;right;rw [hi,hb]
  ·exact h j e
theorem c_pr1 (k v:Int) (n:List UInt8) (a:List Ex) (p:Int) (x:Ex) (i:Nat) (hx:a[i]? = some x) (hi:i<=1) (l:List (List UInt8)) (hP:OwL 65 [x.v] l) (hl:l.length<=100000000) (h1:1<=l.length)
  (H:Hp) (c t:Nat) (ht:H t=some ⟨0,true,[I64 k,I64 v,.str n,H7 a,I64 p]⟩) (htc:t<c) :
  AC Tryz.prog 110 [I64 i,.ptr t 0] H c (fun r H' c' => ∃ id,c<=id/\id<c'/\r=.slc id 0 (wrL k x.kind i l).length/\H'=H.upd id ⟨1,true,(wrL k x.kind i l).map DV.str⟩):=by
 have hw:PC Tryz.prog 111 [.agg [I64 k,I64 v,.str n,H7 a,I64 p],I64 i] (.bool (V3 k x.kind i)):=by
  have:=c_wrapped (.mk k v n a p) x i hx hi;rw [Ex.v_w] at this;exact this
 have hxm:(a.map Ex.v)[i]? = some x.v:=by rw [List.getElem?_map,hx];rfl
 rw [Ex.v_w] at hP hxm;refine AC.bodyT A9 rfl (Nat.le_of_ble_eq_true rfl) fun hfr=>?_;repeat' ((with_reducible first|refine wr ?_|refine A2 ?_ ?_|fail)<;>try simp only [go_sem,seval,ht,hxm,Ex.v_w])
 refine AC.call (hP H c) ?_;rintro _ _ _ ⟨rfl,rfl,rfl⟩ -;have ht':(H.upd c ⟨1,true,l.map DV.str⟩) t=some ⟨0,true,[I64 k,I64 v,.str n,H7 a,I64 p]⟩:=by rw [A3 (by omega)];exact ht
 have ne0:=S3 c (c+1) (c+2) (c+3) (c+4) (by omega);obtain ⟨R,hR⟩:∃ R,R=wrL k x.kind i l:=⟨_,rfl⟩;rw [<- hR];unfold wrL at hR;cases hb:V3 k x.kind i with
 | false =>
  rw [hb] at hw hR;rw [if_neg Bool.false_ne_true] at hR;simp only [go_sem,seval,ht',ne0];repeat' ((with_reducible first|refine wr ?_|refine cpc hw ?_|refine A2 ?_ ?_|fail)<;>try simp only [go_sem,seval,ht',ne0])
  subst hR;exact ⟨_,_,GL.refl _ _,c,Nat.le_refl _,Nat.lt_succ_self _,rfl,rfl⟩
 | true =>
  rw [hb] at hw hR;rw [if_pos rfl] at hR;simp only [go_sem,seval,ht',ne0];have tk:List.take l.length (l.map DV.str)=l.map DV.str:=List.take_of_length_le (by simp);repeat' ((with_reducible first|refine wr ?_|refine cpc hw ?_|refine A2 ?_ ?_|fail)<;>try simp only [go_sem,seval,ht',ne0,tk])
  refine D3 (D0 (by simp) (by omega) (by omega)) ?_;simp only [go_sem,seval,ne0,A0];repeat' ((with_reducible first|refine wr ?_|refine A2 ?_ ?_|fail)<;>try simp only [go_sem,seval,ne0,tk,A0])
  refine D3 (D0 (by simp;omega) (by omega) (by omega)) ?_;simp only [go_sem,seval,ne0,A0];repeat' ((with_reducible first|refine wr ?_|refine A2 ?_ ?_|fail)<;>try simp only [go_sem,seval,ne0,tk,A0])
  have hlen:R.length=1+l.length+1:=by rw [hR];simp;omega
  rw [<- hlen];refine ⟨_,H.upd (c+1+1+1+1) ⟨1,true,R.map DV.str⟩,N0 (A0) (fun j hj=>?_) (by rw [A0,hR];simp),c+1+1+1+1,by omega,by omega,rfl,rfl⟩;rw [A3 hj];by_cases hjc:c<=j
  ·exact .inl (hfr j hjc)
  ·right;simp only [Hp.upd,Hp.del];rw [if_neg hj,if_neg (by omega),if_neg (by omega),if_neg (by omega),if_neg (by omega),if_neg (by omega),if_neg (by omega)]
theorem xt_len (e:Ex):1<=(txT (exT e)).length/\(txT (exT e)).length<=5 * e.sz:=by
 have:=A6m e;unfold txT;rw [List.length_map];omega
theorem wr_len (k q:Int) (i:Nat) {l:List (List UInt8)} (h:l.length<=100000000):(wrL k q i l).length<=100000002:=by
 unfold wrL;split
 ·simp;omega
 ·omega
theorem c_printed:∀ (m:Nat) (e:Ex),e.sz<m->e.sz<=10000000->(∃ o d,msM e=some (o,d))->OwL 65 [e.v] (txT (exT e)):=by
 intro m
 induction m with
 | zero=>intro e h;omega
 | succ m ih =>
 rintro ⟨k,v,n,a,p⟩ hm hB ⟨o,d,hms⟩;obtain ⟨i1,i2,i3,i4, -,i6⟩:=ms_inv hms;have hargs:∀ (i:Nat) (x:Ex),a[i]? = some x->OwL 65 [x.v] (txT (exT x)):=fun i x hx=>by
  have hmem:=List.mem_of_getElem? hx;have hsz:=Ex.sz_arg (e:=.mk k v n a p) hmem;refine ih x (by omega) (by omega) ?_;have hlt:=(List.getElem?_eq_some_iff.1 hx).1;obtain ⟨d',h1, -⟩:=i6 (by omega);exact msL_some h1 x hmem
 have hlv:=c_levS k;have hsg:=c_signOf k;have hlen:∀ (i:Nat) (x:Ex),a[i]? = some x->1<=(txT (exT x)).length/\(txT (exT x)).length<=100000000:=fun i x hx=>by
  have h1:=xt_len x;have h2:=Ex.sz_arg (e:=.mk k v n a p) (List.mem_of_getElem? hx);omega
 refine OwL.of (by simp [DV.nlL,DV.nl,Ex.nl]) ?_;refine AC.bodyT A9 rfl (Nat.le_of_ble_eq_true rfl) fun hfr=>?_;rw [Ex.v_w];dsimp only [Ex.w,Ex.kind,Ex.value,Ex.name,Ex.args,Ex.pos];obtain ⟨R,hR⟩:∃ R,R=txT (exT (.mk k v n a p)):=⟨_,rfl⟩;rw [<- hR];by_cases l6:C6 k=6
 ·have hk:k=10\/k=11:=by
   unfold C6 at l6;repeat' split at l6
   all_goals omega
  have hc:I4 k=1:=by unfold I4;rw [if_pos l6]
  have m6:(C6 k == 6)=true:=by simpa using l6
  obtain ⟨x,rfl⟩:∃ x,a=[x]:=List.length_eq_one_iff.1 (i2.trans hc);rw [tx_un hk] at hR;repeat' ((with_reducible first|refine wr ?_|refine cpc hlv ?_|refine cpc hsg ?_|refine A2 ?_ ?_|fail)<;>try simp only [go_sem,seval,m6])
  refine AC.call (c_pr1 k v n [x] p x 0 rfl (by decide) _ (hargs 0 x rfl) (hlen 0 x rfl).2 (hlen 0 x rfl).1 _ _ 0 (by simp only [go_sem,seval]) (by decide)) ?_;rintro _ _ c2 ⟨id,hid,hid2,rfl,rfl⟩ -;have hW:=wr_len k x.kind 0 (hlen 0 x rfl).2;generalize wrL k x.kind 0 (txT (exT x))=W at hR hW ⊢;have tk:List.take W.length (W.map DV.str)=W.map DV.str:=List.take_of_length_le (by simp);have ne0:=A4b 0 1 id c2 (by omega);simp only [go_sem,seval,ne0,A0,tk];repeat' ((with_reducible first|refine wr ?_|refine A2 ?_ ?_|fail)<;>try simp only [go_sem,seval,ne0,A0,tk])
  refine D3 (D0 (by simp) (by omega) (by omega)) ?_;simp only [go_sem,seval,ne0,A0];repeat' ((with_reducible first|refine wr ?_|refine A2 ?_ ?_|fail)<;>try simp only [go_sem,seval,ne0,A0])
  have hl:R.length=1+W.length:=by rw [hR];simp;omega
  rw [<- hl];exact ⟨_,nil.upd c2 ⟨1,true,R.map DV.str⟩,N0 A0 (fun j hj=>.inl (by rw [A3 hj];rfl)) (by rw [A0,hR];simp),c2,rfl,rfl⟩
 have m6:(C6 k == 6)=false:=by simpa using l6
 by_cases l5:C6 k<6
 ·have m5:decide (C6 k<6)=true:=by simpa using l5
  have hc:I4 k=2:=by unfold I4;rw [if_neg l6,if_pos l5]
  obtain ⟨x,y,rfl⟩:∃ x y,a=[x,y]:=by
   have:=i2.trans hc
   match a with
   | [x,y]=>exact ⟨x,y,rfl⟩
  rw [tx_bin l5] at hR;repeat' ((with_reducible first|refine wr ?_|refine cpc hlv ?_|refine cpc hsg ?_|refine A2 ?_ ?_|fail)<;>try simp only [go_sem,seval,m6,m5])
  refine AC.call (c_pr1 k v n [x,y] p x 0 rfl (by decide) _ (hargs 0 x rfl) (hlen 0 x rfl).2 (hlen 0 x rfl).1 _ _ 0 (by simp only [go_sem,seval]) (by decide)) ?_;rintro _ _ c2 ⟨id,hid,hid2,rfl,rfl⟩ -;have hW:=wr_len k x.kind 0 (hlen 0 x rfl).2;generalize wrL k x.kind 0 (txT (exT x))=W at hR hW ⊢;have hW2:=wr_len k y.kind 1 (hlen 1 y rfl).2;have tk:List.take W.length (W.map DV.str)=W.map DV.str:=List.take_of_length_le (by simp);have ne0:=R1 0 id c2 (by omega);simp only [go_sem,seval,ne0,A0,tk];refine ⟨by and_intros<;>(repeat rw [A3 (by omega)])<;>rfl,?_⟩;refine cpc hsg ?_;simp only [go_sem,seval,ne0,A0,tk,m6,m5];refine ⟨by rw [A3 (by omega)];rfl,?_⟩;rw [A3 (show ¬ id=6 by omega),A0];refine K5 (D0 (by simp) (by omega) (by omega)) ?_;simp only [go_sem,seval,ne0,A0,tk,m6,m5];obtain ⟨M,hM⟩:∃ M,M=((((nil.upd 0 ⟨0,true,[I64 k,I64 v,.str n,H7 [x,y],I64 p]⟩).upd id ⟨1,true,W.map DV.str⟩).upd 6 ⟨1,true,[DV.str (A2x k)]⟩).del id).upd c2 ⟨1,true,W.map DV.str++[DV.str (A2x k)]⟩:=⟨_,rfl⟩;rw [<- hM];have hM8:M 8=none:=by rw [hM];simp only [Hp.upd,Hp.del];(repeat rw [if_neg (by omega)]);rfl
  have hM0:M 0=some ⟨0,true,[I64 k,I64 v,.str n,H7 [x,y],I64 p]⟩:=by rw [hM];simp only [Hp.upd,Hp.del];(repeat rw [if_neg (by omega)]);rfl
  have hMc:M c2=some ⟨1,true,W.map DV.str++[DV.str (A2x k)]⟩:=by rw [hM];exact A0
  clear hM;refine ⟨hM8,?_⟩;refine AC.call (c_pr1 k v n [x,y] p y 1 rfl (by decide) _ (hargs 1 y rfl) (hlen 1 y rfl).2 (hlen 1 y rfl).1 _ _ 0 hM0 (by omega)) ?_;rintro _ _ c3 ⟨id2,hid3,hid4,rfl,rfl⟩ -;generalize wrL k y.kind 1 (txT (exT y))=W2 at hR hW2 ⊢;have tk2:List.take W2.length (W2.map DV.str)=W2.map DV.str:=List.take_of_length_le (by simp);have hMc2:(M.upd id2 ⟨1,true,W2.map DV.str⟩) c2=some ⟨1,true,W.map DV.str++[DV.str (A2x k)]⟩:=by rw [A3 (by omega)];exact hMc
  have ne0:=R1 0 id2 c3 (by omega);simp only [go_sem,seval,ne0,A0,tk2,hMc2];refine K5 (D0 (by simp) (by omega) (by omega)) ?_;simp only [go_sem,seval,ne0,A0];repeat' ((with_reducible first|refine wr ?_|refine A2 ?_ ?_|fail)<;>try simp only [go_sem,seval,ne0,A0])
  have hl:R.length=W.length+1+W2.length:=by rw [hR];simp;omega
  rw [<- hl];exact ⟨_,nil.upd c3 ⟨1,true,R.map DV.str⟩,N0 A0 (fun j hj=>.inl (by rw [A3 hj];rfl)) (by rw [A0,hR];simp),c3,rfl,rfl⟩
 have m5:decide (C6 k<6)=false:=by simpa using l5
 have l7:C6 k=7:=by have:=lev_range k;omega
 have hc:I4 k=0:=by unfold I4;rw [if_neg l6,if_neg l5]
 obtain rfl:a=[]:=List.eq_nil_of_length_eq_zero (i2.trans hc);rw [tx_leaf l7 i1 i3 i4] at hR;by_cases h1:k=1
 ·subst h1;rw [if_pos rfl] at hR;repeat' ((with_reducible first|refine wr ?_|refine cpc hlv ?_|refine cpc hsg ?_|refine A2 ?_ ?_|fail)<;>try simp only [go_sem,seval,m6,m5])
  refine AC.call (own_call (xs:=[Tok.v ⟨3,[],v,0⟩]) (u:=4) (id:=1) (c_Text [⟨3,[],v,0⟩] (by simp) ?_) A0 rfl rfl (A2n [⟨3,[],v,0⟩])) ?_
  ·intro t ht;obtain rfl:=List.mem_singleton.1 ht;have hv:0<=v/\v<=2147483647:=by
    unfold A2j at i4;simp at i4;omega
   exact ⟨by simp,by dsimp only;omega,by dsimp only;omega⟩
  rintro _ _ _ ⟨rfl,rfl,rfl⟩ -;rw [show A1e [⟨3,[],v,0⟩]=O8 v by rw [<- W9];simp [Lib.join,O3]];simp only [go_sem,seval];repeat' ((with_reducible first|refine wr ?_|refine A2 ?_ ?_|fail)<;>try simp only [go_sem,seval])
  exact ⟨_,nil.upd 2 ⟨1,true,R.map DV.str⟩,by rw [hR];exact N0 A0 (fun j hj=>.inl (by rw [A3 hj];rfl)) A0,2,by rw [hR];rfl,rfl⟩
 by_cases h2:k=2
 ·subst h2;rw [if_neg h1,if_pos rfl] at hR;repeat' ((with_reducible first|refine wr ?_|refine cpc hlv ?_|refine cpc hsg ?_|refine A2 ?_ ?_|fail)<;>try simp only [go_sem,seval,m6,m5])
  exact ⟨_,nil.upd 1 ⟨1,true,R.map DV.str⟩,by rw [hR];exact N0 A0 (fun j hj=>.inl (by rw [A3 hj];rfl)) A0,1,by rw [hR];rfl,rfl⟩
 rw [if_neg h1,if_neg h2] at hR;have d1:(k == 1)=false:=by simpa using h1
 have d2:(k == 2)=false:=by simpa using h2
 repeat' ((with_reducible first|refine E1 (p:=IW _ _ (pz Tryz.prog 65 (.i (.o (.i (.o (.o .h)))))) _ _) ?_|refine wr ?_|refine cpc hlv ?_|refine cpc hsg ?_|refine A2 ?_ ?_|fail)<;>try simp only [go_sem,seval,m6,m5,d1,d2])
 unfold W7;have hr:3<=k/\k<=9:=by
  unfold kOk at i1;simp only [l7,Int.lt_irrefl,decide_false,Bool.false_or,Bool.and_eq_true,decide_eq_true_eq] at i1;have hk9:k<=9:=Classical.byContradiction fun hc=>by
   have:C6 k<7:=by unfold C6;repeat' split;all_goals omega
   omega
  omega
 obtain ⟨j0,hj0,hj7⟩:∃ j0:Nat,F2[j0]? = some k/\j0<7:=by
  have hk9:k=3\/k=4\/k=5\/k=6\/k=7\/k=8\/k=9:=by omega
  rcases hk9 with rfl|rfl|rfl|rfl|rfl|rfl|rfl
  ·exact ⟨0,rfl,by decide⟩
  ·exact ⟨1,rfl,by decide⟩
  ·exact ⟨4,rfl,by decide⟩
  ·exact ⟨5,rfl,by decide⟩
  ·exact ⟨6,rfl,by decide⟩
  ·exact ⟨2,rfl,by decide⟩
  ·exact ⟨3,rfl,by decide⟩
 obtain ⟨w,hw⟩:∃ w,w=K7 E5 F2 k:=⟨_,rfl⟩;refine A6k c_lvs (σ := Option Nat) (fun o=>[(1,.ptr 0 0),(5,B6 o 1)]) (fun o=>C8 (nil.upd 0 ⟨0,true,[I64 k,I64 v,.str n,H7 [],I64 p]⟩) o ⟨1,true,[.str w]⟩)
  (fun D o c=>1<=c/\(∀ i,o=some i->0<i/\i<c/\∃ j∈D,F2[j]? = some k)/\(o=none->∀ j∈D,F2[j]? ≠ some k)) none (by decide) (fun _=>rfl) ⟨rfl,rfl,trivial⟩ (Sub.refl _) ⟨by decide,(by intro i h;cases h),fun _ j hj=>by cases hj⟩ ?_ ?_
 ·rintro D o c ⟨hc1,ho,hno⟩ hall;rcases o with _|id
  ·exact absurd hj0 (hno rfl j0 (hall j0 hj7))
  obtain ⟨g1,g2, -⟩:=ho id rfl;have hnm:=c_namedS k;rw [<- hw] at hR;have ne0:=A4b 0 id c (c+1) (by omega);cases hb:Z1 k with
  | true =>
   rw [hb] at hnm hR;rw [if_pos rfl] at hR;repeat' ((with_reducible first|refine wr ?_|refine cpc hnm ?_|refine A2 ?_ ?_|fail)<;>try simp only [go_sem,seval,ne0,A0])
   refine D3 (D0 rfl (by decide) (by decide)) ?_;simp only [go_sem,seval,ne0,A0];repeat' ((with_reducible first|refine wr ?_|refine A2 ?_ ?_|fail)<;>try simp only [go_sem,seval,ne0,A0])
   exact ⟨_,nil.upd (c+1) ⟨1,true,R.map DV.str⟩,by rw [hR];exact N0 A0 (fun j hj=>.inl (by rw [A3 hj];rfl)) A0,c+1,by rw [hR];rfl,rfl⟩
  | false =>
   rw [hb] at hnm hR;rw [if_neg Bool.false_ne_true] at hR;repeat' ((with_reducible first|refine wr ?_|refine cpc hnm ?_|refine A2 ?_ ?_|fail)<;>try simp only [go_sem,seval,ne0,A0])
   exact ⟨_,nil.upd id ⟨1,true,R.map DV.str⟩,by rw [hR];exact N0 A0 (fun j hj=>.inl (by rw [A3 hj];rfl)) A0,id,by rw [hR];rfl,rfl⟩
 ·rintro it D o c i kk vv ⟨hc1,ho,hno⟩ hDn hDb hiD hk hv;rw [List.getElem?_map,Option.map_eq_some_iff] at hk hv;obtain ⟨w',hw',rfl⟩:=hk;obtain ⟨u,hu,rfl⟩:=hv;by_cases hx:u=k
  ·subst hx;obtain rfl:w'=w:=by rw [hw];exact (A2d (by decide) hw' hu).symm
   obtain rfl:o=none:=by
    cases o with
    | none=>rfl
    | some id =>
     obtain ⟨-, -,j,hj,hj2⟩:=ho id rfl;have:i=j:=(List.getElem?_inj (List.getElem?_eq_some_iff.1 hu).1 (by decide:F2.Nodup)).1 (hu.trans hj2.symm);exact absurd (this▸hj) hiD
   have ne0:=R1 0 c (c+1) (by omega);repeat' ((with_reducible first|refine wr ?_|refine A2 ?_ ?_|fail)<;>try simp only [go_sem,seval,ne0,A0])
   refine D3 (A2b (by decide) (by decide) (by decide)) ?_;simp only [go_sem,seval,ne0,A0];repeat' ((with_reducible first|refine wr ?_|refine A2 ?_ ?_|fail)<;>try simp only [go_sem,seval,ne0,A0])
   refine ⟨some (c+1),rfl,fun j b hj=>?_,?_⟩
   ·rw [R4] at hj;by_cases e:j=c+1
    ·subst e;rw [A0] at hj ⊢;exact hj
    ·rw [A3 e] at hj ⊢;by_cases e2:j=0
     ·subst e2;rw [A0] at hj;rw [A3 (by omega),A0];exact hj
     ·rw [A3 e2] at hj;cases hj
   ·unfold Keep;exact ⟨by omega,fun i' hi'=>by cases hi';exact ⟨by omega,by omega,i,List.mem_cons_self,hu⟩,fun h=>by cases h⟩
  ·have hx':(u == k)=false:=by simpa using hx
   have h0b:C8 (nil.upd 0 ⟨0,true,[I64 k,I64 v,.str n,H7 [],I64 p]⟩) o ⟨1,true,[.str w]⟩ 0=some ⟨0,true,[I64 k,I64 v,.str n,H7 [],I64 p]⟩:=by
    cases o with
    | none=>exact A0
    | some id=>rw [R4,A3 (by have:=ho id rfl;omega)];exact A0
   repeat' ((with_reducible first|refine wr ?_|refine A2 ?_ ?_|fail)<;>try simp only [go_sem,seval,hx',h0b])
   refine ⟨o,rfl,Sub.refl _,?_⟩;unfold Keep;refine ⟨hc1,fun i' hi'=>?_,fun h j hj=>?_⟩
   ·obtain ⟨g1,g2,j,g3,g4⟩:=ho i' hi';exact ⟨g1,g2,j,List.mem_cons_of_mem _ g3,g4⟩
   ·rcases List.mem_cons.1 hj with rfl|hj
    ·rw [hu];intro e;cases e;exact hx rfl
    ·exact hno h j hj
theorem W1 (l:List (List UInt8)):A6 (l.map DV.str)=l.map DV.str:=by
 induction l with
 | nil=>rfl
 | cons a l ih=>rw [List.map_cons,A6,List.flatMap_cons];exact congrArg (DV.str a :: ·) ih
theorem join_own {l:List (List UInt8)} {sp:List UInt8} {id cc:Nat} {H:Hp} (hb:H id=some ⟨1,true,l.map DV.str⟩) (h1:l.length<=140737488355328) (h2:(Lib.join l sp).length<=140737488355328) :
  AC Tryz.prog 64 [.slc id 0 l.length,.str sp] H cc (fun v H' c'=>v=.str (Lib.join l sp)/\H'=U7 H (some id)/\c'=cc) :=
 AC.ghost (GL.frzS (id:=id) hb rfl (fun j=>by
  by_cases e:j=id
  ·subst e;exact .inl (by rw [O7,if_pos rfl])
  ·exact .inr ⟨e,by rw [O7,if_neg e]⟩) (.cons _ _ _ _ (I8 (xs:=l.map DV.str) (u:=1) (by simp) (N7 l) ⟨[],by rw [W1];simp⟩) (.cons _ _ _ _ (.same _) .nil))) ((c_Join l sp h1 h2).at _ cc)
def fmtE (e:Ex):List UInt8:=if A2k e=true then A1e (exT e) else []
theorem vl_ms {e:Ex} (h:A2k e=true):∃ o d,msM e=some (o,d):=by
 unfold A2k at h;split at h
 ·rename_i o d hm;exact ⟨o,d,hm⟩
 ·cases h
theorem c_PFormatE (e:Ex) (hB:e.sz<=100000):PC Tryz.prog 29 [e.v] (.str (fmtE e)):=by
 have hx:=fit_exT e;have hv:=c_ValidExpr e (by omega);refine PC.ofT A9 rfl (Nat.le_of_ble_eq_true rfl) (by simp [DV.nlL,DV.nl,Ex.nl]) rfl ?_;unfold fmtE;cases hb:A2k e with
 | false =>
  rw [hb] at hv;rw [if_neg Bool.false_ne_true];rw [Ex.v_w] at hv ⊢;repeat' ((with_reducible first|refine wr ?_|refine cpc hv ?_|refine A2 ?_ ?_|fail)<;>try simp only [go_sem,seval])
  exact A5 rfl
 | true =>
  have hP:=c_printed _ e (Nat.lt_succ_self _) (by omega) (vl_ms hb);rw [hb] at hv;rw [if_pos rfl];rw [Ex.v_w] at hv hP ⊢;repeat' ((with_reducible first|refine wr ?_|refine cpc hv ?_|refine A2 ?_ ?_|fail)<;>try simp only [go_sem,seval])
  refine AC.call (hP _ _) ?_;rintro _ _ _ ⟨rfl,rfl,rfl⟩ -;simp only [go_sem,seval];have htl:=A4m hx;have hl:=(xt_len e).2;have hle:(exT e).length=(txT (exT e)).length:=by simp [txT]
  have htj:Lib.join (txT (exT e)) [32]=A1e (exT e):=W9 (exT e);refine AC.call (join_own A0 (by omega) (by rw [htj];omega)) ?_;rintro _ _ _ ⟨rfl,rfl,rfl⟩ -;rw [htj];simp only [go_sem,seval];repeat' ((with_reducible first|refine wr ?_|refine A2 ?_ ?_|fail)<;>try simp only [go_sem,seval])
  exact ⟨_,GL.refl _ _⟩
end Go.Proofs.YthlpinppaclofaaGreatDoor
namespace Go.Pb
variable [Go.Sym.Tab]
open Go.Sym
def F9 (P:St->List (List UInt8)) (l:List St):List (List UInt8):=[123] :: (l.flatMap P++[[125]])
abbrev elseW:List UInt8:=[101,108,115,101]
def A3n (P:St->List (List UInt8)):List St->List (List UInt8)
 | []=>[]
 | [s]=>elseW :: (if s.kind=2 then P s else F9 P [s])
 | s :: s2 :: r=>elseW :: F9 P (s :: s2 :: r)
def A1f (P:St->List (List UInt8)) (k:Int) (x y:List St):List (List UInt8):=if (J7 k).thn=true then F9 P x++A3n P y else [[59]]
def agI:Nat->List Ex->List (List UInt8)
 | _,[]=>[]
 | i,e :: l=>(if 0<i then [[44]] else [])++(txT (exT e)++agI (i+1) l)
def txL (k:Int) (t:List UInt8):List (List UInt8):=if (J7 k).text=true then [Q1 t,[44]] else []
def hdL (k:Int) (n:List UInt8):List (List UInt8):=if k=1 then [n,[61]] else K7 B3 Q9 k :: (if (J7 k).name=true then [n] else [])
def psL (P:St->List (List UInt8)):St->List (List UInt8)
 | .mk k n t a x y p=>hdL k n++(txL k t++(agI 0 a++A1f P k x y))
theorem tx_1 (x:List UInt8):txT [B8 x]=[x]:=by simp [txT,G4]
theorem F5 (x:List UInt8) (l:List Tok):txT (B8 x :: l)=x :: txT l:=by simp [txT,G4]
theorem I5:txT []=[]:=rfl
theorem S9:∀ l:List St,Y0 l=l.flatMap stT
 | []=>rfl
 | s :: l=>by rw [Y0,S9 l,List.flatMap_cons]
theorem A1v (l:List St):txT (Y0 l)=l.flatMap fun s=>txT (stT s):=by
 rw [S9,txT,List.map_flatMap];rfl
theorem tx_blk (l:List St):txT (blT l)=F9 (fun s=>txT (stT s)) l:=by
 rw [blT,C9,C9,A1v,tx_1,tx_1];rfl
theorem L7 {n:List UInt8} (h:C1 n=true):txT (F0 n)=[n]:=by simp [F0,h,txT,O3]
theorem tx_text {t:List UInt8} (h:R6 t=true):txT (A2p t)=[Q1 t]:=by
 unfold R6 at h;simp only [Bool.and_eq_true,decide_eq_true_eq] at h;have h2:¬ (t.all txB=false\/32<t.length):=by
  rintro (h3|h3)
  ·rw [h3] at h;exact absurd h.1 (by decide)
  ·omega
 unfold A2p;rw [if_neg h2];rfl
theorem stm_key {k:Int} (h1:2<=k) (h2:k<=19):K7 B3 Q9 k=B3.getD (k-2).toNat []:=by
 obtain ⟨j,rfl⟩:∃ j:Nat,k=2+(j:Int):=⟨(k-2).toNat,by omega⟩;have hj:j<18:=by omega
 have:∀ j:Nat,j<18->K7 B3 Q9 (2+(j:Int))=B3.getD (2+(j:Int)-2).toNat []:=by decide
 exact this j hj
theorem agI1 (e:Ex):agI 0 [e]=txT (exT e):=by simp [agI]
theorem agI2 (e f:Ex):agI 0 [e,f]=txT (exT e)++[44] :: txT (exT f):=by simp [agI]
theorem ps_eq {s:St} {d:Nat} (h:A0p d s=true):psL (fun s=>txT (stT s)) s=txT (stT s):=by
 obtain ⟨k,n,t,a,x,y,p⟩:=s;unfold A0p at h;simp only [Bool.and_eq_true,decide_eq_true_eq,beq_iff_eq] at h;obtain ⟨⟨⟨⟨⟨k1,k2⟩,⟨ha, -⟩⟩,⟨hn,ht⟩⟩,⟨hx,hy⟩⟩, -⟩:=h;rw [psL];obtain ⟨P,hP⟩:∃ P:St->List (List UInt8),P=fun s=>txT (stT s):=⟨_,rfl⟩;rw [<- hP];have hb:F9 P x=[123] :: (txT (Y0 x)++[[125]]):=by rw [A1v,hP];rfl
 by_cases c1:k=1
 ·subst c1;obtain ⟨e,rfl⟩:∃ e,a=[e]:=List.length_eq_one_iff.1 ha;have hn':C1 n=true:=hn;show [n,[61]]++([]++(agI 0 [e]++[[59]]))=_;rw [stT,if_pos rfl,C9,C9,C9,L7 hn',tx_1,tx_1,agI1];simp [agT]
 have hkey:=stm_key (k:=k) (by omega) k2;rw [stT,if_neg c1,if_neg (by omega)];dsimp only;rw [<- hkey];unfold hdL;rw [if_neg c1];by_cases c2:k=2
 ·subst c2;obtain ⟨e,rfl⟩:∃ e,a=[e]:=List.length_eq_one_iff.1 ha;show [K7 B3 Q9 2]++([]++(agI 0 [e]++(F9 P x++A3n P y)))=_;rw [if_pos (.inl rfl),agI1,hb]
  match y with
  | []=>simp [C9,F5,I5,A3n,agT]
  | [s] =>
   have hbs:F9 P [s]=[123] :: (txT (stT s)++[[125]]):=by simp [F9,hP]
   rw [A3n,hbs];dsimp only;by_cases h2:s.kind=2
   ·rw [if_pos h2,if_pos h2];simp [C9,F5,I5,agT,hP]
   ·rw [if_neg h2,if_neg h2];simp [C9,F5,I5,agT]
  | s :: s2 :: r =>
   have hbs:F9 P (s :: s2 :: r)=[123] :: (txT (Y0 (s :: s2 :: r))++[[125]]):=by rw [A1v,hP];rfl
   rw [A3n,hbs];simp [C9,F5,I5,agT]
 by_cases c3:k=3
 ·subst c3;obtain ⟨e,rfl⟩:∃ e,a=[e]:=List.length_eq_one_iff.1 ha;obtain rfl:y=[]:=by cases y with|nil=>rfl|cons a l=>exact absurd (show false=true from hy) (by decide)
  show [K7 B3 Q9 3]++([]++(agI 0 [e]++(F9 P x++A3n P [])))=_;rw [if_pos (.inr rfl),agI1,hb];simp [C9,F5,I5,A3n,agT]
 rw [if_neg (by omega:¬ (k=2\/k=3))];by_cases c4:k=4
 ·subst c4;obtain ⟨e,rfl⟩:∃ e,a=[e]:=List.length_eq_one_iff.1 ha;show [K7 B3 Q9 4]++([]++(agI 0 [e]++[[59]]))=_;rw [if_pos rfl,agI1];simp [C9,F5,I5,agT]
 rw [if_neg c4];by_cases c18:k=18
 ·subst c18;obtain ⟨e,rfl⟩:∃ e,a=[e]:=List.length_eq_one_iff.1 ha;have ht':R6 t=true:=ht;show [K7 B3 Q9 18]++([Q1 t,[44]]++(agI 0 [e]++[[59]]))=_;rw [if_pos rfl,agI1];simp [C9,F5,I5,agT,tx_text ht']
 rw [if_neg c18];by_cases c8:k=8\/k=10
 ·have hs:J7 k=⟨true,false,1,false,false⟩:=by rcases c8 with rfl|rfl<;>rfl
  rw [hs] at ha hn;obtain ⟨e,rfl⟩:∃ e,a=[e]:=List.length_eq_one_iff.1 ha;have hn':C1 n=true:=hn;unfold txL A1f;rw [hs,if_pos c8,agI1];simp [C9,F5,I5,agT,L7 hn']
 rw [if_neg c8];by_cases c9:k=9
 ·subst c9;obtain ⟨e,f,rfl⟩:∃ e f,a=[e,f]:=by
   match a,ha with
   | [e,f],_=>exact ⟨e,f,rfl⟩
  have hn':C1 n=true:=hn;show [K7 B3 Q9 9,n]++([]++(agI 0 [e,f]++[[59]]))=_;rw [if_pos rfl,agI2];simp [C9,F5,I5,agT,L7 hn']
 rw [if_neg c9];by_cases c19:k=19
 ·subst c19;obtain rfl:a=[]:=List.eq_nil_of_length_eq_zero ha;show [K7 B3 Q9 19]++([]++(agI 0 []++[[59]]))=_;rw [if_pos rfl];simp [C9,F5,I5,agI]
 rw [if_neg c19];have hs:J7 k=⟨true,false,0,false,false⟩:=by
  unfold J7;rw [if_neg (by omega),if_neg c9,if_neg c2,if_neg c3,if_neg c4,if_neg c18,if_neg c19]
 rw [hs] at ha hn;obtain rfl:a=[]:=List.eq_nil_of_length_eq_zero ha;have hn':C1 n=true:=hn;unfold txL A1f;rw [hs];simp [C9,F5,I5,agI,L7 hn']
end Go.Pb
namespace Go.Pb
variable [Go.Sym.Tab]
open Go.Sym
def lnT (t:List UInt8):List UInt8:=if t=[59]\/t=[123]\/t=[125] then t++[10] else t++[32]
def O5 (l:List (List UInt8)):List UInt8:=(l.map lnT).flatten
def F4 (Q:Tok->Prop) (l:List Tok):Prop:=∀ t∈l,Q t
structure Clo (Q:Tok->Prop):Prop where
 z:F4 Q [P1]
 w:∀ x:List UInt8,x.length<=12->F4 Q [B8 x]
 n:∀ x,F4 Q (F0 x)
 v:∀ x,F4 Q (A0v x)
 t:∀ x,F4 Q (A2p x)
section
variable {Q:Tok->Prop} (C:Clo Q)
include C
theorem F4.app {a b:List Tok} (h1:F4 Q a) (h2:F4 Q b):F4 Q (a++b):=fun t ht=>by
 rcases List.mem_append.1 ht with h|h
 ·exact h1 t h
 ·exact h2 t h
theorem q_nil:F4 Q []:=fun t ht=>by cases ht
theorem q_sign (i:Nat):F4 Q [B8 (C0.getD i [])]:=C.w _ (by
 by_cases hi:i<13
 ·have:∀ i:Nat,i<13->(C0.getD i []).length<=12:=by decide
  exact this i hi
 ·rw [List.getD_eq_getElem?_getD,List.getElem?_eq_none (by show 13<=i;omega)];simp)
theorem q_oper {q:Int × List Tok} {m:Int} (h:F4 Q q.2):F4 Q (N8 q m):=by
 unfold N8;split
 ·exact ((C.w _ (by decide)).app C h).app C (C.w _ (by decide))
 ·exact h
theorem q_build {k v:Int} {n:List UInt8} {as1:List (Int × List Tok)} (h:∀ q∈as1,F4 Q q.2):F4 Q (G5 k v n as1):=by
 unfold G5;dsimp only;by_cases k1:k=1
 ·rw [if_pos k1];exact C.v v
 rw [if_neg k1];by_cases k2:k=2
 ·rw [if_pos k2];exact C.n n
 rw [if_neg k2];by_cases k3:k=3
 ·rw [if_pos k3];exact C.w _ (by decide)
 rw [if_neg k3];by_cases k4:k=4
 ·rw [if_pos k4];exact C.w _ (by decide)
 rw [if_neg k4];by_cases k8:k=8
 ·rw [if_pos k8];exact C.w _ (by decide)
 rw [if_neg k8];by_cases k9:k=9
 ·rw [if_pos k9];exact C.w _ (by decide)
 rw [if_neg k9];by_cases k5:k=5
 ·rw [if_pos k5];exact (C.w _ (by decide)).app C (C.n n)
 rw [if_neg k5];by_cases k6:k=6
 ·rw [if_pos k6];exact (C.w _ (by decide)).app C (C.n n)
 rw [if_neg k6];by_cases k7:k=7
 ·rw [if_pos k7];exact (C.w _ (by decide)).app C (C.n n)
 rw [if_neg k7]
 match as1,h with
 | [],h=>exact C.z
 | [q],h =>
  dsimp only;by_cases h6:C6 k=6
  ·rw [if_pos h6];refine F4.app C ?_ (q_oper C (h q List.mem_cons_self));by_cases h10:k=10
   ·rw [if_pos h10];exact C.w _ (by decide)
   ·rw [if_neg h10];exact C.w _ (by decide)
  ·rw [if_neg h6];exact C.z
 | [q,r],h =>
  dsimp only;by_cases h6:C6 k<6
  ·rw [if_pos h6];exact ((q_oper C (h q List.mem_cons_self)).app C (q_sign C _)).app C (q_oper C (h r (List.mem_cons_of_mem _ List.mem_cons_self)))
  ·rw [if_neg h6];exact C.z
 | _ :: _ :: _ :: _,h=>exact C.z
theorem q_exT:∀ (e:Ex),F4 Q (exT e):=by
 have:∀ (m:Nat) (e:Ex),e.sz<m->F4 Q (exT e):=by
  intro m
  induction m with
  | zero=>intro e h;omega
  | succ m ih =>
   rintro ⟨k,v,n,a,p⟩ hm;rw [A3l];refine q_build C fun q hq=>?_;obtain ⟨x,hx,rfl⟩:=List.mem_map.1 hq;exact ih x (by have:=Ex.sz_arg (e:=.mk k v n a p) hx;omega)
 exact fun e=>this _ e (Nat.lt_succ_self _)
theorem q_agT (l:List Ex) (i:Nat):F4 Q (agT l i):=by
 unfold agT;split
 ·exact q_exT C _
 ·exact C.z
theorem A0s {α : Type} {f : α -> List Tok} {l:List α} (h:∀ x∈l,F4 Q (f x)):F4 Q (l.flatMap f):=fun t ht=>by
 obtain ⟨x,hx,ht⟩:=List.mem_flatMap.1 ht;exact h x hx t ht
theorem q_stmw (i:Nat):F4 Q [B8 (B3.getD i [])]:=C.w _ (by
 by_cases hi:i<18
 ·have:∀ i:Nat,i<18->(B3.getD i []).length<=12:=by decide
  exact this i hi
 ·rw [List.getD_eq_getElem?_getD,List.getElem?_eq_none (by show 18<=i;omega)];simp)
set_option maxHeartbeats 4000000 in
theorem q_stT:∀ (s:St),F4 Q (stT s):=by
 have:∀ (m:Nat) (s:St),s.sz<m->F4 Q (stT s):=by
  intro m
  induction m with
  | zero=>intro e h;omega
  | succ m ih =>
   rintro ⟨k,n,t,a,x,y,p⟩ hm;rw [St.sz] at hm;have hx:F4 Q (Y0 x):=by rw [S9];exact A0s C fun s hs=>ih s (by have:=St.szs_mem hs;omega)
   have hy:∀ s∈y,F4 Q (stT s):=fun s hs=>ih s (by have:=St.szs_mem hs;omega);have hys:F4 Q (Y0 y):=by rw [S9];exact A0s C hy
   have hel:F4 Q [B8 [101,108,115,101]]:=C.w _ (by decide);have w0:=q_stmw C (k-2).toNat;have o1:F4 Q [B8 [123]]:=C.w _ (by decide);have o2:F4 Q [B8 [125]]:=C.w _ (by decide);have o3:F4 Q [B8 [59]]:=C.w _ (by decide);have o4:F4 Q [B8 [44]]:=C.w _ (by decide);have o5:F4 Q [B8 [61]]:=C.w _ (by decide);rw [stT];dsimp only;repeat' split
   all_goals repeat' with_reducible first
    | refine F4.app C ?_ ?_
    | assumption
    | exact C.z
    | exact C.n _
    | exact C.t _
    | exact q_agT C _ _
    | exact hy _ List.mem_cons_self
 exact fun e=>this _ e (Nat.lt_succ_self _)
theorem q_blT (l:List St):F4 Q (blT l):=by
 rw [blT,S9];exact ((C.w _ (by decide)).app C (A0s C fun s _=>q_stT C s)).app C (C.w _ (by decide))
theorem q_dcT (d:Dc):F4 Q (dcT d):=by
 have hw:F4 Q [B8 (C4.getD (d.kind-1).toNat [])]:=C.w _ (by
  by_cases hi:(d.kind-1).toNat<8
  ·have:∀ i:Nat,i<8->(C4.getD i []).length<=12:=by decide
   exact this _ hi
  ·rw [List.getD_eq_getElem?_getD,List.getElem?_eq_none (by show 8<=_;omega)];simp)
 have o3:F4 Q [B8 [59]]:=C.w _ (by decide);have o4:F4 Q [B8 [45]]:=C.w _ (by decide);unfold dcT;dsimp only;repeat' split
 all_goals repeat' first
  | assumption
  | exact C.z
  | exact C.n _
  | exact C.v _
  | refine F4.app C ?_ ?_
theorem q_hdT (h:Hd):F4 Q (hdT h):=by
 have hw:F4 Q [B8 (C7.getD (h.trig-1).toNat [])]:=C.w _ (by
  by_cases hi:(h.trig-1).toNat<6
  ·have:∀ i:Nat,i<6->(C7.getD i []).length<=12:=by decide
   exact this _ hi
  ·rw [List.getD_eq_getElem?_getD,List.getElem?_eq_none (by show 6<=_;omega)];simp)
 have o3:F4 Q [B8 [111,110]]:=C.w _ (by decide);unfold hdT;refine (F4.app C (o3.app C hw) ?_).app C (q_blT C _);split
 ·exact C.n _
 ·exact q_nil C
theorem q_ruT (r:Ru):F4 Q (ruT r):=by
 unfold ruT;split
 ·exact C.z
 ·refine (A0s C fun d _=>q_dcT C d).app C (A0s C fun m _=>?_);unfold mdT;exact (((((C.w _ (by decide)).app C (C.n _)).app C (C.v _)).app C (C.w _ (by decide))).app C (A0s C fun h _=>q_hdT C h)).app C (C.w _ (by decide))
end
def fmtR (r:Ru):List UInt8:=if A5m r=true then O5 (txT (ruT r)) else []
end Go.Pb
namespace Go.Proofs.YthlpinppaclofaaGreatDoor
open Go.Eng (IC IOper DReg IFn G0)
open Go.Sym Go.Pb
theorem A3e:∀ l:List (List UInt8),Lib.join l []=l.flatten
 | []=>rfl
 | [a]=>by simp [Lib.join]
 | a :: b :: l=>by
  have:=A3e (b :: l);simp only [Lib.join] at this ⊢;rw [List.flatten_cons, <- this];simp
theorem c_lines (l:List (List UInt8)) (hl:l.length<=1000000000) (hb:∀ t∈l,t.length<=100000):PC Tryz.prog 60 [A1h l] (.str (O5 l)):=by
 refine PC.ofT A9 rfl (Nat.le_of_ble_eq_true rfl) (by simp only [DV.nlL,DV.nl,N9,Bool.and_true]) rfl ?_;repeat' ((with_reducible first|refine wr ?_|refine A2 ?_ ?_|fail)<;>try simp only [go_sem,seval])
 refine F3 (fun q:Nat × Option Nat=>[(3,B6 q.2 q.1),(6,A1h l),(7,I64 l.length),(8,I64 q.1)]) (fun q=>C8 Sym.nil q.2 ⟨1,true,((l.take q.1).map lnT).map DV.str⟩)
  (fun q cc=>q.1<=l.length/\(q.2=none->q.1=0)/\∀ i,q.2=some i->i<cc) (fun q=>l.length-q.1) (0,none)
  (by simp [D5,tm,Tm.upd,B6]) (Sub.nil _) ⟨by simp,by simp,by simp⟩ ?_
 rintro ⟨k,o⟩ c ⟨hk,hno,ho⟩;simp only at hk hno ho;simp only;have hkl:((l.take k).map lnT).length=k:=by rw [List.length_map,List.length_take];omega
 by_cases hlt:k<l.length
 ·have hd:decide ((k:Int)<l.length)=true:=by simpa using hlt
  have hg:=List.getElem?_eq_getElem hlt;have hw:IntKind.i64.wrap ((k:Int)+1)=((k+1:Nat):Int):=by rw [w6z (by omega)];omega
  have est:((l.take (k+1)).map lnT).map DV.str=((l.take k).map lnT).map DV.str++[DV.str (lnT l[k])]:=by
   rw [List.take_add_one,hg,Option.toList_some,List.map_append,List.map_append];rfl
  have htl:=hb _ (List.getElem_mem hlt);obtain ⟨t,ht⟩:∃ t,t=l[k]:=⟨_,rfl⟩;rw [<- ht] at hg est htl;have hgm:(l.map DV.str)[k]? = some (.str t):=by rw [List.getElem?_map,hg];rfl
  obtain ⟨cs,hcs⟩:∃ cs,cs=((l.take k).map lnT).map DV.str:=⟨_,rfl⟩;have hcl:cs.length=k * 1:=by rw [hcs,List.length_map,hkl,Nat.mul_one]
  rw [<- hcs] at est ⊢;have hno2:o=none->k=0/\cs=[]:=fun e=>⟨hno e,by rw [hcs,hno e];rfl⟩;have ne0:=R1 c (c+1) (c+2) (by omega);have a1:binR .add (.str t) (.str [10])=some (.str (t++[10])):=A5u (by simp [maxLen];omega);have a2:binR .add (.str t) (.str [32])=some (.str (t++[32])):=A5u (by simp [maxLen];omega);repeat' ((with_reducible first|refine wr ?_|refine A2 ?_ ?_|refine wb2 ?_ ?_<;>(intro hb;try simp only [hb])|fail)<;>try simp only [go_sem,seval,hd,hgm,hw,ne0,a1,a2])
  all_goals
   refine D3 (H9 (cs:=cs) hno2 (fun i hi=>?_) hcl (by omega) (by omega) (by omega)) ?_
   ·have:=ho i hi;rw [A3 (by omega)];exact opt_at hi
   simp only [go_sem,seval,ne0,hw];repeat' ((with_reducible first|refine wr ?_|refine A2 ?_ ?_|fail)<;>try simp only [go_sem,seval,hd,hw,ne0])
  all_goals exact ⟨(k+1,some (c+1)),⟨rfl,rfl⟩,N1 (by simp only [est];exact congrArg (fun z=>(⟨1,true,cs++[DV.str z]⟩:Blk)) (by unfold lnT;simp_all)),inv ⟨hlt,by simp,fun i hi=>by cases hi;omega⟩,by simp only;omega⟩
 ·have hd:decide ((k:Int)<l.length)=false:=by simpa using hlt
  have hfl:(O5 l).length<=140737488355328:=by
   have:∀ q:List (List UInt8),(∀ t∈q,t.length<=100000)->(O5 q).length<=100001 * q.length:=by
    intro q
    induction q with
    | nil=>intro _;simp [O5]
    | cons a q ih =>
     intro h;have h1:=ih fun t ht=>h t (List.mem_cons_of_mem _ ht);have h2:=h a List.mem_cons_self;have h3:(lnT a).length=a.length+1:=by unfold lnT;split<;>simp
     unfold O5 at h1 ⊢;rw [List.map_cons,List.flatten_cons,List.length_append,List.length_cons,h3];omega
   have:=this l hb;omega
  have hj:=c_Join (l.map lnT) [] (by rw [List.length_map];omega) (by rw [A3e];exact hfl);rw [A3e] at hj;obtain rfl:k=l.length:=by omega
  rw [List.take_length] at hkl ⊢;rcases o with _|id
  ·have hk0:=hno rfl;have h00:l=[]:=List.eq_nil_of_length_eq_zero (by omega);repeat' ((with_reducible first|refine wr ?_|refine A2 ?_ ?_|fail)<;>try simp only [go_sem,seval,hd])
   refine AC.call (hj.give (H0:=Sym.nil) ⟨fun _ h=>h,fun ρ w vs h1 h2=>⟨ρ,rfl,h1,?_,Ext.refl _ _ _⟩⟩) ?_
   ·rw [h00];exact ⟨h2.1,fun i x y hx hy=>by
     match i with
     | 0=>cases hx;exact (h2.2 0 _ y rfl hy).snil_lst
     | 1=>cases hx;exact h2.2 1 _ y rfl hy
     | _+2=>cases hx⟩
   ·rintro v H' c' ⟨rfl,rfl,rfl⟩ -;simp only [go_sem,seval];repeat' ((with_reducible first|refine wr ?_|refine A2 ?_ ?_|fail)<;>try simp only [go_sem,seval])
    exact A5 rfl
  ·repeat' ((with_reducible first|refine wr ?_|refine A2 ?_ ?_|fail)<;>try simp only [go_sem,seval,hd])
   refine AC.call (hj.give (H0:=Sym.nil) (GL.one (id:=id) A0 rfl (.cons _ _ _ _ (I8 (u:=1) (by rw [List.length_map,hkl]) (N7 _) ⟨[],by rw [W1];simp⟩) (.cons _ _ _ _ (.same _) .nil)))) ?_;rintro v H' c' ⟨rfl,rfl,rfl⟩ -;simp only [go_sem,seval];repeat' ((with_reducible first|refine wr ?_|refine A2 ?_ ?_|fail)<;>try simp only [go_sem,seval])
   exact A5 rfl
end Go.Proofs.YthlpinppaclofaaGreatDoor
set_option maxHeartbeats 8000000
namespace Go.Proofs.YthlpinppaclofaaGreatDoor
open Go.Eng (IC IOper DReg IFn G0)
open Go.Sym Go.Pb
end Go.Proofs.YthlpinppaclofaaGreatDoor
namespace Go.Pb
open Go.Sym
def Shp.v (s:Shp):DV:=.agg [.bool s.name,.bool s.text,I64 s.args,.bool s.thn,.bool s.els]
end Go.Pb
namespace Go.Proofs.YthlpinppaclofaaGreatDoor
open Go.Eng (IC IOper DReg IFn G0)
open Go.Sym Go.Pb
def kndB (k:Int):Bool:=decide (1<=k) && decide (k<=19)
theorem c_shapeOf (k:Int):PC Tryz.prog 153 [I64 k] (.tup [(J7 k).v,.bool (kndB k)]):=by
 refine PC.ofT A9 rfl (Nat.le_of_ble_eq_true rfl) (by simp [DV.nlL,DV.nl]) rfl ?_;repeat' ((with_reducible first|refine wr ?_|refine A2 ?_ ?_|refine wb2 ?_ ?_<;>(intro hb;try simp only [hb])|fail)<;>try simp only [go_sem,seval])
 all_goals refine A5 ?_
 all_goals simp_all [J7,kndB,Shp.v,tm,Tm.upd]
 all_goals omega
theorem c_isText (s:List UInt8) (hs:s.length<=1000000000):PC Tryz.prog 180 [.str s] (.bool (R6 s)):=by
 refine PC.ofT A9 rfl (Nat.le_of_ble_eq_true rfl) (by simp [DV.nlL,DV.nl]) (by simp [DV.nlL,DV.nl]) ?_;repeat' ((with_reducible first|refine wr ?_|refine A2 ?_ ?_|fail)<;>try simp only [go_sem,seval])
 refine F3 (fun k:Nat=>[(0,.str s),(3,I64 k)]) (fun _=>Sym.nil) (fun k _=>k<=s.length/\(s.take k).all txB=true) (fun k=>s.length-k) 0 (by simp [D5,tm,Tm.upd]) (Sub.refl _) ⟨Nat.zero_le _,rfl⟩ ?_;rintro k cc ⟨hk,he⟩;by_cases hlt:k<s.length
 ·have hd:decide ((k:Int)<s.length)=true:=by simpa using hlt
  have hg:=List.getElem?_eq_getElem hlt;have hw:=w64 (n:=(k:Int)+1);generalize s[k]=x at hg;have hx:txB x=(decide (32<=x.toNat) && decide (x.toNat<=126)):=rfl;repeat' ((with_reducible first|refine wr ?_|refine A2 ?_ ?_|refine wb2 ?_ ?_<;>(intro hb;try simp only [hb])|fail)<;>try simp only [go_sem,seval,hd,hg,hw])
  ·refine A5 (congrArg DV.bool ?_);have:=A3t txB s k _ hg (by simp_all<;>omega);simp [R6,this]
  ·refine A5 (congrArg DV.bool ?_);have:=A3t txB s k _ hg (by simp_all<;>omega);simp [R6,this]
  ·exact ⟨k+1,rfl,Sub.refl _,inv ⟨by omega,by rw [A5j txB s k _ hg,he];simp_all<;>omega⟩,by omega⟩
 have hd:decide ((k:Int)<s.length)=false:=by simpa using hlt
 have hall:=all_done txB s k (by omega) he;repeat' ((with_reducible first|refine wr ?_|refine A2 ?_ ?_|fail)<;>try simp only [go_sem,seval,hd])
 refine A5 (congrArg DV.bool ?_);simp [R6,hall];omega
theorem c_validDecl (d:Dc) (hB:d.name.length<=1000000000):PC Tryz.prog 51 [d.v] (.bool (A3v d)):=by
 refine PC.ofT A9 rfl (Nat.le_of_ble_eq_true rfl) (by simp [DV.nlL,DV.nl]) (by simp [DV.nlL,DV.nl]) ?_;have hn:=c_IsName d.name hB;repeat' ((with_reducible first|refine wr ?_|refine cpc hn ?_|refine A2 ?_ ?_|refine wb2 ?_ ?_<;>(intro hb;try simp only [hb])|fail)<;>try simp only [go_sem,seval])
 all_goals (refine A5 (congrArg DV.bool ?_);simp_all [A3v]<;>omega)
theorem c_vS1 (e:Ex) (hB:e.sz<=100000000):PC Tryz.prog 179 [e.v] (.bool (!A2k e)):=by
 refine PC.ofT A9 rfl (Nat.le_of_ble_eq_true rfl) (by simp [DV.nlL,DV.nl]) (by simp [DV.nlL,DV.nl]) ?_;have h:=c_ValidExpr e hB;rw [Ex.v_w] at h ⊢;repeat' ((with_reducible first|refine wr ?_|refine cpc h ?_|refine A2 ?_ ?_|fail)<;>try simp only [go_sem,seval])
 exact A5 rfl
theorem vlSt_e (d:Nat) (s:Pb.St):A0p d s=(kndB s.kind && (s.args.length == (J7 s.kind).args && s.args.all A2k) &&
   ((if (J7 s.kind).name=true then C1 s.name else s.name == []) && (if (J7 s.kind).text=true then R6 s.text else s.text == [])) &&
   (((J7 s.kind).thn || s.thn.isEmpty) && ((J7 s.kind).els || s.els.isEmpty)) && (Z8 s.thn (d+1) && Z8 s.els (d+1))):=by
 cases s with|mk k n t a x y p=>rw [A0p];rfl
theorem A6p {α : Type} (g : α -> Bool) (l:List α):l.any (fun x => !g x) = !l.all g:=by
 induction l with
 | nil=>rfl
 | cons x l ih=>rw [List.any_cons,List.all_cons,ih,Bool.not_and]
theorem c_vSt (s:Pb.St) (d:Nat) (hd:d<=1000000000) (hB:s.sz<=100000000) (hX:PC Tryz.prog 93 [G6 s.thn,I64 (d+1:Nat)] (.bool (Z8 s.thn (d+1)))) (hY:PC Tryz.prog 93 [G6 s.els,I64 (d+1:Nat)] (.bool (Z8 s.els (d+1)))) :
  PC Tryz.prog 148 [s.v,I64 d] (.bool (A0p d s)):=by
 rw [vlSt_e];have hsa:Ex.szs s.args<s.sz:=by cases s with|mk k n t a x y p=>rw [Pb.St.sz];show Ex.szs a<_;omega
 have hal:=Ex.szs_len s.args;have hxl:=Pb.St.szs_len s.thn;have hyl:=Pb.St.szs_len s.els;have hxs:=s.sz_thn;have hys:=s.sz_els;have hnl:=s.sz_name;have htl:=s.sz_text;have hn:=c_IsName s.name (by omega);have ht:=c_isText s.text (by omega);have hsh:=c_shapeOf s.kind;have hca:=c_CF_ex (f:=179) (a:=[]) (cs:=[]) (g:=fun e => !A2k e) s.args (by omega) rfl rfl (fun x hx=>c_vS1 x (by have:=Ex.szs_mem hx;omega));rw [A6p] at hca;have hw:=w64 (n:=(d:Int)+1);refine PC.ofT A9 rfl (Nat.le_of_ble_eq_true rfl) (by rw [Pb.St.v_w];simp [DV.nlL,DV.nl,A0b,X0]) rfl ?_;cases s with|mk k n t a x y p =>
 dsimp only [Pb.St.kind,Pb.St.name,Pb.St.text,Pb.St.args,Pb.St.thn,Pb.St.els,Pb.St.pos] at *;have hX:PC Tryz.prog 93 [G6 x,I64 ((d:Int)+1)] (.bool (Z8 x (d+1))):=hX;have hY:PC Tryz.prog 93 [G6 y,I64 ((d:Int)+1)] (.bool (Z8 y (d+1))):=hY;have ev:(Pb.St.mk k n t a x y p).v=.agg [I64 k,.str n,.str t,H7 a,G6 x,G6 y,I64 p]:=Pb.St.v_w _;rw [ev];generalize Z8 x (d+1)=bx at *;generalize Z8 y (d+1)=bY at *;generalize kndB k=kb at *;obtain ⟨nb,tb,ar,xb,yb,hs⟩:∃ nb tb ar xb yb,J7 k=⟨nb,tb,ar,xb,yb⟩:=⟨_,_,_,_,_,rfl⟩;simp only [hs,Shp.v] at hsh ⊢;have kA:∀ (cc:Nat) (nm tx:Bool),IW Tryz.prog 86 (pz Tryz.prog 148 (.i (.i (.o (.i .h))))) ⟨tm [(1,I64 d),(2,.ptr 0 0),(5,.ptr 1 0),(7,.bool nm),(8,.bool tx)],(Sym.nil.upd 0 ⟨0,true,[I64 k,.str n,.str t,H7 a,G6 x,G6 y,I64 p]⟩).upd 1 ⟨0,true,[.bool nb,.bool tb,I64 ar,.bool xb,.bool yb]⟩,cc⟩ (rt [.tmp 4] fun v H' c => ∃ H2,GL H' [v] H2 [.bool ((nm && tx) && ((xb || x.isEmpty) && (yb || y.isEmpty)) && (bx && bY))]):=by
  intro cc nm tx;have ex:x.isEmpty = !decide ((x.length:Int)>0):=by cases x<;>simp
  have ey:y.isEmpty = !decide ((y.length:Int)>0):=by cases y<;>simp
  rw [ex,ey];cases nm with
  | false =>
   repeat' ((with_reducible first|refine wr ?_|refine A2 ?_ ?_|fail)<;>try simp only [go_sem,seval])
   exact A5 (by simp)
  | true =>
  cases tx with
  | false =>
   repeat' ((with_reducible first|refine wr ?_|refine A2 ?_ ?_|fail)<;>try simp only [go_sem,seval])
   exact A5 (by simp)
  | true =>
  generalize hlx:decide ((x.length:Int)>0)=lx at *;generalize hly:decide ((y.length:Int)>0)=ly at *;cases bx<;>cases bY<;>cases xb<;>cases lx<;>cases yb<;>cases ly;all_goals (repeat' ((with_reducible first|refine wr ?_|refine cpc hX ?_|refine cpc hY ?_|refine A2 ?_ ?_|fail)<;>try simp only [go_sem,seval,hlx,hly,hw,List.length_map]))
  all_goals exact A5 rfl
 have kB:∀ cc:Nat,IW Tryz.prog 86 (pz Tryz.prog 148 (.i (.i (.i .h)))) ⟨tm [(1,I64 d),(2,.ptr 0 0),(5,.ptr 1 0),(7,.bool (n == [])),(8,.bool (t == []))],(Sym.nil.upd 0 ⟨0,true,[I64 k,.str n,.str t,H7 a,G6 x,G6 y,I64 p]⟩).upd 1 ⟨0,true,[.bool nb,.bool tb,I64 ar,.bool xb,.bool yb]⟩,cc⟩ (rt [.tmp 4] fun v H' c => ∃ H2,GL H' [v] H2 [.bool (((if nb=true then C1 n else n == []) && (if tb=true then R6 t else t == [])) && ((xb || x.isEmpty) && (yb || y.isEmpty)) && (bx && bY))]):=by
  intro cc;cases nb<;>cases tb;all_goals (repeat' ((with_reducible first|refine E1 (p:=IW _ _ (pz Tryz.prog 148 (.i (.i (.o (.i .h))))) _ _) ?_|refine wr ?_|refine cpc hn ?_|refine cpc ht ?_|refine A2 ?_ ?_|fail)<;>try simp only [go_sem,seval]))
  all_goals (refine IW.stage ?_ (kA _ _ _);simp [D5,tm,Tm.upd])
 cases kb with
 | false =>
  repeat' ((with_reducible first|refine wr ?_|refine cpc hsh ?_|refine A2 ?_ ?_|fail)<;>try simp only [go_sem,seval])
  exact A5 (by simp)
 | true =>
 by_cases hal2:a.length=ar
 ·have d0:((a.length:Int) != (ar:Int))=false:=by simp [hal2]
  cases hall:a.all A2k with
  | false =>
   rw [hall] at hca;repeat' ((with_reducible first|refine wr ?_|refine cpc hsh ?_|refine cpc hca ?_|refine A2 ?_ ?_|fail)<;>try simp only [go_sem,seval,d0,List.length_map])
   exact A5 (by simp)
  | true =>
   rw [hall] at hca;have e1:(a.length == ar)=true:=by simpa using hal2
   rw [e1];simp only [Bool.true_and];repeat' ((with_reducible first|refine E1 (p:=IW _ _ (pz Tryz.prog 148 (.i (.i (.i .h)))) _ _) ?_|refine wr ?_|refine cpc hsh ?_|refine cpc hca ?_|refine A2 ?_ ?_|fail)<;>try simp only [go_sem,seval,d0,List.length_map,A1])
   refine IW.stage (L:=[(1,I64 d),(2,.ptr 0 0),(5,.ptr 1 0),(7,.bool (n == [])),(8,.bool (t == []))]) ?_ (kB _);simp [D5,tm,Tm.upd]
 ·have d0:((a.length:Int) != (ar:Int))=true:=by simp;omega
  repeat' ((with_reducible first|refine wr ?_|refine cpc hsh ?_|refine A2 ?_ ?_|fail)<;>try simp only [go_sem,seval,d0,List.length_map])
  exact A5 (by simp;omega)
theorem c_vB1 (s:Pb.St) (d:Nat) (h:PC Tryz.prog 148 [s.v,I64 d] (.bool (A0p d s))):PC Tryz.prog 147 [s.v,.fptr [I64 d]] (.bool (!A0p d s)):=by
 rw [Pb.St.v_w] at h ⊢;refine PC.ofT A9 rfl (Nat.le_of_ble_eq_true rfl) (by simp [DV.nlL,DV.nl]) (by simp [DV.nlL,DV.nl]) ?_;repeat' ((with_reducible first|refine wr ?_|refine cpc h ?_|refine A2 ?_ ?_|fail)<;>try simp only [go_sem,seval])
 exact A5 rfl
theorem A4k (d:Nat):∀ l:List Pb.St,Z7 d l=l.all (A0p d)
 | []=>by rw [Z7];rfl
 | s :: l=>by rw [Z7,A4k d l];rfl
theorem c_validBlock:∀ (m:Nat) (l:List Pb.St) (d:Nat),Pb.St.szs l<m->Pb.St.szs l<=100000000->d+Pb.St.szs l<=1000000000->PC Tryz.prog 93 [G6 l,I64 d] (.bool (Z8 l d)):=by
 intro m
 induction m with
 | zero=>intro l d h;omega
 | succ m ih =>
 intro l d hm hB hd;have hl:=Pb.St.szs_len l;have hcf:=c_CF_st (f:=147) (a:=[]) (cs:=[.fptr [I64 d]]) (g:=fun s => !A0p d s) l (by omega) rfl rfl (fun s hs=>by
  have h1:=Pb.St.szs_mem hs;have h2:=s.sz_thn;have h3:=s.sz_els;exact c_vB1 s d (c_vSt s d (by omega) (by omega) (ih _ _ (by omega) (by omega) (by omega)) (ih _ _ (by omega) (by omega) (by omega))))
 rw [A6p, <- A4k] at hcf;refine PC.ofT A9 rfl (Nat.le_of_ble_eq_true rfl) (by simp [DV.nlL,DV.nl,X0]) rfl ?_;have el:l.isEmpty = !decide ((l.length:Int)>0):=by cases l<;>simp
 have e64:decide (l.length<=64) = !decide ((l.length:Int)>64):=by rw [<- decide_not];exact decide_eq_decide.2 (by omega)
 have e8:decide (d<=8) = !decide ((d:Int)>8):=by rw [<- decide_not];exact decide_eq_decide.2 (by omega)
 unfold Z8;rw [el,e64,e8];repeat' ((first|(with_reducible first|refine wr ?_|refine A2 ?_ ?_)|(with_reducible refine wb2 ?_ ?_<;>(intro hb;try simp only [hb]))|(refine AC.call (hcf.lend rfl (GL.one (id:=0) (b:=⟨0,true,[I64 d]⟩) rfl rfl (.cons _ _ _ _ (.same _) (.cons _ _ _ _ (.func _ _ _ _ _ .nil (.cons _ _ _ _ (.ptr 0 _ (Nat.zero_le _) rfl) .nil)) .nil)))) ?_<;>rintro v H' c' ⟨rfl,rfl,rfl⟩ hcc)|fail)<;>try simp only [go_sem,seval,List.length_map])
 all_goals (refine A5 (congrArg DV.bool ?_);simp_all)
theorem c_validHd (h:Hd) (hB:Pb.St.szs h.body<=100000000):PC Tryz.prog 93 [G6 h.body,I64 1] (.bool (Z8 h.body 1)) :=
 c_validBlock _ h.body 1 (Nat.lt_succ_self _) hB (by omega)
theorem hd_w (h:Hd):h.v=.agg [I64 h.trig,.str h.name,G6 h.body,I64 h.pos]:=rfl
theorem c_validMode (d:Md) (hB:d.sz<=100000000):PC Tryz.prog 54 [d.v] (.bool (X9 d)):=by
 have hsz:d.sz=1+d.name.length+(d.hds.map Hd.sz).sum:=rfl;have hhl:d.hds.length<=(d.hds.map Hd.sz).sum:=U2 fun x _=>by show 1<=1+_+_;omega
 have hn:=c_IsName d.name (by omega);refine PC.ofT A9 rfl (Nat.le_of_ble_eq_true rfl) (by simp [Md.v,DV.nlL,DV.nl,nlL_hds]) rfl ?_;have ev:d.v=.agg [.str d.name,I64 d.prio,A4d d.hds,I64 d.pos]:=rfl;rw [ev];cases hnm:C1 d.name with
 | false =>
  rw [hnm] at hn;repeat' ((with_reducible first|refine wr ?_|refine cpc hn ?_|refine A2 ?_ ?_|fail)<;>try simp only [go_sem,seval])
  exact A5 (by simp [X9,hnm])
 | true =>
 rw [hnm] at hn;by_cases p0:d.prio<0
 ·have q0:decide (d.prio<0)=true:=by simpa using p0
  repeat' ((with_reducible first|refine wr ?_|refine cpc hn ?_|refine A2 ?_ ?_|fail)<;>try simp only [go_sem,seval,q0])
  exact A5 (by simp [X9,hnm];omega)
 have q0:decide (d.prio<0)=false:=by simpa using p0
 by_cases p1:d.prio>2147483647
 ·have q1:decide (d.prio>2147483647)=true:=by simpa using p1
  repeat' ((with_reducible first|refine wr ?_|refine cpc hn ?_|refine A2 ?_ ?_|fail)<;>try simp only [go_sem,seval,q0,q1])
  exact A5 (by simp [X9,hnm];omega)
 have q1:decide (d.prio>2147483647)=false:=by simpa using p1
 by_cases p2:d.hds.length>32
 ·have q2:decide ((d.hds.length:Int)>32)=true:=by simp;omega
  repeat' ((with_reducible first|refine wr ?_|refine cpc hn ?_|refine A2 ?_ ?_|fail)<;>try simp only [go_sem,seval,q0,q1,q2,List.length_map])
  exact A5 (by simp [X9,hnm];omega)
 have q2:decide ((d.hds.length:Int)>32)=false:=by simp;omega
 have er:X9 d=d.hds.all A0q:=by
  unfold X9;rw [hnm,show decide (0<=d.prio)=true by simp;omega,show decide (d.prio<=2147483647)=true by simp;omega,show decide (d.hds.length<=32)=true by simp;omega];rfl
 rw [er];repeat' ((with_reducible first|refine wr ?_|refine cpc hn ?_|refine A2 ?_ ?_|fail)<;>try simp only [go_sem,seval,q0,q1,q2,List.length_map])
 refine F3 (fun k:Nat=>[(27,A4d d.hds),(28,I64 d.hds.length),(29,I64 k)]) (fun _=>Sym.nil) (fun k _=>k<=d.hds.length/\(d.hds.take k).all A0q=true) (fun k=>d.hds.length-k) 0 (by simp [D5,tm,Tm.upd]) (Sub.nil _) ⟨Nat.zero_le _,rfl⟩ ?_;rintro k cc ⟨hk,he⟩;by_cases hlt:k<d.hds.length
 ·have hd:decide ((k:Int)<d.hds.length)=true:=by simpa using hlt
  have hg:=List.getElem?_eq_getElem hlt;have hw:=w64 (n:=(k:Int)+1);have hs:d.hds[k].sz<=(d.hds.map Hd.sz).sum:=P2 (List.getElem_mem hlt);generalize d.hds[k]=h at hg hs;have hhs:h.sz=1+h.name.length+Pb.St.szs h.body:=rfl;have hn2:=c_IsName h.name (by omega);have hb2:=c_validHd h (by omega);have hf:=A3t A0q d.hds k _ hg;have ht:=A5j A0q d.hds k _ hg;have eh:A0q h=(decide (1<=h.trig) && decide (h.trig<=6) && (if 3<=h.trig then C1 h.name else h.name == []) && Z8 h.body 1):=rfl;by_cases t3:3<=h.trig
  ·have u3:decide (h.trig≥3)=true:=by simpa using t3
   rw [if_pos t3] at eh;repeat' ((with_reducible first|refine wr ?_|refine cpc hn2 ?_|refine cpc hb2 ?_|refine A2 ?_ ?_|refine wb2 ?_ ?_<;>(intro hb;try simp only [hb])|fail)<;>try simp only [go_sem,seval,hd,hg,hw,u3,hd_w,A0,A1])
   all_goals first
    | (refine A5 (congrArg DV.bool (hf ?_).symm);rw [eh];clear hf ht eh er;simp_all<;>omega)
    | (refine ⟨k+1,rfl,Sub.nil _,inv ⟨by omega,?_⟩,by omega⟩;rw [ht,he,eh];clear hf ht eh er;simp_all<;>omega)
  ·have u3:decide (h.trig≥3)=false:=by simpa using t3
   rw [if_neg t3] at eh;repeat' ((with_reducible first|refine wr ?_|refine cpc hn2 ?_|refine cpc hb2 ?_|refine A2 ?_ ?_|refine wb2 ?_ ?_<;>(intro hb;try simp only [hb])|fail)<;>try simp only [go_sem,seval,hd,hg,hw,u3,hd_w,A0,A1])
   all_goals first
    | (refine A5 (congrArg DV.bool (hf ?_).symm);rw [eh];clear hf ht eh er;simp_all<;>omega)
    | (refine ⟨k+1,rfl,Sub.nil _,inv ⟨by omega,?_⟩,by omega⟩;rw [ht,he,eh];clear hf ht eh er;simp_all<;>omega)
 have hd:decide ((k:Int)<d.hds.length)=false:=by simpa using hlt
 have hall:=all_done A0q d.hds k (by omega) he;repeat' ((with_reducible first|refine wr ?_|refine A2 ?_ ?_|fail)<;>try simp only [go_sem,seval,hd])
 exact A5 (by rw [hall])
theorem c_V1 (d:Dc) (hB:d.name.length<=1000000000):PC Tryz.prog 50 [d.v] (.bool (!A3v d)):=by
 have h:=c_validDecl d hB;have ev:d.v=.agg [I64 d.kind,.str d.name,I64 d.value,I64 d.pos]:=rfl;rw [ev] at h ⊢;refine PC.ofT A9 rfl (Nat.le_of_ble_eq_true rfl) (by simp [DV.nlL,DV.nl]) (by simp [DV.nlL,DV.nl]) ?_;repeat' ((with_reducible first|refine wr ?_|refine cpc h ?_|refine A2 ?_ ?_|fail)<;>try simp only [go_sem,seval])
 exact A5 rfl
theorem c_V2 (d:Md) (hB:d.sz<=100000000):PC Tryz.prog 53 [d.v] (.bool (!X9 d)):=by
 have h:=c_validMode d hB;have ev:d.v=.agg [.str d.name,I64 d.prio,A4d d.hds,I64 d.pos]:=rfl;rw [ev] at h ⊢;refine PC.ofT A9 rfl (Nat.le_of_ble_eq_true rfl) (by simp [DV.nlL,DV.nl]) (by simp [DV.nlL,DV.nl]) ?_;repeat' ((with_reducible first|refine wr ?_|refine cpc h ?_|refine A2 ?_ ?_|fail)<;>try simp only [go_sem,seval])
 exact A5 rfl
theorem c_Valid (r:Ru) (hB:r.sz<=100000000):PC Tryz.prog 23 [r.v] (.bool (A5m r)):=by
 obtain ⟨D,M⟩:=r;have hDs:(D.map Dc.sz).sum+(M.map Md.sz).sum<=100000000:=hB;have hDl:D.length<=(D.map Dc.sz).sum:=U2 fun x _=>by show 1<=1+_;omega
 have hMl:M.length<=(M.map Md.sz).sum:=U2 fun x _=>by show 1<=1+_+_;omega
 have h1:=c_CF_dc (f:=50) (a:=[]) (cs:=[]) (g:=fun e => !A3v e) D (by omega) rfl rfl (fun x hx=>c_V1 x (by
  have:x.sz<=(D.map Dc.sz).sum:=P2 hx;have e:x.sz=1+x.name.length:=rfl;omega))
 have h2:=c_CF_md (f:=53) (a:=[]) (cs:=[]) (g:=fun e => !X9 e) M (by omega) rfl rfl (fun x hx=>c_V2 x (by
  have:x.sz<=(M.map Md.sz).sum:=P2 hx;omega))
 rw [A6p] at h1 h2;refine PC.ofT A9 rfl (Nat.le_of_ble_eq_true rfl) (by simp [Ru.v,DV.nlL,DV.nl,X2,X1]) rfl ?_;dsimp only [Ru.v];unfold A5m;dsimp only;have e1:decide (D.length<=128) = !decide ((D.length:Int)>128):=by rw [<- decide_not];exact decide_eq_decide.2 (by omega)
 have e2:decide (M.length<=16) = !decide ((M.length:Int)>16):=by rw [<- decide_not];exact decide_eq_decide.2 (by omega)
 rw [e1,e2];generalize D.all A3v=bD at *;generalize M.all X9=bM at *;repeat' ((with_reducible first|refine wr ?_|refine cpc h1 ?_|refine cpc h2 ?_|refine A2 ?_ ?_|refine wb2 ?_ ?_<;>(intro hb;try simp only [hb])|fail)<;>try simp only [go_sem,seval,List.length_map])
 all_goals (refine A5 (congrArg DV.bool ?_);simp_all)
end Go.Proofs.YthlpinppaclofaaGreatDoor
set_option maxHeartbeats 4000000
namespace Go.Proofs.YthlpinppaclofaaGreatDoor
open Go.Eng (IC IOper DReg IFn G0)
open Go.Sym Go.Pb
theorem c_pblk (P:Pb.St->List (List UInt8)) (l:List Pb.St) (hl:l.length<=4000000) (hP:∀ s∈l,OwL 102 [s.v] (P s)) (hb:(l.flatMap P).length<=1000000000):OwL 59 [G6 l] (F9 P l):=by
 refine OwL.of (by simp [DV.nlL,DV.nl,X0]) ?_;refine AC.bodyT A9 rfl (Nat.le_of_ble_eq_true rfl) fun hfr=>?_;repeat' ((with_reducible first|refine wr ?_|refine A2 ?_ ?_|fail)<;>try simp only [go_sem,seval])
 refine X4 (fun q:Nat × Nat=>[(3,.slc q.2 0 (1+((l.take q.1).flatMap P).length)),(7,G6 l),(8,I64 l.length),(9,I64 q.1)]) (fun q=>nil.upd q.2 ⟨1,true,([123] :: (l.take q.1).flatMap P).map DV.str⟩)
  (fun q cc=>q.1<=l.length/\q.2<cc) (fun q=>l.length-q.1) (0,0) (fun b=>⟨rfl,rfl,rfl,rfl,trivial⟩) (by simp [D5,tm,Tm.upd]) (by simp;exact Sub.refl _) ⟨by simp,by simp⟩ ?_
 rintro ⟨k,id⟩ c ⟨hk,hid⟩;simp only at hk hid;simp only;have hle:((l.take k).flatMap P).length<=(l.flatMap P).length:=by
  have:=congrArg List.length (congrArg (List.flatMap P) (List.take_append_drop k l));rw [List.flatMap_append,List.length_append] at this;omega
 obtain ⟨A,hA⟩:∃ A,A=(l.take k).flatMap P:=⟨_,rfl⟩;rw [<- hA] at hle ⊢;by_cases hlt:k<l.length
 ·have hd:decide ((k:Int)<l.length)=true:=by simpa using hlt
  have hg:=List.getElem?_eq_getElem hlt;have hw:IntKind.i64.wrap ((k:Int)+1)=((k+1:Nat):Int):=by rw [w6z (by omega)];omega
  have est:(l.take (k+1)).flatMap P=A++P l[k]:=by
   rw [List.take_add_one,hg,Option.toList_some,List.flatMap_append,hA];simp
  have hc:=hP _ (List.getElem_mem hlt);have hle2:(A++P l[k]).length<=(l.flatMap P).length:=by
   have:=congrArg List.length (congrArg (List.flatMap P) (List.take_append_drop (k+1) l));rw [List.flatMap_append,List.length_append,est] at this;omega
  obtain ⟨s,hs⟩:∃ s,s=l[k]:=⟨_,rfl⟩;rw [<- hs] at hg est hc hle2;have hgm:(l.map Pb.St.v)[k]? = some s.v:=by rw [List.getElem?_map,hg];rfl
  rw [Pb.St.v_w] at hgm hc;have ne0:=R1 id c (c+1) (by omega);repeat' ((with_reducible first|refine wr ?_|refine A2 ?_ ?_|fail)<;>try simp only [go_sem,seval,hd,hgm,hw,ne0,A0])
  refine AC.call (hc _ _) ?_;rintro _ _ _ ⟨rfl,rfl,rfl⟩ -;have tk:List.take (P s).length ((P s).map DV.str)=(P s).map DV.str:=List.take_of_length_le (by simp);rw [List.length_append] at hle2;have ne0:=A4b id c (c+1) (c+1+1) (by omega);simp only [go_sem,seval,ne0,A0,tk];repeat' ((with_reducible first|refine wr ?_|refine A2 ?_ ?_|fail)<;>try simp only [go_sem,seval,ne0,A0,tk])
  refine D3 (D0 (by simp;omega) (by omega) (by omega)) ?_;simp only [go_sem,seval,ne0,A0];repeat' ((with_reducible first|refine wr ?_|refine A2 ?_ ?_|fail)<;>try simp only [go_sem,seval,hw,ne0,A0])
  have e1:1+A.length+(P s).length=1+((l.take (k+1)).flatMap P).length:=by rw [est,List.length_append];omega
  refine ⟨(k+1,c+1+1),⟨by rw [e1],rfl⟩,GL.less fun j=>?_,inv ⟨hlt,by simp only;omega⟩,by simp only;omega⟩;by_cases e:j=c+1+1
  ·subst e;right;rw [A0,A0];simp only [est,List.map_append]
  ·left;rw [A3 e];rfl
 ·have hd:decide ((k:Int)<l.length)=false:=by simpa using hlt
  obtain rfl:k=l.length:=by omega
  rw [List.take_length] at hA;have ne0:=R1 id c (c+1) (by omega);repeat' ((with_reducible first|refine wr ?_|refine A2 ?_ ?_|fail)<;>try simp only [go_sem,seval,hd,ne0,A0])
  refine D3 (D0 (by simp;omega) (by omega) (by omega)) ?_;simp only [go_sem,seval,ne0,A0];repeat' ((with_reducible first|refine wr ?_|refine A2 ?_ ?_|fail)<;>try simp only [go_sem,seval,hd,ne0,A0])
  have e1:(F9 P l).length=1+A.length+1:=by rw [F9, <- hA];simp;omega
  rw [<- e1];exact ⟨_,nil.upd (c+1) ⟨1,true,(F9 P l).map DV.str⟩,N0 A0 (fun j hj=>.inl (by rw [A3 hj];rfl)) (by rw [A0,F9, <- hA];simp),c+1,rfl,rfl⟩
abbrev pstB (k:Int) (n t:List UInt8) (a:List Ex) (x y:List Pb.St) (p:Int):Blk:=⟨0,true,[I64 k,.str n,.str t,H7 a,G6 x,G6 y,I64 p]⟩
abbrev pshB (q:Shp):Blk:=⟨0,true,[.bool q.name,.bool q.text,I64 q.args,.bool q.thn,.bool q.els]⟩
theorem c_psE (k:Int) (n t:List UInt8) (a:List Ex) (x y:List Pb.St) (p:Int) (P:Pb.St->List (List UInt8)) (hY:OwL 59 [G6 y] (F9 P y))
  (hS:∀ s,y=[s]->OwL 102 [s.v] (P s)) (hb2:(F9 P y).length<=1000000000) (hb3:∀ s,y=[s]->(P s).length<=1000000000)
  (l R:List (List UInt8)) (id c:Nat) (hid:1<=id) (hc:id<c) (hl:l.length<=10000000000) (hR:R=l++A3n P y) :
  IW Tryz.prog 107 (pz Tryz.prog 102 (.o (.i (.o (.i (.i .h)))))) ⟨(tm [(1,.ptr 0 0),(3,.slc id 0 l.length)]),((nil.upd 0 (pstB k n t a x y p)).upd id ⟨1,true,l.map DV.str⟩),c⟩ (rt [.tmp 2] fun v H' c' => ∃ v2 H2,GL H' [v] H2 [v2]/\∃ id,v2=.slc id 0 R.length/\H2=nil.upd id ⟨1,true,R.map DV.str⟩):=by
 have ne0:=R1 0 id c (by omega)
 match y with
 | [] =>
  rw [A3n,List.append_nil] at hR;subst hR;repeat' ((with_reducible first|refine wr ?_|refine A2 ?_ ?_|fail)<;>try simp only [go_sem,seval,ne0,A0,List.length_nil,List.map_nil,List.length_map])
  exact ⟨_,nil.upd id ⟨1,true,R.map DV.str⟩,N0 A0 (fun j hj=>.inl (by rw [A3 hj];rfl)) A0,id,rfl,rfl⟩
 | [s] =>
  have hS':=hS s rfl;rw [Pb.St.v_w] at hS';rw [A3n] at hR;by_cases hk2:s.kind=2
  ·have d2:(s.kind == 2)=true:=by simpa using hk2
   repeat' ((with_reducible first|refine wr ?_|refine A2 ?_ ?_|fail)<;>try simp only [go_sem,seval,ne0,A0,d2,Pb.St.v_w])
   rw [A3 (show ¬ id=c+1 by omega),A0];refine K5 (D0 (by simp) (by omega) (by omega)) ?_;rw [if_pos hk2] at hR;simp only [go_sem,seval,ne0,A0,Pb.St.v_w];obtain ⟨M,hM⟩:∃ M,M=((((nil.upd 0 (pstB k n t a x [s] p)).upd id ⟨1,true,l.map DV.str⟩).upd (c+1) ⟨1,true,[.str [101,108,115,101]]⟩).del id).upd (c+10) ⟨1,true,l.map DV.str++[.str [101,108,115,101]]⟩:=⟨_,rfl⟩;rw [<- hM];have hMn:∀ i,i≠0->i≠c+1->i≠c+10->M i=none:=fun i h0 h1 h2=>by
    rw [hM,A3 h2];simp only [Hp.del];split
    ·rfl
    ·rename_i h3;rw [A3 h1,A3 h3,A3 h0];rfl
   have hMl:M (c+10)=some ⟨1,true,l.map DV.str++[.str [101,108,115,101]]⟩:=by rw [hM];exact A0
   clear hM;refine ⟨by and_intros<;>exact hMn _ (by omega) (by omega) (by omega),?_⟩;refine AC.call (hS' M (c+10+1)) ?_;rintro _ _ _ ⟨rfl,rfl,rfl⟩ -;obtain ⟨W,hW⟩:∃ W,W=P s:=⟨_,rfl⟩;rw [<- hW] at hR ⊢;have hWl:W.length<=1000000000:=hW▸hb3 s rfl;have tk:List.take W.length (W.map DV.str)=W.map DV.str:=List.take_of_length_le (by simp);have hMl2:(M.upd (c+10+1) ⟨1,true,W.map DV.str⟩) (c+10)=some ⟨1,true,l.map DV.str++[.str [101,108,115,101]]⟩:=by rw [A3 (by omega)];exact hMl
   simp only [go_sem,seval,ne0,A0,tk,hMl2];refine K5 (D0 (by simp) (by omega) (by omega)) ?_;simp only [go_sem,seval,ne0,A0];repeat' ((with_reducible first|refine wr ?_|refine A2 ?_ ?_|fail)<;>try simp only [go_sem,seval,ne0,A0])
   have e1:R.length=l.length+1+W.length:=by rw [hR];simp;omega
   rw [<- e1];exact ⟨_,nil.upd (c+10+1+1) ⟨1,true,R.map DV.str⟩,N0 A0 (fun j hj=>.inl (by rw [A3 hj];rfl)) (by rw [A0,hR];simp),c+10+1+1,rfl,rfl⟩
  ·have d2:(s.kind == 2)=false:=by simpa using hk2
   repeat' ((with_reducible first|refine wr ?_|refine A2 ?_ ?_|fail)<;>try simp only [go_sem,seval,ne0,A0,d2,Pb.St.v_w])
   rw [A3 (show ¬ id=c+1 by omega),A0];refine K5 (D0 (by simp) (by omega) (by omega)) ?_;rw [if_neg hk2] at hR;simp only [go_sem,seval,ne0,A0];obtain ⟨M,hM⟩:∃ M,M=((((nil.upd 0 (pstB k n t a x [s] p)).upd id ⟨1,true,l.map DV.str⟩).upd (c+1) ⟨1,true,[.str [101,108,115,101]]⟩).del id).upd (c+8) ⟨1,true,l.map DV.str++[.str [101,108,115,101]]⟩:=⟨_,rfl⟩;rw [<- hM];have hMn:∀ i,i≠0->i≠c+1->i≠c+8->M i=none:=fun i h0 h1 h2=>by
    rw [hM,A3 h2];simp only [Hp.del];split
    ·rfl
    ·rename_i h3;rw [A3 h1,A3 h3,A3 h0];rfl
   have hMl:M (c+8)=some ⟨1,true,l.map DV.str++[.str [101,108,115,101]]⟩:=by rw [hM];exact A0
   clear hM;refine ⟨by and_intros<;>exact hMn _ (by omega) (by omega) (by omega),?_⟩;refine AC.call (hY M (c+8+1)) ?_;rintro _ _ _ ⟨rfl,rfl,rfl⟩ -;obtain ⟨W,hW⟩:∃ W,W=F9 P [s]:=⟨_,rfl⟩;rw [<- hW] at hR ⊢;have hWl:W.length<=1000000000:=hW▸hb2;have tk:List.take W.length (W.map DV.str)=W.map DV.str:=List.take_of_length_le (by simp);have hMl2:(M.upd (c+8+1) ⟨1,true,W.map DV.str⟩) (c+8)=some ⟨1,true,l.map DV.str++[.str [101,108,115,101]]⟩:=by rw [A3 (by omega)];exact hMl
   simp only [go_sem,seval,ne0,A0,tk,hMl2];refine K5 (D0 (by simp) (by omega) (by omega)) ?_;simp only [go_sem,seval,ne0,A0];repeat' ((with_reducible first|refine wr ?_|refine A2 ?_ ?_|fail)<;>try simp only [go_sem,seval,ne0,A0])
   have e1:R.length=l.length+1+W.length:=by rw [hR];simp;omega
   rw [<- e1];exact ⟨_,nil.upd (c+8+1+1) ⟨1,true,R.map DV.str⟩,N0 A0 (fun j hj=>.inl (by rw [A3 hj];rfl)) (by rw [A0,hR];simp),c+8+1+1,rfl,rfl⟩
 | s :: s2 :: r =>
  obtain ⟨A,hA⟩:∃ A,A=s :: s2 :: r:=⟨_,rfl⟩;have n1:((A.length:Int) == 1)=false:=by rw [hA];simp;omega
  have n0:decide ((A.length:Int)>0)=true:=by rw [hA];simp;omega
  rw [A3n] at hR;rw [<- hA] at hR hY hb2 ⊢;repeat' ((with_reducible first|refine wr ?_|refine A2 ?_ ?_|fail)<;>try simp only [go_sem,seval,ne0,A0,n1,n0])
  rw [A3 (show ¬ id=c+1 by omega),A0];refine K5 (D0 (by simp) (by omega) (by omega)) ?_;simp only [go_sem,seval,ne0,A0];obtain ⟨M,hM⟩:∃ M,M=((((nil.upd 0 (pstB k n t a x A p)).upd id ⟨1,true,l.map DV.str⟩).upd (c+1) ⟨1,true,[.str [101,108,115,101]]⟩).del id).upd (c+8) ⟨1,true,l.map DV.str++[.str [101,108,115,101]]⟩:=⟨_,rfl⟩;rw [<- hM];have hMn:∀ i,i≠0->i≠c+1->i≠c+8->M i=none:=fun i h0 h1 h2=>by
   rw [hM,A3 h2];simp only [Hp.del];split
   ·rfl
   ·rename_i h3;rw [A3 h1,A3 h3,A3 h0];rfl
  have hMl:M (c+8)=some ⟨1,true,l.map DV.str++[.str [101,108,115,101]]⟩:=by rw [hM];exact A0
  clear hM;refine ⟨by and_intros<;>exact hMn _ (by omega) (by omega) (by omega),?_⟩;refine AC.call (hY M (c+8+1)) ?_;rintro _ _ _ ⟨rfl,rfl,rfl⟩ -;obtain ⟨W,hW⟩:∃ W,W=F9 P A:=⟨_,rfl⟩;rw [<- hW] at hR ⊢;have hWl:W.length<=1000000000:=hW▸hb2;have tk:List.take W.length (W.map DV.str)=W.map DV.str:=List.take_of_length_le (by simp);have hMl2:(M.upd (c+8+1) ⟨1,true,W.map DV.str⟩) (c+8)=some ⟨1,true,l.map DV.str++[.str [101,108,115,101]]⟩:=by rw [A3 (by omega)];exact hMl
  simp only [go_sem,seval,ne0,A0,tk,hMl2];refine K5 (D0 (by simp) (by omega) (by omega)) ?_;simp only [go_sem,seval,ne0,A0];repeat' ((with_reducible first|refine wr ?_|refine A2 ?_ ?_|fail)<;>try simp only [go_sem,seval,ne0,A0])
  have e1:R.length=l.length+1+W.length:=by rw [hR];simp;omega
  rw [<- e1];exact ⟨_,nil.upd (c+8+1+1) ⟨1,true,R.map DV.str⟩,N0 A0 (fun j hj=>.inl (by rw [A3 hj];rfl)) (by rw [A0,hR];simp),c+8+1+1,rfl,rfl⟩
theorem c_psD (k:Int) (n t:List UInt8) (a:List Ex) (x y:List Pb.St) (p:Int) (P:Pb.St->List (List UInt8)) (hX:OwL 59 [G6 x] (F9 P x)) (hY:OwL 59 [G6 y] (F9 P y))
  (hS:∀ s,y=[s]->OwL 102 [s.v] (P s)) (hb1:(F9 P x).length<=1000000000) (hb2:(F9 P y).length<=1000000000) (hb3:∀ s,y=[s]->(P s).length<=1000000000)
  (l R:List (List UInt8)) (id c:Nat) (hid:2<=id) (hc:id<c) (hl:l.length<=1000000000) (hR:R=l++A1f P k x y) :
  IW Tryz.prog 107 (pz Tryz.prog 102 (.o (.o (.o (.o (.i .h)))))) ⟨(tm [(1,.ptr 0 0),(3,.slc id 0 l.length),(4,.ptr 1 0)]),(((nil.upd 0 (pstB k n t a x y p)).upd 1 (pshB (J7 k))).upd id ⟨1,true,l.map DV.str⟩),c⟩ (rt [.tmp 2] fun v H' c' => ∃ v2 H2,GL H' [v] H2 [v2]/\∃ id,v2=.slc id 0 R.length/\H2=nil.upd id ⟨1,true,R.map DV.str⟩):=by
 unfold A1f at hR;have tk1:List.take (F9 P x).length ((F9 P x).map DV.str)=(F9 P x).map DV.str:=List.take_of_length_le (by simp);have ne0:=S3 0 1 id c (c+1) (by omega);cases hth:(J7 k).thn with
 | false =>
  rw [hth] at hR;rw [if_neg Bool.false_ne_true] at hR;repeat' ((with_reducible first|refine wr ?_|refine A2 ?_ ?_|fail)<;>try simp only [go_sem,seval,hth,ne0,A0])
  refine D3 (D0 (by simp) (by omega) (by omega)) ?_;simp only [go_sem,seval,ne0,A0];repeat' ((with_reducible first|refine wr ?_|refine A2 ?_ ?_|fail)<;>try simp only [go_sem,seval,ne0,A0])
  have e1:R.length=l.length+1:=by rw [hR];simp
  rw [<- e1];exact ⟨_,nil.upd (c+1) ⟨1,true,R.map DV.str⟩,N0 A0 (fun j hj=>.inl (by rw [A3 hj];rfl)) (by rw [A0,hR];simp),c+1,rfl,rfl⟩
 | true =>
  rw [hth] at hR;rw [if_pos rfl] at hR;repeat' ((with_reducible first|refine wr ?_|refine A2 ?_ ?_|fail)<;>try simp only [go_sem,seval,hth,ne0,A0])
  refine AC.call (hX _ _) ?_;rintro _ _ _ ⟨rfl,rfl,rfl⟩ -;simp only [go_sem,seval,ne0,A0,tk1];refine D3 (D0 (by simp) (by omega) (by omega)) ?_;simp only [go_sem,seval,ne0,A0];have e1:l.length+(F9 P x).length=(l++F9 P x).length:=by simp
  rw [e1];refine IW.weaken (N6 (l:=[(1,.ptr 0 0),(3,.slc (c+1) 0 (l++F9 P x).length)]) ⟨rfl,rfl,trivial⟩) ?_ (c_psE k n t a x y p P hY hS hb2 hb3 (l++F9 P x) R (c+1) _ (by omega) (by omega) (by simp;omega) (by rw [hR,List.append_assoc]));intro j b hj;by_cases e:j=c+1
  ·subst e;rw [A0] at hj ⊢;rw [<- hj,List.map_append]
  ·rw [A3 e] at hj ⊢;by_cases e0:j=0
   ·subst e0;rw [A0] at hj;rw [<- hj];simp only [Hp.del];rw [if_neg (by omega),A3 (by omega),A3 (by omega),A3 (by omega),A0]
   ·rw [A3 e0] at hj;cases hj
theorem c_psC (k:Int) (n t:List UInt8) (a:List Ex) (x y:List Pb.St) (p:Int) (P:Pb.St->List (List UInt8)) (hX:OwL 59 [G6 x] (F9 P x)) (hY:OwL 59 [G6 y] (F9 P y))
  (hS:∀ s,y=[s]->OwL 102 [s.v] (P s)) (hb1:(F9 P x).length<=1000000000) (hb2:(F9 P y).length<=1000000000) (hb3:∀ s,y=[s]->(P s).length<=1000000000)
  (hE:∀ e∈a,OwL 65 [e.v] (txT (exT e))) (ha:a.length<=1000)
  (l R:List (List UInt8)) (id c:Nat) (hid:2<=id) (hc:id<c) (hRl:R.length<=1000000000) (hR:R=l++(agI 0 a++A1f P k x y)) :
  IW Tryz.prog 107 (pz Tryz.prog 102 (.i (.o (.o (.i .h))))) ⟨(tm [(1,.ptr 0 0),(3,.slc id 0 l.length),(4,.ptr 1 0)]),(((nil.upd 0 (pstB k n t a x y p)).upd 1 (pshB (J7 k))).upd id ⟨1,true,l.map DV.str⟩),c⟩ (rt [.tmp 2] fun v H' c' => ∃ v2 H2,GL H' [v] H2 [v2]/\∃ id,v2=.slc id 0 R.length/\H2=nil.upd id ⟨1,true,R.map DV.str⟩):=by
 have ne0:=A4b 0 1 id c (by omega);repeat' ((with_reducible first|refine wr ?_|refine A2 ?_ ?_|fail)<;>try simp only [go_sem,seval,ne0,A0])
 refine X4 (fun q:Nat × Nat × List (List UInt8)=>[(1,.ptr 0 0),(3,.slc q.2.1 0 q.2.2.length),(4,.ptr 1 0),(44,H7 a),(45,I64 a.length),(46,I64 q.1)]) (fun q=>((nil.upd 0 (pstB k n t a x y p)).upd 1 (pshB (J7 k))).upd q.2.1 ⟨1,true,q.2.2.map DV.str⟩)
  (fun q cc=>q.1<=a.length/\2<=q.2.1/\q.2.1<cc/\R=q.2.2++(agI q.1 (a.drop q.1)++A1f P k x y)) (fun q=>a.length-q.1) (0,id,l) (fun b=>⟨rfl,rfl,rfl,rfl,rfl,rfl,trivial⟩) (by simp [D5,tm,Tm.upd]) (Sub.refl _) ⟨Nat.zero_le _,hid,hc,hR⟩ ?_
 clear ne0 hR hc hid;rintro ⟨i,id,cur⟩ c ⟨hi,hid,hc,hR⟩;simp only at hi hid hc hR;simp only;by_cases hlt:i<a.length
 ·have hd:decide ((i:Int)<a.length)=true:=by simpa using hlt
  have hg:=List.getElem?_eq_getElem hlt;have hw:IntKind.i64.wrap ((i:Int)+1)=((i+1:Nat):Int):=by rw [w6z (by omega)];omega
  have hP:=hE _ (List.getElem_mem hlt);rw [List.drop_eq_getElem_cons hlt,agI] at hR;obtain ⟨e,he⟩:∃ e,e=a[i]:=⟨_,rfl⟩;rw [<- he] at hg hP hR;have hgm:(a.map Ex.v)[i]? = some e.v:=by rw [List.getElem?_map,hg];rfl
  rw [Ex.v_w] at hP hgm;have hle:cur.length+(txT (exT e)).length+1<=2000000000:=by
   have:=congrArg List.length hR;simp only [List.length_append] at this;omega
  have tk:List.take (txT (exT e)).length ((txT (exT e)).map DV.str)=(txT (exT e)).map DV.str:=List.take_of_length_le (by simp);have ne0:=nes7 0 1 id c (c+1) (c+1+1) (c+1+1+1) (by omega);by_cases h0:0<i
  ·have hp:decide ((i:Int)>0)=true:=by simpa using h0
   rw [if_pos h0] at hR;repeat' ((with_reducible first|refine wr ?_|refine A2 ?_ ?_|fail)<;>try simp only [go_sem,seval,ne0,A0,hd,hgm,hp,hw])
   refine D3 (D0 (by simp) (by omega) (by omega)) ?_;simp only [go_sem,seval,ne0,A0];repeat' ((with_reducible first|refine wr ?_|refine A2 ?_ ?_|fail)<;>try simp only [go_sem,seval,ne0,A0,hw])
   refine AC.call (hP _ _) ?_;rintro _ _ _ ⟨rfl,rfl,rfl⟩ -;simp only [go_sem,seval,ne0,A0,tk];refine D3 (D0 (by simp) (by omega) (by omega)) ?_;simp only [go_sem,seval,ne0,A0];repeat' ((with_reducible first|refine wr ?_|refine A2 ?_ ?_|fail)<;>try simp only [go_sem,seval,ne0,A0,hw])
   have e1:cur.length+1+(txT (exT e)).length=(cur++([44] :: txT (exT e))).length:=by simp;try omega
   rw [e1];refine ⟨(i+1,c+1+1+1+1,cur++([44] :: txT (exT e))),⟨rfl,rfl⟩,GL.less fun j=>?_,inv ⟨hlt,by simp only;omega,by simp only;omega,by simp only;rw [hR];simp⟩,by simp only;omega⟩;by_cases e:j=c+1+1+1+1
   ·subst e;right;rw [A0,A0];simp
   ·by_cases e2:j=0\/j=1
    ·right;rcases e2 with rfl|rfl<;>(rw [A3 e,A3 e];simp only [Hp.upd,Hp.del,ne0,if_true,if_false])
    ·left;rw [A3 e,A3 (by omega),A3 (by omega)];rfl
  ·have hp:decide ((i:Int)>0)=false:=by simpa using h0
   rw [if_neg h0] at hR;repeat' ((with_reducible first|refine wr ?_|refine A2 ?_ ?_|fail)<;>try simp only [go_sem,seval,ne0,A0,hd,hgm,hp,hw])
   refine AC.call (hP _ _) ?_;rintro _ _ _ ⟨rfl,rfl,rfl⟩ -;simp only [go_sem,seval,ne0,A0,tk];refine D3 (D0 (by simp) (by omega) (by omega)) ?_;simp only [go_sem,seval,ne0,A0];repeat' ((with_reducible first|refine wr ?_|refine A2 ?_ ?_|fail)<;>try simp only [go_sem,seval,ne0,A0,hw])
   have e1:cur.length+(txT (exT e)).length=(cur++txT (exT e)).length:=by simp;try omega
   rw [e1];refine ⟨(i+1,c+1+1,cur++txT (exT e)),⟨rfl,rfl⟩,GL.less fun j=>?_,inv ⟨hlt,by simp only;omega,by simp only;omega,by simp only;rw [hR];simp⟩,by simp only;omega⟩;by_cases e:j=c+1+1
   ·subst e;right;rw [A0,A0];simp
   ·by_cases e2:j=0\/j=1
    ·right;rcases e2 with rfl|rfl<;>(rw [A3 e,A3 e];simp only [Hp.upd,Hp.del,ne0,if_true,if_false])
    ·left;rw [A3 e,A3 (by omega),A3 (by omega)];rfl
 ·have hd:decide ((i:Int)<a.length)=false:=by simpa using hlt
  rw [List.drop_eq_nil_of_le (by omega),agI,List.nil_append] at hR;repeat' ((with_reducible first|refine E1 (p:=IW _ _ (pz Tryz.prog 102 (.o (.o (.o (.o (.i .h)))))) _ _) ?_|refine wr ?_|refine A2 ?_ ?_|fail)<;>try simp only [go_sem,seval,hd])
  unfold W7;exact IW.weaken (N6 (l:=[(1,.ptr 0 0),(3,.slc id 0 cur.length),(4,.ptr 1 0)]) ⟨rfl,rfl,rfl,trivial⟩) (Sub.refl _) (c_psD k n t a x y p P hX hY hS hb1 hb2 hb3 cur R id c hid hc (by have:=congrArg List.length hR;simp only [List.length_append] at this;omega) hR)
theorem c_psB (k:Int) (n t:List UInt8) (a:List Ex) (x y:List Pb.St) (p:Int) (P:Pb.St->List (List UInt8)) (hX:OwL 59 [G6 x] (F9 P x)) (hY:OwL 59 [G6 y] (F9 P y))
  (hS:∀ s,y=[s]->OwL 102 [s.v] (P s)) (hb1:(F9 P x).length<=1000000000) (hb2:(F9 P y).length<=1000000000) (hb3:∀ s,y=[s]->(P s).length<=1000000000)
  (hE:∀ e∈a,OwL 65 [e.v] (txT (exT e))) (ha:a.length<=1000) (ht:t.length<=1000)
  (l R:List (List UInt8)) (id c:Nat) (hid:2<=id) (hc:id<c) (hRl:R.length<=1000000000) (hR:R=l++(txL k t++(agI 0 a++A1f P k x y))) :
  IW Tryz.prog 107 (pz Tryz.prog 102 (.i (.i (.o (.o .h))))) ⟨(tm [(1,.ptr 0 0),(3,.slc id 0 l.length),(4,.ptr 1 0)]),(((nil.upd 0 (pstB k n t a x y p)).upd 1 (pshB (J7 k))).upd id ⟨1,true,l.map DV.str⟩),c⟩ (rt [.tmp 2] fun v H' c' => ∃ v2 H2,GL H' [v] H2 [v2]/\∃ id,v2=.slc id 0 R.length/\H2=nil.upd id ⟨1,true,R.map DV.str⟩):=by
 have hq:=c_Quote t (by omega);have hl:l.length<=1000000000:=by
  have:=congrArg List.length hR;simp only [List.length_append] at this;omega
 unfold txL at hR;have ne0:=S3 0 1 id c (c+1) (by omega);cases htx:(J7 k).text with
 | false =>
  rw [htx,if_neg Bool.false_ne_true,List.nil_append] at hR;repeat' ((with_reducible first|refine E1 (p:=IW _ _ (pz Tryz.prog 102 (.i (.o (.o (.i .h))))) _ _) ?_|refine wr ?_|refine A2 ?_ ?_|fail)<;>try simp only [go_sem,seval,ne0,A0,htx])
  unfold W7;exact IW.weaken (N6 (l:=[(1,.ptr 0 0),(3,.slc id 0 l.length),(4,.ptr 1 0)]) ⟨rfl,rfl,rfl,trivial⟩) (Sub.refl _) (c_psC k n t a x y p P hX hY hS hb1 hb2 hb3 hE ha l R id c hid hc hRl hR)
 | true =>
  rw [htx,if_pos rfl] at hR;repeat' ((with_reducible first|refine E1 (p:=IW _ _ (pz Tryz.prog 102 (.i (.o (.o (.i .h))))) _ _) ?_|refine wr ?_|refine cpc hq ?_|refine A2 ?_ ?_|fail)<;>try simp only [go_sem,seval,ne0,A0,htx])
  refine D3 (D0 (by simp) (by omega) (by omega)) ?_;simp only [go_sem,seval,ne0,A0];repeat' ((with_reducible first|refine E1 (p:=IW _ _ (pz Tryz.prog 102 (.i (.o (.o (.i .h))))) _ _) ?_|refine wr ?_|refine A2 ?_ ?_|fail)<;>try simp only [go_sem,seval,ne0,A0])
  unfold W7;have e1:l.length+2=(l++[Q1 t,[44]]).length:=by simp
  rw [e1];refine IW.weaken (N6 (l:=[(1,.ptr 0 0),(3,.slc (c+1) 0 (l++[Q1 t,[44]]).length),(4,.ptr 1 0)]) ⟨rfl,rfl,rfl,trivial⟩) ?_ (c_psC k n t a x y p P hX hY hS hb1 hb2 hb3 hE ha (l++[Q1 t,[44]]) R (c+1) _ (by omega) (by omega) hRl (by rw [hR];simp));intro j b hj;by_cases e:j=c+1
  ·subst e;rw [A0] at hj ⊢;rw [<- hj];simp
  ·rw [A3 e] at hj ⊢;by_cases e2:j=0\/j=1
   ·rw [<- hj];rcases e2 with rfl|rfl<;>simp only [Hp.upd,Hp.del,ne0,if_true,if_false]
   ·rw [A3 (by omega),A3 (by omega)] at hj;cases hj
theorem c_psA (k:Int) (n t:List UInt8) (a:List Ex) (x y:List Pb.St) (p:Int) (P:Pb.St->List (List UInt8)) (hX:OwL 59 [G6 x] (F9 P x)) (hY:OwL 59 [G6 y] (F9 P y))
  (hS:∀ s,y=[s]->OwL 102 [s.v] (P s)) (hb1:(F9 P x).length<=1000000000) (hb2:(F9 P y).length<=1000000000) (hb3:∀ s,y=[s]->(P s).length<=1000000000)
  (hE:∀ e∈a,OwL 65 [e.v] (txT (exT e))) (ha:a.length<=1000) (ht:t.length<=1000) (hRl:(psL P (.mk k n t a x y p)).length<=1000000000) :
  OwL 102 [(Pb.St.mk k n t a x y p).v] (psL P (.mk k n t a x y p)):=by
 have hsh:PC Tryz.prog 153 [I64 k] (.tup [.agg [.bool (J7 k).name,.bool (J7 k).text,I64 (J7 k).args,.bool (J7 k).thn,.bool (J7 k).els],.bool (kndB k)]):=c_shapeOf k;have hwd:=c_wordOf k;refine OwL.of (by simp [DV.nlL,DV.nl,St.nl]) ?_;refine AC.bodyT A9 rfl (Nat.le_of_ble_eq_true rfl) fun hfr=>?_;rw [Pb.St.v_w];dsimp only [Pb.St.w,Pb.St.kind,Pb.St.name,Pb.St.text,Pb.St.args,Pb.St.thn,Pb.St.els,Pb.St.pos];obtain ⟨R,hR⟩:∃ R,R=psL P (.mk k n t a x y p):=⟨_,rfl⟩;rw [<- hR] at hRl ⊢;rw [psL] at hR;unfold hdL at hR;by_cases h1:k=1
 ·have d1:(k == 1)=true:=by simpa using h1
  rw [if_pos h1] at hR;repeat' ((with_reducible first|refine E1 (p:=IW _ _ (pz Tryz.prog 102 (.i (.i (.o (.o .h))))) _ _) ?_|refine wr ?_|refine cpc hsh ?_|refine cpc hwd ?_|refine A2 ?_ ?_|fail)<;>try simp only [go_sem,seval,d1])
  refine D3 (A2b (by decide) (by decide) (by decide)) ?_;simp only [go_sem,seval,A0];repeat' ((with_reducible first|refine E1 (p:=IW _ _ (pz Tryz.prog 102 (.i (.i (.o (.o .h))))) _ _) ?_|refine wr ?_|refine A2 ?_ ?_|fail)<;>try simp only [go_sem,seval])
  unfold W7;refine IW.weaken (N6 (l:=[(1,.ptr 0 0),(3,.slc 3 0 ([n,[61]]).length),(4,.ptr 1 0)]) ⟨rfl,rfl,rfl,trivial⟩) ?_ (c_psB k n t a x y p P hX hY hS hb1 hb2 hb3 hE ha ht ([n,[61]]) R 3 _ (by decide) (by decide) hRl hR);intro j b hj;by_cases e:j=3
  ·subst e;rw [A0] at hj ⊢;exact hj
  ·rw [A3 e] at hj ⊢;by_cases e2:j=0\/j=1
   ·rw [<- hj];rcases e2 with rfl|rfl<;>first|rfl|(unfold pshB;rw [hnm];rfl)
   ·rw [A3 (by omega),A3 (by omega)] at hj;cases hj
 ·have d1:(k == 1)=false:=by simpa using h1
  rw [if_neg h1] at hR;repeat' ((with_reducible first|refine E1 (p:=IW _ _ (pz Tryz.prog 102 (.i (.i (.o (.o .h))))) _ _) ?_|refine wr ?_|refine cpc hsh ?_|refine cpc hwd ?_|refine A2 ?_ ?_|fail)<;>try simp only [go_sem,seval,d1])
  refine D3 (A2b (by decide) (by decide) (by decide)) ?_;simp only [go_sem,seval,A0];cases hnm:(J7 k).name with
  | false =>
   rw [hnm,if_neg Bool.false_ne_true] at hR;repeat' ((with_reducible first|refine E1 (p:=IW _ _ (pz Tryz.prog 102 (.i (.i (.o (.o .h))))) _ _) ?_|refine wr ?_|refine A2 ?_ ?_|fail)<;>try simp only [go_sem,seval,hnm,A0])
   unfold W7;refine IW.weaken (N6 (l:=[(1,.ptr 0 0),(3,.slc 3 0 ([K7 B3 Q9 k]).length),(4,.ptr 1 0)]) ⟨rfl,rfl,rfl,trivial⟩) ?_ (c_psB k n t a x y p P hX hY hS hb1 hb2 hb3 hE ha ht ([K7 B3 Q9 k]) R 3 _ (by decide) (by decide) hRl hR);intro j b hj;by_cases e:j=3
   ·subst e;rw [A0] at hj ⊢;exact hj
   ·rw [A3 e] at hj ⊢;by_cases e2:j=0\/j=1
    ·rw [<- hj];rcases e2 with rfl|rfl<;>first|rfl|(unfold pshB;rw [hnm];rfl)
    ·rw [A3 (by omega),A3 (by omega)] at hj;cases hj
  | true =>
   rw [hnm,if_pos rfl] at hR;repeat' ((with_reducible first|refine E1 (p:=IW _ _ (pz Tryz.prog 102 (.i (.i (.o (.o .h))))) _ _) ?_|refine wr ?_|refine A2 ?_ ?_|fail)<;>try simp only [go_sem,seval,hnm,A0])
   refine D3 (D0 rfl (by decide) (by decide)) ?_;simp only [go_sem,seval,A0];repeat' ((with_reducible first|refine E1 (p:=IW _ _ (pz Tryz.prog 102 (.i (.i (.o (.o .h))))) _ _) ?_|refine wr ?_|refine A2 ?_ ?_|fail)<;>try simp only [go_sem,seval])
   unfold W7;refine IW.weaken (N6 (l:=[(1,.ptr 0 0),(3,.slc 5 0 ([K7 B3 Q9 k,n]).length),(4,.ptr 1 0)]) ⟨rfl,rfl,rfl,trivial⟩) ?_ (c_psB k n t a x y p P hX hY hS hb1 hb2 hb3 hE ha ht ([K7 B3 Q9 k,n]) R 5 _ (by decide) (by decide) hRl hR);intro j b hj;by_cases e:j=5
   ·subst e;rw [A0] at hj ⊢;exact hj
   ·rw [A3 e] at hj ⊢;by_cases e2:j=0\/j=1
    ·rw [<- hj];rcases e2 with rfl|rfl<;>first|rfl|(unfold pshB;rw [hnm];rfl)
    ·rw [A3 (by omega),A3 (by omega)] at hj;cases hj
theorem W8 {d:Nat}:∀ {l:List Pb.St},Z7 d l=true->∀ s∈l,A0p d s=true
 | [],_,s,hs=>by cases hs
 | a :: l,h,s,hs=>by
  rw [Z7,Bool.and_eq_true] at h;rcases List.mem_cons.1 hs with rfl|hs
  ·exact h.1
  ·exact W8 h.2 s hs
theorem c_pblkT (l:List Pb.St) (hl:l.length<=4000000) (hP:∀ s∈l,OwL 102 [s.v] (txT (stT s))) (hB:Pb.St.szs l<=4000000):OwL 59 [G6 l] (txT (blT l)):=by
 rw [tx_blk];refine c_pblk _ l hl hP ?_;rw [<- A1v];have:=V8 l;unfold txT;rw [List.length_map];omega
theorem c_prStmt:∀ (m:Nat) (s:Pb.St) (d:Nat),s.sz<m->s.sz<=4000000->A0p d s=true->OwL 102 [s.v] (txT (stT s)):=by
 intro m
 induction m with
 | zero=>intro s d h;omega
 | succ m ih =>
 intro s d hm hB hv;have hps:=ps_eq hv;have hlen:=(A1z s).2;obtain ⟨k,n,t,a,x,y,p⟩:=s;have hv2:=hv;unfold A0p at hv2;simp only [Bool.and_eq_true,decide_eq_true_eq,beq_iff_eq] at hv2;obtain ⟨⟨⟨⟨⟨k1,k2⟩,⟨ha,hE⟩⟩,⟨hn,ht⟩⟩,⟨hx,hy⟩⟩,⟨⟨⟨hx1,hx2⟩,hx3⟩,⟨⟨hy1,hy2⟩,hy3⟩⟩⟩:=hv2;have hsz:Pb.St.szs x+Pb.St.szs y+Ex.szs a+t.length<(Pb.St.mk k n t a x y p).sz:=by rw [Pb.St.sz];omega
 have hPx:∀ s∈x,OwL 102 [s.v] (txT (stT s)):=fun s hs=>ih s (d+1) (by have:=Pb.St.szs_mem hs;omega) (by have:=Pb.St.szs_mem hs;omega) (W8 hx3 s hs);have hPy:∀ s∈y,OwL 102 [s.v] (txT (stT s)):=fun s hs=>ih s (d+1) (by have:=Pb.St.szs_mem hs;omega) (by have:=Pb.St.szs_mem hs;omega) (W8 hy3 s hs);have hX:=c_pblkT x (by omega) hPx (by omega);have hY:=c_pblkT y (by omega) hPy (by omega);rw [tx_blk] at hX hY;have bl:∀ l:List Pb.St,Pb.St.szs l<=4000000->(F9 (fun s=>txT (stT s)) l).length<=1000000000:=fun l h=>by
  rw [<- tx_blk];have:=(A6o l).2;unfold txT;rw [List.length_map];omega
 have har:a.length<=1000:=by
  rw [ha];unfold J7;repeat' split
  all_goals decide
 have htl:t.length<=1000:=by
  by_cases hc:(J7 k).text=true
  ·rw [if_pos hc] at ht;unfold R6 at ht;simp only [Bool.and_eq_true,decide_eq_true_eq] at ht;omega
  ·rw [if_neg hc] at ht;rw [beq_iff_eq.1 ht];simp
 rw [<- hps];refine c_psA k n t a x y p _ hX hY (fun s hs=>hPy s (by rw [hs];simp)) (bl x (by omega)) (bl y (by omega)) (fun s hs=>?_) (fun e he=>?_) har htl (by rw [hps];unfold txT;rw [List.length_map];omega)
 ·have:=(A1z s).2;unfold txT;rw [List.length_map];have h2:=Pb.St.szs_mem (l:=y) (x:=s) (by rw [hs];simp);omega
 ·exact c_printed _ e (Nat.lt_succ_self _) (by have:=Ex.szs_mem he;omega) (vl_ms (List.all_eq_true.1 hE e he))
end Go.Proofs.YthlpinppaclofaaGreatDoor
namespace Go.Pb
variable [Go.Sym.Tab]
open Go.Sym
def dcL (d:Dc):List (List UInt8):=[C4.getD (d.kind-1).toNat [],d.name]++((if d.kind<7 then (if d.value<0 then [[45]] else [])++[O8 (if d.value<0 then -d.value else d.value)] else [])++[[59]])
theorem tx_num {v:Int} (h1:0<=v) (h2:v<=2147483647):txT (A0v v)=[O8 v]:=by
 unfold A0v;rw [if_neg (by omega)];rfl
theorem dc_eq {d:Dc} (h:A3v d=true):txT (dcT d)=dcL d:=by
 unfold A3v at h;simp only [Bool.and_eq_true,decide_eq_true_eq] at h;obtain ⟨⟨⟨⟨k1,k2⟩,hn⟩,v1⟩,v2⟩:=h;unfold dcT dcL;rw [if_neg (by omega)];dsimp only;by_cases h6:6<d.kind
 ·rw [if_pos h6,if_neg (show ¬ d.kind<7 by omega)];simp [C9,F5,I5,L7 hn]
 ·rw [if_neg h6,if_pos (show d.kind<7 by omega)];have v2':d.value<=2147483647:=by split at v2<;>omega
  by_cases hv:d.value<0
  ·have hk:d.kind=6:=by split at v1<;>omega
   have v1' : -2147483647<=d.value:=by rw [if_pos hk] at v1;exact v1
   rw [if_pos (show d.value<0 /\ -2147483647<=d.value/\d.kind=6 from ⟨hv,v1',hk⟩),if_pos hv,if_pos hv];simp [C9,F5,I5,L7 hn,tx_num (v := -d.value) (by omega) (by omega)]
  ·rw [if_neg (show ¬ (d.value<0 /\ -2147483647<=d.value/\d.kind=6) from fun hc=>hv hc.1),if_neg hv,if_neg hv];simp [C9,F5,I5,L7 hn,tx_num (v:=d.value) (by omega) v2']
def hdPr (h:Hd):List (List UInt8):=[[111,110],C7.getD (h.trig-1).toNat []]++((if 3<=h.trig then [h.name] else [])++txT (blT h.body))
theorem hd_eq {h:Hd} (hv:A0q h=true):txT (hdT h)=hdPr h:=by
 unfold A0q at hv;simp only [Bool.and_eq_true,decide_eq_true_eq] at hv;obtain ⟨⟨⟨k1,k2⟩,hn⟩, -⟩:=hv;unfold hdT hdPr;by_cases h3:3<=h.trig
 ·rw [if_pos h3] at hn;rw [if_pos (by omega),if_pos h3];simp [C9,F5,I5,L7 hn]
 ·rw [if_neg (by omega),if_neg h3];simp [C9,F5,I5]
def mdL (m:Md):List (List UInt8):=[[109,111,100,101],m.name,O8 m.prio,[123]]++(m.hds.flatMap hdPr++[[125]])
theorem A2g {α : Type} {f : α -> List Tok} {g : α -> List (List UInt8)}:∀ {l:List α},(∀ x∈l,txT (f x)=g x)->txT (l.flatMap f)=l.flatMap g
 | [],_=>rfl
 | a :: l,h=>by
  rw [List.flatMap_cons,List.flatMap_cons,C9,h a List.mem_cons_self,A2g fun x hx=>h x (List.mem_cons_of_mem _ hx)]
theorem md_eq {m:Md} (hv:X9 m=true):txT (mdT m)=mdL m:=by
 unfold X9 at hv;simp only [Bool.and_eq_true,decide_eq_true_eq] at hv;obtain ⟨⟨⟨⟨hn,p1⟩,p2⟩, -⟩,hh⟩:=hv;unfold mdT mdL;have hf:=A2g (l:=m.hds) (f:=hdT) (g:=hdPr) fun h hm=>hd_eq (List.all_eq_true.1 hh h hm);simp [C9,F5,I5,L7 hn,tx_num p1 p2,hf]
theorem ru_eq {r:Ru} (h:A5m r=true):txT (ruT r)=r.decls.flatMap dcL++r.modes.flatMap mdL:=by
 have h0:=h;unfold A5m at h;simp only [Bool.and_eq_true,decide_eq_true_eq] at h;obtain ⟨⟨-,h1⟩,h2⟩:=h;unfold ruT;rw [if_neg,C9,A2g fun d hd=>dc_eq (List.all_eq_true.1 h1 d hd),A2g fun m hm=>md_eq (List.all_eq_true.1 h2 m hm)];intro hb;obtain ⟨m,hm,hb⟩:=List.any_eq_true.1 hb;obtain ⟨g,hg,hb⟩:=List.any_eq_true.1 hb;have h3:=List.all_eq_true.1 h2 m hm;unfold X9 at h3;simp only [Bool.and_eq_true] at h3;have h4:=List.all_eq_true.1 h3.2 g hg;unfold A0q at h4;simp only [Bool.and_eq_true,decide_eq_true_eq] at h4;unfold hdBad at hb;simp only [Bool.or_eq_true,decide_eq_true_eq] at hb;omega
def ShT (t:Tok):Prop:=(O3 t).length<=1000
theorem sh_0:ShT P1:=by show (O3 P1).length<=1000;rw [show O3 P1=[] from rfl];simp
theorem clo_sh:Clo ShT:=⟨fun t ht=>by obtain rfl:=List.mem_singleton.1 ht;exact sh_0,fun x h t ht=>by
  obtain rfl:=List.mem_singleton.1 ht;unfold ShT;rw [G4];omega,fun x t ht=>by
  unfold F0 at ht;by_cases h:C1 x=false
  ·rw [if_pos h] at ht;obtain rfl:=List.mem_singleton.1 ht;exact sh_0
  ·rw [if_neg h] at ht;obtain rfl:=List.mem_singleton.1 ht;have h1:C1 x=true:=by cases hx:C1 x with|true=>rfl|false=>exact absurd hx h
   unfold C1 at h1;simp only [Bool.and_eq_true,decide_eq_true_eq] at h1;show x.length<=1000;omega,fun x t ht=>by
  unfold A0v at ht;split at ht
  ·obtain rfl:=List.mem_singleton.1 ht;exact sh_0
  ·obtain rfl:=List.mem_singleton.1 ht;have:=decI_len (n:=x) (by omega) (by omega);show (O8 x).length<=1000;omega,fun x t ht=>by
  unfold A2p at ht;split at ht
  ·obtain rfl:=List.mem_singleton.1 ht;exact sh_0
  ·rename_i hc;obtain rfl:=List.mem_singleton.1 ht;have h2:¬ 32<x.length:=fun h=>hc (.inr h);have:=A4r x;show (Q1 x).length<=1000;omega⟩
theorem sh_ruT (r:Ru):∀ t∈txT (ruT r),t.length<=100000:=fun t ht=>by
 obtain ⟨x,hx,rfl⟩:=List.mem_map.1 ht;have:(O3 x).length<=1000:=q_ruT clo_sh r x hx;omega
end Go.Pb
end
