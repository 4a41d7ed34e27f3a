/-
  HELPERS of the claim: part 9 of its texts.
-/
import Derived.Shelf.LaysC
import Derived.Shelf.Strconv.ParseIntPublic10
import Derived.Test.YthlpinppaclofaaGreatDoorProg
import Derived.Maps.RangeRun
import Derived.Test.YthlpinppaclofaaGreatDoorSylh
noncomputable section
set_option linter.unusedVariables false
namespace Go.Proofs
open Go.Shelf
def Tryz.laysC174_ren:Go.Shelf.Ren:=⟨fun | 174=>194 | 247=>207 | 245=>208 | 287=>216 | 279=>217 | 280=>218 | 281=>219 | 282=>220 | 321=>223 | 322=>224 | 316=>225 | 171=>57 | 205=>226 | 243=>101 | 246=>152 | 283=>184 | 284=>185 | 285=>186 | 286=>187 | 129=>202 | 317=>201 | 318=>203 | 319=>204 | 320=>205 | 337=>212 | 338=>213|n=>n,fun | 9=>9 | 3=>3 | 2=>2 | 75=>138 | 85=>195 | 4=>4 | 167=>223 | 5=>5 | 53=>184 | 175=>224 | 46=>203 | 168=>226 | 37=>22 | 0=>0 | 210=>235 | 21=>21 | 127=>170 | 145=>239 | 143=>237 | 171=>183 | 173=>187 | 212=>200 | 51=>201 | 20=>20 | 213=>202 | 232=>229 | 233=>230 | 80=>29|n=>n,fun | 15=>6 | 16=>7 | 17=>1 | 18=>4 | 19=>5|n=>n⟩
theorem Tryz.laysC174:Go.Proofs.LaysC.n174 Tryz.prog Tryz.laysC174_ren:={
 mixed:=by kernel_rfl
 f129:=Tryz.func202.trans (congrArg some (by kernel_rfl))
 f171:=Tryz.func57.trans (congrArg some (by kernel_rfl))
 f174:=Tryz.func194.trans (congrArg some (by kernel_rfl))
 f205:=Tryz.func226.trans (congrArg some (by kernel_rfl))
 f243:=Tryz.func101.trans (congrArg some (by kernel_rfl))
 f245:=Tryz.func208.trans (congrArg some (by kernel_rfl))
 f246:=Tryz.func152.trans (congrArg some (by kernel_rfl))
 f247:=Tryz.func207.trans (congrArg some (by kernel_rfl))
 f279:=Tryz.func217.trans (congrArg some (by kernel_rfl))
 f280:=Tryz.func218.trans (congrArg some (by kernel_rfl))
 f281:=Tryz.func219.trans (congrArg some (by kernel_rfl))
 f282:=Tryz.func220.trans (congrArg some (by kernel_rfl))
 f283:=Tryz.func184.trans (congrArg some (by kernel_rfl))
 f284:=Tryz.func185.trans (congrArg some (by kernel_rfl))
 f285:=Tryz.func186.trans (congrArg some (by kernel_rfl))
 f286:=Tryz.func187.trans (congrArg some (by kernel_rfl))
 f287:=Tryz.func216.trans (congrArg some (by kernel_rfl))
 f316:=Tryz.func225.trans (congrArg some (by kernel_rfl))
 f317:=Tryz.func201.trans (congrArg some (by kernel_rfl))
 f318:=Tryz.func203.trans (congrArg some (by kernel_rfl))
 f319:=Tryz.func204.trans (congrArg some (by kernel_rfl))
 f320:=Tryz.func205.trans (congrArg some (by kernel_rfl))
 f321:=Tryz.func223.trans (congrArg some (by kernel_rfl))
 f322:=Tryz.func224.trans (congrArg some (by kernel_rfl))
 f337:=Tryz.func212.trans (congrArg some (by kernel_rfl))
 f338:=Tryz.func213.trans (congrArg some (by kernel_rfl))
 t0:=Tryz.underlying0
 a0:=Tryz.isAgg0
 z0:=Tryz.sizeOf0
 v0:=Tryz.zeroValue0
 t2:=Tryz.underlying2
 a2:=Tryz.isAgg2
 z2:=Tryz.sizeOf2
 v2:=Tryz.zeroValue2
 t3:=Tryz.underlying3
 a3:=Tryz.isAgg3
 z3:=Tryz.sizeOf3
 v3:=Tryz.zeroValue3
 t4:=Tryz.underlying4
 a4:=Tryz.isAgg4
 z4:=Tryz.sizeOf4
 v4:=Tryz.zeroValue4
 t5:=Tryz.underlying5
 a5:=Tryz.isAgg5
 z5:=Tryz.sizeOf5
 v5:=Tryz.zeroValue5
 t9:=Tryz.underlying9
 a9:=Tryz.isAgg9
 z9:=Tryz.sizeOf9
 v9:=Tryz.zeroValue9
 t20:=Tryz.underlying20
 a20:=Tryz.isAgg20
 z20:=Tryz.sizeOf20
 v20:=Tryz.zeroValue20
 t21:=Tryz.underlying21
 a21:=Tryz.isAgg21
 z21:=Tryz.sizeOf21
 v21:=Tryz.zeroValue21
 t37:=Tryz.underlying22
 a37:=Tryz.isAgg22
 z37:=Tryz.sizeOf22
 v37:=Tryz.zeroValue22
 t46:=Tryz.underlying203
 a46:=Tryz.isAgg203
 z46:=Tryz.sizeOf203
 v46:=Tryz.zeroValue203
 t51:=Tryz.underlying201
 a51:=Tryz.isAgg201
 z51:=Tryz.sizeOf201
 v51:=Tryz.zeroValue201
 t53:=Tryz.underlying184
 a53:=Tryz.isAgg184
 z53:=Tryz.sizeOf184
 v53:=Tryz.zeroValue184
 t75:=Tryz.underlying138
 a75:=Tryz.isAgg138
 z75:=Tryz.sizeOf138
 v75:=Tryz.zeroValue138
 t85:=Tryz.underlying195
 a85:=Tryz.isAgg195
 z85:=Tryz.sizeOf195
 v85:=Tryz.zeroValue195
 t127:=Tryz.underlying170
 a127:=Tryz.isAgg170
 z127:=Tryz.sizeOf170
 v127:=Tryz.zeroValue170
 t143:=Tryz.underlying237
 a143:=Tryz.isAgg237
 z143:=Tryz.sizeOf237
 v143:=Tryz.zeroValue237
 t145:=Tryz.underlying239
 a145:=Tryz.isAgg239
 z145:=Tryz.sizeOf239
 v145:=Tryz.zeroValue239
 t167:=Tryz.underlying223
 a167:=Tryz.isAgg223
 z167:=Tryz.sizeOf223
 v167:=Tryz.zeroValue223
 t168:=Tryz.underlying226
 a168:=Tryz.isAgg226
 z168:=Tryz.sizeOf226
 v168:=Tryz.zeroValue226
 t171:=Tryz.underlying183
 a171:=Tryz.isAgg183
 z171:=Tryz.sizeOf183
 v171:=Tryz.zeroValue183
 t173:=Tryz.underlying187
 a173:=Tryz.isAgg187
 z173:=Tryz.sizeOf187
 v173:=Tryz.zeroValue187
 t175:=Tryz.underlying224
 a175:=Tryz.isAgg224
 z175:=Tryz.sizeOf224
 v175:=Tryz.zeroValue224
 t210:=Tryz.underlying235
 a210:=Tryz.isAgg235
 z210:=Tryz.sizeOf235
 v210:=Tryz.zeroValue235
 t212:=Tryz.underlying200
 a212:=Tryz.isAgg200
 z212:=Tryz.sizeOf200
 v212:=Tryz.zeroValue200
 t213:=Tryz.underlying202
 a213:=Tryz.isAgg202
 z213:=Tryz.sizeOf202
 t232:=Tryz.underlying229
 a232:=Tryz.isAgg229
 z232:=Tryz.sizeOf229
 v232:=Tryz.zeroValue229
 t233:=Tryz.underlying230
 a233:=Tryz.isAgg230
 z233:=Tryz.sizeOf230
 v233:=Tryz.zeroValue230
 g15:=by kernel_rfl
 g16:=by kernel_rfl
 g17:=by kernel_rfl
 g18:=by kernel_rfl
 g19:=by kernel_rfl
 t80:=Tryz.underlying29
 a80:=Tryz.isAgg29
 z80:=Tryz.sizeOf29
 v80:=Tryz.zeroValue29
 i0:=by kernel_rfl
 i2:=by kernel_rfl
 i3:=by kernel_rfl
 i4:=by kernel_rfl
 i5:=by kernel_rfl
 i9:=by kernel_rfl
 i20:=by kernel_rfl
 i21:=by kernel_rfl
 i37:=by kernel_rfl
 i46:=by kernel_rfl
 i51:=by kernel_rfl
 i53:=by kernel_rfl
 i75:=by kernel_rfl
 i80:=by kernel_rfl
 i85:=by kernel_rfl
 i127:=by kernel_rfl
 i143:=by kernel_rfl
 i145:=by kernel_rfl
 i167:=by kernel_rfl
 i168:=by kernel_rfl
 i171:=by kernel_rfl
 i173:=by kernel_rfl
 i175:=by kernel_rfl
 i210:=by kernel_rfl
 i212:=by kernel_rfl
 i232:=by kernel_rfl
 i233:=by kernel_rfl
 m15:=by kernel_rfl
 m16:=by kernel_rfl
 m17:=by kernel_rfl
 m18:=by kernel_rfl
 m19:=by kernel_rfl
 c0:=by kernel_rfl
 c2:=by kernel_rfl
 c3:=by kernel_rfl
 c4:=by kernel_rfl
 c5:=by kernel_rfl
 c9:=by kernel_rfl
 c20:=by kernel_rfl
 c21:=by kernel_rfl
 c37:=by kernel_rfl
 c46:=by kernel_rfl
 c51:=by kernel_rfl
 c53:=by kernel_rfl
 c75:=by kernel_rfl
 c80:=by kernel_rfl
 c85:=by kernel_rfl
 c127:=by kernel_rfl
 c143:=by kernel_rfl
 c145:=by kernel_rfl
 c167:=by kernel_rfl
 c168:=by kernel_rfl
 c171:=by kernel_rfl
 c173:=by kernel_rfl
 c175:=by kernel_rfl
 c210:=by kernel_rfl
 c212:=by kernel_rfl
 c213:=by kernel_rfl
 c232:=by kernel_rfl
 c233:=by kernel_rfl }
open Go.RowKit in
theorem Tryz.strconv_ParseInt_10_at64_ok (s:ByteArray) (hmax:s.size<=9223372036854775806) (v:Int) (h:Lib.parseIntB 64 s.data.toList=.ok v) (w:World) :
  Calls Tryz.prog 194 #[.string s,.int .i64 10,.int .i64 64] w fun e w'=>e=.returned (.tuple #[.int .i64 v,.nilIface])/\(w'=w\/∃ t,w'=Lib.bytesWorld w 5 t):=Any.strconv_ParseInt_10_at64_ok Tryz.laysC174 s hmax v h w
open Go.RowKit in
theorem Tryz.strconv_ParseInt_10_at64_range (s:ByteArray) (hlim:s.size<=281474976710656) (h:Lib.parseIntB 64 s.data.toList=.range) (ev:Value) (w:World) (hv:w.cell? ⟨7,0,none⟩=some ev) (hev:ev=.nilIface\/∃ te pe,ev=.iface te pe) :
  Calls Tryz.prog 194 #[.string s,.int .i64 10,.int .i64 64] w fun e w' => ∃ N,e=.returned (.tuple #[.int .i64 (Lib.intSat 64 s.data.toList),.iface 226 (.pointer (some ⟨N,0,none⟩))])/\w.heap.size<=N/\w'.heap[N]? = some (.cells #[.string ⟨#[80,97,114,115,101,73,110,116]⟩,.string s,ev] 235 (0,0))/\Below w.heap.size w w':=Any.strconv_ParseInt_10_at64_range Tryz.laysC174 s hlim h ev w hv hev
end Go.Proofs
set_option maxHeartbeats 4000000
set_option maxRecDepth 100000
set_option linter.unusedSimpArgs false
namespace Go.Proofs.YthlpinppaclofaaGreatDoor
open Go.Eng (IC IOper DReg IFn B5 G0)
open Go.Sym Go.Pb Go.RowKit
theorem dec_eq:∀ (m u:Nat),u<m->Lib.decDigits u=A6f u:=by
 intro m
 induction m with
 | zero=>intro u h;omega
 | succ m ih =>
  intro u h;unfold Lib.decDigits;by_cases h0:u<10
  ·rw [dif_pos h0,A8p h0];rfl
  ·rw [dif_neg h0,decB_ge h0,ih (u / 10) (by omega)];rfl
theorem itoa_eq (n:Int):Lib.itoa n=R8 n:=by
 unfold Lib.itoa R8;by_cases h:n<0
 ·rw [if_pos h,if_pos h,dec_eq (n.natAbs+1) _ (by omega)]
 ·rw [if_neg h,if_neg h,dec_eq (n.toNat+1) _ (by omega)]
  congr 1;omega
theorem arg1 {ρ : Ren} {x:DV} {u:Value} {vs:Array Value} (hA:E4 ρ [x] vs) (h:∀ y,VRel ρ x y->y=u):vs = #[u]:=by
 obtain ⟨y,h1,h2⟩:=hA.get (i:=0) rfl;have hs:vs.size=1:=hA.1.symm;obtain rfl:=h y h2;cases vs with|mk l=>match l,hs,h1 with
  | [a],_,h1=>simp at h1;subst h1;rfl
theorem c_Itoa (n:Int) (h0 : -9223372036854775808<=n) (h1:n<=9223372036854775807):PC Tryz.prog 57 [I64 n] (.str (R8 n)):=by
 refine PC.of_calls (by kernel_rfl) rfl rfl fun ρ w vs hf hA=>?_;have hvs:vs = #[.int .i64 n]:=arg1 hA fun y h=>h.int_inv;rw [hvs];obtain ⟨r,hr,rfl⟩ := ρ.tab _ (List.mem_cons_self);obtain ⟨e,fr,hb⟩:=hf _ _ hr;have ht : Lib.TabIs Tryz.prog w "internal/strconv.uint64pow10" .u64 Lib.pow10Tab := by
  unfold Lib.TabIs World.var?;rw [Tryz.laysM171.m17];show (match w.heap[1]? with|some (.cells cs _ _)=>some cs|_=>none)=_;rw [hb]
 refine (Tryz.strconv_Itoa n h0 h1 w ht).mono ?_;rintro e w' ⟨rfl,k,os,rfl⟩;exact ⟨_,rfl,fun ρ'=>by rw [itoa_eq];exact .mkStr,⟨rfl,rfl,rfl,by show w.heap.size<=(w.heap++os).size;rw [Array.size_append];omega,fun j hj=>by
  show (w.heap++os)[j]? = w.heap[j]?;rw [Array.getElem?_append,if_pos hj]⟩⟩
theorem arg2 {ρ : Ren} {x x2:DV} {u u2:Value} {vs:Array Value} (hA:E4 ρ [x,x2] vs) (h:∀ y,VRel ρ x y->y=u) (h2:∀ y,VRel ρ x2 y->y=u2):vs = #[u,u2]:=by
 obtain ⟨y,g1,g2⟩:=hA.get (i:=0) rfl;obtain ⟨z,g3,g4⟩:=hA.get (i:=1) rfl;obtain rfl:=h y g2;obtain rfl:=h2 z g4;have hs:vs.size=2:=hA.1.symm;cases vs with|mk r=>match r,hs,g1,g3 with
  | [a,b],_,h1,h3=>simp at h1 h3;subst h1 h3;rfl
theorem arg3 {ρ : Ren} {x x2 x3:DV} {u u2 u3:Value} {vs:Array Value} (hA:E4 ρ [x,x2,x3] vs) (h:∀ y,VRel ρ x y->y=u) (h2:∀ y,VRel ρ x2 y->y=u2) (h3:∀ y,VRel ρ x3 y->y=u3):vs = #[u,u2,u3]:=by
 obtain ⟨y,g1,g2⟩:=hA.get (i:=0) rfl;obtain ⟨z,g3,g4⟩:=hA.get (i:=1) rfl;obtain ⟨q,g5,g6⟩:=hA.get (i:=2) rfl;obtain rfl:=h y g2;obtain rfl:=h2 z g4;obtain rfl:=h3 q g6;have hs:vs.size=3:=hA.1.symm;cases vs with|mk r=>match r,hs,g1,g3,g5 with
  | [a,b,c],_,h1,h3,h5=>simp at h1 h3 h5;subst h1 h3 h5;rfl
theorem c_IndexByte (s:List UInt8) (c:UInt8):PC Tryz.prog 195 [.str s,.int .u8 c.toNat] (I64 (Lib.indexByte s c)):=by
 refine PC.of_calls (by kernel_rfl) rfl rfl fun ρ w vs hf hA=>?_;rw [arg2 hA (fun y h=>h.str_inv) (fun y h=>h.int_inv)];refine (Tryz.strings_IndexByte _ _ w).mono ?_;rintro e w' ⟨rfl,rfl⟩;refine ⟨_,rfl,fun ρ'=>?_,Below.refl _ _⟩;have:((c.toNat:Int).toNat.toUInt8)=c:=by rw [Int.toNat_natCast];exact UInt8.ofNat_toNat
 rw [this];exact .int _ _
theorem c_ParseOk (s:List UInt8) (hs:s.length<=281474976710656) (h:∀ c∈s,dgB c=true) (h0:s≠[]) (hv:N3 s<=9223372036854775807):PC Tryz.prog 194 [.str s,I64 10,I64 64] (.tup [I64 (N3 s),.inil]):=by
 refine PC.of_calls (by kernel_rfl) rfl rfl fun ρ w vs hf hA=>?_;rw [arg3 hA (fun y h=>h.str_inv) (fun y h=>h.int_inv) (fun y h=>h.int_inv)];refine (Tryz.strconv_ParseInt_10_at64_ok _ (by show s.toArray.size<=_;rw [List.size_toArray];omega) (N3 s:Int) (by have:=pib h h0;rw [if_pos hv] at this;exact this) w).mono ?_;rintro e w' ⟨rfl,hw⟩;refine ⟨_,rfl,fun ρ'=>.tup _ _ rfl (fun i x y hx hy=>?_),?_⟩
 ·match i with
  | 0=>simp at hx hy;subst hx hy;exact .int _ _
  | 1=>simp at hx hy;subst hx hy;exact .inil
  | _+2=>simp at hx
 ·rcases hw with rfl|⟨t,rfl⟩
  ·exact Below.refl _ _
  ·exact ⟨rfl,rfl,rfl,by rw [Lib.bytesWorld_size];omega,fun j hj=>Lib.bytesWorld_at_old _ _ _ _ hj⟩
theorem c_ParseBig (s:List UInt8) (hs:s.length<=281474976710656) (h:∀ c∈s,dgB c=true) (h0:s≠[]) (hv:9223372036854775807<N3 s):PC Tryz.prog 194 [.str s,I64 10,I64 64] (.tup [.bot,.iface 226 .bot]):=by
 refine PC.of_calls (by kernel_rfl) rfl rfl fun ρ w vs hf hA=>?_;rw [arg3 hA (fun y h=>h.str_inv) (fun y h=>h.int_inv) (fun y h=>h.int_inv)];obtain ⟨r,hr,te,pe,rfl⟩ := ρ.tab _ (List.mem_cons_of_mem _ (List.mem_cons_of_mem _ List.mem_cons_self));obtain ⟨e,fr,hb⟩:=hf _ _ hr;refine (Tryz.strconv_ParseInt_10_at64_range _ (by show s.toArray.size<=_;rw [List.size_toArray];omega) (by have:=pib h h0;rw [if_neg (by omega)] at this;exact this) (.iface te pe) w ?_ (.inr ⟨te,pe,rfl⟩)).mono ?_
 ·simp only [World.cell?];have hb':w.heap[7]? = _:=hb;rw [hb'];rfl
 ·rintro e w' ⟨N,rfl, -, -,hB⟩;refine ⟨_,rfl,fun ρ'=>.tup _ _ rfl (fun i x y hx hy=>?_),hB⟩
  match i with
  | 0=>simp at hx hy;subst hx hy;exact .bot _
  | 1=>simp at hx hy;subst hx hy;exact .iface _ _ _ (.bot _)
  | _+2=>simp at hx
def wlit:List UInt8:=w8 [115,119,105,116,99,104,32,99,111,105,108,32,108,97,109,112,32,115,111,117,110,100,32,115,104,111,119,32,118,97,114,32,116,105,109,101,114,32,101,118,101,110,116,32,109,111,100,101,32,111,110,32,115,116,97,114,116,32,115,116,111,112,32,99,108,111,115,101,32,111,112,101,110,32,105,102,32,101,108,115,101,32,114,101,112,101,97,116,32,115,99,111,114,101,32,102,105,114,101,32,104,111,108,100,32,114,101,108,101,97,115,101,32,108,105,103,104,116,32,98,108,105,110,107,32,98,101,103,105,110,32,101,110,100,32,112,111,115,116,32,112,108,97,121,32,114,117,110,32,104,97,108,116,32,116,101,120,116,32,99,111,110,115,117,109,101,32,99,108,111,115,101,100,32,97,99,116,105,118,101,32,108,101,102,116,32,112,108,97,121,101,114,32,98,97,108,108,32,116,114,117,101,32,102,97,108,115,101]
theorem wlit_f:Lib.fields wlit=D2:=by kernel_rfl
theorem wlit_a:wlit.all (fun b=>decide (b.toNat<128))=true:=by kernel_rfl
theorem c_Fields:PC Tryz.prog 160 [.str wlit] (.lst (D2.map DV.str)):=by
 refine PC.of_callsF (by kernel_rfl) rfl (H8 _) fun ρ w vs hf hA=>?_;rw [arg1 hA (fun y h=>h.str_inv)];obtain ⟨r,hr,rfl⟩ := ρ.tab _ (List.mem_cons_of_mem _ List.mem_cons_self);obtain ⟨e,fr,hb⟩:=hf _ _ hr;have ht : Lib.TabIs Tryz.prog w "strings.asciiSpace" .u8 Lib.asciiSpaceTab := by
  unfold Lib.TabIs World.var?;rw [show Tryz.prog.globalNamed "strings.asciiSpace" = some 0 by kernel_rfl]
  show (match w.heap[0]? with|some (.cells cs _ _)=>some cs|_=>none)=_;have hb':w.heap[0]? = _:=hb;rw [hb']
 refine (Tryz.strings_Fields _ w (by decide) ?_ ht).mono ?_
 ·intro j b hj;have:=List.all_eq_true.1 wlit_a b (List.mem_of_getElem? hj);simpa using this
 ·rintro e w' ⟨rfl,rfl⟩;have hl:Lib.fields (⟨wlit.toArray⟩:ByteArray).data.toList=D2:=wlit_f;rw [hl];refine ⟨_,w.heap.size,_,9,_,rfl,Nat.le_refl _,(by show (w.heap.push _)[w.heap.size]? = _;rw [Array.getElem?_push_size]),fun ρ' hρ => VRel.strs hρ rfl (Nat.le_refl _) (by decide),Below.alloc (Below.refl _ _) (Nat.le_refl _) _⟩
open Go.Eng (IC IOper DReg IFn B5)
open Go.Sym Go.Pb
theorem c_skip (s:List UInt8) (hs:s.length<=140737488355328):PC Tryz.prog 121 [.str s] (I64 (skM false s)):=by
 refine PC.ofT A7 rfl (Nat.le_of_ble_eq_true rfl) (by simp [DV.nlL,DV.nl]) (by simp [DV.nlL,DV.nl]) ?_;repeat' ((with_reducible first|refine wr ?_|refine k_cu ?_ ?_|refine wb2 ?_ ?_<;>(intro hb;try simp only [hb])|fail)<;>try simp only [go_sem,seval])
 refine D5 (fun k:Nat=>[(0,.str s),(3,I64 k)]) (fun _=>nil) (fun k _=>k<=s.length/\skM false s=k+skM false (s.drop k)) (fun k=>s.length-k) 0 (by simp [D0,tm,Tm.upd]) (Sub.nil _) (by simp) ?_;rintro k c ⟨hk,he⟩;by_cases hlt:k<s.length
 ·have hd:decide ((k:Int)<s.length)=true:=by simpa using hlt
  have hg:=List.getElem?_eq_getElem hlt;have hw:=w64 (n:=(k:Int)+1) (by omega) (by omega);have hsl:=A4p (s:=s) (k:=k) hk;have hcm:=c_spanCm (s.drop k) (by rw [List.length_drop];omega);have hle:=Q1 (fun c=>decide (c.toNat≠10)) (s.drop k);rw [List.length_drop] at hle;have hw2:=w64 (n:=(k:Int)+(C2 (fun c=>decide (c.toNat≠10)) (s.drop k):Nat)) (by omega) (by omega);have hsep:Y8 s[k]=true->∃ b,DV.int IntKind.i64 ((k:Int)+1)=I64 ((b:Nat):Int)/\Sym.Sub Sym.nil Sym.nil/\A5x (fun k _=>k<=s.length/\skM false s=k+skM false (s.drop k)) b c/\s.length-b<s.length-k :=
   fun h=>⟨k+1,rfl,Sub.refl _,inv ⟨by omega,by rw [he,sk_sep hg h];omega⟩,by omega⟩
  have hc0:∀ n:Nat,((s[k].toNat:Int) == (n:Int))=true->s[k].toNat=n:=fun n h=>by have:=beq_iff_eq.1 h;omega
  have hc1:∀ n:Nat,((s[k].toNat:Int) == (n:Int))=false->s[k].toNat≠n:=fun n h h2=>by rw [h2] at h;simp at h
  repeat' ((with_reducible first|refine wr ?_|refine cpc hcm ?_|refine k_cu ?_ ?_|refine wb2 ?_ ?_<;>(intro hb;try simp only [hb])|fail)<;>try simp only [go_sem,seval,hd,hg,hw,hsl,hw2])
  ·exact hsep (by simp [Y8,hc0 9 hb])
  ·exact hsep (by simp [Y8,hc0 10 hb])
  ·exact hsep (by simp [Y8,hc0 13 hb])
  ·exact hsep (by simp [Y8,hc0 32 hb])
  ·have h35:=hc0 35 hb;have h1:=sk_cmt1 hg h35;exact ⟨k+C2 (fun c=>decide (c.toNat≠10)) (s.drop k),by simp,Sub.refl _,inv ⟨by omega,by rw [he,sk_cmt hg h35];omega⟩,by omega⟩
  ·refine A5 ?_;have h9:=hc1 9 (by assumption);have h10:=hc1 10 (by assumption);have h13:=hc1 13 (by assumption);have h32:=hc1 32 (by assumption);have h35:=hc1 35 (by assumption);rw [he,sk_stop hg (by simp [Y8,h9,h10,h13,h32]) h35];simp
 ·have hd:decide ((k:Int)<s.length)=false:=by simpa using hlt
  repeat' ((with_reducible first|refine wr ?_|refine k_cu ?_ ?_|refine wb2 ?_ ?_<;>(intro hb;try simp only [hb])|fail)<;>try simp only [go_sem,seval,hd])
  refine A5 ?_;rw [he,sk_end (by omega)];simp
theorem quV_nl (q:Option (List UInt8 × Nat)):(quV q).nl=true:=by cases q<;>rfl
theorem c_quoted (s:List UInt8) (hs:s.length<=10000000):PC Tryz.prog 164 [.str s] (quV (quA [] 1 (quM (s.drop 1)))):=by
 refine PC.ofT A7 rfl (Nat.le_of_ble_eq_true rfl) (by simp [DV.nlL,DV.nl]) (quV_nl _) ?_;repeat' ((with_reducible first|refine wr ?_|refine k_cu ?_ ?_|refine wb2 ?_ ?_<;>(intro hb;try simp only [hb])|fail)<;>try simp only [go_sem,seval])
 refine D5 (fun q:Nat × Option Nat × List UInt8=>[(0,.str s),(4,B3 q.2.1 q.2.2.length),(5,I64 q.1)]) (fun q=>C3 Sym.nil q.2.1 ⟨1,true,E8 q.2.2⟩)
  (fun q c=>1<=q.1/\q.2.2.length<=q.1/\q.1<=s.length+1/\(q.2.1=none->q.2.2=[])/\(∀ i,q.2.1=some i->i<c)/\quA [] 1 (quM (s.drop 1))=quA q.2.2 q.1 (quM (s.drop q.1))) (fun q=>s.length+1-q.1) (1,none,[])
  (by simp [D0,tm,Tm.upd,B3]) (Sub.nil _) ⟨by simp,by simp,by simp,fun _=>rfl,(fun i hi=>by cases hi),rfl⟩ ?_
 rintro ⟨k,o,acc⟩ c ⟨h1,hal,hk,hno,ho,he⟩;simp only at h1 hal hk hno ho he;simp only;rw [he];by_cases hlt:k<s.length
 ·have hd:decide ((k:Int)<s.length)=true:=by simpa using hlt
  have hg:=List.getElem?_eq_getElem hlt;have hw:IntKind.i64.wrap ((k:Int)+1)=((k+1:Nat):Int):=by rw [w64 (by omega) (by omega)];omega
  have hw2:IntKind.i64.wrap (((k+1:Nat):Int)+1)=((k+2:Nat):Int):=by rw [w64 (by omega) (by omega)];omega
  have hcv:=r_cvtodo (H:=C3 Sym.nil o ⟨1,true,E8 acc⟩) (u:=1) hno (fun i hi=>by subst hi;exact A0);have hc0:∀ n:Nat,((s[k].toNat:Int) == (n:Int))=true->s[k].toNat=n:=fun n h=>by have:=beq_iff_eq.1 h;omega
  have hc1:∀ n:Nat,((s[k].toNat:Int) == (n:Int))=false->s[k].toNat≠n:=fun n h h2=>by rw [h2] at h;simp at h
  by_cases hlt2:k+1<s.length
  ·have hd2:decide (((k+1:Nat):Int)≥s.length)=false:=by simp;omega
   have hg2:=List.getElem?_eq_getElem hlt2;have hc2:∀ n:Nat,((s[k+1].toNat:Int) == (n:Int))=true->s[k+1].toNat=n:=fun n h=>by have:=beq_iff_eq.1 h;omega
   have hc3:∀ n:Nat,((s[k+1].toNat:Int) == (n:Int))=false->s[k+1].toNat≠n:=fun n h h2=>by rw [h2] at h;simp at h
   have ne0:=X5 c (c+1) (by omega);have hap:=A1k (X:=Sym.nil) hno ho (by omega);repeat' ((with_reducible first|refine wr ?_|refine k_cu ?_ ?_|refine wb2 ?_ ?_<;>(intro hb;try simp only [hb])|fail)<;>try simp only [go_sem,seval,hd,hg,hw,hcv,hd2,hg2,hw2,ne0,hap])
   ·refine A5 ?_;rw [V7 hg (hc0 34 hb)];rfl
   ·refine A5 ?_;rw [Z6 hg (hc1 34 (by assumption)) (.inl (by have:=of_decide_eq_true hb;omega))];rfl
   ·refine A5 ?_;rw [Z6 hg (hc1 34 (by assumption)) (.inr (by have:=of_decide_eq_true hb;omega))];rfl
   ·refine A5 ?_;rw [A3w hg (hc0 92 (by assumption)) (fun d hd=>by
     rw [hg2] at hd;cases hd;exact ⟨bn_t (b:=34) (by assumption),bn_t (b:=92) hb⟩)];rfl
   ·have hq:=A7x (acc:=acc) hg (hc0 92 (by assumption)) hg2 (.inr (bn_f (b:=92) hb));exact ⟨(k+2,some (c+1),acc++[s[k+1]]),⟨by simp only [List.length_append,List.length_singleton];rfl,rfl⟩,O7 rfl,inv ⟨by omega,by simp;omega,by simp only;omega,(fun h=>by cases h),(fun i hi=>by cases hi;omega),hq⟩,by simp only;omega⟩
   ·have hq:=A7x (acc:=acc) hg (hc0 92 (by assumption)) hg2 (.inl (bn_f (b:=34) hb));exact ⟨(k+2,some (c+1),acc++[s[k+1]]),⟨by simp only [List.length_append,List.length_singleton];rfl,rfl⟩,O7 rfl,inv ⟨by omega,by simp;omega,by simp only;omega,(fun h=>by cases h),(fun i hi=>by cases hi;omega),hq⟩,by simp only;omega⟩
   ·have hq:=A3x (acc:=acc) hg (hc1 34 (by assumption)) (by have:=of_decide_eq_false (by assumption:decide (((s[k].toNat:Int))<32)=false);omega) (by have:=of_decide_eq_false (by assumption:decide (((s[k].toNat:Int))>126)=false);omega) (hc1 92 (by assumption));exact ⟨(k+1,some (c+1),acc++[s[k]]),⟨by simp only [List.length_append,List.length_singleton];rfl,rfl⟩,O7 rfl,inv ⟨by omega,by simp;omega,by simp only;omega,(fun h=>by cases h),(fun i hi=>by cases hi;omega),hq⟩,by simp only;omega⟩
  ·have hd2:decide (((k+1:Nat):Int)≥s.length)=true:=by simp;omega
   have ne0:=X5 c (c+1) (by omega);have hap:=A1k (X:=Sym.nil) hno ho (by omega);repeat' ((with_reducible first|refine wr ?_|refine k_cu ?_ ?_|refine wb2 ?_ ?_<;>(intro hb;try simp only [hb])|fail)<;>try simp only [go_sem,seval,hd,hg,hw,hcv,hd2,ne0,hap])
   ·refine A5 ?_;rw [V7 hg (hc0 34 hb)];rfl
   ·refine A5 ?_;rw [Z6 hg (hc1 34 (by assumption)) (.inl (by have:=of_decide_eq_true hb;omega))];rfl
   ·refine A5 ?_;rw [Z6 hg (hc1 34 (by assumption)) (.inr (by have:=of_decide_eq_true hb;omega))];rfl
   ·refine A5 ?_;rw [A3w hg (hc0 92 (by assumption)) (fun d hd=>by rw [List.getElem?_eq_none (by omega)] at hd;cases hd)];rfl
   ·have hq:=A3x (acc:=acc) hg (hc1 34 (by assumption)) (by have:=of_decide_eq_false (by assumption:decide (((s[k].toNat:Int))<32)=false);omega) (by have:=of_decide_eq_false (by assumption:decide (((s[k].toNat:Int))>126)=false);omega) (hc1 92 (by assumption));exact ⟨(k+1,some (c+1),acc++[s[k]]),⟨by simp only [List.length_append,List.length_singleton];rfl,rfl⟩,O7 rfl,inv ⟨by omega,by simp;omega,by simp only;omega,(fun h=>by cases h),(fun i hi=>by cases hi;omega),hq⟩,by simp only;omega⟩
 ·have hd:decide ((k:Int)<s.length)=false:=by simpa using hlt
  repeat' ((with_reducible first|refine wr ?_|refine k_cu ?_ ?_|refine wb2 ?_ ?_<;>(intro hb;try simp only [hb])|fail)<;>try simp only [go_sem,seval,hd])
  refine A5 ?_;rw [qu_end (by omega)];rfl
theorem c_sign (s:List UInt8) (hs:s.length<=10000000) (h0:s≠[]):PC Tryz.prog 165 [.str s] (I64 (F8 s)):=by
 refine PC.ofT A7 rfl (Nat.le_of_ble_eq_true rfl) (by simp [DV.nlL,DV.nl]) (by simp [DV.nlL,DV.nl]) ?_;have hix:∀ c,decide (Lib.indexByte [123,125,40,41,59,44,61,43,45,42,47,37,33,60,62] c≥0)=A4v c:=fun c=>ix_one c
 match s,h0 with
 | [c],_ =>
  have hi:=c_IndexByte [123,125,40,41,59,44,61,43,45,42,47,37,33,60,62] c;have hx:A5e (DV.str [c]) (.int .i64 0)=some (.int .u8 (c.toNat:Int)):=rfl;repeat' ((with_reducible first|refine wr ?_|refine cpc hi ?_|refine k_cu ?_ ?_|refine wb2 ?_ ?_<;>(intro hb;try simp only [hb])|fail)<;>try simp only [go_sem,seval,hix,hx])
  all_goals (refine A5 ?_;simp [F8,hb])
 | c :: d :: r,_ =>
  have hi:=c_IndexByte [123,125,40,41,59,44,61,43,45,42,47,37,33,60,62] c;have hx:A5e (DV.str (c :: d :: r)) (.int .i64 0)=some (.int .u8 (c.toNat:Int)):=rfl;have hsl:slsR (c :: d :: r) none (some (DV.int .i64 2))=some (DV.str [c,d]):=A7s (s:=c :: d :: r) (k:=2) (by simp);have hd:decide (((r.length+1+1:Nat):Int)>1)=true:=by simp;omega
  have hk:∀ a b:UInt8,([c,d] == [a,b])=(c == a && d == b):=fun a b=>by simp [List.cons_beq_cons]
  have h2:=two_iff c d;repeat' ((with_reducible first|refine wr ?_|refine cpc hi ?_|refine k_cu ?_ ?_|refine wb2 ?_ ?_<;>(intro hb;try simp only [hb])|fail)<;>try simp only [go_sem,seval,hd,hix,hx,hsl])
  all_goals (refine A5 ?_;simp_all [F8])
theorem c_Fields':PC Tryz.prog 160 [.str [115,119,105,116,99,104,32,99,111,105,108,32,108,97,109,112,32,115,111,117,110,100,32,115,104,111,119,32,118,97,114,32,116,105,109,101,114,32,101,118,101,110,116,32,109,111,100,101,32,111,110,32,115,116,97,114,116,32,115,116,111,112,32,99,108,111,115,101,32,111,112,101,110,32,105,102,32,101,108,115,101,32,114,101,112,101,97,116,32,115,99,111,114,101,32,102,105,114,101,32,104,111,108,100,32,114,101,108,101,97,115,101,32,108,105,103,104,116,32,98,108,105,110,107,32,98,101,103,105,110,32,101,110,100,32,112,111,115,116,32,112,108,97,121,32,114,117,110,32,104,97,108,116,32,116,101,120,116,32,99,111,110,115,117,109,101,32,99,108,111,115,101,100,32,97,99,116,105,118,101,32,108,101,102,116,32,112,108,97,121,101,114,32,98,97,108,108,32,116,114,117,101,32,102,97,108,115,101]] (.lst (D2.map DV.str)):=c_Fields
theorem words_new:∀ k:Nat,k<38->(D2.take k).contains (D2.getD k [])=false:=by decide +kernel
theorem c_words:PC Tryz.prog 120 [] (.mp .s (D2.map DV.str) (D2.map fun _=>DV.bool true)):=by
 refine PC.ofT A7 rfl (Nat.le_of_ble_eq_true rfl) rfl (by simp only [DV.nl];rw [H8,N9 (fun _=>rfl)];rfl) ?_;have hf:=c_Fields';repeat' ((with_reducible first|refine wr ?_|refine cpc hf ?_|refine k_cu ?_ ?_|refine wb2 ?_ ?_<;>(intro hb;try simp only [hb])|fail)<;>try simp only [go_sem,seval])
 clear hf;refine D5 (fun k:Nat=>[(1,.mid 0),(5,.lst (D2.map DV.str)),(6,I64 D2.length),(7,I64 k)]) (fun k=>Sym.nil.upd 0 ⟨0,true,[.mpc .s ((D2.take k).map DV.str) ((D2.take k).map fun _=>DV.bool true)]⟩) (fun k _=>k<=D2.length) (fun k=>D2.length-k) 0 (by simp [D0,tm,Tm.upd]) (Sub.refl _) (by simp) ?_;rintro k c hk;have hlen:D2.length=38:=rfl;by_cases hlt:k<D2.length
 ·have hd:decide ((k:Int)<D2.length)=true:=by simpa using hlt
  have hg:=List.getElem?_eq_getElem hlt;have hw:IntKind.i64.wrap ((k:Int)+1)=((k+1:Nat):Int):=by rw [w64 (by omega) (by omega)];omega
  have hn:(D2.take k).contains D2[k]=false:=by
   have:=words_new k (by omega)
   rwa [List.getD_eq_getElem?_getD,hg,Option.getD_some] at this
  have hm:=A4x hn 0;have e1:D2.take (k+1)=D2.take k++[D2[k]]:=by rw [List.take_add_one,hg];rfl
  repeat' ((with_reducible first|refine wr ?_|refine k_cu ?_ ?_|refine wb2 ?_ ?_<;>(intro hb;try simp only [hb])|fail)<;>try simp only [go_sem,seval,hd,hg,hw,hm])
  refine ⟨k+1,rfl,?_,inv hlt,by omega⟩;rw [e1,List.map_append,List.map_append];intro j b hj;by_cases e:j=0
  ·subst e;rw [A0] at hj ⊢;exact hj
  ·rw [A2 e] at hj;cases hj
 ·have hd:decide ((k:Int)<D2.length)=false:=by simpa using hlt
  repeat' ((with_reducible first|refine wr ?_|refine k_cu ?_ ?_|refine wb2 ?_ ?_<;>(intro hb;try simp only [hb])|fail)<;>try simp only [go_sem,seval,hd])
  rw [List.take_of_length_le (by omega)];exact A8a A0
abbrev Y9:DV:=.mp .s (D2.map DV.str) (D2.map fun _=>DV.bool true)
theorem c_number (c:UInt8) (r:List UInt8) (hs:(c :: r).length<=10000000) (hc:dgB c=true) (hl:ltB c=false):PC Tryz.prog 163 [.str (c :: r)] (nxV (B1 (c :: r))):=by
 have hsp:=c_spanDg (c :: r) (by omega);have hn1:1<=C2 dgB (c :: r):=by simp [C2,hc]
 have hle:=Q1 dgB (c :: r);have hall:=span_all (p:=dgB) (c :: r);have hne:(c :: r).take (C2 dgB (c :: r))≠[]:=by
  intro e;have:=congrArg List.length e;rw [List.length_take,List.length_nil] at this;omega
 have hx:A5e (DV.str (c :: r)) (.int .i64 0)=some (.int .u8 (c.toNat:Int)):=rfl;have hsl:=A7s (s:=c :: r) (k:=C2 dgB (c :: r)) hle;have hlen:((c :: r).take (C2 dgB (c :: r))).length<=281474976710656:=by rw [List.length_take];omega
 have hM:B1 (c :: r)=if 1<C2 dgB (c :: r)/\c.toNat=48 then nxE 47
   else if 2147483647<N3 ((c :: r).take (C2 dgB (c :: r))) then nxE 5
   else ⟨3,[],(N3 ((c :: r).take (C2 dgB (c :: r))):Int),C2 dgB (c :: r),0⟩:=by
  rw [B1,if_neg (by rw [hl];simp),if_pos hc]
 rw [hM];generalize C2 dgB (c :: r)=n at *;generalize hnv:N3 ((c :: r).take n)=v at *;refine PC.ofT A7 rfl (Nat.le_of_ble_eq_true rfl) rfl (nxV_nl _) ?_;have z1:eqnR true 3 .inil (inj .nilIface)=some (.bool false):=rfl;have z2:∀ (t:TypeId) (x:DV),eqnR true 3 (.iface t x) (inj .nilIface)=some (.bool true):=fun _ _=>rfl;by_cases hbig:v<=9223372036854775807
 ·have hp:=c_ParseOk _ hlen hall hne (by rw [hnv];exact hbig);rw [hnv] at hp;repeat' ((with_reducible first|refine wr ?_|refine cpc hsp ?_|refine cpc hp ?_|refine k_cu ?_ ?_|refine wb2 ?_ ?_<;>(intro hb;try simp only [hb])|fail)<;>try simp only [go_sem,seval,hx,hsl,z1])
  ·rw [B8 (v:=nxV (nxE 47)) rfl];refine A5 (congrArg nxV ?_);rw [if_pos ⟨A3g (by assumption),A2q (b:=48) hb⟩]
  ·rw [B8 (v:=nxV (nxE 5)) rfl];refine A5 (congrArg nxV ?_);rw [if_neg (fun h=>Z1 (b:=48) (by assumption) h.2),if_pos (A3g hb)]
  ·rw [B8 (v:=nxV ⟨3,[],(v:Int),n,0⟩) rfl];refine A5 (congrArg nxV ?_);rw [if_neg (fun h=>Z1 (b:=48) (by assumption) h.2),if_neg (Z0 hb)]
  ·rw [B8 (v:=nxV (nxE 5)) rfl];refine A5 (congrArg nxV ?_);rw [if_neg (fun h=>Z0 (a:=n) (b:=1) (by assumption) h.1),if_pos (A3g hb)]
  ·rw [B8 (v:=nxV ⟨3,[],(v:Int),n,0⟩) rfl];refine A5 (congrArg nxV ?_);rw [if_neg (fun h=>Z0 (a:=n) (b:=1) (by assumption) h.1),if_neg (Z0 hb)]
 ·have hp:=c_ParseBig _ hlen hall hne (by rw [hnv];omega);repeat' ((with_reducible first|refine wr ?_|refine cpc hsp ?_|refine cpc hp ?_|refine k_cu ?_ ?_|refine wb2 ?_ ?_<;>(intro hb;try simp only [hb])|fail)<;>try simp only [go_sem,seval,hx,hsl,z2])
  ·rw [B8 (v:=nxV (nxE 47)) rfl];refine A5 (congrArg nxV ?_);rw [if_pos ⟨A3g (by assumption),A2q (b:=48) hb⟩]
  ·rw [B8 (v:=nxV (nxE 5)) rfl];refine A5 (congrArg nxV ?_);rw [if_neg (fun h=>Z1 (b:=48) (by assumption) h.2),if_pos (by omega)]
  ·rw [B8 (v:=nxV (nxE 5)) rfl];refine A5 (congrArg nxV ?_);rw [if_neg (fun h=>Z0 (a:=n) (b:=1) (by assumption) h.1),if_pos (by omega)]
theorem lk_res (w:List UInt8):lkV (.bool false) false (D2.map fun _=>DV.bool true) (J1 (.str w) (D2.map DV.str) 0)=some (.bool (D8 w)):=by
 cases h:D8 w with
 | false=>rw [A4x h 0];rfl
 | true =>
  obtain ⟨j,hj⟩:=mfind_some h 0;have hlt:=(mfind_lt hj).2;rw [List.length_map] at hlt;rw [hj,l_some,List.getElem?_map,List.getElem?_eq_getElem (by omega)];rfl
theorem c_next (c:UInt8) (r:List UInt8) (hs:(c :: r).length<=10000000):PC Tryz.prog 122 [.str (c :: r),Y9] (nxV (B1 (c :: r))):=by
 have hx:A5e (DV.str (c :: r)) (.int .i64 0)=some (.int .u8 (c.toNat:Int)):=rfl;have hlt:=c_letter c;have hdg:=c_digit c;have hnl:DV.nlL (D2.map fun _=>DV.bool true)=true:=N9 (fun _=>rfl) _;refine PC.ofT A7 rfl (Nat.le_of_ble_eq_true rfl) (by simp [DV.nlL,DV.nl,H8,hnl]) (nxV_nl _) ?_;by_cases hl:ltB c=true
 ·have hsp:=c_spanPt (c :: r) (by omega);have hle:=Q1 ptB (c :: r);have hsl:=A7s (s:=c :: r) (k:=C2 ptB (c :: r)) hle;have hM:B1 (c :: r)=if 12<C2 ptB (c :: r) then nxE 9 else ⟨if D8 ((c :: r).take (C2 ptB (c :: r)))=true then 2 else 1,(c :: r).take (C2 ptB (c :: r)),0,C2 ptB (c :: r),0⟩:=by
   rw [B1,if_pos hl]
  rw [hM];generalize C2 ptB (c :: r)=n at *;have hlk:=lk_res ((c :: r).take n);repeat' ((with_reducible first|refine wr ?_|refine cpc hlt ?_|refine cpc hsp ?_|refine k_cu ?_ ?_|refine wb2 ?_ ?_<;>(intro hb;try simp only [hb])|fail)<;>try simp only [go_sem,seval,hl,hx,hsl,hlk])
  ·rw [B8 (v:=nxV (nxE 9)) rfl];refine A5 (congrArg nxV ?_);rw [if_pos (A3g hb)]
  ·rw [B8 (v:=nxV ⟨2,(c :: r).take n,0,n,0⟩) rfl];refine A5 (congrArg nxV ?_);rw [if_neg (Z0 (a:=n) (b:=12) (by assumption))];try (rw [hb];rfl)
  ·rw [B8 (v:=nxV ⟨1,(c :: r).take n,0,n,0⟩) rfl];refine A5 (congrArg nxV ?_);rw [if_neg (Z0 (a:=n) (b:=12) (by assumption))];try (rw [hb];rfl)
 have hl0:ltB c=false:=by simpa using hl
 by_cases hd:dgB c=true
 ·have hnum:=c_number c r hs hd hl0;obtain ⟨x,hxx⟩:∃ x,x=B1 (c :: r):=⟨_,rfl⟩;rw [<- hxx] at hnum ⊢;have hnum:PC Tryz.prog 163 [.str (c :: r)] (.tup [.agg [I64 x.kind,.str x.text,I64 x.value,I64 0],I64 x.n,I64 x.err]):=hnum;repeat' ((with_reducible first|refine wr ?_|refine cpc hlt ?_|refine cpc hdg ?_|refine cpc hnum ?_|refine k_cu ?_ ?_|refine wb2 ?_ ?_<;>(intro hb;try simp only [hb])|fail)<;>try simp only [go_sem,seval,hl0,hx,hd])
  rw [B8 (v:=nxV x) rfl];exact A5 rfl
 have hd0:dgB c=false:=by simpa using hd
 by_cases hq:c.toNat=34
 ·have hqu:=c_quoted (c :: r) hs;rw [List.drop_one,List.tail_cons] at hqu;have hb34:((c.toNat:Int) == 34)=true:=by rw [hq];rfl
  cases hqr:quM r with
  | none =>
   have hM:B1 (c :: r)=nxE 48:=by
    rw [B1,if_neg hl,if_neg hd,if_pos hq,hqr]
   rw [hM];rw [hqr] at hqu;have hqu:PC Tryz.prog 164 [.str (c :: r)] (.tup [.str [],I64 0]):=hqu;repeat' ((with_reducible first|refine wr ?_|refine cpc hlt ?_|refine cpc hdg ?_|refine cpc hqu ?_|refine k_cu ?_ ?_|refine wb2 ?_ ?_<;>(intro hb;try simp only [hb])|fail)<;>try simp only [go_sem,seval,hl0,hx,hd0,hb34])
   rw [B8 (v:=nxV (nxE 48)) rfl];exact A5 rfl
  | some x =>
   obtain ⟨t,m⟩:=x;have hM:B1 (c :: r)=if 32<t.length then nxE 9 else ⟨4,t,0,m+1,0⟩:=by
    rw [B1,if_neg hl,if_neg hd,if_pos hq,hqr]
   rw [hM];rw [hqr] at hqu;have hqu:PC Tryz.prog 164 [.str (c :: r)] (.tup [.str t,I64 ((m+1:Nat):Int)]):=hqu;have hm0:(((m+1:Nat):Int) == 0)=false:=by simp;omega
   repeat' ((with_reducible first|refine wr ?_|refine cpc hlt ?_|refine cpc hdg ?_|refine cpc hqu ?_|refine k_cu ?_ ?_|refine wb2 ?_ ?_<;>(intro hb;try simp only [hb])|fail)<;>try simp only [go_sem,seval,hl0,hx,hd0,hb34,hm0])
   ·rw [B8 (v:=nxV (nxE 9)) rfl];refine A5 (congrArg nxV ?_);rw [if_pos (A3g hb)]
   ·rw [B8 (v:=nxV ⟨4,t,0,m+1,0⟩) rfl];refine A5 (congrArg nxV ?_);rw [if_neg (Z0 hb)]
 ·have hsg:=c_sign (c :: r) hs (by simp);have hb34:((c.toNat:Int) == 34)=false:=by simpa using (fun h=>hq (by omega))
  have hle:=signM_le (c :: r);have hsl:=A7s (s:=c :: r) (k:=F8 (c :: r)) hle;have hM:B1 (c :: r)=if F8 (c :: r)=0 then nxE 47 else ⟨5,(c :: r).take (F8 (c :: r)),0,F8 (c :: r),0⟩:=by
   rw [B1,if_neg hl,if_neg hd,if_neg hq]
  rw [hM];generalize F8 (c :: r)=n at *;repeat' ((with_reducible first|refine wr ?_|refine cpc hlt ?_|refine cpc hdg ?_|refine cpc hsg ?_|refine k_cu ?_ ?_|refine wb2 ?_ ?_<;>(intro hb;try simp only [hb])|fail)<;>try simp only [go_sem,seval,hl0,hx,hd0,hb34,hsl])
  ·rw [B8 (v:=nxV (nxE 47)) rfl];refine A5 (congrArg nxV ?_);rw [if_pos (A2q (b:=0) hb)]
  ·rw [B8 (v:=nxV ⟨5,(c :: r).take n,0,n,0⟩) rfl];refine A5 (congrArg nxV ?_);rw [if_neg (Z1 (b:=0) hb)]
theorem c_IsWord (s:List UInt8):PC Tryz.prog 145 [.str s] (.bool (D8 s)):=by
 refine PC.ofT A7 rfl (Nat.le_of_ble_eq_true rfl) (by simp [DV.nlL,DV.nl]) (by simp [DV.nlL,DV.nl]) ?_;have hw:=c_words;have hlk:=lk_res s;repeat' ((with_reducible first|refine wr ?_|refine cpc hw ?_|refine k_cu ?_ ?_|refine wb2 ?_ ?_<;>(intro hb;try simp only [hb])|fail)<;>try simp only [go_sem,seval,hlk])
 exact A5 rfl
theorem c_IsName (s:List UInt8) (hs:s.length<=1000000000):PC Tryz.prog 91 [.str s] (.bool (D3 s)):=by
 refine PC.ofT A7 rfl (Nat.le_of_ble_eq_true rfl) (by simp [DV.nlL,DV.nl]) (by simp [DV.nlL,DV.nl]) ?_;have hw:=c_IsWord s;have hsp:=c_spanPt s (by omega);cases s with
 | nil =>
  repeat' ((with_reducible first|refine wr ?_|refine k_cu ?_ ?_|refine wb2 ?_ ?_<;>(intro hb;try simp only [hb])|fail)<;>try simp only [go_sem,seval])
  exact A5 rfl
 | cons c r =>
  have hx:A5e (DV.str (c :: r)) (.int .i64 0)=some (.int .u8 (c.toNat:Int)):=rfl;have hlt:=c_letter c;have hd1:decide (((r.length+1:Nat):Int)≥1)=true:=by simp;omega
  repeat' ((with_reducible first|refine wr ?_|refine cpc hw ?_|refine cpc hsp ?_|refine cpc hlt ?_|refine k_cu ?_ ?_|refine wb2 ?_ ?_<;>(intro hb;try simp only [hb])|fail)<;>try simp only [go_sem,seval,hx,hd1])
  all_goals (refine A5 (congrArg DV.bool ?_);simp_all [D3]<;>omega)
theorem c_Quote (s:List UInt8) (hs:s.length<=1000000):PC Tryz.prog 155 [.str s] (.str (S9 s)):=by
 refine PC.ofT A7 rfl (Nat.le_of_ble_eq_true rfl) (by simp [DV.nlL,DV.nl]) (by simp [DV.nlL,DV.nl]) ?_;repeat' ((with_reducible first|refine wr ?_|refine k_cu ?_ ?_|refine wb2 ?_ ?_<;>(intro hb;try simp only [hb])|fail)<;>try simp only [go_sem,seval])
 refine D5 (fun q:Nat × Nat=>[(0,.str s),(3,.slc q.2 0 (A3e (s.take q.1)).length),(4,I64 q.1)]) (fun q=>Sym.nil.upd q.2 ⟨1,true,E8 (A3e (s.take q.1))⟩)
  (fun q c=>q.1<=s.length/\q.2<c) (fun q=>s.length-q.1) (0,0) (by simp [D0,tm,Tm.upd,A3e]) (Sub.refl _) (by simp) ?_
 rintro ⟨k,id⟩ c ⟨hk,hid⟩;simp only at hk hid;simp only;have hal:(A3e (s.take k)).length<=2 * k+1:=by
  have:=qpre_len (s.take k);rw [List.length_take] at this;omega
 obtain ⟨acc,hacc⟩:∃ acc,acc=A3e (s.take k):=⟨_,rfl⟩;rw [<- hacc] at hal ⊢;by_cases hlt:k<s.length
 ·have hd:decide ((k:Int)<s.length)=true:=by simpa using hlt
  have hg:=List.getElem?_eq_getElem hlt;have hw:IntKind.i64.wrap ((k:Int)+1)=((k+1:Nat):Int):=by rw [w64 (by omega) (by omega)];omega
  have hA:∀ H c id,apB H c id 1 1 acc.length 1 [.int .u8 92] (some ⟨1,true,E8 acc⟩)=some (.slc c 0 (acc.length+1),(H.del id).upd c ⟨1,true,E8 (acc++[92])⟩,c+1):=fun H c id=>apb1 (x:=92) rfl (by omega);have hB:∀ H c id,apB H c id 1 1 (acc.length+1) 1 [.int .u8 (s[k].toNat:Int)] (some ⟨1,true,E8 (acc++[92])⟩)=some (.slc c 0 (acc.length+1+1),(H.del id).upd c ⟨1,true,E8 (acc++[92]++[s[k]])⟩,c+1):=fun H c id=>apb1 (by simp) (by omega);have hC:∀ H c id,apB H c id 1 1 acc.length 1 [.int .u8 (s[k].toNat:Int)] (some ⟨1,true,E8 acc⟩)=some (.slc c 0 (acc.length+1),(H.del id).upd c ⟨1,true,E8 (acc++[s[k]])⟩,c+1):=fun H c id=>apb1 rfl (by omega);have est:A3e (s.take (k+1))=acc++quB s[k]:=by rw [hacc,qpre_step hg]
  have ne0:=O1 id c (c+1) (c+2) (c+3) (by omega);repeat' ((with_reducible first|refine wr ?_|refine k_cu ?_ ?_|refine wb2 ?_ ?_<;>(intro hb;try simp only [hb])|fail)<;>try simp only [go_sem,seval,hd,hg,hw,ne0,hA,hB,hC])
  ·have e2:quB s[k]=[92,s[k]]:=if_pos (.inl (A2q (b:=34) hb));exact ⟨(k+1,c+1+1+1),⟨by simp only [est,e2,List.length_append];rfl,rfl⟩,O7 (by simp only [est,e2,List.append_assoc];rfl),inv ⟨hlt,by simp only;omega⟩,by simp only;omega⟩
  ·have e2:quB s[k]=[92,s[k]]:=if_pos (.inr (A2q (b:=92) hb));exact ⟨(k+1,c+1+1+1),⟨by simp only [est,e2,List.length_append];rfl,rfl⟩,O7 (by simp only [est,e2,List.append_assoc];rfl),inv ⟨hlt,by simp only;omega⟩,by simp only;omega⟩
  ·have e2:quB s[k]=[s[k]]:=if_neg (fun h=>h.elim (Z1 (b:=34) (by assumption)) (Z1 (b:=92) hb));exact ⟨(k+1,c+1),⟨by simp only [est,e2,List.length_append];rfl,rfl⟩,O7 (by simp only [est,e2]),inv ⟨hlt,by simp only;omega⟩,by simp only;omega⟩
 ·have hd:decide ((k:Int)<s.length)=false:=by simpa using hlt
  have hZ:∀ H c id,apB H c id 1 1 acc.length 1 [.int .u8 34] (some ⟨1,true,E8 acc⟩)=some (.slc c 0 (acc.length+1),(H.del id).upd c ⟨1,true,E8 (acc++[34])⟩,c+1):=fun H c id=>apb1 (x:=34) rfl (by omega);have ne0:=K0 id c (c+1) (by omega);have hcv:∀ (H:Hp) u,Y4 (H.upd (c+1) ⟨u,true,E8 (acc++[34])⟩) (.slc (c+1) 0 (acc.length+1))=some (.str (acc++[34])):=fun H u=>cv_own A0 rfl (by simp);repeat' ((with_reducible first|refine wr ?_|refine k_cu ?_ ?_|refine wb2 ?_ ?_<;>(intro hb;try simp only [hb])|fail)<;>try simp only [go_sem,seval,hd,ne0,hZ,hcv])
  refine A5 ?_;rw [hacc,List.take_of_length_le (by omega)];rfl
theorem c_Scan (s:List UInt8) (hs:s.length<=100000):PC Tryz.prog 68 [.str s] (scanV (B9 s)):=by
 refine PC.ofT A7 rfl (Nat.le_of_ble_eq_true rfl) rfl (scanV_nl _) ?_;have hwd:=c_words;have hsk:=c_skip s (by omega);by_cases h20:20000<s.length
 ·have hd0:decide ((s.length:Int)>20000)=true:=by simp;omega
  have hM:B9 s=([],0,9):=if_pos h20;rw [hM];repeat' ((with_reducible first|refine wr ?_|refine k_cu ?_ ?_|refine wb2 ?_ ?_<;>(intro hb;try simp only [hb])|fail)<;>try simp only [go_sem,seval,hd0])
  exact A1j
 have hd0:decide ((s.length:Int)>20000)=false:=by simp;omega
 have hM:B9 s=H6 (s.length+1) s (skM false s) []:=if_neg h20;rw [hM];have hle0:=S7 false s;repeat' ((with_reducible first|refine wr ?_|refine cpc hwd ?_|refine cpc hsk ?_|refine k_cu ?_ ?_|refine wb2 ?_ ?_<;>(intro hb;try simp only [hb])|fail)<;>try simp only [go_sem,seval,hd0])
 refine D5 (fun q:Nat × Nat × Option Nat × List Tok=>[(0,.str s),(5,Y9),(6,B3 q.2.2.1 q.2.2.2.length),(7,I64 q.2.1)]) (fun q=>C3 Sym.nil q.2.2.1 ⟨4,true,A4 (q.2.2.2.map Tok.v)⟩)
  (fun q c=>q.2.1<=s.length/\s.length<q.1+q.2.1/\q.2.2.2.length<=q.2.1/\(q.2.2.1=none->q.2.2.2=[])/\(∀ i,q.2.2.1=some i->i<c)/\H6 (s.length+1) s (skM false s) []=H6 q.1 s q.2.1 q.2.2.2) (fun q=>q.1) (s.length+1,skM false s,none,[])
  (by simp [D0,tm,Tm.upd,B3]) (Sub.nil _) ⟨by simp only;omega,by simp only;omega,by simp,fun _=>rfl,(fun i hi=>by cases hi),rfl⟩ ?_
 rintro ⟨f,at_,o,acc⟩ c ⟨h1,hf,hal,hno,ho,he⟩;simp only at h1 hf hal hno ho he;simp only;rw [he];by_cases hlt:at_<s.length
 ·have hd:decide ((at_:Int)<s.length)=true:=by simpa using hlt
  have hg:=List.getElem?_eq_getElem hlt;have hsl:=A4p (s:=s) (k:=at_) h1;have hdr:=J4 hg;have hnx:PC Tryz.prog 122 [.str (s.drop at_),Y9] (nxV (B1 (s.drop at_))):=by
   rw [hdr];exact c_next _ _ (by rw [<- hdr,List.length_drop];omega)
  obtain ⟨f,rfl⟩:∃ g,f=g+1:=⟨f-1,by omega⟩;by_cases hz:(B1 (s.drop at_)).err=0
  ·have hn:=A3y hz;rw [List.length_drop] at hn;have hst:H6 (f+1) s at_ acc=H6 f s (at_+(B1 (s.drop at_)).n+skM false (s.drop (at_+(B1 (s.drop at_)).n))) (acc++[⟨(B1 (s.drop at_)).kind,(B1 (s.drop at_)).text,(B1 (s.drop at_)).value,(at_:Int)⟩]):=by
    rw [H6,if_neg (by omega),if_neg (by simpa using hz)]
   rw [hst];obtain ⟨x,hx⟩:∃ x,x=B1 (s.drop at_):=⟨_,rfl⟩;rw [<- hx] at hnx hz hn ⊢;have hnx:PC Tryz.prog 122 [.str (s.drop at_),Y9] (.tup [.agg [I64 x.kind,.str x.text,I64 x.value,I64 0],I64 x.n,I64 x.err]):=hnx;have hz':(x.err != 0)=false:=by simpa using hz
   have hw1:IntKind.i64.wrap ((at_:Int)+x.n)=((at_+x.n:Nat):Int):=by rw [w64 (by omega) (by omega)];omega
   have hsl2:=A4p (s:=s) (k:=at_+x.n) (by omega);have hsk2:=c_skip (s.drop (at_+x.n)) (by rw [List.length_drop];omega);have hkl:=S7 false (s.drop (at_+x.n));rw [List.length_drop] at hkl;obtain ⟨z,hzz⟩:∃ z,z=skM false (s.drop (at_+x.n)):=⟨_,rfl⟩;rw [<- hzz] at hsk2 hkl ⊢;have hw2:IntKind.i64.wrap (((at_+x.n:Nat):Int)+z)=((at_+x.n+z:Nat):Int):=by rw [w64 (by omega) (by omega)];omega
   have ne0:=K0 c (c+1) (c+2) (by omega);repeat' ((with_reducible first|refine wr ?_|refine cpc hnx ?_|refine cpc hsk2 ?_|refine k_cu ?_ ?_|refine wb2 ?_ ?_<;>(intro hb;try simp only [hb])|fail)<;>try simp only [go_sem,seval,hd,hsl,hz',hw1,hsl2,hw2,ne0])
   refine D1 (F4 (cs:=A4 (acc.map Tok.v)) (fun e=>by rw [hno e];exact ⟨rfl,rfl⟩) (fun i hi=>?_) (by rw [C7 (u:=4) (Z3 _)];simp) (by omega) (by omega) (by omega)) ?_
   ·have:=ho i hi;rw [A2 (by omega),A2 (by omega),A2 (by omega),A2 (by omega)];exact A8c hi
   simp only [go_sem,seval,ne0,hw1,hw2];repeat' ((with_reducible first|refine wr ?_|refine cpc hnx ?_|refine cpc hsk2 ?_|refine k_cu ?_ ?_|refine wb2 ?_ ?_<;>(intro hb;try simp only [hb])|fail)<;>try simp only [go_sem,seval,hd,hsl,hz',hw1,hsl2,hw2,ne0])
   exact ⟨(f,at_+x.n+z,some (c+1+1),acc++[⟨x.kind,x.text,x.value,(at_:Int)⟩]),⟨by simp only [List.length_append,List.length_singleton];rfl,rfl⟩,
    O7 (by simp only [List.map_append,E3];rfl),inv ⟨by simp only;omega,by simp only;omega,by simp only [List.length_append,List.length_singleton];omega,(fun h=>by cases h),(fun i hi=>by cases hi;omega),rfl⟩,by simp only;omega⟩
  ·have hst:H6 (f+1) s at_ acc=([],(at_:Int),(B1 (s.drop at_)).err):=by
    rw [H6,if_neg (by omega),if_pos hz]
   rw [hst];obtain ⟨x,hx⟩:∃ x,x=B1 (s.drop at_):=⟨_,rfl⟩;rw [<- hx] at hnx hz ⊢;have hnx:PC Tryz.prog 122 [.str (s.drop at_),Y9] (.tup [.agg [I64 x.kind,.str x.text,I64 x.value,I64 0],I64 x.n,I64 x.err]):=hnx;have hz':(x.err != 0)=true:=by simpa using hz
   have ne0:=X5 c (c+1) (by omega);repeat' ((with_reducible first|refine wr ?_|refine cpc hnx ?_|refine k_cu ?_ ?_|refine wb2 ?_ ?_<;>(intro hb;try simp only [hb])|fail)<;>try simp only [go_sem,seval,hd,hsl,hz',ne0])
   exact A1j
 ·have hd:decide ((at_:Int)<s.length)=false:=by simpa using hlt
  repeat' ((with_reducible first|refine wr ?_|refine k_cu ?_ ?_|refine wb2 ?_ ?_<;>(intro hb;try simp only [hb])|fail)<;>try simp only [go_sem,seval,hd])
  have hM2:H6 f s at_ acc=(acc,0,0):=by
   cases f with
   | zero=>rfl
   | succ f=>rw [H6,if_pos (by omega)]
  rw [hM2];exact pc_todo3 (fun e=>by rw [hno e];rfl) (by simp) (Z3 acc)
theorem c_wordsR:PC Tryz.prog 181 [] (.lst (D2.map DV.str)):=by
 refine PC.ofT A7 rfl (Nat.le_of_ble_eq_true rfl) rfl (H8 _) ?_;repeat' ((with_reducible first|refine wr ?_|refine k_cu ?_ ?_|refine wb2 ?_ ?_<;>(intro hb;try simp only [hb])|fail)<;>try simp only [go_sem,seval])
 exact Z7 (xs:=D2.map DV.str) (u:=1) A0 rfl rfl (H4 _) ⟨[],rfl⟩
theorem c_signsR:PC Tryz.prog 137 [] (.lst (O8.map DV.str)):=by
 refine PC.ofT A7 rfl (Nat.le_of_ble_eq_true rfl) rfl (H8 _) ?_;repeat' ((with_reducible first|refine wr ?_|refine k_cu ?_ ?_|refine wb2 ?_ ?_<;>(intro hb;try simp only [hb])|fail)<;>try simp only [go_sem,seval])
 exact Z7 (xs:=O8.map DV.str) (u:=1) A0 rfl rfl (H4 _) ⟨[],rfl⟩
theorem c_IsWordR (s:List UInt8):PC Tryz.prog 149 [.str s] (.bool (D8 s)):=by
 refine PC.ofT A7 rfl (Nat.le_of_ble_eq_true rfl) (by simp [DV.nlL,DV.nl]) (by simp [DV.nlL,DV.nl]) ?_;have hw:=c_wordsR;repeat' ((with_reducible first|refine wr ?_|refine cpc hw ?_|refine k_cu ?_ ?_|refine wb2 ?_ ?_<;>(intro hb;try simp only [hb])|fail)<;>try simp only [go_sem,seval])
 refine D5 (fun k:Nat=>[(0,.str s),(3,.lst (D2.map DV.str)),(4,I64 k)]) (fun _=>nil) (fun k _=>k<=D2.length/\(D2.take k).contains s=false) (fun k=>D2.length-k) 0 (by simp [D0,tm,Tm.upd]) (Sub.nil _) (by simp) ?_;rintro k c ⟨hk,he⟩;have hlen:D2.length=38:=rfl;by_cases hlt:k<D2.length
 ·have hd:decide ((k:Int)<D2.length)=true:=by simpa using hlt
  have hg:=List.getElem?_eq_getElem hlt;have hw:IntKind.i64.wrap ((k:Int)+1)=((k+1:Nat):Int):=by rw [w64 (by omega) (by omega)];omega
  repeat' ((with_reducible first|refine wr ?_|refine k_cu ?_ ?_|refine wb2 ?_ ?_<;>(intro hb;try simp only [hb])|fail)<;>try simp only [go_sem,seval,hd,hg,hw])
  ·refine A5 (congrArg DV.bool ?_);have:s=D2[k]:=(beq_iff_eq.1 hb).symm;unfold D8;rw [List.contains_iff_mem.2 (by rw [this];exact List.getElem_mem hlt)]
  ·refine ⟨k+1,rfl,Sub.refl _,inv ⟨hlt,?_⟩,by omega⟩;rw [List.take_add_one,hg,List.contains_append,he];have:¬ s=D2[k]:=fun e=>by rw [e] at hb;simp at hb
   simpa using this
 ·have hd:decide ((k:Int)<D2.length)=false:=by simpa using hlt
  repeat' ((with_reducible first|refine wr ?_|refine k_cu ?_ ?_|refine wb2 ?_ ?_<;>(intro hb;try simp only [hb])|fail)<;>try simp only [go_sem,seval,hd])
  refine A5 (congrArg DV.bool ?_);rw [List.take_of_length_le (by omega)] at he;exact he.symm
theorem c_skipR (s:List UInt8) (hs:s.length<=1000000000) (i:Nat) (hi:i<=s.length):PC Tryz.prog 82 [.str s,I64 i] (I64 ((i+skM false (s.drop i):Nat):Int)):=by
 refine PC.ofT A7 rfl (Nat.le_of_ble_eq_true rfl) (by simp [DV.nlL,DV.nl]) (by simp [DV.nlL,DV.nl]) ?_;repeat' ((with_reducible first|refine wr ?_|refine k_cu ?_ ?_|refine wb2 ?_ ?_<;>(intro hb;try simp only [hb])|fail)<;>try simp only [go_sem,seval])
 refine D5 (fun k:Nat=>[(0,.str s),(1,I64 k)]) (fun _=>nil) (fun k _=>k<=s.length/\i+skM false (s.drop i)=k+skM false (s.drop k)) (fun k=>s.length-k) i (by simp [D0,tm,Tm.upd]) (Sub.nil _) ⟨hi,rfl⟩ ?_;rintro k c ⟨hk,he⟩;by_cases hlt:k<s.length
 ·have hd:decide ((k:Int)<s.length)=true:=by simpa using hlt
  have hg:=List.getElem?_eq_getElem hlt;have hw:=w64 (n:=(k:Int)+1) (by omega) (by omega);have hsep:Y8 s[k]=true->∃ b,DV.int IntKind.i64 ((k:Int)+1)=I64 ((b:Nat):Int)/\Sym.Sub Sym.nil Sym.nil/\A5x (fun k _=>k<=s.length/\i+skM false (s.drop i)=k+skM false (s.drop k)) b c/\s.length-b<s.length-k :=
   fun h=>⟨k+1,rfl,Sub.refl _,inv ⟨by omega,by rw [he,sk_sep hg h];omega⟩,by omega⟩
  repeat' ((with_reducible first|refine wr ?_|refine k_cu ?_ ?_|refine wb2 ?_ ?_<;>(intro hb;try simp only [hb])|fail)<;>try simp only [go_sem,seval,hd,hg,hw])
  ·have h35:=A2q (b:=35) hb;have h1:=sk_cmt1 hg h35;have h2:=sk_cmt hg h35;refine D5 (fun j:Nat=>[(0,.str s),(1,I64 ((k+j:Nat):Int))]) (fun _=>nil) (fun j _=>k+j<=s.length/\j<=C2 (fun c=>decide (c.toNat≠10)) (s.drop k)) (fun j=>s.length-(k+j)) 0 (by simp [D0,tm,Tm.upd]) (Sub.nil _) (by simp;omega) ?_;rintro j c ⟨hkj,hej⟩;have hend:C2 (fun c=>decide (c.toNat≠10)) (s.drop k)=j->∃ b,I64 ((k+j:Nat):Int)=I64 ((b:Nat):Int)/\Sym.Sub Sym.nil Sym.nil/\A5x (fun k _=>k<=s.length/\i+skM false (s.drop i)=k+skM false (s.drop k)) b c/\s.length-b<s.length-k:=by
    intro e;rw [e] at h1 h2;exact ⟨k+j,rfl,Sub.refl _,inv ⟨hkj,by rw [he,h2];omega⟩,by omega⟩
   by_cases hlt2:k+j<s.length
   ·have hd2:decide (((k+j:Nat):Int)<s.length)=true:=by simp;omega
    have hg2:=List.getElem?_eq_getElem hlt2;have hw2:IntKind.i64.wrap (((k+j:Nat):Int)+1)=((k+(j+1):Nat):Int):=by rw [w64 (by omega) (by omega)];omega
    have hst:=A4o hg2 hej;repeat' ((with_reducible first|refine wr ?_|refine k_cu ?_ ?_|refine wb2 ?_ ?_<;>(intro hb;try simp only [hb])|fail)<;>try simp only [go_sem,seval,hd2,hg2,hw2])
    ·exact ⟨j+1,rfl,Sub.refl _,inv ⟨hlt2,hst.1 (by simpa using bn_t (b:=10) hb)⟩,by omega⟩
    ·exact hend (hst.2 (by simpa using bn_f (b:=10) hb))
   ·have hd2:decide (((k+j:Nat):Int)<s.length)=false:=by simp;omega
    repeat' ((with_reducible first|refine wr ?_|refine k_cu ?_ ?_|refine wb2 ?_ ?_<;>(intro hb;try simp only [hb])|fail)<;>try simp only [go_sem,seval,hd2])
    exact hend (A2d (by omega) hej)
  ·exact hsep (by simp [Y8,A2q (b:=9) hb])
  ·exact hsep (by simp [Y8,A2q (b:=10) hb])
  ·exact hsep (by simp [Y8,A2q (b:=13) hb])
  ·exact hsep (by simp [Y8,A2q (b:=32) hb])
  ·refine A5 ?_;have h9:=Z1 (a:=s[k].toNat) (b:=9) (by assumption);have h10:=Z1 (a:=s[k].toNat) (b:=10) (by assumption);have h13:=Z1 (a:=s[k].toNat) (b:=13) (by assumption);have h32:=Z1 (a:=s[k].toNat) (b:=32) (by assumption);have h35:=Z1 (a:=s[k].toNat) (b:=35) (by assumption);rw [he,sk_stop hg (by simp [Y8,h9,h10,h13,h32]) h35];simp
 ·have hd:decide ((k:Int)<s.length)=false:=by simpa using hlt
  repeat' ((with_reducible first|refine wr ?_|refine k_cu ?_ ?_|refine wb2 ?_ ?_<;>(intro hb;try simp only [hb])|fail)<;>try simp only [go_sem,seval,hd])
  refine A5 ?_;rw [he,sk_end (by omega)];simp
theorem c_wordR (s:List UInt8) (hs:s.length<=1000000000) (i:Nat) (hi:i<s.length) (hl:ltB s[i]=true):PC Tryz.prog 133 [.str s,I64 i] (nxR (B1 (s.drop i)) i):=by
 have hM:B1 (s.drop i)=if 12<C2 ptB (s.drop i) then nxE 9 else ⟨if D8 ((s.drop i).take (C2 ptB (s.drop i)))=true then 2 else 1,(s.drop i).take (C2 ptB (s.drop i)),0,C2 ptB (s.drop i),0⟩:=by
  rw [J4 (List.getElem?_eq_getElem hi),B1,if_pos hl]
 rw [hM];have hle:=Q1 ptB (s.drop i);rw [List.length_drop] at hle;refine PC.ofT A7 rfl (Nat.le_of_ble_eq_true rfl) rfl (nxR_nl _ _) ?_;repeat' ((with_reducible first|refine wr ?_|refine k_cu ?_ ?_|refine wb2 ?_ ?_<;>(intro hb;try simp only [hb])|fail)<;>try simp only [go_sem,seval])
 refine D5 (fun j:Nat=>[(0,.str s),(1,I64 i),(4,.ptr 0 0),(7,I64 ((i+j:Nat):Int))]) (fun _=>Sym.nil.upd 0 ⟨0,true,[I64 0,.str [],I64 0,I64 0]⟩) (fun j cc=>1<=cc/\i+j<=s.length/\j<=C2 ptB (s.drop i)) (fun j=>s.length-(i+j)) 0 (by simp [D0,tm,Tm.upd]) (Sub.refl _) (by simp;omega) ?_;rintro j c ⟨h1c,hk,he⟩;have hw2:IntKind.i64.wrap (((i+j:Nat):Int)-i)=(j:Int):=by rw [w64 (by omega) (by omega)];omega
 have hsx:=slx_take hk;have hiw:=c_IsWordR ((s.drop i).take j);have hR9:C2 ptB (s.drop i)=j->12<j->R3 9 i=nxR (if 12<C2 ptB (s.drop i) then nxE 9 else ⟨if D8 ((s.drop i).take (C2 ptB (s.drop i)))=true then 2 else 1,(s.drop i).take (C2 ptB (s.drop i)),0,C2 ptB (s.drop i),0⟩) i:=by
  intro e h;rw [e,if_pos h,A1l (by decide)]
 have hRw:C2 ptB (s.drop i)=j->¬ 12<j->D8 ((s.drop i).take j)=true->okN 2 ((s.drop i).take j) 0 i j=nxR (if 12<C2 ptB (s.drop i) then nxE 9 else ⟨if D8 ((s.drop i).take (C2 ptB (s.drop i)))=true then 2 else 1,(s.drop i).take (C2 ptB (s.drop i)),0,C2 ptB (s.drop i),0⟩) i:=by
  intro e h h2;rw [e,if_neg h,A4w,if_pos h2]
 have hRn:C2 ptB (s.drop i)=j->¬ 12<j->D8 ((s.drop i).take j)=false->okN 1 ((s.drop i).take j) 0 i j=nxR (if 12<C2 ptB (s.drop i) then nxE 9 else ⟨if D8 ((s.drop i).take (C2 ptB (s.drop i)))=true then 2 else 1,(s.drop i).take (C2 ptB (s.drop i)),0,C2 ptB (s.drop i),0⟩) i:=by
  intro e h h2;rw [e,if_neg h,A4w,if_neg (by rw [h2];simp)]
 by_cases hlt:i+j<s.length
 ·have hd:decide (((i+j:Nat):Int)<s.length)=true:=by simp;omega
  have hg:=List.getElem?_eq_getElem hlt;have hw:IntKind.i64.wrap (((i+j:Nat):Int)+1)=((i+(j+1):Nat):Int):=by rw [w64 (by omega) (by omega)];omega
  have h1:=c_letterR s[i+j];have h2:=c_digitR s[i+j];have hst:=A4o hg he;have hlp:ptB s[i+j]=true->∃ b,DV.int IntKind.i64 ((i+(j+1):Nat):Int)=I64 ((i+b:Nat):Int)/\Sym.Sub (Sym.nil.upd 0 ⟨0,true,[I64 0,.str [],I64 0,I64 0]⟩) (Sym.nil.upd 0 ⟨0,true,[I64 0,.str [],I64 0,I64 0]⟩) /\
    A5x (fun j cc=>1<=cc/\i+j<=s.length/\j<=C2 ptB (s.drop i)) b c/\s.length-(i+b)<s.length-(i+j) :=
   fun h=>⟨j+1,rfl,Sub.refl _,inv ⟨h1c,hlt,hst.1 h⟩,by omega⟩
  have ne0:=X5 c 0 (by omega);repeat' ((with_reducible first|refine wr ?_|refine cpc h1 ?_|refine cpc h2 ?_|refine cpc hiw ?_|refine k_cu ?_ ?_|refine wb2 ?_ ?_<;>(intro hb;try simp only [hb])|fail)<;>try simp only [go_sem,seval,hd,hg,hw,hw2,hsx,ne0])
  ·exact hlp (by simp [ptB,hb])
  ·exact hlp (by simp [ptB,hb])
  ·exact hlp (by simp [ptB,A2q (b:=95) hb])
  ·have hj:=hst.2 (by simp only [ptB];rw [‹ltB s[i+j]=false›, ‹dgB s[i+j]=false›];simpa using Z1 (a:=s[i+j].toNat) (b:=95) (by assumption));rw [B8 (v:=R3 9 i) rfl];exact A5 (hR9 hj (A3g hb))
  ·have hj:=hst.2 (by simp only [ptB];rw [‹ltB s[i+j]=false›, ‹dgB s[i+j]=false›];simpa using Z1 (a:=s[i+j].toNat) (b:=95) (by assumption));rw [B8 (v:=okN 2 ((s.drop i).take j) 0 i j) rfl];exact A5 (hRw hj (Z0 (a:=j) (b:=12) (by assumption)) hb)
  ·have hj:=hst.2 (by simp only [ptB];rw [‹ltB s[i+j]=false›, ‹dgB s[i+j]=false›];simpa using Z1 (a:=s[i+j].toNat) (b:=95) (by assumption));rw [B8 (v:=okN 1 ((s.drop i).take j) 0 i j) rfl];exact A5 (hRn hj (Z0 (a:=j) (b:=12) (by assumption)) hb)
 ·have hd:decide (((i+j:Nat):Int)<s.length)=false:=by simp;omega
  have hj:=A2d (p:=ptB) (s:=s) (by omega) he;have ne0:=X5 c 0 (by omega);repeat' ((with_reducible first|refine wr ?_|refine cpc hiw ?_|refine k_cu ?_ ?_|refine wb2 ?_ ?_<;>(intro hb;try simp only [hb])|fail)<;>try simp only [go_sem,seval,hd,hw2,hsx,ne0])
  ·rw [B8 (v:=R3 9 i) rfl];exact A5 (hR9 hj (A3g hb))
  ·rw [B8 (v:=okN 2 ((s.drop i).take j) 0 i j) rfl];exact A5 (hRw hj (Z0 (a:=j) (b:=12) (by assumption)) hb)
  ·rw [B8 (v:=okN 1 ((s.drop i).take j) 0 i j) rfl];exact A5 (hRn hj (Z0 (a:=j) (b:=12) (by assumption)) hb)
theorem c_numberR (s:List UInt8) (hs:s.length<=1000000000) (i:Nat) (hi:i<s.length) (hl:ltB s[i]=false) (hg0:dgB s[i]=true):PC Tryz.prog 135 [.str s,I64 i] (nxR (B1 (s.drop i)) i):=by
 have hM:B1 (s.drop i)=if 1<C2 dgB (s.drop i)/\s[i].toNat=48 then nxE 47
   else if 2147483647<N3 ((s.drop i).take (C2 dgB (s.drop i))) then nxE 5
   else ⟨3,[],(N3 ((s.drop i).take (C2 dgB (s.drop i))):Int),C2 dgB (s.drop i),0⟩:=by
  have hdr:=J4 (List.getElem?_eq_getElem hi);have:∀ r,s.drop i=s[i] :: r->B1 (s.drop i)=if 1<C2 dgB (s.drop i)/\s[i].toNat=48 then nxE 47
   else if 2147483647<N3 ((s.drop i).take (C2 dgB (s.drop i))) then nxE 5
   else ⟨3,[],(N3 ((s.drop i).take (C2 dgB (s.drop i))):Int),C2 dgB (s.drop i),0⟩:=by
   intro r e;rw [e,B1,if_neg (by rw [hl];simp),if_pos hg0]
  exact this _ hdr
 have hle:=Q1 dgB (s.drop i);rw [List.length_drop] at hle;obtain ⟨D,hD⟩:∃ D,D=s.drop i:=⟨_,rfl⟩;refine PC.ofT A7 rfl (Nat.le_of_ble_eq_true rfl) rfl (nxR_nl _ _) ?_;repeat' ((with_reducible first|refine wr ?_|refine k_cu ?_ ?_|refine wb2 ?_ ?_<;>(intro hb;try simp only [hb])|fail)<;>try simp only [go_sem,seval])
 refine D5 (fun j:Nat=>[(0,.str s),(1,I64 i),(4,.ptr 0 0),(7,I64 ((i+j:Nat):Int)),(8,I64 (smV (D.take j))),(9,.bool (A8r (D.take j)))]) (fun _=>Sym.nil.upd 0 ⟨0,true,[I64 0,.str [],I64 0,I64 0]⟩) (fun j _=>i+j<=s.length/\j<=C2 dgB (s.drop i)) (fun j=>s.length-(i+j)) 0 (by simp [D0,tm,Tm.upd,smV,A8r,N3]) (Sub.refl _) (by simp;omega) ?_;rintro j c ⟨hk,he⟩;have hw2:IntKind.i64.wrap (((i+j:Nat):Int)-i)=(j:Int):=by rw [w64 (by omega) (by omega)];omega
 have hgi:=List.getElem?_eq_getElem hi;have hRz:C2 dgB (s.drop i)=j->1<j->s[i].toNat=48->R3 47 i=nxR (B1 (s.drop i)) i:=by
  intro e h h2;rw [hM,e,if_pos ⟨h,h2⟩,A1l (by decide)]
 have hRb:C2 dgB (s.drop i)=j->¬ (1<j/\s[i].toNat=48)->A8r (D.take j)=true->R3 5 i=nxR (B1 (s.drop i)) i:=by
  intro e h h2;rw [hM,e,if_neg h, <- hD,if_pos (of_decide_eq_true h2),A1l (by decide)]
 have hRk:C2 dgB (s.drop i)=j->¬ (1<j/\s[i].toNat=48)->A8r (D.take j)=false->okN 3 [] (smV (D.take j)) i j=nxR (B1 (s.drop i)) i:=by
  intro e h h2;have h3:=of_decide_eq_false h2;rw [hM,e,if_neg h, <- hD,if_neg h3,A4w,smV_f h3]
 by_cases hlt:i+j<s.length
 ·have hd:decide (((i+j:Nat):Int)<s.length)=true:=by simp;omega
  have hg:=List.getElem?_eq_getElem hlt;have hw:IntKind.i64.wrap (((i+j:Nat):Int)+1)=((i+(j+1):Nat):Int):=by rw [w64 (by omega) (by omega)];omega
  have h2:=c_digitR s[i+j];have hst:=A4o hg he;by_cases hdg:dgB s[i+j]=true
  ·rw [hdg] at h2;have hgD:D[j]? = some s[i+j]:=by rw [hD,List.getElem?_drop];exact hg
   have hn:=numV_step hgD;have hdd:48<=s[i+j].toNat/\s[i+j].toNat<=57:=by simpa [dgB] using hdg
   obtain ⟨z,hz⟩:∃ z:Nat,z=s[i+j].toNat-48:=⟨_,rfl⟩;rw [<- hz] at hn;have w1:IntKind.i64.wrap (10 * (smV (D.take j):Int))=((10 * smV (D.take j):Nat):Int):=by have:=smV_le (D.take j);rw [w64 (by omega) (by omega)];omega
   have w2:IntKind.u8.wrap ((s[i+j].toNat:Int)-48)=(z:Int):=by rw [wu8 (by omega) (by omega)];omega
   have w3:IntKind.i64.wrap (z:Int)=(z:Int):=w64 (by omega) (by omega);have w4:IntKind.i64.wrap (((10 * smV (D.take j):Nat):Int)+z)=((10 * smV (D.take j)+z:Nat):Int):=by have:=smV_le (D.take j);rw [w64 (by omega) (by omega)];omega
   by_cases hbg:2147483647<N3 (D.take j)
   ·have hb1:A8r (D.take j)=true:=decide_eq_true hbg;have e1:A8r (D.take (j+1))=true:=decide_eq_true (by omega);have e2:smV (D.take (j+1))=0:=smV_t (by omega);rw [hb1];repeat' ((with_reducible first|refine wr ?_|refine cpc h2 ?_|refine k_cu ?_ ?_|refine wb2 ?_ ?_<;>(intro hb;try simp only [hb])|fail)<;>try simp only [go_sem,seval,hd,hg,hw,w1,w2,w3,w4])
    exact ⟨j+1,⟨rfl,by rw [e2];rfl,by rw [e1]⟩,Sub.refl _,inv ⟨hlt,hst.1 hdg⟩,by omega⟩
   ·have hb1:A8r (D.take j)=false:=decide_eq_false hbg;have hs1:=smV_f hbg;rw [hb1];by_cases hbn:2147483647<N3 (D.take (j+1))
    ·have e1:A8r (D.take (j+1))=true:=decide_eq_true hbn;have e2:smV (D.take (j+1))=0:=smV_t hbn;have hd5:decide (((10 * smV (D.take j)+z:Nat):Int)>2147483647)=true:=by simp only [decide_eq_true_eq];omega
     repeat' ((with_reducible first|refine wr ?_|refine cpc h2 ?_|refine k_cu ?_ ?_|refine wb2 ?_ ?_<;>(intro hb;try simp only [hb])|fail)<;>try simp only [go_sem,seval,hd,hg,hw,w1,w2,w3,w4,hd5])
     exact ⟨j+1,⟨rfl,by rw [e2];rfl,by rw [e1]⟩,Sub.refl _,inv ⟨hlt,hst.1 hdg⟩,by omega⟩
    ·have e1:A8r (D.take (j+1))=false:=decide_eq_false hbn;have e2:smV (D.take (j+1))=10 * smV (D.take j)+z:=by rw [smV_f hbn,hn,hs1]
     have hd5:decide (((10 * smV (D.take j)+z:Nat):Int)>2147483647)=false:=by simp only [decide_eq_false_iff_not];omega
     repeat' ((with_reducible first|refine wr ?_|refine cpc h2 ?_|refine k_cu ?_ ?_|refine wb2 ?_ ?_<;>(intro hb;try simp only [hb])|fail)<;>try simp only [go_sem,seval,hd,hg,hw,w1,w2,w3,w4,hd5])
     exact ⟨j+1,⟨rfl,by rw [e2],by rw [e1]⟩,Sub.refl _,inv ⟨hlt,hst.1 hdg⟩,by omega⟩
  ·have hdg0:dgB s[i+j]=false:=by simpa using hdg
   rw [hdg0] at h2;have hj:=hst.2 hdg0;repeat' ((with_reducible first|refine wr ?_|refine cpc h2 ?_|refine k_cu ?_ ?_|refine wb2 ?_ ?_<;>(intro hb;try simp only [hb])|fail)<;>try simp only [go_sem,seval,hd,hg,hw2,hgi])
   ·rw [B8 (v:=R3 47 i) rfl];exact A5 (hRz hj (A3g hb) (A2q (b:=48) (by assumption)))
   ·rw [B8 (v:=R3 5 i) rfl];exact A5 (hRb hj (fun h=>Z0 (a:=j) (b:=1) (by assumption) h.1) hb)
   ·rw [B8 (v:=okN 3 [] (smV (D.take j)) i j) rfl];exact A5 (hRk hj (fun h=>Z0 (a:=j) (b:=1) (by assumption) h.1) hb)
   ·rw [B8 (v:=R3 5 i) rfl];exact A5 (hRb hj (fun h=>Z1 (b:=48) (by assumption) h.2) hb)
   ·rw [B8 (v:=okN 3 [] (smV (D.take j)) i j) rfl];exact A5 (hRk hj (fun h=>Z1 (b:=48) (by assumption) h.2) hb)
 ·have hd:decide (((i+j:Nat):Int)<s.length)=false:=by simp;omega
  have hj:=A2d (p:=dgB) (s:=s) (by omega) he;repeat' ((with_reducible first|refine wr ?_|refine k_cu ?_ ?_|refine wb2 ?_ ?_<;>(intro hb;try simp only [hb])|fail)<;>try simp only [go_sem,seval,hd,hw2,hgi])
  ·rw [B8 (v:=R3 47 i) rfl];exact A5 (hRz hj (A3g hb) (A2q (b:=48) (by assumption)))
  ·rw [B8 (v:=R3 5 i) rfl];exact A5 (hRb hj (fun h=>Z0 (a:=j) (b:=1) (by assumption) h.1) hb)
  ·rw [B8 (v:=okN 3 [] (smV (D.take j)) i j) rfl];exact A5 (hRk hj (fun h=>Z0 (a:=j) (b:=1) (by assumption) h.1) hb)
  ·rw [B8 (v:=R3 5 i) rfl];exact A5 (hRb hj (fun h=>Z1 (b:=48) (by assumption) h.2) hb)
  ·rw [B8 (v:=okN 3 [] (smV (D.take j)) i j) rfl];exact A5 (hRk hj (fun h=>Z1 (b:=48) (by assumption) h.2) hb)
theorem c_quotedR (s:List UInt8) (hs:s.length<=100000) (i:Nat) (hi:i<s.length):PC Tryz.prog 136 [.str s,I64 i] (quR i (quA [] (i+1) (quM (s.drop (i+1))))):=by
 refine PC.ofT A7 rfl (Nat.le_of_ble_eq_true rfl) rfl (quR_nl _ _) ?_;have hw0:IntKind.i64.wrap ((i:Int)+1)=((i+1:Nat):Int):=by rw [w64 (by omega) (by omega)];omega
 repeat' ((with_reducible first|refine wr ?_|refine k_cu ?_ ?_|refine wb2 ?_ ?_<;>(intro hb;try simp only [hb])|fail)<;>try simp only [go_sem,seval,hw0])
 refine D5 (fun q:Nat × Option Nat × List UInt8=>[(0,.str s),(1,I64 i),(4,.ptr 0 0),(7,B3 q.2.1 q.2.2.length),(8,I64 q.1)]) (fun q=>C3 (Sym.nil.upd 0 box4) q.2.1 ⟨1,true,E8 q.2.2⟩)
  (fun q c=>1<=c/\i+1<=q.1/\q.2.2.length<=q.1/\q.1<=s.length+1/\(q.2.1=none->q.2.2=[])/\(∀ i,q.2.1=some i->1<=i/\i<c)/\quA [] (i+1) (quM (s.drop (i+1)))=quA q.2.2 q.1 (quM (s.drop q.1))) (fun q=>s.length+1-q.1) (i+1,none,[])
  (by simp [D0,tm,Tm.upd,B3]) (Sub.refl _) ⟨by simp,by simp,by simp,by simp only;omega,fun _=>rfl,(fun i hi=>by cases hi),rfl⟩ ?_
 rintro ⟨k,o,acc⟩ c ⟨h1c,h1,hal,hk,hno,ho,he⟩;simp only at h1 hal hk hno ho he;simp only;rw [he];have hH0:C3 (Sym.nil.upd 0 box4) o ⟨1,true,E8 acc⟩ 0=some ⟨0,true,[I64 0,.str [],I64 0,I64 0]⟩:=by rw [C6 (fun i hi=>by have:=ho i hi;omega),A0];rfl
 have hlt0:=r_lentodo (o:=o) (n:=acc.length) (fun e=>by rw [hno e];rfl);by_cases hlt:k<s.length
 ·have hd:decide ((k:Int)<s.length)=true:=by simpa using hlt
  have hg:=List.getElem?_eq_getElem hlt;have hw:IntKind.i64.wrap ((k:Int)+1)=((k+1:Nat):Int):=by rw [w64 (by omega) (by omega)];omega
  have hw2:IntKind.i64.wrap (((k+1:Nat):Int)+1)=((k+2:Nat):Int):=by rw [w64 (by omega) (by omega)];omega
  have hcv:=r_cvtodo (H:=C3 (Sym.nil.upd 0 box4) o ⟨1,true,E8 acc⟩) (u:=1) hno (fun i hi=>by subst hi;exact A0);have hc0:∀ n:Nat,((s[k].toNat:Int) == (n:Int))=true->s[k].toNat=n:=fun n h=>by have:=beq_iff_eq.1 h;omega
  have hc1:∀ n:Nat,((s[k].toNat:Int) == (n:Int))=false->s[k].toNat≠n:=fun n h h2=>by rw [h2] at h;simp at h
  by_cases hlt2:k+1<s.length
  ·have hd2:decide (((k+1:Nat):Int)≥s.length)=false:=by simp;omega
   have hg2:=List.getElem?_eq_getElem hlt2;have hc2:∀ n:Nat,((s[k+1].toNat:Int) == (n:Int))=true->s[k+1].toNat=n:=fun n h=>by have:=beq_iff_eq.1 h;omega
   have hc3:∀ n:Nat,((s[k+1].toNat:Int) == (n:Int))=false->s[k+1].toNat≠n:=fun n h h2=>by rw [h2] at h;simp at h
   have ne0:=K0 c (c+1) 0 (by omega);have hap:=A1k (X:=Sym.nil.upd 0 box4) hno (fun i hi=>(ho i hi).2) (by omega);repeat' ((with_reducible first|refine wr ?_|refine k_cu ?_ ?_|refine wb2 ?_ ?_<;>(intro hb;try simp only [hb])|fail)<;>try simp only [go_sem,seval,hd,hg,hw,hcv,hlt0,hd2,hg2,hw2,ne0,hap,hH0])
   ·rw [B8 (v:=R3 9 i) rfl];refine A5 ?_;rw [V7 hg (hc0 34 (by assumption)),quR,if_pos (A3g hb)]
   ·rw [B8 (v:=.tup [.agg [I64 4,.str acc,I64 0,I64 i],I64 ((k+1:Nat):Int),I64 0]) rfl];refine A5 ?_;rw [V7 hg (hc0 34 (by assumption)),quR,if_neg (Z0 hb)]
   ·rw [B8 (v:=R3 48 i) rfl];refine A5 ?_;rw [Z6 hg (hc1 34 (by assumption)) (.inl (by have:=of_decide_eq_true hb;omega))];rfl
   ·rw [B8 (v:=R3 48 i) rfl];refine A5 ?_;rw [Z6 hg (hc1 34 (by assumption)) (.inr (by have:=of_decide_eq_true hb;omega))];rfl
   ·rw [B8 (v:=R3 48 i) rfl];refine A5 ?_;rw [A3w hg (hc0 92 (by assumption)) (fun d hd=>by
     rw [hg2] at hd;cases hd;exact ⟨bn_t (b:=34) (by assumption),bn_t (b:=92) hb⟩)];rfl
   ·have hq:=A7x (acc:=acc) hg (hc0 92 (by assumption)) hg2 (.inr (bn_f (b:=92) hb));exact ⟨(k+2,some (c+1),acc++[s[k+1]]),⟨by simp only [List.length_append,List.length_singleton];rfl,rfl⟩,A3r (fun j q=>A3m h1c) (fun i hi=>A3l (by have:=ho i hi;omega)) rfl,inv ⟨by omega,by simp only;omega,by simp;omega,by simp only;omega,(fun h=>by cases h),(fun i hi=>by cases hi;omega),hq⟩,by simp only;omega⟩
   ·have hq:=A7x (acc:=acc) hg (hc0 92 (by assumption)) hg2 (.inl (bn_f (b:=34) hb));exact ⟨(k+2,some (c+1),acc++[s[k+1]]),⟨by simp only [List.length_append,List.length_singleton];rfl,rfl⟩,A3r (fun j q=>A3m h1c) (fun i hi=>A3l (by have:=ho i hi;omega)) rfl,inv ⟨by omega,by simp only;omega,by simp;omega,by simp only;omega,(fun h=>by cases h),(fun i hi=>by cases hi;omega),hq⟩,by simp only;omega⟩
   ·have hq:=A3x (acc:=acc) hg (hc1 34 (by assumption)) (by have:=of_decide_eq_false (by assumption:decide (((s[k].toNat:Int))<32)=false);omega) (by have:=of_decide_eq_false (by assumption:decide (((s[k].toNat:Int))>126)=false);omega) (hc1 92 (by assumption));exact ⟨(k+1,some (c+1),acc++[s[k]]),⟨by simp only [List.length_append,List.length_singleton];rfl,rfl⟩,A3r (fun j q=>A3m h1c) (fun i hi=>A3l (by have:=ho i hi;omega)) rfl,inv ⟨by omega,by simp only;omega,by simp;omega,by simp only;omega,(fun h=>by cases h),(fun i hi=>by cases hi;omega),hq⟩,by simp only;omega⟩
  ·have hd2:decide (((k+1:Nat):Int)≥s.length)=true:=by simp;omega
   have ne0:=K0 c (c+1) 0 (by omega);have hap:=A1k (X:=Sym.nil.upd 0 box4) hno (fun i hi=>(ho i hi).2) (by omega);repeat' ((with_reducible first|refine wr ?_|refine k_cu ?_ ?_|refine wb2 ?_ ?_<;>(intro hb;try simp only [hb])|fail)<;>try simp only [go_sem,seval,hd,hg,hw,hcv,hlt0,hd2,ne0,hap,hH0])
   ·rw [B8 (v:=R3 9 i) rfl];refine A5 ?_;rw [V7 hg (hc0 34 (by assumption)),quR,if_pos (A3g hb)]
   ·rw [B8 (v:=.tup [.agg [I64 4,.str acc,I64 0,I64 i],I64 ((k+1:Nat):Int),I64 0]) rfl];refine A5 ?_;rw [V7 hg (hc0 34 (by assumption)),quR,if_neg (Z0 hb)]
   ·rw [B8 (v:=R3 48 i) rfl];refine A5 ?_;rw [Z6 hg (hc1 34 (by assumption)) (.inl (by have:=of_decide_eq_true hb;omega))];rfl
   ·rw [B8 (v:=R3 48 i) rfl];refine A5 ?_;rw [Z6 hg (hc1 34 (by assumption)) (.inr (by have:=of_decide_eq_true hb;omega))];rfl
   ·rw [B8 (v:=R3 48 i) rfl];refine A5 ?_;rw [A3w hg (hc0 92 (by assumption)) (fun d hd=>by rw [List.getElem?_eq_none (by omega)] at hd;cases hd)];rfl
   ·have hq:=A3x (acc:=acc) hg (hc1 34 (by assumption)) (by have:=of_decide_eq_false (by assumption:decide (((s[k].toNat:Int))<32)=false);omega) (by have:=of_decide_eq_false (by assumption:decide (((s[k].toNat:Int))>126)=false);omega) (hc1 92 (by assumption));exact ⟨(k+1,some (c+1),acc++[s[k]]),⟨by simp only [List.length_append,List.length_singleton];rfl,rfl⟩,A3r (fun j q=>A3m h1c) (fun i hi=>A3l (by have:=ho i hi;omega)) rfl,inv ⟨by omega,by simp only;omega,by simp;omega,by simp only;omega,(fun h=>by cases h),(fun i hi=>by cases hi;omega),hq⟩,by simp only;omega⟩
 ·have hd:decide ((k:Int)<s.length)=false:=by simpa using hlt
  have ne0:=X5 c 0 (by omega);repeat' ((with_reducible first|refine wr ?_|refine k_cu ?_ ?_|refine wb2 ?_ ?_<;>(intro hb;try simp only [hb])|fail)<;>try simp only [go_sem,seval,hd,ne0,hH0])
  rw [B8 (v:=R3 48 i) rfl];refine A5 ?_;rw [qu_end (by omega)];rfl
theorem c_oneR (s:List UInt8) (hs:s.length<=100000) (i:Nat) (hi:i<s.length):PC Tryz.prog 83 [.str s,I64 i] (nxR (B1 (s.drop i)) i):=by
 refine PC.ofT A7 rfl (Nat.le_of_ble_eq_true rfl) rfl (nxR_nl _ _) ?_;have hg:=List.getElem?_eq_getElem hi;have hlt:=c_letterR s[i];have hdg:=c_digitR s[i];obtain ⟨k,t,v,p,n,e,hsh⟩:=nxR_shape (B1 (s.drop i)) i;by_cases hl:ltB s[i]=true
 ·have hw:=c_wordR s (by omega) i hi hl;rw [hsh] at hw ⊢;repeat' ((with_reducible first|refine wr ?_|refine cpc hlt ?_|refine cpc hw ?_|refine k_cu ?_ ?_|refine wb2 ?_ ?_<;>(intro hb;try simp only [hb])|fail)<;>try simp only [go_sem,seval,hl,hg])
  rw [B8 (v:=.tup [.agg [I64 k,.str t,I64 v,I64 p],I64 n,I64 e]) rfl];exact A5 rfl
 have hl0:ltB s[i]=false:=by simpa using hl
 by_cases hd:dgB s[i]=true
 ·have hw:=c_numberR s (by omega) i hi hl0 hd;rw [hsh] at hw ⊢;repeat' ((with_reducible first|refine wr ?_|refine cpc hlt ?_|refine cpc hdg ?_|refine cpc hw ?_|refine k_cu ?_ ?_|refine wb2 ?_ ?_<;>(intro hb;try simp only [hb])|fail)<;>try simp only [go_sem,seval,hl0,hd,hg])
  rw [B8 (v:=.tup [.agg [I64 k,.str t,I64 v,I64 p],I64 n,I64 e]) rfl];exact A5 rfl
 have hd0:dgB s[i]=false:=by simpa using hd
 by_cases hq:s[i].toNat=34
 ·have hw:=c_quotedR s hs i hi;rw [quR_next hg hl0 hd0 hq,hsh] at hw;rw [hsh];have hb34:((s[i].toNat:Int) == 34)=true:=by rw [hq];rfl
  repeat' ((with_reducible first|refine wr ?_|refine cpc hlt ?_|refine cpc hdg ?_|refine cpc hw ?_|refine k_cu ?_ ?_|refine wb2 ?_ ?_<;>(intro hb;try simp only [hb])|fail)<;>try simp only [go_sem,seval,hl0,hd0,hg,hb34])
  rw [B8 (v:=.tup [.agg [I64 k,.str t,I64 v,I64 p],I64 n,I64 e]) rfl];exact A5 rfl
 clear hsh;have hb34:((s[i].toNat:Int) == 34)=false:=by simpa using (fun h=>hq (by omega))
 have hM:B1 (s.drop i)=if F8 (s.drop i)=0 then nxE 47 else ⟨5,(s.drop i).take (F8 (s.drop i)),0,F8 (s.drop i),0⟩:=by
  have hdr:=J4 hg;have:∀ r,s.drop i=s[i] :: r->B1 (s.drop i)=if F8 (s.drop i)=0 then nxE 47 else ⟨5,(s.drop i).take (F8 (s.drop i)),0,F8 (s.drop i),0⟩:=by
   intro r e;rw [e,B1,if_neg hl,if_neg hd,if_neg hq]
  exact this _ hdr
 rw [hM];have hsg:=c_signsR;repeat' ((with_reducible first|refine wr ?_|refine cpc hlt ?_|refine cpc hdg ?_|refine cpc hsg ?_|refine k_cu ?_ ?_|refine wb2 ?_ ?_<;>(intro hb;try simp only [hb])|fail)<;>try simp only [go_sem,seval,hl0,hd0,hg,hb34])
 have hlen:O8.length=21:=rfl;refine D5 (fun k:Nat=>[(0,.str s),(1,I64 i),(4,.ptr 0 0),(8,.lst (O8.map DV.str)),(9,I64 k)]) (fun _=>Sym.nil.upd 0 ⟨0,true,[I64 0,.str [],I64 0,I64 0]⟩) (fun k _=>k<=O8.length/\∀ j,j<k->A2f (O8.getD j []) (s.drop i)=false) (fun k=>O8.length-k) 0 (by simp [D0,tm,Tm.upd]) (Sub.refl _) (by simp) ?_;rintro k c ⟨hk,he⟩;by_cases hkl:k<O8.length
 ·have hd:decide ((k:Int)<O8.length)=true:=by simpa using hkl
  have hgk:=List.getElem?_eq_getElem hkl;have hget:O8.getD k []=O8[k]:=by rw [List.getD_eq_getElem?_getD,hgk];rfl
  have hw:IntKind.i64.wrap ((k:Int)+1)=((k+1:Nat):Int):=by rw [w64 (by omega) (by omega)];omega
  obtain ⟨L,hL⟩:∃ L,L=O8[k]:=⟨_,rfl⟩;rw [<- hL] at hgk hget;have hLl:1<=L.length/\L.length<=2:=by
   have:∀ x∈O8,1<=x.length/\x.length<=2:=by decide
   rw [hL];exact this _ (List.getElem_mem hkl)
  have hw1:IntKind.i64.wrap ((s.length:Int)-i)=((s.length-i:Nat):Int):=by rw [w64 (by omega) (by omega)];omega
  have hw2:IntKind.i64.wrap ((i:Int)+L.length)=((i+L.length:Nat):Int):=by rw [w64 (by omega) (by omega)];omega
  have hnext:A2f L (s.drop i)=false->A5x (fun k _=>k<=O8.length/\∀ j,j<k->A2f (O8.getD j []) (s.drop i)=false) (k+1) c:=fun h=>inv ⟨hkl,fun j hj=>by
   by_cases e:j=k
   ·rw [e,hget];exact h
   ·exact he j (by omega)⟩
  by_cases hln:L.length<=s.length-i
  ·have hd2:decide (((s.length-i:Nat):Int)≥L.length)=true:=by simp only [decide_eq_true_eq];omega
   have hsx:=slx_take (s:=s) (i:=i) (n:=L.length) (by omega);have hpr:A2f L (s.drop i)=((s.drop i).take L.length == L):=by
    unfold A2f;rw [decide_eq_true (by rw [List.length_drop];exact hln),Bool.true_and]
   repeat' ((with_reducible first|refine wr ?_|refine k_cu ?_ ?_|refine wb2 ?_ ?_<;>(intro hb;try simp only [hb])|fail)<;>try simp only [go_sem,seval,hd,hgk,hw,hw1,hw2,hd2,hsx])
   ·have hp:=hpr.trans hb;have:=sgn_found (s:=s.drop i) (k:=k) (by omega) he (by rw [hget];exact hp);rw [hget] at this;rw [B8 (v:=okN 5 L 0 i L.length) rfl];refine A5 ?_;rw [this.1,if_neg (by omega),A4w, <- this.2]
   ·exact ⟨k+1,rfl,Sub.refl _,hnext (hpr.trans hb),by omega⟩
  ·have hd2:decide (((s.length-i:Nat):Int)≥L.length)=false:=by simp only [decide_eq_false_iff_not];omega
   repeat' ((with_reducible first|refine wr ?_|refine k_cu ?_ ?_|refine wb2 ?_ ?_<;>(intro hb;try simp only [hb])|fail)<;>try simp only [go_sem,seval,hd,hgk,hw,hw1,hd2])
   exact ⟨k+1,rfl,Sub.refl _,hnext (by unfold A2f;rw [decide_eq_false (by rw [List.length_drop];exact hln),Bool.false_and]),by omega⟩
 ·have hd:decide ((k:Int)<O8.length)=false:=by simpa using hkl
  repeat' ((with_reducible first|refine wr ?_|refine k_cu ?_ ?_|refine wb2 ?_ ?_<;>(intro hb;try simp only [hb])|fail)<;>try simp only [go_sem,seval,hd])
  rw [B8 (v:=R3 47 i) rfl];refine A5 ?_;rw [if_pos (sgn_none fun j hj=>he j (by omega)),A1l (by decide)]
theorem c_ScanR (s:List UInt8) (hs:s.length<=1000000000):PC Tryz.prog 44 [.str s] (scanV (B9 s)):=by
 refine PC.ofT A7 rfl (Nat.le_of_ble_eq_true rfl) rfl (scanV_nl _) ?_;have hsk:=c_skipR s hs 0 (by omega);rw [List.drop_zero,Nat.zero_add] at hsk;by_cases h20:20000<s.length
 ·have hd0:decide ((s.length:Int)>20000)=true:=by simp;omega
  have hM:B9 s=([],0,9):=if_pos h20;rw [hM];repeat' ((with_reducible first|refine wr ?_|refine k_cu ?_ ?_|refine wb2 ?_ ?_<;>(intro hb;try simp only [hb])|fail)<;>try simp only [go_sem,seval,hd0])
  exact A1j
 have hd0:decide ((s.length:Int)>20000)=false:=by simp;omega
 have hM:B9 s=H6 (s.length+1) s (skM false s) []:=if_neg h20;rw [hM];have hle0:=S7 false s;repeat' ((with_reducible first|refine wr ?_|refine cpc hsk ?_|refine k_cu ?_ ?_|refine wb2 ?_ ?_<;>(intro hb;try simp only [hb])|fail)<;>try simp only [go_sem,seval,hd0])
 refine D5 (fun q:Nat × Nat × Option Nat × List Tok=>[(0,.str s),(5,B3 q.2.2.1 q.2.2.2.length),(6,I64 q.2.1)]) (fun q=>C3 Sym.nil q.2.2.1 ⟨4,true,A4 (q.2.2.2.map Tok.v)⟩)
  (fun q c=>q.2.1<=s.length/\s.length<q.1+q.2.1/\q.2.2.2.length<=q.2.1/\(q.2.2.1=none->q.2.2.2=[])/\(∀ i,q.2.2.1=some i->i<c)/\H6 (s.length+1) s (skM false s) []=H6 q.1 s q.2.1 q.2.2.2) (fun q=>q.1) (s.length+1,skM false s,none,[])
  (by simp [D0,tm,Tm.upd,B3]) (Sub.nil _) ⟨by simp only;omega,by simp only;omega,by simp,fun _=>rfl,(fun i hi=>by cases hi),rfl⟩ ?_
 rintro ⟨f,at_,o,acc⟩ c ⟨h1,hf,hal,hno,ho,he⟩;simp only at h1 hf hal hno ho he;simp only;rw [he];by_cases hlt:at_<s.length
 ·have hd:decide ((at_:Int)<s.length)=true:=by simpa using hlt
  have hnx:=c_oneR s (by omega) at_ hlt;obtain ⟨f,rfl⟩:∃ g,f=g+1:=⟨f-1,by omega⟩;by_cases hz:(B1 (s.drop at_)).err=0
  ·have hn:=A3y hz;rw [List.length_drop] at hn;have hst:H6 (f+1) s at_ acc=H6 f s (at_+(B1 (s.drop at_)).n+skM false (s.drop (at_+(B1 (s.drop at_)).n))) (acc++[⟨(B1 (s.drop at_)).kind,(B1 (s.drop at_)).text,(B1 (s.drop at_)).value,(at_:Int)⟩]):=by
    rw [H6,if_neg (by omega),if_neg (by simpa using hz)]
   rw [hst];obtain ⟨x,hx⟩:∃ x,x=B1 (s.drop at_):=⟨_,rfl⟩;rw [<- hx] at hnx hz hn ⊢;rw [nxR,if_pos hz,okN] at hnx;have hsk2:=c_skipR s hs (at_+x.n) (by omega);have hkl:=S7 false (s.drop (at_+x.n));rw [List.length_drop] at hkl;obtain ⟨z,hzz⟩:∃ z,z=skM false (s.drop (at_+x.n)):=⟨_,rfl⟩;rw [<- hzz] at hsk2 hkl ⊢;have ne0:=K0 c (c+1) (c+2) (by omega);repeat' ((with_reducible first|refine wr ?_|refine cpc hnx ?_|refine cpc hsk2 ?_|refine k_cu ?_ ?_|refine wb2 ?_ ?_<;>(intro hb;try simp only [hb])|fail)<;>try simp only [go_sem,seval,hd,ne0])
   refine D1 (F4 (cs:=A4 (acc.map Tok.v)) (fun e=>by rw [hno e];exact ⟨rfl,rfl⟩) (fun i hi=>?_) (by rw [C7 (u:=4) (Z3 _)];simp) (by omega) (by omega) (by omega)) ?_
   ·have:=ho i hi;rw [A2 (by omega),A2 (by omega),A2 (by omega)];exact A8c hi
   simp only [go_sem,seval,ne0];repeat' ((with_reducible first|refine wr ?_|refine cpc hnx ?_|refine cpc hsk2 ?_|refine k_cu ?_ ?_|refine wb2 ?_ ?_<;>(intro hb;try simp only [hb])|fail)<;>try simp only [go_sem,seval,hd,ne0])
   exact ⟨(f,at_+x.n+z,some (c+1+1),acc++[⟨x.kind,x.text,x.value,(at_:Int)⟩]),⟨by simp only [List.length_append,List.length_singleton];rfl,rfl⟩,
    O7 (by simp only [List.map_append,E3];rfl),inv ⟨by simp only;omega,by simp only;omega,by simp only [List.length_append,List.length_singleton];omega,(fun h=>by cases h),(fun i hi=>by cases hi;omega),rfl⟩,by simp only;omega⟩
  ·have hst:H6 (f+1) s at_ acc=([],(at_:Int),(B1 (s.drop at_)).err):=by
    rw [H6,if_neg (by omega),if_pos hz]
   rw [hst];obtain ⟨x,hx⟩:∃ x,x=B1 (s.drop at_):=⟨_,rfl⟩;rw [<- hx] at hnx hz ⊢;rw [nxR,if_neg hz,R3] at hnx;have hz':(x.err != 0)=true:=by simpa using hz
   have ne0:=X5 c (c+1) (by omega);repeat' ((with_reducible first|refine wr ?_|refine cpc hnx ?_|refine k_cu ?_ ?_|refine wb2 ?_ ?_<;>(intro hb;try simp only [hb])|fail)<;>try simp only [go_sem,seval,hd,hz',ne0])
   exact A1j
 ·have hd:decide ((at_:Int)<s.length)=false:=by simpa using hlt
  repeat' ((with_reducible first|refine wr ?_|refine k_cu ?_ ?_|refine wb2 ?_ ?_<;>(intro hb;try simp only [hb])|fail)<;>try simp only [go_sem,seval,hd])
  have hM2:H6 f s at_ acc=(acc,0,0):=by
   cases f with
   | zero=>rfl
   | succ f=>rw [H6,if_pos (by omega)]
  rw [hM2];exact pc_todo3 (fun e=>by rw [hno e];rfl) (by simp) (Z3 acc)
theorem c_Join (l:List (List UInt8)) (sp:List UInt8) (h1:l.length<=140737488355328) (h2:(Lib.join l sp).length<=140737488355328):PC Tryz.prog 64 [strs l,.str sp] (.str (Lib.join l sp)):=by
 refine PC.of_calls (by kernel_rfl) (by simp [DV.nlL,DV.nl,H8]) rfl fun ρ w vs hf hA=>?_;obtain ⟨y,g1,g2⟩:=hA.get (i:=0) rfl;obtain ⟨z,g3,g4⟩:=hA.get (i:=1) rfl;obtain rfl:=g4.str_inv;have hvs:vs = #[y,.string ⟨sp.toArray⟩]:=by
  have hs:vs.size=2:=hA.1.symm;cases vs with|mk r=>match r,hs,g1,g3 with
   | [a,b],_,h1,h3=>simp at h1 h3;subst h1 h3;rfl
 rw [hvs];rcases g2.lst_inv with ⟨e0,e1|⟨a,c,e1⟩⟩|⟨u,b,off,c,row,e1,e2,e3,e4,e5,e6⟩
 ·subst e1;have:l=[]:=by simpa using e0
  subst this;refine (Tryz.strings_Join_none none 0 ⟨sp.toArray⟩ w).mono ?_;rintro e w' ⟨rfl,rfl⟩;exact ⟨_,rfl,fun ρ'=>.mkStr,Below.refl _ _⟩
 ·subst e1;have:l=[]:=by simpa using e0
  subst this;refine (Tryz.strings_Join_none (some a) c ⟨sp.toArray⟩ w).mono ?_;rintro e w' ⟨rfl,rfl⟩;exact ⟨_,rfl,fun ρ'=>.mkStr,Below.refl _ _⟩
 ·subst e1;obtain ⟨e,fr,hb⟩:=hf b row e2;obtain ⟨bs,hbs⟩:∃ bs:List ByteArray,bs=l.map fun s=>(⟨s.toArray⟩:ByteArray):=⟨_,rfl⟩;have hL:(l.map DV.str).length=bs.length:=by rw [hbs];simp
  have hmap:bs.map (fun x=>x.data.toList)=l:=by
   rw [hbs,List.map_map];exact (List.map_congr_left fun s _=>rfl).trans (List.map_id l)
  have hmap2:bs.map (·.data.toList)=l:=hmap;have p1:∀ (j:Nat) x,bs[j]? = some x->w.cell? ⟨b,off+j,none⟩=some (.string x):=by
   intro j x hx;rw [hbs,List.getElem?_map] at hx;obtain ⟨s,hs,rfl⟩:=Option.map_eq_some_iff.1 hx;have hc:(A4 (l.map DV.str))[j]? = some (DV.str s):=by rw [A0a (fun _=>rfl),List.getElem?_map,hs];rfl
   obtain ⟨v,v1,v2⟩:=e6.get hc;rw [v2.str_inv] at v1;simp only [World.cell?,hb];exact v1
  have p2:b<w.heap.size:=(Array.getElem?_eq_some_iff.1 hb).1;have p3:bs.length<=140737488355328:=by rw [hbs];simpa using h1
  have p4:bs.length<=c:=by rw [<- hL];exact e3
  have p5:(Lib.join (bs.map (·.data.toList)) (⟨sp.toArray⟩:ByteArray).data.toList).length<=140737488355328:=by
   rw [hmap2];exact h2
  rw [hL];have key:=Tryz.strings_Join b off c bs ⟨sp.toArray⟩ w p1 p2 p3 p4 p5;rw [hmap2] at key;refine key.mono fun e w' hq=>⟨_,hq.1,fun ρ'=>?_,hq.2⟩;exact .mkStr
theorem c_Text (l:List Tok) (hl:l.length<=100000) (hx:∀ t∈l,Fit t):PC Tryz.prog 114 [toksV l] (.str (A2u l)):=by
 refine PC.ofT A7 rfl (Nat.le_of_ble_eq_true rfl) (by simp only [DV.nlL,DV.nl,nlL_toks,Bool.and_true]) rfl ?_;have htl:=A6j hx;repeat' ((with_reducible first|refine wr ?_|refine k_cu ?_ ?_|refine wb2 ?_ ?_<;>(intro hb;try simp only [hb])|fail)<;>try simp only [go_sem,seval])
 refine D5 (fun q:Nat × Option Nat=>[(3,B3 q.2 q.1),(6,toksV l),(7,I64 l.length),(8,I64 q.1)]) (fun q=>C3 Sym.nil q.2 ⟨1,true,A4 (((l.take q.1).map R5).map DV.str)⟩)
  (fun q cc=>q.1<=l.length/\(q.2=none->q.1=0)/\∀ i,q.2=some i->i<cc) (fun q=>l.length-q.1) (0,none)
  (by simp [D0,tm,Tm.upd,B3]) (Sub.nil _) ⟨by simp,by simp,by simp⟩ ?_
 rintro ⟨k,o⟩ c ⟨hk,hno,ho⟩;simp only at hk hno ho;simp only;have hkl:((l.take k).map R5).length=k:=by rw [List.length_map,List.length_take];omega
 by_cases hlt:k<l.length
 ·have hd:decide ((k:Int)<l.length)=true:=by simpa using hlt
  have hg:=List.getElem?_eq_getElem hlt;have hw:IntKind.i64.wrap ((k:Int)+1)=((k+1:Nat):Int):=by rw [w64 (by omega) (by omega)];omega
  have hfit:=hx _ (List.getElem_mem hlt);have est:A4 (((l.take (k+1)).map R5).map DV.str)=A4 (((l.take k).map R5).map DV.str)++[DV.str (R5 l[k])]:=by
   rw [List.take_add_one,hg,Option.toList_some,List.map_append,List.map_append,E3];rfl
  obtain ⟨t,ht⟩:∃ t,t=l[k]:=⟨_,rfl⟩;rw [<- ht] at hg hfit est;have h1:=c_Quote t.text (by have:=hfit.1;omega);have h2:=c_Itoa t.value hfit.2.1 hfit.2.2;obtain ⟨cs,hcs⟩:∃ cs,cs=A4 (((l.take k).map R5).map DV.str):=⟨_,rfl⟩;have hcl:cs.length=k * 1:=by rw [hcs,strC_len,hkl]
  rw [<- hcs] at est ⊢;have hno2:o=none->k=0/\cs=[]:=fun e=>⟨hno e,by rw [hcs,hno e];rfl⟩;have ne0:=K0 c (c+1) (c+2) (by omega);repeat' ((with_reducible first|refine wr ?_|refine cpc h1 ?_|refine cpc h2 ?_|refine k_cu ?_ ?_|refine wb2 ?_ ?_<;>(intro hb;try simp only [hb])|fail)<;>try simp only [go_sem,seval,hd,hg,hw,ne0])
  all_goals
   refine D1 (F4 (cs:=cs) hno2 (fun i hi=>?_) hcl (by omega) (by omega) (by omega)) ?_
   ·have:=ho i hi;rw [A2 (by omega),A2 (by omega),A2 (by omega)];exact A8c hi
   simp only [go_sem,seval,ne0,hw];repeat' ((with_reducible first|refine wr ?_|refine cpc h1 ?_|refine cpc h2 ?_|refine k_cu ?_ ?_|refine wb2 ?_ ?_<;>(intro hb;try simp only [hb])|fail)<;>try simp only [go_sem,seval,hd,hg,hw,ne0])
   exact ⟨(k+1,some (c+1+1)),⟨rfl,rfl⟩,O7 (by simp only [est];exact congrArg (fun z=>(⟨1,true,cs++[DV.str z]⟩:Blk)) (by unfold R5;simp_all)),inv ⟨hlt,by simp,fun i hi=>by cases hi;omega⟩,by simp only;omega⟩
 ·have hd:decide ((k:Int)<l.length)=false:=by simpa using hlt
  have hj:=c_Join (l.map R5) [32] (by rw [List.length_map];omega) (by rw [A0f];omega);rw [A0f] at hj;obtain rfl:k=l.length:=by omega
  rw [List.take_length] at hkl ⊢;rcases o with _|id
  ·have hk0:=hno rfl;have h00:l=[]:=List.eq_nil_of_length_eq_zero (by omega);repeat' ((with_reducible first|refine wr ?_|refine k_cu ?_ ?_|refine wb2 ?_ ?_<;>(intro hb;try simp only [hb])|fail)<;>try simp only [go_sem,seval,hd])
   refine AC.call (hj.give (H0:=Sym.nil) ⟨fun _ h=>h,fun ρ w vs h1 h2=>⟨ρ,rfl,h1,?_,Ext.refl _ _ _⟩⟩) ?_
   ·rw [h00];exact ⟨h2.1,fun i x y hx hy=>by
     match i with
     | 0=>cases hx;exact (h2.2 0 _ y rfl hy).snil_lst
     | 1=>cases hx;exact h2.2 1 _ y rfl hy
     | _+2=>cases hx⟩
   ·rintro v H' c' ⟨rfl,rfl,rfl⟩ -;simp only [go_sem,seval];repeat' ((with_reducible first|refine wr ?_|refine k_cu ?_ ?_|refine wb2 ?_ ?_<;>(intro hb;try simp only [hb])|fail)<;>try simp only [go_sem,seval])
    exact A5 rfl
  ·repeat' ((with_reducible first|refine wr ?_|refine k_cu ?_ ?_|refine wb2 ?_ ?_<;>(intro hb;try simp only [hb])|fail)<;>try simp only [go_sem,seval,hd])
   refine AC.call (hj.give (H0:=Sym.nil) (GL.one (id:=id) A0 rfl (.cons _ _ _ _ (M0 (u:=1) (by rw [List.length_map,hkl]) (H4 _) ⟨[],by simp⟩) (.cons _ _ _ _ (.same _) .nil)))) ?_;rintro v H' c' ⟨rfl,rfl,rfl⟩ -;simp only [go_sem,seval];repeat' ((with_reducible first|refine wr ?_|refine k_cu ?_ ?_|refine wb2 ?_ ?_<;>(intro hb;try simp only [hb])|fail)<;>try simp only [go_sem,seval])
   exact A5 rfl
theorem A7z {H:Hp} {a b:DV}:∃ H2,GL H [.tup [.agg [.snil,.snil],a,b]] H2 [.tup [.agg [.lst [],.lst []],a,b]] :=
 ⟨H,GL.view fun ρ vs hA=>K4 (fun v h=>by
  obtain ⟨b',rfl,k1,k2⟩:=h.tup_inv;refine .tup _ _ k1 fun i x y hx hy=>?_
  match i with
  | 0 =>
   cases hx;obtain ⟨c',rfl,m1,m2⟩:=(k2 0 _ y rfl hy).agg_inv;refine .agg _ _ m1 fun j x z hx hz=>?_
   match j with
   | 0=>cases hx;exact (m2 0 _ z rfl hz).snil_lst
   | 1=>cases hx;exact (m2 1 _ z rfl hz).snil_lst
   | _+2=>cases hx
  | 1=>cases hx;exact k2 1 _ y rfl hy
  | 2=>cases hx;exact k2 2 _ y rfl hy
  | _+3=>cases hx) vs hA⟩
theorem c_Parse (s:List UInt8) (hs:s.length<=1000000000):PC Tryz.prog 22 [.str s] (parV (M8 s)):=by
 refine PC.ofT A7 rfl (Nat.le_of_ble_eq_true rfl) rfl (parV_nl _) ?_;have hsc:=c_ScanR s hs;have hpar:M8 s=M8 s:=rfl;by_cases h0:(B9 s).2.2=0
 ·have hd:((B9 s).2.2 != 0)=false:=by simpa using h0
  repeat' ((with_reducible first|refine wr ?_|refine cpc hsc ?_|refine k_cu ?_ ?_|refine wb2 ?_ ?_<;>(intro hb;try simp only [hb])|fail)<;>try simp only [go_sem,seval,hd])
  obtain ⟨f,hf⟩:=(A7u (B9 s).1 s.length).get;refine AC.call (c_rules (B9 s).1 s.length (by have:=A3t h0;omega) (scan_val h0) f rd0 _ hf (Nat.zero_le _) _ _ 1 rfl (by decide)) ?_;rintro v H' c2 ⟨rfl,rfl⟩ hc2;have hM:M8 s=if okR (Z5 (B9 s).1 s.length).2=false then (Ru0,(Z5 (B9 s).1 s.length).2.pos,(Z5 (B9 s).1 s.length).2.e) else ((Z5 (B9 s).1 s.length).1,0,0):=by
   unfold M8;dsimp only;rw [if_neg (by simpa using h0)]
  rw [hM];generalize Z5 (B9 s).1 s.length=w;clear hM hpar hf;have ne0:=K0 0 1 c2 (by omega);simp only [go_sem,seval,ne0,A0,A1];repeat' ((with_reducible first|refine wr ?_|refine k_cu ?_ ?_|refine wb2 ?_ ?_<;>(intro hb;try simp only [hb])|fail)<;>try simp only [go_sem,seval,ne0,A0,A1])
  refine AC.call (c_rdok (B9 s).1 s.length w.2 _ _ 1 (by rw [A2 (by omega)];exact A0) (by omega)) ?_;rintro v H' c3 ⟨rfl,rfl⟩ hc3;cases hok:okR w.2 with
  | true =>
   rw [if_neg (by decide)];simp only [go_sem,seval,hok,ne0,A0,A1];repeat' ((with_reducible first|refine wr ?_|refine k_cu ?_ ?_|refine wb2 ?_ ?_<;>(intro hb;try simp only [hb])|fail)<;>try simp only [go_sem,seval,hok,ne0,A0,A1])
   rw [B8 (v:=parV (w.1,0,0)) rfl];exact ⟨_,GL.refl _ _⟩
  | false =>
   rw [if_pos rfl];simp only [go_sem,seval,hok,ne0,A0,A1];repeat' ((with_reducible first|refine wr ?_|refine k_cu ?_ ?_|refine wb2 ?_ ?_<;>(intro hb;try simp only [hb])|fail)<;>try simp only [go_sem,seval,hok,ne0,A0,A1])
   repeat refine ⟨by and_intros<;>(repeat rw [A2 (by omega)])<;>rfl,?_⟩
   repeat' ((with_reducible first|refine wr ?_|refine k_cu ?_ ?_|refine wb2 ?_ ?_<;>(intro hb;try simp only [hb])|fail)<;>try simp only [go_sem,seval,hok,ne0,A0,A1])
   rw [B8 (v:=.tup [.agg [.snil,.snil],I64 w.2.pos,I64 w.2.e]) rfl];exact A7z
 ·have hd:((B9 s).2.2 != 0)=true:=by simpa using h0
  have hM:M8 s=(Ru0,(B9 s).2.1,(B9 s).2.2):=by
   unfold M8;dsimp only;rw [if_pos h0]
  rw [hM];repeat' ((with_reducible first|refine wr ?_|refine cpc hsc ?_|refine k_cu ?_ ?_|refine wb2 ?_ ?_<;>(intro hb;try simp only [hb])|fail)<;>try simp only [go_sem,seval,hd])
  rw [B8 (v:=.tup [.agg [.snil,.snil],I64 (B9 s).2.1,I64 (B9 s).2.2]) rfl];exact A7z
theorem pc_ex0 {H:Hp} {a b k z n p:DV}:∃ H2,GL H [.tup [.agg [k,z,n,.snil,p],a,b]] H2 [.tup [.agg [k,z,n,.lst [],p],a,b]] :=
 ⟨H,GL.view fun ρ vs hA=>K4 (fun v h=>by
  obtain ⟨b',rfl,k1,k2⟩:=h.tup_inv;refine .tup _ _ k1 fun i x y hx hy=>?_
  match i with
  | 0=>cases hx;exact v_ex (k2 0 _ y rfl hy)
  | 1=>cases hx;exact k2 1 _ y rfl hy
  | 2=>cases hx;exact k2 2 _ y rfl hy
  | _+3=>cases hx) vs hA⟩
end Go.Proofs.YthlpinppaclofaaGreatDoor
set_option maxHeartbeats 8000000
namespace Go.Proofs.YthlpinppaclofaaGreatDoor
open Go.Eng (IC IOper DReg IFn B5)
open Go.Sym Go.Pb
theorem PI0 {L:List Tok}:PI L rd0:=⟨Nat.zero_le _,Int.le_refl 0,(by decide:(0:Int)<=32),Int.le_refl 0,(by decide:(0:Int)<=16)⟩
theorem c_PParse (s:List UInt8) (hs:s.length<=100000):PC Tryz.prog 36 [.str s] (parV (M8 s)):=by
 refine PC.ofT A7 rfl (Nat.le_of_ble_eq_true rfl) rfl (parV_nl _) ?_;have hsc:=c_Scan s hs;by_cases h0:(B9 s).2.2=0
 ·have hd:((B9 s).2.2 != 0)=false:=by simpa using h0
  repeat' ((with_reducible first|refine wr ?_|refine cpc hsc ?_|refine k_cu ?_ ?_|refine wb2 ?_ ?_<;>(intro hb;try simp only [hb])|fail)<;>try simp only [go_sem,seval,hd])
  obtain ⟨f,hf⟩:=(A7u (B9 s).1 s.length).get;refine AC.call (c_prules (B9 s).1 s.length (by have:=A3t h0;omega) (scan_val h0) (A6n h0) f rd0 _ hf PI0 _ _ 1 rfl (by decide)) ?_;rintro v H' c2 ⟨x,s',rfl,rfl,q1,q2,q3⟩ hc2;have hM:M8 s=if okR (Z5 (B9 s).1 s.length).2=false then (Ru0,(Z5 (B9 s).1 s.length).2.pos,(Z5 (B9 s).1 s.length).2.e) else ((Z5 (B9 s).1 s.length).1,0,0):=by
   unfold M8;dsimp only;rw [if_neg (by simpa using h0)]
  rw [hM];generalize Z5 (B9 s).1 s.length=w at q1 q2 ⊢;clear hM hf;have ne0:=K0 0 1 c2 (by omega);simp only [go_sem,seval,ne0,A0,A1];repeat' ((with_reducible first|refine wr ?_|refine k_cu ?_ ?_|refine wb2 ?_ ?_<;>(intro hb;try simp only [hb])|fail)<;>try simp only [go_sem,seval,ne0,A0,A1])
  refine AC.call (c_pok (B9 s).1 s.length s' _ _ 1 (by rw [A2 (by omega)];exact A0) (by omega)) ?_;rintro v H' c3 ⟨rfl,rfl⟩ hc3;cases hok:okR w.2 with
  | true =>
   obtain rfl:=q2 hok;have hok':okR s'=true:=by rw [q1.ok,hok]
   rw [if_neg (by decide)];simp only [go_sem,seval,hok',ne0,A0,A1];repeat' ((with_reducible first|refine wr ?_|refine k_cu ?_ ?_|refine wb2 ?_ ?_<;>(intro hb;try simp only [hb])|fail)<;>try simp only [go_sem,seval,hok',ne0,A0,A1])
   rw [B8 (v:=parV (w.1,0,0)) rfl];exact ⟨_,GL.refl _ _⟩
  | false =>
   have hok':okR s'=false:=by rw [q1.ok,hok]
   rw [if_pos rfl, <- q1.p, <- q1.e];simp only [go_sem,seval,hok',ne0,A0,A1];repeat' ((with_reducible first|refine wr ?_|refine k_cu ?_ ?_|refine wb2 ?_ ?_<;>(intro hb;try simp only [hb])|fail)<;>try simp only [go_sem,seval,hok',ne0,A0,A1])
   repeat refine ⟨by and_intros<;>(repeat rw [A2 (by omega)])<;>rfl,?_⟩
   repeat' ((with_reducible first|refine wr ?_|refine k_cu ?_ ?_|refine wb2 ?_ ?_<;>(intro hb;try simp only [hb])|fail)<;>try simp only [go_sem,seval,hok',ne0,A0,A1])
   rw [B8 (v:=.tup [.agg [.snil,.snil],I64 s'.pos,I64 s'.e]) rfl];exact A7z
 ·have hd:((B9 s).2.2 != 0)=true:=by simpa using h0
  have hM:M8 s=(Ru0,(B9 s).2.1,(B9 s).2.2):=by
   unfold M8;dsimp only;rw [if_pos h0]
  rw [hM];repeat' ((with_reducible first|refine wr ?_|refine cpc hsc ?_|refine k_cu ?_ ?_|refine wb2 ?_ ?_<;>(intro hb;try simp only [hb])|fail)<;>try simp only [go_sem,seval,hd])
  rw [B8 (v:=.tup [.agg [.snil,.snil],I64 (B9 s).2.1,I64 (B9 s).2.2]) rfl];exact A7z
theorem c_PParseE (s:List UInt8) (hs:s.length<=100000):PC Tryz.prog 33 [.str s] (parEV (A8b s)):=by
 refine PC.ofT A7 rfl (Nat.le_of_ble_eq_true rfl) rfl (parEV_nl _) ?_;have hsc:=c_Scan s hs;by_cases h0:(B9 s).2.2=0
 ·have hd:((B9 s).2.2 != 0)=false:=by simpa using h0
  repeat' ((with_reducible first|refine wr ?_|refine cpc hsc ?_|refine k_cu ?_ ?_|refine wb2 ?_ ?_<;>(intro hb;try simp only [hb])|fail)<;>try simp only [go_sem,seval,hd])
  obtain ⟨f,hf⟩:=(xpnF_e (B9 s).1 s.length).get;refine AC.call (c_pexpr (B9 s).1 s.length (by have:=A3t h0;omega) (A6n h0) f rd0 rd0 _ (.refl _) hf (Nat.zero_le _) _ _ 1 rfl (by decide)) ?_;rintro v H' c2 ⟨x,s',rfl,rfl,q1,q2,q3⟩ hc2;obtain ⟨w,hw⟩:∃ w,w=xpnF (B9 s).1 s.length:=⟨_,rfl⟩;obtain ⟨z,hz⟩:∃ z,z=(if okR w.2=true/\w.2.i<(B9 s).1.length then J2 (B9 s).1 s.length w.2 else w.2):=⟨_,rfl⟩;have hM:A8b s=if okR z=false then (Ex0,z.pos,z.e) else (w.1,0,0):=by
   unfold A8b;dsimp only;rw [if_neg (by simpa using h0), <- hw, <- hz]
  rw [<- hw] at q1 q2;rw [hM];have hq:Eqv (if s'.i<(B9 s).1.length then pfl (B9 s).1 s.length s' 4 else s') z/\(okR z=true->x=w.1):=by
   rw [hz];rcases q1.cas with ⟨e1,e2⟩|⟨e1,e2⟩
   ·rw [e1];by_cases hlt:w.2.i<(B9 s).1.length
    ·rw [if_pos hlt,if_pos ⟨e2,hlt⟩];exact ⟨.refl _,fun k=>(by rw [A2c] at k;cases k)⟩
    ·rw [if_neg hlt,if_neg (fun h=>hlt h.2)];exact ⟨.refl _,q2⟩
   ·rw [show (if s'.i<(B9 s).1.length then pfl (B9 s).1 s.length s' 4 else s')=s' by rw [R9 e1];split<;>rfl,if_neg (fun h=>by rw [e2] at h;cases h.1)];exact ⟨q1,fun k=>by rw [e2] at k;cases k⟩
  clear hM hf hz hw;have ne0:=K0 0 1 c2 (by omega);simp only [go_sem,seval,ne0,A0,A1,Ex.v_w];repeat' ((with_reducible first|refine wr ?_|refine k_cu ?_ ?_|refine wb2 ?_ ?_<;>(intro hb;try simp only [hb])|fail)<;>try simp only [go_sem,seval,ne0,A0,A1])
  refine AC.call (c_pend (B9 s).1 s.length s' _ _ 1 (by rw [A2 (by omega)];exact A0) (by omega)) ?_;rintro v H' c3 ⟨rfl,rfl⟩ hc3;generalize (if s'.i<(B9 s).1.length then pfl (B9 s).1 s.length s' 4 else s')=u at hq ⊢;obtain ⟨r1,r2⟩:=hq;simp only [go_sem,seval,ne0,A0,A1];repeat' ((with_reducible first|refine wr ?_|refine k_cu ?_ ?_|refine wb2 ?_ ?_<;>(intro hb;try simp only [hb])|fail)<;>try simp only [go_sem,seval,ne0,A0,A1])
  refine AC.call (c_pok (B9 s).1 s.length u _ _ 1 A0 (by omega)) ?_;rintro v H' c4 ⟨rfl,rfl⟩ hc4;cases hok:okR z with
  | true =>
   obtain rfl:=r2 hok;have hok':okR u=true:=by rw [r1.ok,hok]
   rw [if_neg (by decide)];simp only [go_sem,seval,hok',ne0,A0,A1];repeat' ((with_reducible first|refine wr ?_|refine k_cu ?_ ?_|refine wb2 ?_ ?_<;>(intro hb;try simp only [hb])|fail)<;>try simp only [go_sem,seval,hok',ne0,A0,A1])
   rw [B8 (v:=.tup [w.1.w,I64 0,I64 0]) rfl];exact ⟨_,by rw [<- Ex.v_w];exact GL.refl _ _⟩
  | false =>
   have hok':okR u=false:=by rw [r1.ok,hok]
   rw [if_pos rfl, <- r1.p, <- r1.e];simp only [go_sem,seval,hok',ne0,A0,A1];repeat' ((with_reducible first|refine wr ?_|refine k_cu ?_ ?_|refine wb2 ?_ ?_<;>(intro hb;try simp only [hb])|fail)<;>try simp only [go_sem,seval,hok',ne0,A0,A1])
   repeat refine ⟨by and_intros<;>(repeat rw [A2 (by omega)])<;>rfl,?_⟩
   repeat' ((with_reducible first|refine wr ?_|refine k_cu ?_ ?_|refine wb2 ?_ ?_<;>(intro hb;try simp only [hb])|fail)<;>try simp only [go_sem,seval,hok',ne0,A0,A1])
   rw [B8 (v:=.tup [.agg [I64 0,I64 0,.str [],.snil,I64 0],I64 u.pos,I64 u.e]) rfl];exact pc_ex0
 ·have hd:((B9 s).2.2 != 0)=true:=by simpa using h0
  have hM:A8b s=(Ex0,(B9 s).2.1,(B9 s).2.2):=by
   unfold A8b;dsimp only;rw [if_pos h0]
  rw [hM];repeat' ((with_reducible first|refine wr ?_|refine cpc hsc ?_|refine k_cu ?_ ?_|refine wb2 ?_ ?_<;>(intro hb;try simp only [hb])|fail)<;>try simp only [go_sem,seval,hd])
  rw [B8 (v:=.tup [.agg [I64 0,I64 0,.str [],.snil,I64 0],I64 (B9 s).2.1,I64 (B9 s).2.2]) rfl];exact pc_ex0
end Go.Proofs.YthlpinppaclofaaGreatDoor
set_option linter.unusedSectionVars false
namespace Go.Sym
variable [Go.Sym.Tab]
open Go.Eng (Opd FOp AOp EOp IOp IOper DReg IC RV IFn trC trR A4l B5 opd A0p trO trF trA trE trI A5z trG trL W3 KKey Rg rgT rg1T)
open Go.ChangeMaps (setBlock)
section
variable {P:Program} {N:Nat} {ρ ρ' ρ1:Ren} {s s' s1:St} {w w' w1:World} {a:Act} {ops:Array Oper}
theorem wanted_none {o:Oper} (h:o.guard=none) (y:Nat->Option Bool):Region.wanted o y=true:=by simp [Region.wanted,h]
theorem A3k {Q:Exit->Act->World->Prop} {o:Oper} {rest:List Oper} {v:Value} (hg:o.guard=none) (h:(execOp a.eval o).run P w=.ok (.value v) w') (k:wpList P ops Q rest (a.put o.dst v) w') :
  wpList P ops Q (o :: rest) a w:=by
 unfold wpList;rw [wanted_none hg,if_pos rfl];left;unfold Oper.wp;rw [h];exact k
theorem A0w {Q:Exit->Act->World->Prop} {Q':St->Prop} (rest:List Oper):∀ (os:List Oper) (is:List IOper) {ρ : Ren} {s:St} {a:Act} {w:World},trL P N ops os=some is->Sim N ρ s a w ->
  rwp P Q' is s->(∀ ρ' s' a' w',Q' s'->Sim N ρ' s' a' w'->Step ρ s w ρ' s' w'->wpList P ops Q rest a' w')->wpList P ops Q (os++rest) a w
 | [],is, ρ,s,a,w,htr,hS,h,hq=>by
  simp only [trL,Option.some.injEq] at htr;subst htr;exact hq ρ s a w h hS (Step.refl _ _ _)
 | o :: os,is, ρ,s,a,w,htr,hS,h,hq=>by
  simp only [trL] at htr;split at htr
  ·rename_i i is' ho his;cases htr;unfold trO at ho;split at ho
   ·rename_i op g hop hg hd;cases ho;rw [List.cons_append];unfold wpList;simp only [rwp] at h;split at h
    ·rename_i hw;rw [Q5 hS hg rfl hw];rw [if_pos rfl];left;refine A2h hS hop h fun v v' H' c' ρ' w' hk d=>?_;obtain ⟨hS',hst⟩:=hS.did hd d;exact A0w rest os is' his hS' hk fun ρ2 s2 a2 w2 q2 hS2 hst2=>hq ρ2 s2 a2 w2 q2 hS2 (hst.trans hst2)
    ·rename_i hw;rw [Q5 hS hg rfl hw];rw [if_neg Bool.false_ne_true];have d:Did ρ s.H s.c w undef w (.tup []) s.H s.c ρ := ⟨V4 ρ,hS.rep,hS.fresh,Nat.le_refl _,fun _ _ h=>h,fun _ _=>rfl,Ext.refl _ _ _⟩;obtain ⟨hS',hst⟩:=hS.did hd d;exact A0w rest os is' his hS' h fun ρ2 s2 a2 w2 q2 hS2 hst2=>hq ρ2 s2 a2 w2 q2 hS2 (hst.trans hst2)
    ·exact h.elim
   ·cases ho
  ·cases htr
structure Kp (ρ : Ren) (s:St) (w:World) (r id:Nat) (o:Obj):Prop where
 nm : ρ.nm id=some ⟨r,0,0,0,false⟩
 lt:id<s.c
 no:s.H id=none
 obj:w.heap[r]? = some o
 blk:∀ j b t,s.H j=some b -> ρ.nm j=some t->t.block≠r
 fz : ρ.fz r=none
 fm : ρ.fm r=none
theorem Kp.step {r id:Nat} {o:Obj} (h:Kp ρ s w r id o) (st:Step ρ s w ρ' s' w'):Kp ρ' s' w' r id o:=by
 have hr:r<w.heap.size:=(Array.getElem?_eq_some_iff.1 h.obj).1;refine ⟨(st.same id h.lt).trans h.nm,Nat.lt_of_lt_of_le h.lt st.up,?_,?_,fun j b t hb ht=>?_,?_,?_⟩
 ·cases hn:s'.H id with
  | none=>rfl
  | some x=>exact absurd h.no (st.dom id h.lt (by rw [hn];simp))
 ·rw [st.ext.keep r hr fun j b t hb _ ht=>h.blk j b t hb ht];exact h.obj
 ·rcases st.ext.mine j b t hb ht with h1|⟨i,b0,t0,e1, -,e2,e3⟩
  ·omega
  ·rw [<- e3];exact h.blk i b0 t0 e1 e2
 ·cases hf : ρ'.fz r with
  | none=>rfl
  | some x =>
   rcases st.ext.fzn r x hf with h1|h1|⟨i,b0,t0,e1, -,e2,e3⟩
   ·rw [h.fz] at h1;cases h1
   ·omega
   ·exact absurd e3 (h.blk i b0 t0 e1 e2)
 ·cases hf : ρ'.fm r with
  | none=>rfl
  | some x =>
   rcases st.ext.fmn r x hf with h1|h1|⟨i,b0,t0,e1, -,e2,e3⟩
   ·rw [h.fm] at h1;cases h1
   ·omega
   ·exact absurd e3 (h.blk i b0 t0 e1 e2)
theorem Kp.set {r id:Nat} {o o':Obj} (h:Kp ρ s w r id o) (hw:∀ k,k≠r->w'.heap[k]? = w.heap[k]?) (ho:w'.heap[r]? = some o'):Kp ρ s w' r id o' :=
 ⟨h.nm,h.lt,h.no,ho,h.blk,h.fz,h.fm⟩
theorem Sim.setKp {r id:Nat} {o:Obj} (hS:Sim N ρ s a w) (h:Kp ρ s w r id o) (hw:∀ k,k≠r->w'.heap[k]? = w.heap[k]?):Sim N ρ s a w':=by
 refine ⟨hS.tm,⟨fun j b hb=>?_,hS.rep.sep,fun k x hk=>?_,hS.rep.dis,fun k es hk=>?_⟩,hS.fresh,hS.size,hS.dfr⟩
 ·obtain ⟨t,h1,h2⟩:=hS.rep.blk j b hb;exact ⟨t,h1,h2.world (hw _ (h.blk j b t hb h1))⟩
 ·obtain ⟨e,fr,h1⟩:=hS.rep.frz k x hk;exact ⟨e,fr,by rw [hw k (fun e=>by rw [e,h.fz] at hk;cases hk)];exact h1⟩
 ·obtain ⟨⟨cl,h1,h2⟩,h3⟩:=hS.rep.frm k es hk;exact ⟨⟨cl,by rw [hw k (fun e=>by rw [e,h.fm] at hk;cases hk)];exact h1,h2⟩,h3⟩
theorem Step.set {r:Nat} (st:Step ρ1 s1 w1 ρ s w) (hr:w1.heap.size<=r) (hw:∀ k,k≠r->w'.heap[k]? = w.heap[k]?) (h1:w'.os=w.os) (h2:w'.tape=w.tape) (h3:w'.output=w.output) (h4:w'.heap.size=w.heap.size) :
  Step ρ1 s1 w1 ρ s w' :=
 ⟨st.up,st.dom,st.same,⟨st.ext.le,h1.trans st.ext.os,h2.trans st.ext.tape,h3.trans st.ext.output,h4▸st.ext.size,fun k hk hno=>(hw k (by omega)).trans (st.ext.keep k hk hno),st.ext.mine,st.ext.fzn,st.ext.fmn⟩⟩
theorem Sim.new (hS:Sim N ρ s a w) (o:Obj):Did ρ s.H s.c w (.pointer (some ⟨w.heap.size,0,none⟩)) (w.alloc o) (.ptr s.c 0) s.H (s.c+1) (ρ.upd s.c ⟨w.heap.size,0,0,0,false⟩) /\
  ∀ T,Kp (ρ.upd s.c ⟨w.heap.size,0,0,0,false⟩) ⟨T,s.H,s.c+1⟩ (w.alloc o) w.heap.size s.c o:=by
 have hid:=hS.fresh s.c (Nat.le_refl _);have hle : ρ.le (ρ.upd s.c ⟨w.heap.size,0,0,0,false⟩):=Ren.le_upd hid;have hno:s.H s.c=none:=by
  cases h:s.H s.c with
  | none=>rfl
  | some b=>obtain ⟨t,h1, -⟩:=hS.rep.blk _ _ h;rw [hid] at h1;cases h1
 have nmj:∀ j b,s.H j=some b->(ρ.upd s.c ⟨w.heap.size,0,0,0,false⟩).nm j = ρ.nm j:=fun j b hb=>by
  have:j≠s.c:=fun e=>by rw [e,hno] at hb;cases hb
  simp only [Ren.upd,this,if_false]
 have lt:∀ j b t,s.H j=some b -> ρ.nm j=some t->t.block<w.heap.size:=fun j b t hb ht=>by
  obtain ⟨t',h1,h2⟩:=hS.rep.blk j b hb;rw [ht] at h1;cases h1;exact h2.lt
 have fzn : ρ.fz w.heap.size=none:=by
  cases hf : ρ.fz w.heap.size with
  | none=>rfl
  | some x=>exact absurd (hS.rep.flt hf) (Nat.lt_irrefl _)
 have fmn : ρ.fm w.heap.size=none:=by
  cases hf : ρ.fm w.heap.size with
  | none=>rfl
  | some x =>
   obtain ⟨⟨cl,h1, -⟩, -⟩:=hS.rep.frm _ _ hf;exact absurd (Array.getElem?_eq_some_iff.1 h1).1 (Nat.lt_irrefl _)
 refine ⟨⟨.ptr s.c 0 _ (Ren.upd_same _ _ _) rfl,⟨fun j b hb=>?_,fun i j bi bj ti tj hi hj hij h1 h2 ho=>?_,fun k x hk=>?_,fun j b t hb ho ht=>?_,fun k es hk=>?_⟩,fun j hj=>?_,Nat.le_succ _,fun _ _ h=>h,fun j hj=>?_,?_⟩,fun T=>⟨Ren.upd_same _ _ _,Nat.lt_succ_self _,hno,heap_alloc_new w o,fun j b t hb ht=>?_,fzn,fmn⟩⟩
 ·obtain ⟨t,h1,h2⟩:=hS.rep.blk j b hb;exact ⟨t,hle.nm _ _ h1,(h2.mono hle).world (heap_alloc_old w o h2.lt)⟩
 ·rw [nmj i bi hi] at h1;rw [nmj j bj hj] at h2;exact hS.rep.sep i j bi bj ti tj hi hj hij h1 h2 ho
 ·obtain ⟨e,fr,h1⟩:=hS.rep.frz k x hk;exact ⟨e,fr,by rw [heap_alloc_old w o (hS.rep.flt hk)];exact h1⟩
 ·rw [nmj j b hb] at ht;exact hS.rep.dis j b t hb ho ht
 ·obtain ⟨⟨cl,h1,h2⟩,h3⟩:=hS.rep.frm k es hk;refine ⟨⟨cl,by rw [heap_alloc_old w o (Array.getElem?_eq_some_iff.1 h1).1];exact h1,h2⟩,fun j b t hb ho ht=>?_⟩;rw [nmj j b hb] at ht;exact h3 j b t hb ho ht
 ·simp only [Ren.upd,show j≠s.c by omega,if_false];exact hS.fresh j (by omega)
 ·simp only [Ren.upd,show j≠s.c by omega,if_false]
 ·refine ⟨hle,rfl,rfl,rfl,by simp,fun k hk _=>heap_alloc_old w o hk,fun j b t hb ht=>?_,fun k r hk=>.inl hk,fun k r hk=>.inl hk⟩;rw [nmj j b hb] at ht;exact .inr ⟨j,b,t,hb,fun h=>h,ht,rfl⟩
 ·rw [nmj j b hb] at ht;have:=lt j b t hb ht;omega
theorem A3p {c:Code} {x y:IC} (h:trC P N c=some (.seq x y)):∃ a b,c=.seq a b/\trC P N a=some x/\trC P N b=some y:=by
 cases c<;>simp only [trC] at h<;>(try (cases h;done))
 case seq a b =>
  split at h
  ·rename_i x' y' hx hy;cases h;exact ⟨a,b,rfl,hx,hy⟩
  ·cases h
 all_goals (repeat' (split at h))<;>(try (cases h;done))
 all_goals simp at h
theorem trC_blk {c:Code} {i:Nat} {x:IC} (h:trC P N c=some (.blk i x)):∃ b,c=.block i b/\trC P N b=some x:=by
 cases c<;>simp only [trC] at h<;>(try (cases h;done))
 case block j b =>
  simp only [Option.map_eq_some_iff] at h;obtain ⟨x',hx,he⟩:=h;cases he;exact ⟨b,rfl,hx⟩
 all_goals (repeat' (split at h))<;>(try (cases h;done))
 all_goals simp at h
theorem trC_loop {c:Code} {x:IC} (h:trC P N c=some (.loop x)):∃ b,c=.loop b/\trC P N b=some x:=by
 cases c<;>simp only [trC] at h<;>(try (cases h;done))
 case loop b =>
  simp only [Option.map_eq_some_iff] at h;obtain ⟨x',hx,he⟩:=h;cases he;exact ⟨b,rfl,hx⟩
 all_goals (repeat' (split at h))<;>(try (cases h;done))
 all_goals simp at h
theorem trC_cond {c:Code} {o:Opd} {x y:IC} (h:trC P N c=some (.cond o x y)):∃ c0 a b,c=.cond c0 a b/\opd c0=some o/\trC P N a=some x/\trC P N b=some y:=by
 cases c<;>simp only [trC] at h<;>(try (cases h;done))
 case cond c0 a b =>
  split at h
  ·rename_i c' x' y' hc0 hx hy;cases h;exact ⟨c0,a,b,rfl,hc0,hx,hy⟩
  ·cases h
 all_goals (repeat' (split at h))<;>(try (cases h;done))
 all_goals simp at h
theorem trC_rg {c:Code} {r:Rg} (h:trC P N c=some (.rg r)):∃ id ops d,c=.region id ops d/\rgT P N ops d=r:=by
 cases c<;>simp only [trC] at h<;>(try (cases h;done))
 case region id ops d =>
  split at h
  ·split at h
   ·cases h
   ·split at h<;>cases h
  ·cases h;exact ⟨id,ops,d,rfl,rfl⟩
 all_goals (repeat' (split at h))<;>(try (cases h;done))
 all_goals simp at h
theorem blt_lt {a b:Nat} (h:a.blt b=true):a<b:=by simpa [Nat.blt_eq] using h
theorem rg1T_ne {ops:Array Oper}:(∀ {i n io},rg1T P N ops≠.r2 i n io)/\∀ {i n io},rg1T P N ops≠.r3 i n io:=by
 constructor<;>intro i n io h<;>unfold rg1T at h<;>(repeat' (split at h))<;>cases h
theorem rg1_inv {ops:Array Oper} {d:Bool} {io:List IOper} {m it:Nat} (h:rgT P N ops d=.r1 io m it) :
  d=false/\∃ pre ty x p f k e,ops.toList=pre++[⟨some it,.range ty (.tmp m),x,p,f,none⟩]/\trL P N ops pre=some io/\P.underlying ty=some (.map k e)/\it<N:=by
 unfold rgT at h;split at h
 ·cases h
 ·refine ⟨rfl,?_⟩;split at h
  ·split at h<;>cases h
  ·split at h<;>cases h
  ·unfold rg1T at h;split at h
   ·rename_i it' ty m' x p f pre hops;split at h
    ·rename_i k e io' hu hl hb;cases h;refine ⟨pre.reverse,ty,x,p,f,k,e,?_,hl,hu,blt_lt hb⟩;have:=congrArg List.reverse hops;simpa using this
    ·cases h
   ·cases h
theorem rg2_inv {ops:Array Oper} {d:Bool} {io:List IOper} {it n:Nat} (h:rgT P N ops d=.r2 it n io) :
  d=false/\∃ rest x p f,ops.toList=⟨some n,.next (.tmp it) false,x,p,f,none⟩ :: rest/\trL P N ops rest=some io/\n<N:=by
 unfold rgT at h;split at h
 ·cases h
 ·refine ⟨rfl,?_⟩;split at h
  ·rename_i n' it' x p f rest hops;split at h
   ·rename_i io' hl hb;cases h;exact ⟨rest,x,p,f,hops,hl,blt_lt hb⟩
   ·cases h
  ·split at h<;>cases h
  ·exact absurd h rg1T_ne.1
theorem rg3_inv {ops:Array Oper} {d:Bool} {io:List IOper} {it n:Nat} (h:rgT P N ops d=.r3 it n io) :
  d=false/\∃ rest x p f,ops.toList=⟨some n,.entry (.tmp it),x,p,f,none⟩ :: rest/\trL P N ops rest=some io/\n<N:=by
 unfold rgT at h;split at h
 ·cases h
 ·refine ⟨rfl,?_⟩;split at h
  ·split at h<;>cases h
  ·rename_i n' it' x p f rest hops;split at h
   ·rename_i io' hl hb;cases h;exact ⟨rest,x,p,f,hops,hl,blt_lt hb⟩
   ·cases h
  ·exact absurd h rg1T_ne.2
end
structure RgI (P:Program) (N:Nat) (ks vs:List DV) (it n e id b1 b2:Nat) (ok:Opd) (io2 io3:List IOper) (Y:IC) (Q:Exit->St->Prop) (I:List Nat->St->Prop):Prop where
 hit:∀ L s,I L s->s.T it=.ptr id 0
 fin:∀ L s,I L s->(∀ i<ks.length,i∈L)->rwp P (fun s3=>ev s3.T ok=.bool false/\Q .normal s3) io2 ⟨s.T.upd n (.tup [.bool false]),s.H,s.c⟩
 rnd:∀ L s i k v,I L s->L.Nodup->(∀ j∈L,j<ks.length)->i ∉ L->ks[i]? = some k->vs[i]? = some v ->
  rwp P (fun s3=>ev s3.T ok=.bool true/\s3.T it=.ptr id 0/\rwp P (fun s4=>IW P N Y s4 (A5q b2 (A2t (fun s5=>I (i :: L) s5) (A5q b1 Q)))) io3 ⟨s3.T.upd e (.tup [k,v]),s3.H,s3.c⟩) io2 ⟨s.T.upd n (.tup [.bool true,k,v]),s.H,s.c⟩
theorem IW.range {P:Program} {N:Nat} {io1 io2 io3:List IOper} {m it n e b1 b2:Nat} {ok:Opd} {Y:IC} {s:St} {Q:Exit->St->Prop}
  (h:rwp P (fun s1 => ∃ kd ks vs,s1.T m=.mp kd ks vs/\∃ I:List Nat->St->Prop,I [] ⟨s1.T.upd it (.ptr s1.c 0),s1.H,s1.c+1⟩/\RgI P N ks vs it n e s1.c b1 b2 ok io2 io3 Y Q I) io1 s) :
  IW P N (.seq (.rg (.r1 io1 m it)) (.blk b1 (.loop (.seq (.rg (.r2 it n io2)) (.seq (.cond ok .skip (.exit b1)) (.blk b2 (.seq (.rg (.r3 it e io3)) Y))))))) s Q:=by
 intro hm c hc;obtain ⟨cA,c2,rfl,hA,h2⟩:=A3p hc;obtain ⟨c3,rfl,h3⟩:=trC_blk h2;obtain ⟨c4,rfl,h4⟩:=trC_loop h3;obtain ⟨cB,c5,rfl,hB,h5⟩:=A3p h4;obtain ⟨c6,c7,rfl,h6,h7⟩:=A3p h5;obtain ⟨cc,cs,ce,rfl,hcc,hcs,hce⟩:=trC_cond h6;obtain ⟨c8,rfl,h8⟩:=trC_blk h7;obtain ⟨cC,cY,rfl,hC,hY⟩:=A3p h8;obtain ⟨iA,opsA,dA,rfl,eA⟩:=trC_rg hA;obtain ⟨iB,opsB,dB,rfl,eB⟩:=trC_rg hB;obtain ⟨iC,opsC,dC,rfl,eC⟩:=trC_rg hC;obtain ⟨rfl,pre,ty,xA,pA,fA,kt,et,hopsA,hlA,hu,hitN⟩:=rg1_inv eA;obtain ⟨rfl,rB,xB,pB,fB,hopsB,hlB,hnN⟩:=rg2_inv eB;obtain ⟨rfl,rC,xC,pC,fC,hopsC,hlC,heN⟩:=rg3_inv eC;intro ρ a w hS;refine wp_seq (wp_region_list ?_);rw [hopsA];refine A0w _ pre io1 hlA hS h fun ρ1 s1 a1 w1 hh hS1 hst1=>?_;obtain ⟨kd,ks,vs,hTm,I,hI0,hI⟩:=hh;have rm:=hS1.tm m;rw [hTm] at rm;obtain ⟨bm,es,hfm,q1,q2,q3,q4,q5⟩:∃ bm es, ρ1.fm bm=some es/\ks.length=es.size/\vs.length=es.size/\(∀ (i:Nat) x (e:MapEntry),ks[i]? = some x->es[i]? = some e->VRel ρ1 x e.key) /\
   (∀ (i:Nat) x (e:MapEntry),vs[i]? = some x->es[i]? = some e->VRel ρ1 x e.val)/\a1.eval (.tmp m)=.map (some bm):=by
  generalize hv:a1.tmps.getD m undef=v at rm;cases rm with
  | mp _ _ _ b es h0 h1 h2 h3 h4 h5=>exact ⟨b,es,h0,h2,h3,h4,h5,hv⟩
 obtain ⟨⟨cl,hbm,hnd,E1⟩,hown⟩:=hS1.rep.frm bm es hfm;have run1:(execOp a1.eval ⟨some it,.range ty (.tmp m),xA,pA,fA,none⟩).run P w1=.ok (.value (.pointer (some ⟨w1.heap.size,0,none⟩))) (w1.alloc (.mapIter (some bm) cl #[] cl)):=by
  simp only [execOp,Sem.run_bind,q5,run_range_map w1 ty kt et bm es cl hu hbm,Result.andThen_ok,Sem.run_pure]
 refine A3k rfl run1 ?_;obtain ⟨d2,hkp2⟩:=hS1.new (.mapIter (some bm) cl #[] cl);obtain ⟨hS2,hst2⟩:=hS1.did (d:=some it) (by simp [W3];omega) d2;unfold wpList;refine wp_block ?_;have hst12:=hst1.trans hst2;have hbmne:bm≠w1.heap.size:=fun e1=>by
  have:=(Array.getElem?_eq_some_iff.1 hbm).1;omega
 have hbm2:(w1.alloc (.mapIter (some bm) cl #[] cl)).heap[bm]? = some (.map es cl):=by rw [heap_alloc_old _ _ (Array.getElem?_eq_some_iff.1 hbm).1];exact hbm
 have map_keep:∀ {ρa:Ren} {sa:St} {wa:World} {ρb:Ren} {sb:St} {wb:World},Rep ρa sa.H wa -> ρa.fm bm=some es->wa.heap[bm]? = some (.map es cl)->Step ρa sa wa ρb sb wb->wb.heap[bm]? = some (.map es cl):=by
  intro ρa sa wa ρb sb wb hR hf hb st;rw [st.ext.keep bm (Array.getElem?_eq_some_iff.1 hb).1 fun id b t h1 h2 h3=>(hR.frm bm es hf).2 id b t h1 h2 h3];exact hb
 refine wp_loop_ghost (fun μ a' w' => ∃ ρ' s' L seen,I L s'/\L.Nodup/\(∀ i∈L,i<ks.length)/\Sim N ρ' s' a' w'/\Step ρ1 s1 w1 ρ' s' w'/\Kp ρ' s' w' w1.heap.size s1.c (.mapIter (some bm) cl seen cl) /\
   w'.heap[bm]? = some (.map es cl)/\(∀ (i:Nat) (e:MapEntry),es[i]? = some e->(seen.contains e.born=true↔i∈L)) /\ μ = (leftOf es seen).size) _
  ⟨_,_,[], #[],hI0,List.nodup_nil,fun i hi=>(by cases hi),hS2,hst2,hkp2 _,hbm2,fun i e _=>by simp,rfl⟩ ?_
 rintro μ a' w' ⟨ρ',s',L,seen,hIL,hLn,hLb,hS',hst',hkp,hb',hsn,rfl⟩;have hfm' : ρ'.fm bm=some es:=hst'.ext.le.fm _ _ hfm;have rit:=hS'.tm it;rw [hI.hit L s' hIL] at rit;obtain ⟨t,ht, -,rit⟩:=rit.ptr_inv;rw [hkp.nm] at ht;cases ht;have eit:a'.eval (.tmp it)=.pointer (some ⟨w1.heap.size,0,none⟩):=rit;refine wp_seq (wp_region_list ?_);rw [hopsB];rcases run_next_at (P:=P) w' xB w1.heap.size bm cl cl seen es cl hkp.obj hb' E1 (Nat.le_refl _) with ⟨h0,hrun⟩|⟨en,hen,wx,hal,hrun⟩
 ·have run2:(execOp a'.eval ⟨some n,.next (.tmp it) false,xB,pB,fB,none⟩).run P w'=.ok (.value (.tuple #[.bool false])) w':=by
   simp only [execOp,Sem.run_bind,eit,hrun,Result.andThen_ok,Sem.run_pure]
  refine A3k rfl run2 ?_;have d:Did ρ' s'.H s'.c w' (.tuple #[.bool false]) w' (.tup [.bool false]) s'.H s'.c ρ':=⟨.tup _ _ rfl (by
    intro i x y hx hy
    match i with
    | 0=>cases hx;cases hy;exact .bool _
    | _+1=>cases hx),hS'.rep,hS'.fresh,Nat.le_refl _,fun _ _ h=>h,fun _ _=>rfl,Ext.refl _ _ _⟩
  obtain ⟨hS3,hst3⟩:=hS'.did (d:=some n) (by simp [W3];omega) d;refine S6 rB io2 hlB hS3 (hI.fin L s' hIL fun i hi=>?_) fun ρ4 s4 a4 w4 hq hS4 hst4=>?_
  ·have hi':i<es.size:=q1▸hi;have:=all_seen es seen h0 es[i] (by simp);exact (hsn i es[i] (by simp [hi'])).1 this
  ·obtain ⟨hok,hQ⟩:=hq;have hr:=B2 hS4.tm hcc;rw [hok] at hr;refine wp_seq (wp_cond hr.bool_inv ?_);rw [if_neg Bool.false_ne_true];refine wp_mono (IW.of (ic:=.exit b1) (Q:=fun e s=>e=.exit b1/\s=s4) ⟨rfl,rfl⟩ hm ce hce ρ4 a4 w4 hS4) ?_;rintro e5 a5 w5 ⟨ρ5,s5,⟨rfl,rfl⟩,hS5,hst5⟩;show (if b1=b1 then Ends N ρ s w Q .normal a5 w5 else _);rw [if_pos rfl];exact ⟨ρ5,s5,hQ,hS5,(((hst1.trans hst').trans hst3).trans hst4).trans hst5⟩
 ·obtain ⟨hmem,hfr⟩:=mem_left hen;obtain ⟨i,hi⟩:=List.getElem?_of_mem hmem;have hi2:es[i]? = some en:=by simpa using hi
  have his:i<es.size:=(Array.getElem?_eq_some_iff.1 hi2).1;have hk:ks[i]? = some ks[i]:=List.getElem?_eq_getElem (by omega);have hv:vs[i]? = some vs[i]:=List.getElem?_eq_getElem (by omega);have hiL:i ∉ L:=fun hh=>by rw [(hsn i en hi2).2 hh] at hfr;cases hfr
  have rk:=(q3 i _ en hk hi2).mono hst'.ext.le;have rv:=(q4 i _ en hv hi2).mono hst'.ext.le;have hxh:wx.heap=w'.heap:=by rcases hal with rfl|rfl<;>rfl
  obtain ⟨w2,hw2⟩:∃ w2,w2=setBlock wx w1.heap.size (.mapIter (some bm) cl (seen.push en.born) cl):=⟨_,rfl⟩;rw [<- hw2] at hrun;have hrs:w1.heap.size<w'.heap.size:=(Array.getElem?_eq_some_iff.1 hkp.obj).1;have k1:∀ k,k≠w1.heap.size->w2.heap[k]? = w'.heap[k]? := fun k hk=>by
   rw [hw2];simp only [setBlock,hxh];rw [Array.getElem?_setIfInBounds,if_neg (Ne.symm hk)]
  have k2:w2.heap[w1.heap.size]? = some (.mapIter (some bm) cl (seen.push en.born) cl):=by
   rw [hw2];simp only [setBlock,hxh];rw [Array.getElem?_setIfInBounds,if_pos rfl,if_pos hrs]
  have k3:w2.os=w'.os/\w2.tape=w'.tape/\w2.output=w'.output/\w2.heap.size=w'.heap.size:=by
   rw [hw2];rcases hal with rfl|rfl<;>exact ⟨rfl,rfl,rfl,by simp [setBlock]⟩
  have hSx:=hS'.setKp hkp k1;have hkx:=hkp.set k1 k2;have hstx:=hst'.set (Nat.le_refl _) k1 k3.1 k3.2.1 k3.2.2.1 k3.2.2.2;have hbx:w2.heap[bm]? = some (.map es cl):=(k1 bm hbmne).trans hb';have run2:(execOp a'.eval ⟨some n,.next (.tmp it) false,xB,pB,fB,none⟩).run P w'=.ok (.value (.tuple #[.bool true,en.key,en.val])) w2:=by
   simp only [execOp,Sem.run_bind,eit,hrun,Result.andThen_ok,Sem.run_pure]
  refine A3k rfl run2 ?_;have d:Did ρ' s'.H s'.c w2 (.tuple #[.bool true,en.key,en.val]) w2 (.tup [.bool true,ks[i],vs[i]]) s'.H s'.c ρ':=⟨.tup _ _ rfl (by
    intro j x y hx hy
    match j with
    | 0=>cases hx;cases hy;exact .bool _
    | 1=>cases hx;cases hy;exact rk
    | 2=>cases hx;cases hy;exact rv
    | _+3=>cases hx),hSx.rep,hSx.fresh,Nat.le_refl _,fun _ _ h=>h,fun _ _=>rfl,Ext.refl _ _ _⟩
  obtain ⟨hS3,hst3⟩:=hSx.did (d:=some n) (by simp [W3];omega) d;have hk3:=hkx.step hst3;have hb3:=map_keep hSx.rep hfm' hbx hst3;have hf3:=hst3.ext.le.fm _ _ hfm';refine S6 rB io2 hlB hS3 (hI.rnd L s' i _ _ hIL hLn hLb hiL hk hv) fun ρ4 s4 a4 w4 hq hS4 hst4=>?_;obtain ⟨hok,hit4,hQ⟩:=hq;have hk4:=hk3.step hst4;have hb4:=map_keep hS3.rep hf3 hb3 hst4;have hf4:=hst4.ext.le.fm _ _ hf3;have hr:=B2 hS4.tm hcc;rw [hok] at hr;refine wp_seq (wp_cond hr.bool_inv ?_);rw [if_pos rfl];refine wp_mono (IW.of (ic:=.skip) (Q:=fun e s=>e=.normal/\s=s4) ⟨rfl,rfl⟩ hm cs hcs ρ4 a4 w4 hS4) ?_;rintro e5 a5 w5 ⟨ρ5,s5,⟨rfl,rfl⟩,hS5,hst5⟩;have hk5:=hk4.step hst5;have hb5:=map_keep hS4.rep hf4 hb4 hst5;have hf5:=hst5.ext.le.fm _ _ hf4;refine wp_block (wp_seq (wp_region_list ?_));rw [hopsC];have rit5:=hS5.tm it;rw [hit4] at rit5;obtain ⟨t,ht, -,rit5⟩:=rit5.ptr_inv;rw [hk5.nm] at ht;cases ht;have eit5:a5.eval (.tmp it)=.pointer (some ⟨w1.heap.size,0,none⟩):=rit5;have run3:(execOp a5.eval ⟨some e,.entry (.tmp it),xC,pC,fC,none⟩).run P w5=.ok (.value (.tuple #[en.key,en.val])) w5:=by
   simp only [execOp,Sem.run_bind,eit5,run_entry_at (P:=P) w5 w1.heap.size bm cl seen es cl en hk5.obj hb5 hmem hnd,Result.andThen_ok,Sem.run_pure]
  refine A3k rfl run3 ?_;have hst35:=(hst3.trans hst4).trans hst5;have d:Did ρ5 s5.H s5.c w5 (.tuple #[en.key,en.val]) w5 (.tup [ks[i],vs[i]]) s5.H s5.c ρ5:=⟨.tup _ _ rfl (by
    intro j x y hx hy
    match j with
    | 0=>cases hx;cases hy;exact rk.mono hst35.ext.le
    | 1=>cases hx;cases hy;exact rv.mono hst35.ext.le
    | _+2=>cases hx),hS5.rep,hS5.fresh,Nat.le_refl _,fun _ _ h=>h,fun _ _=>rfl,Ext.refl _ _ _⟩
  obtain ⟨hS6,hst6⟩:=hS5.did (d:=some e) (by simp [W3];omega) d;have hk6:=hk5.step hst6;have hb6:=map_keep hS5.rep hf5 hb5 hst6;have hf6:=hst6.ext.le.fm _ _ hf5;refine S6 rC io3 hlC hS6 hQ fun ρ7 s7 a7 w7 hY7 hS7 hst7=>?_;have hk7:=hk6.step hst7;have hb7:=map_keep hS6.rep hf6 hb6 hst7;have hf7:=hst7.ext.le.fm _ _ hf6;have hst17:=(((hstx.trans hst35).trans hst6).trans hst7);refine wp_mono (hY7 hm cY hY ρ7 a7 w7 hS7) ?_;rintro e8 a8 w8 ⟨ρ8,s8,hq8,hS8,hst8⟩;have hst18:=hst17.trans hst8;have hk8:=hk7.step hst8;have hb8:=map_keep hS7.rep hf7 hb7 hst8;have next:I (i :: L) s8->∃ n',n'<(leftOf es seen).size/\∃ ρ' s' L seen,I L s'/\L.Nodup/\(∀ i∈L,i<ks.length)/\Sim N ρ' s' a8 w8/\Step ρ1 s1 w1 ρ' s' w8/\Kp ρ' s' w8 w1.heap.size s1.c (.mapIter (some bm) cl seen cl) /\
   w8.heap[bm]? = some (.map es cl)/\(∀ (i:Nat) (e:MapEntry),es[i]? = some e->(seen.contains e.born=true↔i∈L))/\n'=(leftOf es seen).size:=fun hI8=>by
   refine ⟨_,left_shrinks es seen en hen, ρ8,s8,i :: L,seen.push en.born,hI8,List.nodup_cons.2 ⟨hiL,hLn⟩,fun j hj=>?_,hS8,hst18,hk8,hb8,fun j e' hj=>?_,rfl⟩
   ·rcases List.mem_cons.1 hj with rfl|hj
    ·omega
    ·exact hLb j hj
   ·rw [contains_push,Bool.or_eq_true,List.mem_cons,hsn j e' hj];constructor
    ·rintro (h1|h1)
     ·exact .inr h1
     ·refine .inl ?_;have h2:=beq_iff_eq.1 h1;have h3:(es.toList.map (·.born))[j]? = some en.born:=by rw [List.getElem?_map,show es.toList[j]? = some e' by simpa using hj];simp [h2]
      have h4:(es.toList.map (·.born))[i]? = some en.born:=by rw [List.getElem?_map,hi];rfl
      exact (List.getElem?_inj (List.getElem?_eq_some_iff.1 h3).1 hnd).1 (h3.trans h4.symm)
    ·rintro (rfl|h1)
     ·rw [hi2] at hj;cases hj;exact .inr (beq_self_eq_true _)
     ·exact .inl h1
  have hend:Step ρ s w ρ8 s8 w8:=hst1.trans hst18;cases e8 with
  | normal=>exact next hq8
  | exit j =>
   simp only [A5q] at hq8;simp only [Exit.inBlock];split at hq8
   ·rename_i hj;rw [if_pos hj];exact next hq8
   ·rename_i hj;rw [if_neg hj];simp only [A2t,A5q] at hq8;show (if j=b1 then Ends N ρ s w Q .normal a8 w8 else Ends N ρ s w Q (.exit j) a8 w8);split at hq8
    ·rename_i hj1;rw [if_pos hj1];exact ⟨ρ8,s8,hq8,hS8,hend⟩
    ·rename_i hj1;rw [if_neg hj1];exact ⟨ρ8,s8,hq8,hS8,hend⟩
  | _=>exact ⟨ρ8,s8,hq8,hS8,hend⟩
theorem J7 {n:Nat} {v:DV}:∀ {l:List (Nat × DV)} {T:Tm},D0 l T->(∀ p∈l,p.1≠n)->D0 l (T.upd n v)
 | [],_,_,_=>trivial
 | (k,x) :: r,T,⟨h1,h2⟩,h=>⟨by simp only [Tm.upd,h (k,x) List.mem_cons_self,if_false];exact h1,J7 h2 fun p hp=>h p (List.mem_cons_of_mem _ hp)⟩
theorem A6i (T:Tm) (n:Nat) (v:DV):(T.upd n v) n=v:=by simp [Tm.upd]
theorem N6 (T:Tm) {n k:Nat} (v:DV) (h:k≠n):(T.upd n v) k=T k:=by simp [Tm.upd,h]
def lpR {σ : Type} (it:Nat) (x:DV) (L : σ -> List (Nat × DV)) (h : σ -> Hp) (J:List Nat -> σ -> Nat->Prop) (D:List Nat) (Q:Exit->St->Prop):Exit->St->Prop
 | .normal,⟨T,H,c⟩=>T it=x/\∃ b,D0 (L b) T/\Sub (h b) H/\J D b c
 | e,s=>Q e s
theorem k_lRn {σ : Type} {it:Nat} {x:DV} {L : σ -> List (Nat × DV)} {h : σ -> Hp} {J:List Nat -> σ -> Nat->Prop} {D:List Nat} {Q:Exit->St->Prop} {T:Tm} {H:Hp} {c:Nat} :
  lpR it x L h J D Q .normal ⟨T,H,c⟩=(T it=x/\∃ b,D0 (L b) T/\Sub (h b) H/\A5x (J D) b c):=propext Iff.rfl
theorem k_lRr {σ : Type} {it:Nat} {x:DV} {L : σ -> List (Nat × DV)} {h : σ -> Hp} {J:List Nat -> σ -> Nat->Prop} {D:List Nat} {Q:Exit->St->Prop} {s:St}:lpR it x L h J D Q .ret s=Q .ret s:=propext Iff.rfl
attribute [go_sem] k_lRn k_lRr
theorem A8m {P:Program} {N f:Nat} {D:(Ps->IC)->TD} [F:FT P f D] {p0 p1 p2 p3 p4 p5:Ps} {g m it n ok e x y k v b1 b2:Nat} {Y z:IC} {L0 L1 L2 L3 L4 L5:List Nat}
  [g0:LkD (D (pz P f)) p0 (.Q (.rg (.r1 [⟨some m,.call g [],none⟩] m it)) (pz P f p1) L0)] [g1:LkD (D (pz P f)) p1 (.J (.loop (pz P f p2)) b1 L1)]
  [g2:LkD (D (pz P f)) p2 (.Q (.rg (.r2 it n [⟨some ok,.pur (.ext (.t n) 0),none⟩])) (pz P f p3) L2)] [g3:LkD (D (pz P f)) p3 (.C .skip (pz P f p4) (.exit b1) (.t ok) L3)]
  [g4:LkD (D (pz P f)) p4 (.J (pz P f p5) b2 L4)]
  [g5:LkD (D (pz P f)) p5 (.Q (.rg (.r3 it e [⟨some x,.pur (.ext (.t e) 0),none⟩,⟨some y,.pur (.ext (.t e) 1),none⟩,⟨some k,.pur (.mv (.t x)),none⟩,⟨some v,.pur (.mv (.t y)),none⟩])) Y L5)]
  {T:Tm} {H:Hp} {c:Nat} {Q0:Exit->St->Prop} {kd:KKey} {ks vs:List DV} (hc:PC P g [] (.mp kd ks vs)) {σ : Type} (L : σ -> List (Nat × DV)) (h : σ -> Hp) (J:List Nat -> σ -> Nat->Prop) (a : σ)
  (hd:[k,v,it,m,n,ok,e,x,y].Nodup) (hA:∀ b,((L b).map Prod.fst).all (fun q => !([k,v,it,m,n,ok,e,x,y].contains q))=true) (h0:D0 (L a) T) (hH:Sub (h a) H) (hJ:J [] a (c+1))
  (fin:∀ D b c,J D b c->(∀ i<ks.length,i∈D)->IW P N z ⟨tm (L b),h b,c⟩ Q0)
  (rnd:∀ it' D b c i kk vv,J D b c->D.Nodup->(∀ j∈D,j<ks.length)->i ∉ D->ks[i]? = some kk->vs[i]? = some vv ->
   IW P N Y ⟨tm ((it,it') :: (k,kk) :: (v,vv) :: L b),h b,c⟩ (bk b2 (lpR it it' L h J (i :: D) (bk b1 (sq P N z Q0))))) :
  IW P N (pz P f p0) ⟨T,H,c⟩ (sq P N z Q0):=by
 rw [wz g0.get,show PD.ic (.Q (.rg (.r1 [⟨some m,.call g [],none⟩] m it)) (pz P f p1) L0)=.seq (.rg (.r1 [⟨some m,.call g [],none⟩] m it)) (pz P f p1) from rfl,wz g1.get,show PD.ic (.J (.loop (pz P f p2)) b1 L1)=.blk b1 (.loop (pz P f p2)) from rfl,wz g2.get];show IW P N (.seq (.rg (.r1 [⟨some m,.call g [],none⟩] m it)) (.blk b1 (.loop (.seq (.rg (.r2 it n [⟨some ok,.pur (.ext (.t n) 0),none⟩])) (pz P f p3))))) _ _;rw [wz g3.get];show IW P N (.seq (.rg (.r1 [⟨some m,.call g [],none⟩] m it)) (.blk b1 (.loop (.seq (.rg (.r2 it n [⟨some ok,.pur (.ext (.t n) 0),none⟩])) (.seq (.cond (.t ok) .skip (.exit b1)) (pz P f p4)))))) _ _;rw [wz g4.get];show IW P N (.seq (.rg (.r1 [⟨some m,.call g [],none⟩] m it)) (.blk b1 (.loop (.seq (.rg (.r2 it n [⟨some ok,.pur (.ext (.t n) 0),none⟩])) (.seq (.cond (.t ok) .skip (.exit b1)) (.blk b2 (pz P f p5))))))) _ _;rw [wz g5.get];have hL:∀ b, ∀ p∈L b,p.1 ∉ [k,v,it,m,n,ok,e,x,y]:=fun b p hp hh=>by
  have h1:=List.all_eq_true.1 (hA b) p.1 (List.mem_map.2 ⟨p,hp,rfl⟩);rw [List.contains_iff_mem.2 hh] at h1;cases h1
 simp only [List.nodup_cons,List.mem_cons,List.not_mem_nil,or_false,not_or] at hd hL;obtain ⟨⟨d1,d2,d3,d4,d5,d6,d7,d8⟩,⟨d9,d10,d11,d12,d13,d14,d15⟩,⟨d16,d17,d18,d19,d20,d21⟩,⟨d22,d23,d24,d25,d26⟩,⟨d27,d28,d29,d30⟩,⟨d31,d32,d33⟩,⟨d34,d35⟩,d36, -⟩:=hd;refine IW.range ?_;simp only [rwp,I4,J9,List.map_nil];refine cpc hc ⟨kd,ks,vs,A6i _ _ _,fun D s=>s.T it=.ptr c 0/\∃ b,D0 (L b) s.T/\Sub (h b) s.H/\J D b s.c,⟨A6i _ _ _,a,?_,hH,hJ⟩,fun D s q=>q.1,?_,?_⟩
 ·exact J7 (J7 h0 fun p hp=>(hL a p hp).2.2.2.1) fun p hp=>(hL a p hp).2.2.1
 ·rintro D s ⟨q1,b,q2,q3,q4⟩ hall;simp only [rwp,I4,J9,f_ext,ev,A6i,r_ext,List.getElem?_cons_zero,F3];refine ⟨trivial,?_⟩;exact IW.weaken (Q7 (J7 (J7 q2 fun p hp=>(hL b p hp).2.2.2.2.1) fun p hp=>(hL b p hp).2.2.2.2.2.1)) q3 (fin D b _ q4 hall)
 ·rintro D s i kk vv ⟨q1,b,q2,q3,q4⟩ hn hb hi hk hv;simp only [rwp,I4,J9,f_ext,ev,A6i,r_ext,List.getElem?_cons_zero,List.getElem?_cons_succ,F3,fev,N6 _ _ d36,N6 _ _ (Ne.symm d36),N6 _ _ d35,N6 _ _ d34,N6 _ _ (Ne.symm d34),N6 _ _ d7,N6 _ _ (Ne.symm d7),N6 _ _ (Ne.symm d8),N6 _ _ d15,N6 _ _ d14,N6 _ _ d18,N6 _ _ d19];refine ⟨trivial,by rw [N6 _ _ d17];exact q1,?_⟩;refine IW.weaken (T':=tm ((it,.ptr c 0) :: (k,kk) :: (v,vv) :: L b)) (Q7 ⟨?_,?_,?_,?_⟩) q3 ((rnd (.ptr c 0) D b s.c i kk vv q4 hn hb hi hk hv).mono ?_)
  ·rw [N6 _ _ (Ne.symm d9),N6 _ _ (Ne.symm d2),N6 _ _ d21,N6 _ _ d20,N6 _ _ d19,N6 _ _ d18,N6 _ _ d17];exact q1
  ·rw [N6 _ _ d1,A6i]
  ·exact A6i _ _ _
  ·refine J7 (J7 (J7 (J7 (J7 (J7 (J7 q2 ?_) ?_) ?_) ?_) ?_) ?_) ?_<;>intro p hp<;>have h9:=hL b p hp
   ·exact h9.2.2.2.2.1
   ·exact h9.2.2.2.2.2.1
   ·exact h9.2.2.2.2.2.2.1
   ·exact h9.2.2.2.2.2.2.2.1
   ·exact h9.2.2.2.2.2.2.2.2
   ·exact h9.1
   ·exact h9.2.1
  ·rintro e5 ⟨T5,H5,c5⟩ q5;have key:∀ e6,lpR it (.ptr c 0) L h J (i :: D) (bk b1 (sq P N z Q0)) e6 ⟨T5,H5,c5⟩->A2t (fun s5=>s5.T it=.ptr c 0/\∃ b,D0 (L b) s5.T/\Sub (h b) s5.H/\J (i :: D) b s5.c) (A5q b1 (sq P N z Q0)) e6 ⟨T5,H5,c5⟩:=by
    intro e6 q6;cases e6<;>exact q6
   cases e5 with
   | exit j =>
    simp only [bk,A5q] at q5;simp only [A5q];split at q5
    ·rename_i hj;rw [if_pos hj];exact key _ q5
    ·rename_i hj;rw [if_neg hj];exact key _ q5
   | normal=>exact key .normal q5
   | ret=>exact key .ret q5
   | goto l=>exact key (.goto l) q5
   | panic l=>exact key (.panic l) q5
   | outgrown=>exact key .outgrown q5
end Go.Sym
set_option maxHeartbeats 4000000
namespace Go.Proofs.YthlpinppaclofaaGreatDoor
open Go.Eng (IC IOper DReg IFn B5)
open Go.Sym
abbrev x113:XT Tryz.prog 113:=mkF (by unfold B5;conv=>lhs;reduce;simp only [seval,u8n]) (fun h=>by conv=>lhs;cbv)
instance t113:FT Tryz.prog 113 x113.d:=x113.ft
abbrev x154:XT Tryz.prog 154:=mkF (by unfold B5;conv=>lhs;reduce;simp only [seval,u8n]) (fun h=>by conv=>lhs;cbv)
instance t154:FT Tryz.prog 154 x154.d:=x154.ft
abbrev x65:XT Tryz.prog 65:=mkF (by unfold B5;conv=>lhs;reduce;simp only [seval,u8n]) (fun h=>by conv=>lhs;cbv)
instance t65:FT Tryz.prog 65 x65.d:=x65.ft
abbrev x110:XT Tryz.prog 110:=mkF (by unfold B5;conv=>lhs;reduce;simp only [seval,u8n]) (fun h=>by conv=>lhs;cbv)
instance t110:FT Tryz.prog 110 x110.d:=x110.ft
abbrev x29:XT Tryz.prog 29:=mkF (by unfold B5;conv=>lhs;reduce;simp only [seval,u8n]) (fun h=>by conv=>lhs;cbv)
instance t29:FT Tryz.prog 29 x29.d:=x29.ft
abbrev x60:XT Tryz.prog 60:=mkF (by unfold B5;conv=>lhs;reduce;simp only [seval,u8n]) (fun h=>by conv=>lhs;cbv)
instance t60:FT Tryz.prog 60 x60.d:=x60.ft
abbrev x59:XT Tryz.prog 59:=mkF (by unfold B5;conv=>lhs;reduce;simp only [seval,u8n]) (fun h=>by conv=>lhs;cbv)
instance t59:FT Tryz.prog 59 x59.d:=x59.ft
abbrev x102:XT Tryz.prog 102:=mkF (by unfold B5;conv=>lhs;reduce;simp only [seval,u8n]) (fun h=>by conv=>lhs;cbv)
instance t102:FT Tryz.prog 102 x102.d:=x102.ft
abbrev x25:XT Tryz.prog 25:=mkF (by unfold B5;conv=>lhs;reduce;simp only [seval,u8n]) (fun h=>by conv=>lhs;cbv)
instance t25:FT Tryz.prog 25 x25.d:=x25.ft
end Go.Proofs.YthlpinppaclofaaGreatDoor
namespace Go.Pb
variable [Go.Sym.Tab]
open Go.Sym
mutual
def Ex.sz:Ex->Nat
 | .mk k v n a p=>1+n.length+Ex.szs a
def Ex.szs:List Ex->Nat
 | []=>0
 | e :: l=>e.sz+Ex.szs l
end
mutual
def St.sz:St->Nat
 | .mk k n t a x y p=>1+n.length+t.length+Ex.szs a+St.szs x+St.szs y
def St.szs:List St->Nat
 | []=>0
 | e :: l=>e.sz+St.szs l
end
def Dc.sz (d:Dc):Nat:=1+d.name.length
def Hd.sz (h:Hd):Nat:=1+h.name.length+St.szs h.body
def Md.sz (m:Md):Nat:=1+m.name.length+(m.hds.map Hd.sz).sum
def Ru.sz (r:Ru):Nat:=(r.decls.map Dc.sz).sum+(r.modes.map Md.sz).sum
theorem Ex.szs_map:∀ l:List Ex,Ex.szs l=(l.map Ex.sz).sum
 | []=>rfl
 | e :: l=>by rw [Ex.szs,Ex.szs_map l];rfl
theorem St.szs_map:∀ l:List St,St.szs l=(l.map St.sz).sum
 | []=>rfl
 | e :: l=>by rw [St.szs,St.szs_map l];rfl
theorem N8 {α : Type} {f : α -> Nat} {x : α}:∀ {l:List α},x∈l->f x<=(l.map f).sum
 | a :: l,h=>by
  rw [List.map_cons,List.sum_cons];rcases List.mem_cons.1 h with rfl|h
  ·omega
  ·have:=N8 (f:=f) h;omega
theorem O6 {α : Type} {f : α -> Nat}:∀ {l:List α},(∀ x∈l,1<=f x)->l.length<=(l.map f).sum
 | [],h=>Nat.zero_le _
 | a :: l,h=>by
  have:=O6 (f:=f) (l:=l) fun x hx=>h x (List.mem_cons_of_mem _ hx);have:=h a List.mem_cons_self;rw [List.map_cons,List.sum_cons,List.length_cons];omega
theorem Ex.sz_pos (e:Ex):1<=e.sz:=by cases e with|mk k v n a p=>rw [Ex.sz];omega
theorem St.sz_pos (e:St):1<=e.sz:=by cases e with|mk k n t a x y p=>rw [St.sz];omega
theorem Ex.sz_arg {e x:Ex} (h:x∈e.args):x.sz<e.sz:=by
 cases e with|mk k v n a p =>
 have:=N8 (f:=Ex.sz) h;rw [Ex.sz,Ex.szs_map];have h':(Ex.mk k v n a p).args=a:=rfl;rw [h'] at this;omega
theorem Ex.sz_name (e:Ex):e.name.length<e.sz:=by
 cases e with|mk k v n a p=>rw [Ex.sz];show n.length<_;omega
theorem Ex.sz_args (e:Ex):e.args.length<e.sz:=by
 cases e with|mk k v n a p =>
 have:=O6 (f:=Ex.sz) (l:=a) fun x _=>x.sz_pos;rw [Ex.sz,Ex.szs_map];show a.length<_;omega
theorem St.sz_name (e:St):e.name.length<e.sz:=by
 cases e with|mk k n t a x y p=>rw [St.sz];show n.length<_;omega
theorem St.sz_text (e:St):e.text.length<e.sz:=by
 cases e with|mk k n t a x y p=>rw [St.sz];show t.length<_;omega
theorem St.sz_arg {e:St} {x:Ex} (h:x∈e.args):x.sz<e.sz:=by
 cases e with|mk k n t a u w p =>
 have:=N8 (f:=Ex.sz) h;have h':(St.mk k n t a u w p).args=a:=rfl;rw [h'] at this;rw [St.sz,Ex.szs_map];omega
theorem St.sz_args (e:St):e.args.length<e.sz:=by
 cases e with|mk k n t a u w p =>
 have:=O6 (f:=Ex.sz) (l:=a) fun x _=>x.sz_pos;rw [St.sz,Ex.szs_map];show a.length<_;omega
theorem St.sz_thn (e:St):St.szs e.thn<e.sz:=by
 cases e with|mk k n t a u w p=>rw [St.sz];show St.szs u<_;omega
theorem St.sz_els (e:St):St.szs e.els<e.sz:=by
 cases e with|mk k n t a u w p=>rw [St.sz];show St.szs w<_;omega
theorem St.szs_len (l:List St):l.length<=St.szs l:=by rw [St.szs_map];exact O6 fun x _=>x.sz_pos
theorem St.szs_mem {l:List St} {x:St} (h:x∈l):x.sz<=St.szs l:=by rw [St.szs_map];exact N8 h
theorem Ex.szs_mem {l:List Ex} {x:Ex} (h:x∈l):x.sz<=Ex.szs l:=by rw [Ex.szs_map];exact N8 h
theorem Ex.szs_len (l:List Ex):l.length<=Ex.szs l:=by rw [Ex.szs_map];exact O6 fun x _=>x.sz_pos
theorem I0 (s:List UInt8):(G2 s).length=1:=by unfold G2;split<;>rfl
theorem V8 (n:Int):(A2i n).length=1:=by unfold A2i;split<;>rfl
theorem A2b (s:List UInt8):(A4n s).length=1:=by unfold A4n;split<;>rfl
theorem A2g (q:Int × List Tok) (n:Int):q.2.length<=(Q9 q n).length/\(Q9 q n).length<=q.2.length+2:=by
 unfold Q9;split
 ·simp only [List.length_append,List.length_singleton];omega
 ·omega
theorem A5k:∀ l:List Ex,exTs l=l.map fun e=>(e.kind,exT e)
 | []=>rfl
 | e :: l=>by rw [exTs,A5k l];rfl
set_option maxHeartbeats 2000000 in
theorem buildT_len {k v:Int} {n:List UInt8} {as1:List (Int × List Tok)}:1<=(I9 k v n as1).length/\(I9 k v n as1).length<=5+(as1.map fun q=>q.2.length).sum:=by
 unfold I9
 match as1 with
 | [] =>
  dsimp only;repeat' split
  all_goals simp only [List.length_append,List.length_singleton,I0,V8]
  all_goals omega
 | [q] =>
  have:=A2g q 6;dsimp only;repeat' split
  all_goals simp only [List.length_append,List.length_singleton,I0,V8,List.map_cons,List.map_nil,List.sum_cons,List.sum_nil]
  all_goals omega
 | [q,r] =>
  have h1:=A2g q (if D6 k=3 then 4 else D6 k);have h2:=A2g r (D6 k+1);dsimp only;generalize Q9 q (if D6 k=3 then 4 else D6 k)=A at h1 ⊢;generalize Q9 r (D6 k+1)=B at h2 ⊢;generalize C8 (C4.getD (k-12).toNat [])=W;generalize D6 k=lv;repeat' split
  all_goals simp only [List.length_append,List.length_singleton,I0,V8,List.map_cons,List.map_nil,List.sum_cons,List.sum_nil]
  all_goals omega
 | q :: r :: w :: l =>
  dsimp only;repeat' split
  all_goals simp only [List.length_append,List.length_singleton,I0,V8]
  all_goals omega
theorem A8o:∀ e:Ex,1<=(exT e).length/\(exT e).length<=5 * e.sz
 | .mk k v n a p=>by
  have ih:∀ x∈a,(exT x).length<=5 * x.sz:=fun x hx=>(A8o x).2;have h:=buildT_len (k:=k) (v:=v) (n:=n) (as1:=exTs a);rw [exT];refine ⟨h.1,?_⟩;have h2:((exTs a).map fun q=>q.2.length).sum<=5 * Ex.szs a:=by
   rw [A5k,List.map_map,Ex.szs_map];clear h
   induction a with
   | nil=>simp
   | cons x l ihl =>
    have h1:=ih x List.mem_cons_self;have h2:=ihl fun y hy=>ih y (List.mem_cons_of_mem _ hy);simp only [List.map_cons,List.sum_cons,Function.comp] at h2 ⊢;omega
  rw [Ex.sz];omega
theorem agT_le (l:List Ex) (i:Nat):1<=(agT l i).length/\(agT l i).length<=1+5 * Ex.szs l:=by
 unfold agT;cases h:l[i]? with
 | none=>exact ⟨Nat.le_refl _,by show 1<=_;omega⟩
 | some e =>
  have h1:=A8o e;have h2:=Ex.szs_mem (List.mem_of_getElem? h);dsimp only;omega
mutual
theorem A3s:∀ s:St,1<=(stT s).length/\(stT s).length<=11 * s.sz
 | .mk k n t a x y p=>by
  have h0:=agT_le a 0;have h1:=agT_le a 1;have hx:=Z4 x;have hy:∀ l,l=y->(A0o l).length<=11 * St.szs l:=fun l h=>by subst h;exact Z4 l
  have hq:∀ q,y=[q]->(stT q).length<=11 * q.sz:=fun q h=>by subst h;exact (A3s q).2
  rw [St.sz];unfold stT;dsimp only;generalize agT a 0=A at h0 ⊢;generalize agT a 1=B at h1 ⊢;generalize A0o x=X at hx ⊢;generalize C8 (B6.getD (k-2).toNat [])=W
  match y,hy,hq with
  | [],hy,hq =>
   dsimp only;rw [St.szs];repeat' split
   all_goals simp only [List.length_append,List.length_singleton,I0,A2b]
   all_goals omega
  | [q],hy,hq =>
   have hq:=hq q rfl;dsimp only;rw [St.szs,St.szs];generalize stT q=Q at hq ⊢;repeat' split
   all_goals simp only [List.length_append,List.length_singleton,I0,A2b]
   all_goals omega
  | q :: q2 :: r,hy,hq =>
   have hy:=hy _ rfl;dsimp only;generalize A0o (q :: q2 :: r)=Y at hy ⊢;generalize St.szs (q :: q2 :: r)=z at hy ⊢;repeat' split
   all_goals simp only [List.length_append,List.length_singleton,I0,A2b]
   all_goals omega
theorem Z4:∀ l:List St,(A0o l).length<=11 * St.szs l
 | []=>Nat.zero_le _
 | s :: l=>by
  have h1:=A3s s;have h2:=Z4 l;rw [A0o,St.szs,List.length_append];omega
end
theorem A8q (l:List St):1<=(blT l).length/\(blT l).length<=11 * St.szs l+2:=by
 have:=Z4 l;unfold blT;simp only [List.length_append,List.length_singleton];omega
theorem dcT_len (d:Dc):1<=(dcT d).length/\(dcT d).length<=6:=by
 unfold dcT;dsimp only;generalize C8 (C5.getD (d.kind-1).toNat [])=W;repeat' split
 all_goals simp only [List.length_append,List.length_singleton,I0,V8]
 all_goals (first|omega|simp)
theorem hdT_len (h:Hd):1<=(hdT h).length/\(hdT h).length<=11 * h.sz:=by
 have:=A8q h.body;unfold hdT Hd.sz;generalize C8 (C9.getD (h.trig-1).toNat [])=W;split
 ·simp only [List.length_append,List.length_cons,List.length_nil,I0];omega
 ·simp only [List.length_append,List.length_cons,List.length_nil];omega
theorem A4d {α : Type} {f : α -> List Tok} {g : α -> Nat} {c:Nat}:∀ {l:List α},(∀ x∈l,(f x).length<=c * g x)->(l.flatMap f).length<=c * (l.map g).sum
 | [],_=>by simp
 | a :: l,h=>by
  have h1:=h a List.mem_cons_self;have h2:=A4d (l:=l) fun x hx=>h x (List.mem_cons_of_mem _ hx);rw [List.flatMap_cons,List.length_append,List.map_cons,List.sum_cons,Nat.mul_add];omega
theorem mdT_len (m:Md):1<=(mdT m).length/\(mdT m).length<=11 * m.sz:=by
 have:=A4d (l:=m.hds) (f:=hdT) (g:=Hd.sz) (c:=11) fun x _=>(hdT_len x).2;unfold mdT Md.sz;simp only [List.length_append,List.length_singleton,I0,V8];omega
theorem ruT_len (r:Ru):(ruT r).length<=11 * r.sz+1/\(r.decls.flatMap dcT++r.modes.flatMap mdT).length<=11 * r.sz:=by
 have h1:=A4d (l:=r.decls) (f:=dcT) (g:=Dc.sz) (c:=11) fun x _=>by have:=dcT_len x;unfold Dc.sz;omega
 have h2:=A4d (l:=r.modes) (f:=mdT) (g:=Md.sz) (c:=11) fun x _=>(mdT_len x).2;have h3:(r.decls.flatMap dcT++r.modes.flatMap mdT).length<=11 * r.sz:=by
  unfold Ru.sz;rw [List.length_append];omega
 refine ⟨?_,h3⟩;unfold ruT;split
 ·show 1<=_;omega
 ·omega
end Go.Pb
namespace Go.Pb
variable [Go.Sym.Tab]
open Go.Sym
section
variable {L:List Tok} {E:Int}
theorem name_le {s:List UInt8} (h:D3 s=true):s.length<=12:=by
 unfold D3 at h;simp only [Bool.and_eq_true,decide_eq_true_eq] at h;exact h.1.1.1.2
theorem A0g (hG:∀ t∈L,P8 t) {s:Rd}:(A6 L E s 1).1.text.length<=12:=by
 cases h:F5 L E s 1 with
 | false=>unfold A6;rw [if_pos h];exact Nat.zero_le _
 | true =>
  unfold A6;rw [if_neg (by rw [h];decide)];exact name_le ((hG _ (I7 (by decide) (K6 h).2).1).1 (K6 h).2)
theorem take_tx (hG:∀ t∈L,P8 t) {s:Rd}:(A6 L E s 4).1.text.length<=32:=by
 cases h:F5 L E s 4 with
 | false=>unfold A6;rw [if_pos h];exact Nat.zero_le _
 | true =>
  unfold A6;rw [if_neg (by rw [h];decide)];have:=(hG _ (I7 (by decide) (K6 h).2).1).2.2 (K6 h).2;unfold T7 at this;simp only [Bool.and_eq_true,decide_eq_true_eq] at this;exact this.2
theorem prim_sz (hG:∀ t∈L,P8 t) {s:Rd}:(I3 L E s).1.sz+13 * s.i<=13 * (I3 L E s).2.i+1:=by
 have hge:=prim_ge (L:=L) (E:=E) (s:=s);have h2:(B7 L E { s with ops:=s.ops+1 } (s.ops+1) 32 9).i=s.i:=F0;unfold I3 at hge ⊢;dsimp only at hge ⊢;split
 ·rename_i hc;rw [if_pos hc] at hge;show 1+0+0+_<=_;have:s.i<=(J2 L E s).i:=hge;show 1+0+0+13 * s.i<=13 * (J2 L E s).i+1;omega
 ·rename_i hc;rw [if_neg hc] at hge;split
  ·show 1+0+0+13 * s.i<=13 * (B7 L E { s with ops:=s.ops+1 } (s.ops+1) 32 9).i+1;omega
  ·have h3:(A8 (B7 L E { s with ops:=s.ops+1 } (s.ops+1) 32 9)).i=s.i+1:=by show (B7 L E { s with ops:=s.ops+1 } (s.ops+1) 32 9).i+1=_;rw [h2]
   generalize A8 (B7 L E { s with ops:=s.ops+1 } (s.ops+1) 32 9)=s3 at h3;have h4:=G4 (L:=L) (E:=E) (s:=s3) (x:=1);have h5:=A0g (L:=L) (E:=E) hG (s:=s3);split
   ·split
    ·show 1+(A6 L E s3 1).1.text.length+0+13 * s.i<=13 * (A6 L E s3 1).2.i+1;omega
    ·show 1+0+0+13 * s.i<=13 * s3.i+1;omega
   ·rename_i hk;split
    ·show 1+0+0+13 * s.i<=13 * s3.i+1;omega
    ·rename_i hk3;have h1k:F5 L E s 1=true:=by
      cases hz:F5 L E s 1 with
      | true=>rfl
      | false =>
       refine absurd ⟨by omega,?_,hz⟩ hc;cases hy:F5 L E s 3 with
       | false=>rfl
       | true=>exact absurd (K6 hy).2 hk3
     have:=name_le ((hG _ (I7 (by decide) (K6 h1k).2).1).1 (K6 h1k).2);show 1+(A3 L E s).text.length+0+13 * s.i<=13 * s3.i+1;omega
theorem EZ.all (hG:∀ t∈L,P8 t):∀ f:Nat,(∀ n s r,E5 L E f n s=some r->r.1.sz+13 * s.i<=13 * r.2.i+1)/\(∀ n e s r,K2 L E f n e s=some r->r.1.sz+13 * s.i<=13 * r.2.i+e.sz)/\(∀ s r,J6 L E f s=some r->r.1.sz+13 * s.i<=13 * r.2.i+1)
 | 0=>⟨fun n s r h=>by simp [E5] at h,fun n e s r h=>by simp [K2] at h,fun s r h=>by simp [J6] at h⟩
 | f+1=>by
  obtain ⟨i1,i2,i3⟩:=EZ.all hG f;refine ⟨fun n s r h=>?_,fun n e s r h=>?_,fun s r h=>?_⟩
  ·unfold E5 at h;split at h
   ·exact i3 _ _ h
   ·split at h
    ·cases h
    ·rename_i hb;have h1:=i1 _ _ _ hb;have h2:=i2 _ _ _ _ h;dsimp only at h1;omega
  ·unfold K2 at h;dsimp only at h;split at h
   ·cases h;dsimp only;omega
   ·split at h
    ·cases h
    ·rename_i x s1 hb;have h1:=i1 _ _ _ hb;have h1:x.sz+13 * (s.i+1)<=13 * s1.i+1:=h1;have h3:(Ex.mk (12+B4 L E s C4) 0 [] [e,x] (A3 L E s).pos).sz=1+e.sz+x.sz:=by rw [Ex.sz,Ex.szs,Ex.szs,Ex.szs];simp;omega
     split at h
     ·cases h;rw [h3];show 1+e.sz+x.sz+13 * s.i<=13 * s1.i+e.sz;omega
     ·have h2:=i2 _ _ _ _ h;rw [h3] at h2;omega
  ·unfold J6 at h;dsimp only at h;split at h
   ·cases h;exact prim_sz hG
   ·split at h
    ·cases h;show 1+0+0+13 * s.i<=13 * (B7 L E s (s.par+1) 16 50).i+1;rw [F0];omega
    ·rename_i hl;have hl:okR (B7 L E s (s.par+1) 16 50)=true:=by simpa using hl
     obtain ⟨-, -,h3⟩:=I1 (by decide) hl;rw [h3] at h;split at h
     ·split at h
      ·cases h
      ·rename_i e s3 hb;cases h;have h1:=i1 _ _ _ hb;have h1:e.sz+13 * (s.i+1)<=13 * s3.i+1:=h1;have h2:=D7 (L:=L) (E:=E) (s:=s3) (x:=[41]);show e.sz+13 * s.i<=13 * (C1 L E s3 [41]).i+1;omega
     ·split at h
      ·cases h
      ·rename_i e s3 hb;cases h;have h1:=i3 _ _ hb;have h1:e.sz+13 * (s.i+1)<=13 * s3.i+1:=h1;have h4:(Ex.mk (10+B4 L E s P5) 0 [] [e] (A3 L E s).pos).sz=1+e.sz:=by rw [Ex.sz,Ex.szs,Ex.szs];simp
       rw [h4];show 1+e.sz+13 * s.i<=13 * s3.i+1;omega
theorem A0k (hG:∀ t∈L,P8 t) {f:Nat} {s:Rd} {r:Ex × Rd} (h:F2 L E f s=some r):r.1.sz+13 * s.i<=13 * r.2.i+1:=(EZ.all hG f).1 1 { s with ops:=0,par:=0 } r h
theorem A0q (k p:Int) (n t:List UInt8) (a:List Ex) (x y:List St):(St.mk k n t a x y p).sz=1+n.length+t.length+Ex.szs a+St.szs x+St.szs y:=by rw [St.sz]
theorem tail_sz (hG:∀ t∈L,P8 t) {f:Nat} {k p:Int} {s:Rd} {r:St × Rd} (h:P6 L E f k p s=some r):r.1.sz+100 * s.i<=100 * r.2.i+40:=by
 have t1:=A0g (L:=L) (E:=E) hG (s:=s);have t4:=take_tx (L:=L) (E:=E) hG (s:=s);have g1:=G4 (L:=L) (E:=E) (s:=s) (x:=1);have g4:=G4 (L:=L) (E:=E) (s:=s) (x:=4);unfold P6 at h;dsimp only at h;split at h
 ·split at h
  ·cases h
  ·rename_i e s1 he;cases h;have h1:=A0k hG he;have h2:=D7 (L:=L) (E:=E) (s:=s1) (x:=[59]);rw [A0q,Ex.szs,Ex.szs,St.szs];simp only [List.length_nil] at h1 ⊢;omega
 split at h
 ·split at h
  ·cases h
  ·rename_i e s1 he;cases h;have h1:=A0k hG he;have h2:=D7 (L:=L) (E:=E) (s:=s1) (x:=[59]);have h3:=D7 (L:=L) (E:=E) (s:=(A6 L E s 4).2) (x:=[44]);rw [A0q,Ex.szs,Ex.szs,St.szs];simp only [List.length_nil] at h1 ⊢;omega
 split at h
 ·cases h;have h2:=D7 (L:=L) (E:=E) (s:=s) (x:=[59]);rw [A0q,Ex.szs,St.szs];simp only [List.length_nil];omega
 split at h
 ·split at h
  ·cases h
  ·rename_i e s1 he;have h1:=A0k hG he;split at h
   ·split at h
    ·cases h
    ·rename_i e2 s2 he2;cases h;have h4:=A0k hG he2;have h2:=D7 (L:=L) (E:=E) (s:=s2) (x:=[59]);have h3:=D7 (L:=L) (E:=E) (s:=s1) (x:=[44]);rw [A0q,Ex.szs,Ex.szs,Ex.szs,St.szs];simp only [List.length_nil] at h1 h4 ⊢;omega
   ·cases h;have h2:=D7 (L:=L) (E:=E) (s:=s1) (x:=[59]);rw [A0q,Ex.szs,Ex.szs,St.szs];simp only [List.length_nil] at h1 ⊢;omega
 ·cases h;have h2:=D7 (L:=L) (E:=E) (s:=(A6 L E s 1).2) (x:=[59]);rw [A0q,Ex.szs,St.szs];simp only [List.length_nil];omega
theorem szs_app:∀ (l:List St) (x:St),St.szs (l++[x])=St.szs l+x.sz
 | [],x=>by simp [St.szs]
 | a :: l,x=>by rw [List.cons_append,St.szs,St.szs,szs_app l x];omega
theorem SZ.all (hG:∀ t∈L,P8 t):∀ f:Nat,(∀ d s r,E9 L E f d s=some r->St.szs r.1+100 * s.i<=100 * r.2.i+40) /\
  (∀ d l s r,J0 L E f d l s=some r->St.szs r.1+100 * s.i<=100 * r.2.i+St.szs l+40/\(okR s=false->St.szs r.1<=St.szs l)) /\
  (∀ d s r,G5 L E f d s=some r->r.1.sz+100 * s.i<=100 * r.2.i+40/\(r.1.sz+100 * s.i<=100 * r.2.i\/okR r.2=false/\r.1.sz<=40)/\s.i<=r.2.i) /\
  (∀ d s r,K9 L E f d s=some r->St.szs r.1+100 * s.i<=100 * r.2.i+40)
 | 0=>⟨fun d s r h=>by simp [E9] at h,fun d l s r h=>by simp [J0] at h,fun d s r h=>by simp [G5] at h,fun d s r h=>by simp [K9] at h⟩
 | f+1=>by
  obtain ⟨i1,i2,i3,i4⟩:=SZ.all hG f;refine ⟨fun d s r h=>?_,fun d l s r h=>?_,fun d s r h=>?_,fun d s r h=>?_⟩
  ·unfold E9 at h;have h1:=(i2 _ _ _ _ h).1;have h2:=D7 (L:=L) (E:=E) (s:=s) (x:=[123]);rw [St.szs] at h1;omega
  ·unfold J0 at h;split at h
   ·rename_i hc;refine ⟨?_,fun h0=>by rw [h0] at hc;cases hc.1⟩;split at h
    ·cases h;show St.szs []+100 * s.i<=100 * (J2 L E s).i+St.szs l+40;rw [Q8,St.szs];omega
    ·split at h
     ·cases h
     ·rename_i x s1 he;obtain ⟨h1,h2⟩:=i2 _ _ _ _ h;obtain ⟨h3,h4,h5⟩:=i3 _ _ _ he;rw [F0] at h3 h4 h5;rw [szs_app] at h1 h2;dsimp only at h3 h4 h5;rcases h4 with h4|⟨h4,h6⟩
      ·omega
      ·have h7:=h2 h4;have h8:s1.i<=r.2.i:=by
        obtain ⟨N,hN⟩:=(ST.all (L:=L) (E:=E) _).2 d (l++[x]) s1 (Nat.le_refl _);obtain ⟨⟨M,hM⟩,hg⟩:=hN;have h9:okR s1=false:=h4;have hfr:Z2 L E d (l++[x]) s1 (l++[x],C1 L E s1 [125]):=Z2.stop (by rw [h9];simp);cases f with
        | zero=>simp [J0] at h
        | succ f =>
         rw [J0,if_neg (by rw [h9];simp)] at h;cases h;exact D7
       omega
   ·rename_i hc;cases h;have h2:=D7 (L:=L) (E:=E) (s:=s) (x:=[125]);exact ⟨by dsimp only;omega,fun _=>Nat.le_refl _⟩
  ·have hst:=(ST.all (L:=L) (E:=E) (L.length-s.i)).1 d s (Nat.le_refl _);unfold G5 at h;dsimp only at h;split at h
   ·rename_i hl;cases h;have e1:St0.sz=1:=by unfold St0;rw [A0q,Ex.szs,St.szs];rfl
    refine ⟨?_,.inr ⟨hl,by show St0.sz<=40;omega⟩,?_⟩
    ·show St0.sz+100 * s.i<=100 * (B7 L E s d 8 50).i+40;rw [F0];omega
    ·show s.i<=(B7 L E s d 8 50).i;rw [F0];exact Nat.le_refl _
   rename_i hl;have hl:okR (B7 L E s d 8 50)=true:=by simpa using hl
   obtain ⟨hs,hd,hle⟩:=I1 (by decide) hl;rw [hle] at h;split at h
   ·split at h
    ·cases h
    ·rename_i e s1 he;cases h;have h1:=A0k hG he;have h2:=D7 (L:=L) (E:=E) (s:=s1) (x:=[59]);have h3:=D7 (L:=L) (E:=E) (s:=(A6 L E s 1).2) (x:=[61]);have h4:=G4 (L:=L) (E:=E) (s:=s) (x:=1);have h5:=A0g (L:=L) (E:=E) hG (s:=s);have hsz:(St.mk 1 (A6 L E s 1).1.text [] [e] [] [] (A3 L E s).pos).sz=1+(A6 L E s 1).1.text.length+e.sz:=by
      rw [A0q,Ex.szs,Ex.szs,St.szs];simp
     rw [hsz];dsimp only at h1 ⊢;refine ⟨by omega,?_,by omega⟩;by_cases ht:F5 L E s 1=true
     ·have h6:(A6 L E s 1).2.i=s.i+1:=by unfold A6;rw [if_neg (by rw [ht];decide)];rfl
      exact .inl (by omega)
     ·have ht:F5 L E s 1=false:=by simpa using ht
      have h6:(A6 L E s 1).2=J2 L E s:=by unfold A6;rw [if_pos ht]
      by_cases hp:1<=(C1 L E s1 [59]).i-s.i
      ·exact .inl (by omega)
      ·refine .inr ⟨?_,by omega⟩;cases hz:okR (C1 L E s1 [59]) with
       | false=>rfl
       | true =>
        have h7:=(A8n hz).2;have h8:(C1 L E s1 [59]).i=s1.i+1:=by rw [h7];rfl
        omega
   ·rename_i hk;obtain ⟨-,hi, -,hk18⟩:=G3 (show 0<=B4 L E s B6 by omega);have hn:(A8 s).i=s.i+1:=rfl;split at h
    ·split at h
     ·cases h
     ·rename_i e s2 he;split at h
      ·cases h
      ·rename_i t s3 ht;have h1:=A0k hG he;have h2:=i1 _ _ _ ht;rw [hn] at h1;dsimp only at h1 h2;split at h
       ·split at h
        ·cases h
        ·rename_i o s4 ho;cases h;have h3:=i4 _ _ _ ho;have h3:St.szs o+100 * (s3.i+1)<=100 * s4.i+40:=h3;have hsz:(St.mk 2 [] [] [e] t o (A3 L E s).pos).sz=1+e.sz+St.szs t+St.szs o:=by
          rw [A0q,Ex.szs,Ex.szs];simp
         rw [hsz];dsimp only;exact ⟨by omega,.inl (by omega),by omega⟩
       ·cases h;have hsz:(St.mk (2+B4 L E s B6) [] [] [e] t [] (A3 L E s).pos).sz=1+e.sz+St.szs t:=by
         rw [A0q,Ex.szs,Ex.szs,St.szs];simp
        rw [hsz];dsimp only;exact ⟨by omega,.inl (by omega),by omega⟩
    ·have h1:=tail_sz hG h;rw [hn] at h1;exact ⟨by omega,.inl (by omega),by omega⟩
  ·unfold K9 at h;split at h
   ·split at h
    ·cases h
    ·rename_i x s1 he;cases h;have h1:=(i3 _ _ _ he).1;rw [St.szs,St.szs];dsimp only at h1 ⊢;omega
   ·exact i1 _ _ _ h
end
end Go.Pb
namespace Go.Pb
variable [Go.Sym.Tab]
open Go.Sym
section
variable {L:List Tok} {E:Int}
theorem dcl_sz (hG:∀ t∈L,P8 t) {k:Int} {s:Rd}:(S4 L E k s).1.sz<=13:=by
 have h:=A0g (L:=L) (E:=E) hG (s:=A8 s);unfold S4 Dc.sz;dsimp only;split
 ·dsimp only;omega
 ·dsimp only;omega
theorem A7p {α : Type} (f : α -> Nat) (l:List α) (x : α):((l++[x]).map f).sum=(l.map f).sum+f x:=by simp
theorem mlp_sz (hG:∀ t∈L,P8 t):∀ (f:Nat) (l:List Hd) (s:Rd) (r:List Hd × Rd),L9 L E f l s=some r->(r.1.map Hd.sz).sum+100 * s.i<=100 * r.2.i+(l.map Hd.sz).sum
 | 0,l,s,r,h=>by simp [L9] at h
 | f+1,l,s,r,h=>by
  unfold L9 at h;dsimp only at h;split at h
  ·split at h
   ·cases h;show (l.map Hd.sz).sum+100 * s.i<=100 * (J2 L E s).i+_;rw [Q8];omega
   ·have h1:(B7 L E s ((l.length:Int)+1) 32 9).i=s.i:=F0;generalize B7 L E s ((l.length:Int)+1) 32 9=s1 at h h1;split at h
    ·cases h;have h2:=D7 (L:=L) (E:=E) (s:=s1) (x:=[111,110]);show (l.map Hd.sz).sum+100 * s.i<=100 * (J2 L E (C1 L E s1 [111,110])).i+_;rw [Q8];omega
    ·rename_i hk;obtain ⟨hok,hi, -⟩:=G3 (show 0<=B4 L E (C1 L E s1 [111,110]) C9 by omega);have h3:(C1 L E s1 [111,110]).i=s1.i+1:=by rw [(A8n hok).2];rfl
     generalize C1 L E s1 [111,110]=s2 at h hk h3;have h4:=G4 (L:=L) (E:=E) (s:=A8 s2) (x:=1);have h5:=A0g (L:=L) (E:=E) hG (s:=A8 s2);have h6:(A8 s2).i=s2.i+1:=rfl;split at h
     ·cases h
     ·rename_i b s5 hb;have h7:=(SZ.all hG f).1 _ _ _ hb;have h8:=mlp_sz hG f _ _ _ h;rw [A7p] at h8;have h9:s2.i+1<=(if 2<=B4 L E s2 C9 then (A6 L E (A8 s2) 1).2 else A8 s2).i:=by
       split
       ·omega
       ·omega
      have h10:(if 2<=B4 L E s2 C9 then (A6 L E (A8 s2) 1).1.text else []).length<=12:=by
       split
       ·exact h5
       ·exact Nat.zero_le _
      have h11:Hd.sz ⟨1+B4 L E s2 C9,if 2<=B4 L E s2 C9 then (A6 L E (A8 s2) 1).1.text else [],b,(A3 L E s1).pos⟩<=13+St.szs b:=by
       unfold Hd.sz;dsimp only;omega
      dsimp only at h7 h8;omega
  ·cases h;have h2:=D7 (L:=L) (E:=E) (s:=s) (x:=[125]);dsimp only;omega
theorem mod_sz (hG:∀ t∈L,P8 t) {f:Nat} {s:Rd} {r:Md × Rd} (h:Z8 L E f s=some r) (hm:isR L E s [109,111,100,101]=true):r.1.sz+100 * s.i<=100 * r.2.i:=by
 unfold Z8 at h;dsimp only at h;split at h
 ·cases h
 ·rename_i l s3 hml;cases h;have h1:=mlp_sz hG _ _ _ _ hml;have h2:(C1 L E s [109,111,100,101]).i=s.i+1:=by unfold C1;rw [if_neg (by rw [hm];decide)];rfl
  generalize C1 L E s [109,111,100,101]=s1 at h1 h2 ⊢;have h3:=A0g (L:=L) (E:=E) hG (s:=s1);have h4:=G4 (L:=L) (E:=E) (s:=s1) (x:=1);have h5:=G4 (L:=L) (E:=E) (s:=(A6 L E s1 1).2) (x:=3);have h6:=D7 (L:=L) (E:=E) (s:=(A6 L E (A6 L E s1 1).2 3).2) (x:=[123]);unfold Md.sz;dsimp only at h1 ⊢;simp only [List.map_nil,List.sum_nil] at h1;omega
theorem rld_sz (hG:∀ t∈L,P8 t):∀ (f:Nat) (l:List Dc) (s:Rd) (r:List Dc × Rd),O0 L E f l s=some r->(r.1.map Dc.sz).sum+100 * s.i<=100 * r.2.i+(l.map Dc.sz).sum
 | 0,l,s,r,h=>by simp [O0] at h
 | f+1,l,s,r,h=>by
  unfold O0 at h;dsimp only at h;split at h
  ·cases h;dsimp only;omega
  ·have h1:(B7 L E s ((l.length:Int)+1) 128 9).i=s.i:=F0;split at h
   ·have h2:=rld_sz hG f _ _ _ h;rw [A7p] at h2;have h3:=dcl_sz (L:=L) (E:=E) hG (k:=B4 L E s C5) (s:=B7 L E s ((l.length:Int)+1) 128 9);have h4:=dcl_ge (L:=L) (E:=E) (k:=B4 L E s C5) (s:=B7 L E s ((l.length:Int)+1) 128 9);omega
   ·have h2:=rld_sz hG f _ _ _ h;omega
theorem rlm_sz (hG:∀ t∈L,P8 t):∀ (f:Nat) (l:List Md) (s:Rd) (r:List Md × Rd),L8 L E f l s=some r->(r.1.map Md.sz).sum+100 * s.i<=100 * r.2.i+(l.map Md.sz).sum
 | 0,l,s,r,h=>by simp [L8] at h
 | f+1,l,s,r,h=>by
  unfold L8 at h;dsimp only at h;split at h
  ·split at h
   ·cases h;show (l.map Md.sz).sum+100 * s.i<=100 * (J2 L E s).i+_;rw [Q8];omega
   ·rename_i hm;have hm:isR L E s [109,111,100,101]=true:=by simpa using hm
    split at h
    ·rename_i hl;have e0:=(I1 (by decide) hl).2.2;rw [e0] at h;split at h
     ·cases h
     ·rename_i m s2 hmd;have h1:=mod_sz hG hmd hm;have h2:=rlm_sz hG f _ _ _ h;rw [A7p] at h2;dsimp only at h1;omega
    ·have h1:(B7 L E s ((l.length:Int)+1) 16 9).i=s.i:=F0;have h2:=rlm_sz hG f _ _ _ h;omega
  ·cases h;dsimp only;omega
theorem rul_sz (hG:∀ t∈L,P8 t) {f:Nat} {s:Rd} {r:Ru × Rd} (h:A0x L E f s=some r) (hi:s.i<=L.length):r.1.sz<=100 * L.length:=by
 unfold A0x at h;split at h
 ·cases h
 ·rename_i d s1 hd;split at h
  ·cases h
  ·rename_i m s2 hm;cases h;have h1:=rld_sz hG _ _ _ _ hd;have h2:=rlm_sz hG _ _ _ _ hm;have h3:=rlm_i _ _ _ _ hm (rld_i _ _ _ _ hd hi);unfold Ru.sz;simp only [List.map_nil,List.sum_nil] at h1 h2 h3 ⊢;omega
end
theorem rulF_sz {L:List Tok} {E:Int} (hG:∀ t∈L,P8 t):(Z5 L E).1.sz<=100 * L.length:=by
 obtain ⟨f,hf⟩:=(A7u L E).get;exact rul_sz hG hf (Nat.zero_le _)
theorem parM_sz (s:List UInt8):(M8 s).1.sz<=2000000:=by
 unfold M8;dsimp only;split
 ·show 0+0<=_;omega
 ·rename_i h;have h:(B9 s).2.2=0:=by simpa using h
  have h1:=A3t h;split
  ·show 0+0<=_;omega
  ·have:=rulF_sz (E:=s.length) (scanT_good h);dsimp only;omega
end Go.Pb
namespace Go.Pb
variable [Go.Sym.Tab]
open Go.Sym
def hd0 (E:Int) (ts:List Tok):Tok:=ts.headD ⟨0,[],0,E⟩
section
variable {L:List Tok} {E:Int}
theorem ms_inv {k v:Int} {n:List UInt8} {a:List Ex} {p:Int} {o d:Nat} (h:msM (.mk k v n a p)=some (o,d)) :
  kOk k=true/\a.length=L6 k/\A1m k n=true/\A4j k v=true/\(L6 k=0->o=1/\d=0)/\(L6 k≠0->∃ d',msL k 0 a=some (o,d')/\d=if L6 k=1 then d'+1 else d'):=by
 unfold msM at h;split at h
 ·cases h
 ·rename_i hc;have h1:kOk k=true:=by cases hz:kOk k with|true=>rfl|false=>exact absurd (.inl hz) hc
  have h2:a.length=L6 k:=Classical.byContradiction fun hz=>hc (.inr (.inl hz));have h3:A1m k n=true:=by cases hz:A1m k n with|true=>rfl|false=>exact absurd (.inr (.inr (.inl hz))) hc
  have h4:A4j k v=true:=by cases hz:A4j k v with|true=>rfl|false=>exact absurd (.inr (.inr (.inr hz))) hc
  refine ⟨h1,h2,h3,h4,?_,?_⟩
  ·intro h0;rw [if_pos h0] at h;cases h;exact ⟨rfl,rfl⟩
  ·intro h0;rw [if_neg h0] at h;split at h
   ·cases h
   ·rename_i o' d' hm;cases h;exact ⟨d',hm,rfl⟩
end
end Go.Pb
namespace Go.Pb
variable [Go.Sym.Tab]
open Go.Sym
mutual
theorem ms_le:∀ (e:Ex) (o d:Nat),msM e=some (o,d)->o<=e.sz/\d+1<=2 * e.sz
 | .mk k v n a p,o,d,h=>by
  have hs:(Ex.mk k v n a p).sz=1+n.length+Ex.szs a:=by rw [Ex.sz]
  obtain ⟨h1,h2,h3,h4,h5,h6⟩:=ms_inv h;by_cases hc:L6 k=0
  ·obtain ⟨rfl,rfl⟩:=h5 hc;omega
  ·obtain ⟨d',hl,hd⟩:=h6 hc;have:=msL_le k 0 a o d' hl;rw [hd];split<;>omega
theorem msL_le:∀ (k:Int) (i:Nat) (l:List Ex) (o d:Nat),msL k i l=some (o,d)->o<=Ex.szs l/\d<=2 * Ex.szs l
 | k,i,[],o,d,h=>by simp [msL] at h;omega
 | k,i,e :: l,o,d,h=>by
  rw [msL] at h;have hs:Ex.szs (e :: l)=e.sz+Ex.szs l:=by rw [Ex.szs]
  have hp:=e.sz_pos;cases he:msM e with
  | none=>rw [he] at h;cases h
  | some q =>
   obtain ⟨o1,d1⟩:=q;have h1:=ms_le e o1 d1 he;rw [he] at h;dsimp only at h;cases hl:msL k (i+1) l with
   | none=>rw [hl] at h;cases h
   | some q2 =>
    obtain ⟨o2,d2⟩:=q2;have h2:=msL_le k (i+1) l o2 d2 hl;rw [hl] at h;dsimp only at h;have h3:=Option.some.inj h;have h4:o1+o2=o:=congrArg Prod.fst h3;have h5:max (if Y6 k e.kind i=true then d1+1 else d1) d2=d:=congrArg Prod.snd h3;rw [hs];split at h5<;>omega
end
def msV:Option (Nat × Nat)->DV
 | none=>.tup [I64 0,I64 0,.bool false]
 | some (o,d)=>.tup [I64 o,I64 d,.bool true]
theorem msV_nl (q:Option (Nat × Nat)):(msV q).nl=true:=by cases q<;>rfl
theorem msL_drop {k:Int} {a:List Ex} {i:Nat} {x:Ex} (h:a[i]? = some x):msL k i (a.drop i)=match msM x with
  | none=>none
  | some (o,d)=>match msL k (i+1) (a.drop (i+1)) with
   | none=>none
   | some (o2,d2)=>some (o+o2,max (if Y6 k x.kind i=true then d+1 else d) d2):=by
 have hlt:=(List.getElem?_eq_some_iff.1 h).1;rw [List.drop_eq_getElem_cons hlt,(List.getElem?_eq_some_iff.1 h).2,msL];try rfl
end Go.Pb
namespace Go.Pb
variable [Go.Sym.Tab]
open Go.Sym
def O2:List (List UInt8)->List Int->Int->List UInt8
 | w :: ks,v :: vs,x=>if v=x then w else O2 ks vs x
 | _,_,_=>[]
theorem A4a:∀ {ks:List (List UInt8)} {vs:List Int} {x:Int} {i:Nat} {w:List UInt8},vs.Nodup->ks[i]? = some w->vs[i]? = some x->O2 ks vs x=w
 | a :: ks,b :: vs,x,0,w,hn,h1,h2=>by simp at h1 h2;simp [O2,h1,h2]
 | a :: ks,b :: vs,x,i+1,w,hn,h1,h2=>by
  simp only [List.getElem?_cons_succ] at h1 h2;have hne:b≠x:=fun e=>(List.nodup_cons.1 hn).1 (e▸List.mem_of_getElem? h2);rw [O2,if_neg hne];exact A4a (List.nodup_cons.1 hn).2 h1 h2
 | [],_,_,_,_,_,h1,_=>by simp at h1
 | _ :: _,[],_,_,_,_,_,h2=>by simp at h2
theorem A8j:∀ {ks:List (List UInt8)} {vs:List Int} {x:Int},(∀ (i:Nat) (v:Int),i<ks.length->vs[i]? = some v->v≠x)->O2 ks vs x=[]
 | [],_,_,_=>by unfold O2;rfl
 | _ :: _,[],_,_=>rfl
 | a :: ks,b :: vs,x,h=>by
  rw [O2,if_neg (h 0 b (by simp) rfl)];exact A8j fun i v hi hv=>h (i+1) v (by simpa using hi) (by simpa using hv)
def A4t (x:Int):List UInt8:=if x=10 then [45] else if x=11 then [33] else O2 C4 A6b x
def wrL (k q:Int) (i:Nat) (l:List (List UInt8)):List (List UInt8):=if Y6 k q i=true then [40] :: (l++[[41]]) else l
def txT (l:List Tok):List (List UInt8):=l.map R5
theorem I8 (s:List UInt8):R5 (C8 s)=s:=by
 unfold R5 C8;dsimp only;repeat' split
 all_goals first|rfl|omega|simp_all
theorem E2 (a b:List Tok):txT (a++b)=txT a++txT b:=List.map_append
theorem A7m {k q m:Int} {i:Nat} {l:List Tok} (h:Y6 k q i=decide (D6 q<m)):txT (Q9 (q,l) m)=wrL k q i (txT l):=by
 unfold Q9 wrL;rw [h];dsimp only;by_cases hc:D6 q<m
 ·rw [if_pos hc,if_pos (by simpa using hc),E2,E2];simp [txT,I8]
 ·rw [if_neg hc,if_neg (by simpa using hc)]
theorem A5l (k v:Int) (n:List UInt8) (a:List Ex) (p:Int):exT (.mk k v n a p)=I9 k v n (a.map fun e=>(e.kind,exT e)):=by rw [<- A5k];exact exT.eq_1 ..
theorem tx_un {k v:Int} {n:List UInt8} {x:Ex} {p:Int} (hk:k=10\/k=11):txT (exT (.mk k v n [x] p))=A4t k :: wrL k x.kind 0 (txT (exT x)):=by
 have hw:Y6 k x.kind 0=decide (D6 x.kind<6):=by
  unfold Y6;rw [A8i hk];simp
 rw [A5l, <- A7m hw];rcases hk with rfl|rfl<;>simp [I9,txT,I8,A4t,A8i]
theorem wrp0 (k q:Int):Y6 k q 0=decide (D6 q<if D6 k=3 then 4 else D6 k):=by
 rw [Bool.eq_iff_iff];simp only [Y6,Bool.or_eq_true,Bool.and_eq_true,decide_eq_true_eq,beq_iff_eq,Nat.zero_ne_one,false_or];split<;>omega
theorem wrp1 (k q:Int):Y6 k q 1=decide (D6 q<D6 k+1):=by
 rw [Bool.eq_iff_iff];simp only [Y6,Bool.or_eq_true,Bool.and_eq_true,decide_eq_true_eq,beq_iff_eq,true_or,and_true];omega
theorem tx_bin {k v:Int} {n:List UInt8} {x y:Ex} {p:Int} (hk:D6 k<6):txT (exT (.mk k v n [x,y] p))=wrL k x.kind 0 (txT (exT x))++A4t k :: wrL k y.kind 1 (txT (exT y)):=by
 rw [A5l, <- A7m (wrp0 k x.kind), <- A7m (wrp1 k y.kind)];obtain ⟨k1,k2⟩:=lev_lt (k:=k) (by omega);have k3:12<=k:=by
  apply Classical.byContradiction;intro hc;have:k=10\/k=11:=by omega
  rw [A8i this] at hk;omega
 have hs:C4.getD (k-12).toNat []=A4t k:=by
  obtain ⟨j,rfl⟩:∃ j:Nat,k=12+(j:Int):=⟨(k-12).toNat,by omega⟩;have hj:j<13:=by omega
  have:∀ j:Nat,j<13->C4.getD (12+(j:Int)-12).toNat []=A4t (12+(j:Int)):=by decide
  exact this j hj
 simp only [List.map_cons,List.map_nil];unfold I9;dsimp only;rw [if_neg (by omega),if_neg (by omega),if_neg (by omega),if_neg (by omega),if_neg (by omega),if_neg (by omega),if_neg (by omega),if_neg (by omega),if_neg (by omega),if_pos hk,E2,E2,hs];simp [txT,I8]
theorem tx_leaf {k v:Int} {n:List UInt8} {p:Int} (hk:D6 k=7) (h0:kOk k=true) (h1:A1m k n=true) (h2:A4j k v=true) :
  txT (exT (.mk k v n [] p))=if k=1 then [R8 v] else if k=2 then [n] else O2 F1 G8 k :: (if A1a k=true then [n] else []):=by
 have hr:1<=k/\k<=9:=by
  unfold kOk at h0;simp only [hk,Int.lt_irrefl,decide_false,Bool.false_or,Bool.and_eq_true,decide_eq_true_eq] at h0;refine ⟨h0.1,Classical.byContradiction fun hc=>?_⟩;have:D6 k<7:=by unfold D6;repeat' split;all_goals omega
  omega
 rw [A5l];have hk9:k=1\/k=2\/k=3\/k=4\/k=5\/k=6\/k=7\/k=8\/k=9:=by omega
 rcases hk9 with rfl|rfl|rfl|rfl|rfl|rfl|rfl|rfl|rfl
 ·have hv:¬ (v<0\/2147483647<v):=by
   unfold A4j at h2;simp at h2;omega
  simp [I9,A2i,hv,txT,R5]
 ·have hn:D3 n=true:=by simpa [A1m] using h1
  simp [I9,G2,hn,txT,R5]
 ·simp [I9,txT,I8,O2,F1,G8,A1a]
 ·simp [I9,txT,I8,O2,F1,G8,A1a]
 ·have hn:D3 n=true:=by simpa [A1m,A1a] using h1
  simp [I9,txT,I8,O2,F1,G8,A1a,G2,hn];rfl
 ·have hn:D3 n=true:=by simpa [A1m,A1a] using h1
  simp [I9,txT,I8,O2,F1,G8,A1a,G2,hn];rfl
 ·have hn:D3 n=true:=by simpa [A1m,A1a] using h1
  simp [I9,txT,I8,O2,F1,G8,A1a,G2,hn];rfl
 ·simp [I9,txT,I8,O2,F1,G8,A1a]
 ·simp [I9,txT,I8,O2,F1,G8,A1a]
theorem msL_some {k:Int}:∀ {a:List Ex} {j o d:Nat},msL k j a=some (o,d)->∀ x∈a, ∃ o d,msM x=some (o,d)
 | [],_,_,_,_,x,hx=>by cases hx
 | e :: l,j,o,d,h,x,hx=>by
  unfold msL at h;split at h
  ·cases h
  ·rename_i o1 d1 h1;split at h
   ·cases h
   ·rename_i o2 d2 h2;rcases List.mem_cons.1 hx with rfl|hx
    ·exact ⟨_,_,h1⟩
    ·exact msL_some h2 x hx
theorem M1 {s:List UInt8} (h:s.length<=100000):Fit (C8 s):=⟨h,by show -9223372036854775808<=(0:Int);decide,by show (0:Int)<=9223372036854775807;decide⟩
theorem A6y:Fit Q6:=⟨Nat.zero_le _,by show -9223372036854775808<=(0:Int);decide,by show (0:Int)<=9223372036854775807;decide⟩
theorem A0i (n:List UInt8):∀ t∈G2 n,Fit t:=by
 intro t ht;unfold G2 at ht;split at ht
 ·obtain rfl:=List.mem_singleton.1 ht;exact A6y
 ·rename_i hn;obtain rfl:=List.mem_singleton.1 ht;refine ⟨?_,by show -9223372036854775808<=(0:Int);decide,by show (0:Int)<=9223372036854775807;decide⟩;have h1:D3 n=true:=by cases h:D3 n with|true=>rfl|false=>exact absurd h hn
  unfold D3 at h1;simp only [Bool.and_eq_true,decide_eq_true_eq] at h1;show n.length<=100000;omega
theorem fit_num (v:Int):∀ t∈A2i v,Fit t:=by
 intro t ht;unfold A2i at ht;split at ht
 ·obtain rfl:=List.mem_singleton.1 ht;exact A6y
 ·obtain rfl:=List.mem_singleton.1 ht;exact ⟨Nat.zero_le _,by dsimp only;omega,by dsimp only;omega⟩
theorem A5i {q:Int × List Tok} {m:Int} (h:∀ t∈q.2,Fit t):∀ t∈Q9 q m,Fit t:=by
 intro t ht;unfold Q9 at ht;split at ht
 ·simp only [List.mem_append,List.mem_singleton] at ht;rcases ht with (rfl|ht)|rfl
  ·exact M1 (by decide)
  ·exact h t ht
  ·exact M1 (by decide)
 ·exact h t ht
theorem A0j {a b:List Tok} (h1:∀ t∈a,Fit t) (h2:∀ t∈b,Fit t):∀ t∈a++b,Fit t:=fun t ht=>by
 rcases List.mem_append.1 ht with h|h
 ·exact h1 t h
 ·exact h2 t h
theorem M9 {x:Tok} (h:Fit x):∀ t∈[x],Fit t:=fun t ht=>by obtain rfl:=List.mem_singleton.1 ht;exact h
theorem fit_build {k v:Int} {n:List UInt8} {as1:List (Int × List Tok)} (h:∀ q∈as1, ∀ t∈q.2,Fit t):∀ t∈I9 k v n as1,Fit t:=by
 have hsg:∀ i:Nat,(C4.getD i []).length<=100000:=fun i=>by
  by_cases hi:i<13
  ·have:∀ i:Nat,i<13->(C4.getD i []).length<=100000:=by decide
   exact this i hi
  ·rw [List.getD_eq_getElem?_getD,List.getElem?_eq_none (by show 13<=i;omega)];simp
 have fin:∀ t∈(match as1 with
  | [q]=>if D6 k=6 then [C8 (if k=10 then [45] else [33])]++Q9 q 6 else [Q6]
  | [q,r]=>if D6 k<6 then Q9 q (if D6 k=3 then 4 else D6 k)++[C8 (C4.getD (k-12).toNat [])]++Q9 r (D6 k+1) else [Q6]
  | _=>[Q6]),Fit t:=by
  match as1 with
  | [q] =>
   dsimp only;split
   ·refine A0j (M9 (M1 (by split<;>decide))) (A5i (h q (by simp)))
   ·exact M9 A6y
  | [q,r] =>
   dsimp only;split
   ·exact A0j (A0j (A5i (h q (by simp))) (M9 (M1 (hsg _)))) (A5i (h r (by simp)))
   ·exact M9 A6y
  | []=>exact M9 A6y
  | _ :: _ :: _ :: _=>exact M9 A6y
 unfold I9;dsimp only;by_cases k1:k=1
 ·rw [if_pos k1];exact fit_num v
 rw [if_neg k1];by_cases k2:k=2
 ·rw [if_pos k2];exact A0i n
 rw [if_neg k2];by_cases k3:k=3
 ·rw [if_pos k3];exact M9 (M1 (by decide))
 rw [if_neg k3];by_cases k4:k=4
 ·rw [if_pos k4];exact M9 (M1 (by decide))
 rw [if_neg k4];by_cases k8:k=8
 ·rw [if_pos k8];exact M9 (M1 (by decide))
 rw [if_neg k8];by_cases k9:k=9
 ·rw [if_pos k9];exact M9 (M1 (by decide))
 rw [if_neg k9];by_cases k5:k=5
 ·rw [if_pos k5];exact A0j (M9 (M1 (by decide))) (A0i n)
 rw [if_neg k5];by_cases k6:k=6
 ·rw [if_pos k6];exact A0j (M9 (M1 (by decide))) (A0i n)
 rw [if_neg k6];by_cases k7:k=7
 ·rw [if_pos k7];exact A0j (M9 (M1 (by decide))) (A0i n)
 rw [if_neg k7];exact fin
theorem fit_exT:∀ (e:Ex), ∀ t∈exT e,Fit t:=by
 have:∀ (m:Nat) (e:Ex),e.sz<m->∀ t∈exT e,Fit t:=by
  intro m
  induction m with
  | zero=>intro e h;omega
  | succ m ih =>
   rintro ⟨k,v,n,a,p⟩ hm;rw [A5l];refine fit_build fun q hq=>?_;obtain ⟨x,hx,rfl⟩:=List.mem_map.1 hq;exact ih x (by have:=Ex.sz_arg (e:=.mk k v n a p) hx;omega)
 exact fun e=>this _ e (Nat.lt_succ_self _)
end Go.Pb
namespace Go.Proofs.YthlpinppaclofaaGreatDoor
open Go.Eng (IC IOper DReg IFn B5)
open Go.Sym Go.Pb
theorem c_wordOf (x:Int):PC Tryz.prog 154 [I64 x] (.str (O2 B6 U0 x)):=by
 refine PC.ofT A7 rfl (Nat.le_of_ble_eq_true rfl) rfl rfl ?_;repeat' ((with_reducible first|refine E1 (p:=IW _ _ (pz Tryz.prog 154 (.o (.o .h))) _ _) ?_|refine wr ?_|refine k_cu ?_ ?_|refine wb2 ?_ ?_<;>(intro hb;try simp only [hb])|fail)<;>try simp only [go_sem,seval])
 unfold W8;refine A8m c_stms (σ := Unit) (fun _=>[(0,I64 x)]) (fun _=>nil) (fun D _ _ => ∀ i∈D, ∀ v,U0[i]? = some v->v≠x) () (by decide) (fun _=>rfl) ⟨rfl,trivial⟩ (Sub.refl _) (fun i hi=>by cases hi) ?_ ?_
 ·intro D _ c hJ hall;repeat' ((with_reducible first|refine wr ?_|refine k_cu ?_ ?_|refine wb2 ?_ ?_<;>(intro hb;try simp only [hb])|fail)<;>try simp only [go_sem,seval])
  rw [A8j fun i v hi hv=>hJ i (hall i (by simpa using hi)) v hv];exact A5 rfl
 ·rintro it D _ c i kk vv hJ hDn hDb hiD hk hv;rw [List.getElem?_map,Option.map_eq_some_iff] at hk hv;obtain ⟨w,hw,rfl⟩:=hk;obtain ⟨u,hu,rfl⟩:=hv;by_cases hx:u=x
  ·subst hx;repeat' ((with_reducible first|refine wr ?_|refine k_cu ?_ ?_|refine wb2 ?_ ?_<;>(intro hb;try simp only [hb])|fail)<;>try simp only [go_sem,seval])
   rw [A4a (by decide) hw hu];exact A5 rfl
  ·have hx':(u == x)=false:=by simpa using hx
   repeat' ((with_reducible first|refine wr ?_|refine k_cu ?_ ?_|refine wb2 ?_ ?_<;>(intro hb;try simp only [hb])|fail)<;>try simp only [go_sem,seval,hx'])
   refine ⟨(),Sub.refl _,inv (I:=fun _ _=>_) (b:=()) (c:=c) fun j hj v hv'=>?_⟩;rcases List.mem_cons.1 hj with rfl|hj
   ·rw [hu] at hv';cases hv';exact hx
   ·exact hJ j hj v hv'
theorem c_signOf (x:Int):PC Tryz.prog 113 [I64 x] (.str (A4t x)):=by
 refine PC.ofT A7 rfl (Nat.le_of_ble_eq_true rfl) rfl rfl ?_;by_cases h10:x=10
 ·subst h10;repeat' ((with_reducible first|refine wr ?_|refine k_cu ?_ ?_|refine wb2 ?_ ?_<;>(intro hb;try simp only [hb])|fail)<;>try simp only [go_sem,seval])
  exact A5 rfl
 by_cases h11:x=11
 ·subst h11;repeat' ((with_reducible first|refine wr ?_|refine k_cu ?_ ?_|refine wb2 ?_ ?_<;>(intro hb;try simp only [hb])|fail)<;>try simp only [go_sem,seval])
  exact A5 rfl
 have e10:(x == 10)=false:=by simpa using h10
 have e11:(x == 11)=false:=by simpa using h11
 rw [A4t,if_neg h10,if_neg h11];repeat' ((with_reducible first|refine E1 (p:=IW _ _ (pz Tryz.prog 113 (.i (.o (.i (.o .h))))) _ _) ?_|refine wr ?_|refine k_cu ?_ ?_|refine wb2 ?_ ?_<;>(intro hb;try simp only [hb])|fail)<;>try simp only [go_sem,seval,e10,e11])
 unfold W8;refine A8m c_ops (σ := Unit) (fun _=>[(0,I64 x)]) (fun _=>nil) (fun D _ _ => ∀ i∈D, ∀ v,A6b[i]? = some v->v≠x) () (by decide) (fun _=>rfl) ⟨rfl,trivial⟩ (Sub.refl _) (fun i hi=>by cases hi) ?_ ?_
 ·intro D _ c hJ hall;repeat' ((with_reducible first|refine wr ?_|refine k_cu ?_ ?_|refine wb2 ?_ ?_<;>(intro hb;try simp only [hb])|fail)<;>try simp only [go_sem,seval])
  rw [A8j fun i v hi hv=>hJ i (hall i (by simpa using hi)) v hv];exact A5 rfl
 ·rintro it D _ c i kk vv hJ hDn hDb hiD hk hv;rw [List.getElem?_map,Option.map_eq_some_iff] at hk hv;obtain ⟨w,hw,rfl⟩:=hk;obtain ⟨u,hu,rfl⟩:=hv;by_cases hx:u=x
  ·subst hx;repeat' ((with_reducible first|refine wr ?_|refine k_cu ?_ ?_|refine wb2 ?_ ?_<;>(intro hb;try simp only [hb])|fail)<;>try simp only [go_sem,seval])
   rw [A4a (by decide) hw hu];exact A5 rfl
  ·have hx':(u == x)=false:=by simpa using hx
   repeat' ((with_reducible first|refine wr ?_|refine k_cu ?_ ?_|refine wb2 ?_ ?_<;>(intro hb;try simp only [hb])|fail)<;>try simp only [go_sem,seval,hx'])
   refine ⟨(),Sub.refl _,inv (I:=fun _ _=>_) (b:=()) (c:=c) fun j hj v hv'=>?_⟩;rcases List.mem_cons.1 hj with rfl|hj
   ·rw [hu] at hv';cases hv';exact hx
   ·exact hJ j hj v hv'
theorem R7 {H:Hp} {i j:Nat}:R2 H (some i) j=if j=i then none else H j:=_root_.id rfl
theorem del_same {H:Hp} {i:Nat} {b:Blk}:R2 (H.upd i b) (some i)=R2 H (some i):=by
 funext j;rw [R7,R7];split
 ·rfl
 ·rename_i h;rw [A2 h]
theorem del_upd {H:Hp} {i k:Nat} {b:Blk} (h:¬ k=i):R2 (H.upd k b) (some i)=(R2 H (some i)).upd k b:=by
 funext j;rw [R7]
 by_cases e:j=k
 ·subst e;rw [A0,if_neg h,A0]
 ·rw [A2 e,A2 e,R7]
theorem del_nil {i:Nat}:R2 nil (some i)=nil:=by
 funext j;rw [R7];split<;>rfl
attribute [go_sem] del_same del_upd del_nil
theorem own_call {f:Nat} {xs:List DV} {r:DV} {u id n cc:Nat} {H:Hp} {cs:List DV} (h:PC Tryz.prog f [.lst xs] r) (hb:H id=some ⟨u,true,cs⟩) (hcs:cs=A4 xs) (hl:xs.length=n) (hu:∀ x∈xs,x.cells.length=u) :
  AC Tryz.prog f [.slc id 0 n] H cc (fun v H' c'=>v=r/\H'=R2 H (some id)/\c'=cc) :=
 AC.ghost (GL.frzS (id:=id) hb rfl (fun j=>by
  by_cases e:j=id
  ·subst e;exact .inl (by rw [R7,if_pos rfl])
  ·exact .inr ⟨e,by rw [R7,if_neg e]⟩) (.cons _ _ _ _ (M0 hl hu ⟨[],by rw [hcs];simp⟩) .nil)) (h.at _ cc)
end Go.Proofs.YthlpinppaclofaaGreatDoor
set_option maxHeartbeats 8000000
namespace Go.Proofs.YthlpinppaclofaaGreatDoor
open Go.Eng (IC IOper DReg IFn B5)
open Go.Sym Go.Pb
theorem exsEq_at (p:Bool):∀ (l l':List Ex) (k:Nat),l.length=l'.length->(M5 p (l.take k) (l'.take k)=true)->∀ x x',l[k]? = some x->l'[k]? = some x'->M5 p (l.take (k+1)) (l'.take (k+1))=A6e p x x'/\(A6e p x x'=false->M5 p l l'=false)
 | [],_,k,_,_,x,x',h,_=>by simp at h
 | _ :: _,[],k,h,_,_,_,_,_=>by simp at h
 | a :: l,a' :: l',0,_,_,x,x',h,h'=>by
  cases h;cases h';refine ⟨?_,fun e=>?_⟩
  ·simp [M5]
  ·rw [M5,e];rfl
 | a :: l,a' :: l',k+1,hl,he,x,x',h,h'=>by
  rw [List.take_succ_cons,List.take_succ_cons,M5,Bool.and_eq_true] at he;have ih:=exsEq_at p l l' k (by simpa using hl) he.2 x x' (by simpa using h) (by simpa using h');refine ⟨?_,fun e=>?_⟩
  ·rw [List.take_succ_cons,List.take_succ_cons,M5,he.1,Bool.true_and];exact ih.1
  ·rw [M5,ih.2 e,Bool.and_false]
theorem A7a (p:Bool):∀ (l l':List Ex),¬ l.length=l'.length->M5 p l l'=false
 | [],[],h=>absurd rfl h
 | [],_ :: _,_=>rfl
 | _ :: _,[],_=>rfl
 | a :: l,a' :: l',h=>by rw [M5,A7a p l l' (by simpa using h),Bool.and_false]
theorem c_sameEs (p:Bool) (l l':List Ex) (hl:l.length<=100000000000) (h:∀ x∈l, ∀ y,PC Tryz.prog 34 [x.v,y.v,.bool p] (.bool (A6e p x y))):PC Tryz.prog 72 [K3 l,K3 l',.bool p] (.bool (M5 p l l')):=by
 refine PC.ofT A7 rfl (Nat.le_of_ble_eq_true rfl) (by simp [DV.nlL,DV.nl,A1n]) rfl ?_;by_cases hlen:l.length=l'.length
 ·have hd0:((l.length:Int) != (l'.length:Int))=false:=by simp [hlen]
  repeat' ((with_reducible first|refine wr ?_|refine k_cu ?_ ?_|refine wb2 ?_ ?_<;>(intro hb;try simp only [hb])|fail)<;>try simp only [go_sem,seval,hd0,List.length_map])
  refine D5 (fun k:Nat=>[(0,K3 l),(1,K3 l'),(2,.bool p),(7,I64 k)]) (fun _=>Sym.nil) (fun k c=>k<=l.length/\M5 p (l.take k) (l'.take k)=true) (fun k=>l.length-k) 0 (by simp [D0,tm,Tm.upd]) (Sub.nil _) ⟨Nat.zero_le _,rfl⟩ ?_;rintro k c ⟨hk,he⟩;by_cases hlt:k<l.length
  ·have hd:decide ((k:Int)<(l.length:Int))=true:=by simpa using hlt
   have hg:=List.getElem?_eq_getElem hlt;have hg':=List.getElem?_eq_getElem (l:=l') (i:=k) (by omega);have hw:=w64 (n:=(k:Int)+1) (by omega) (by omega);have hc:=h _ (List.getElem_mem hlt) (l'[k]'(by omega));obtain ⟨s1,s2⟩:=exsEq_at p l l' k hlen he _ _ hg hg';generalize l[k]=x at hg hc s1 s2;generalize l'[k]'(by omega)=x' at hg' hc s1 s2;rw [Ex.v_w,Ex.v_w] at hc;cases hx:A6e p x x' with
   | true =>
    repeat' ((with_reducible first|refine wr ?_|refine cpc hc ?_|refine k_cu ?_ ?_|refine wb2 ?_ ?_<;>(intro hb;try simp only [hb])|fail)<;>try simp only [go_sem,seval,hd,hg,hg',hw,hx,Ex.v_w,List.length_map])
    exact ⟨k+1,by simp [D0,tm,Tm.upd],Sub.nil _,inv ⟨by omega,by rw [s1];exact hx⟩,by omega⟩
   | false =>
    repeat' ((with_reducible first|refine wr ?_|refine cpc hc ?_|refine k_cu ?_ ?_|refine wb2 ?_ ?_<;>(intro hb;try simp only [hb])|fail)<;>try simp only [go_sem,seval,hd,hg,hg',hw,hx,Ex.v_w,List.length_map])
    exact ⟨_,by rw [s2 hx];exact GL.refl _ _⟩
  ·have hd:decide ((k:Int)<(l.length:Int))=false:=by simpa using hlt
   rw [List.take_of_length_le (by omega),List.take_of_length_le (by omega)] at he;repeat' ((with_reducible first|refine wr ?_|refine k_cu ?_ ?_|refine wb2 ?_ ?_<;>(intro hb;try simp only [hb])|fail)<;>try simp only [go_sem,seval,hd,List.length_map])
   exact ⟨_,by rw [he];exact GL.refl _ _⟩
 ·have hd0:((l.length:Int) != (l'.length:Int))=true:=by simp;omega
  repeat' ((with_reducible first|refine wr ?_|refine k_cu ?_ ?_|refine wb2 ?_ ?_<;>(intro hb;try simp only [hb])|fail)<;>try simp only [go_sem,seval,hd0,List.length_map])
  exact ⟨_,by rw [A7a p l l' hlen];exact GL.refl _ _⟩
theorem c_sameE (p:Bool):∀ (m:Nat) (a b:Ex),a.sz<m->a.sz<=100000000000->PC Tryz.prog 34 [a.v,b.v,.bool p] (.bool (A6e p a b)):=by
 intro m
 induction m with
 | zero=>intro a b h;omega
 | succ m ih =>
 intro a b hm hB;have hs:=c_sameEs p a.args b.args (by have:=a.sz_args;omega) (fun x hx y=>ih x y (by have:=Ex.sz_arg hx;omega) (by have:=Ex.sz_arg hx;omega));have e0:A6e p a b=(a.kind == b.kind && (a.value == b.value && (a.name == b.name && ((p || a.pos == b.pos) && M5 p a.args b.args)))):=by
  cases a with|mk k v n l q=>cases b with|mk k' v' n' l' q'=>rw [A6e];rfl
 refine PC.ofT A7 rfl (Nat.le_of_ble_eq_true rfl) (by simp [DV.nlL,DV.nl,Ex.nl]) rfl ?_;rw [Ex.v_w,Ex.v_w,e0];cases h1:a.kind == b.kind with
 | false =>
  repeat' ((with_reducible first|refine wr ?_|refine k_cu ?_ ?_|refine wb2 ?_ ?_<;>(intro hb;try simp only [hb])|fail)<;>try simp only [go_sem,seval,h1])
  exact ⟨_,GL.refl _ _⟩
 | true =>
  cases h2:a.value == b.value with
  | false =>
   repeat' ((with_reducible first|refine wr ?_|refine k_cu ?_ ?_|refine wb2 ?_ ?_<;>(intro hb;try simp only [hb])|fail)<;>try simp only [go_sem,seval,h1,h2])
   exact ⟨_,GL.refl _ _⟩
  | true =>
   cases h3:a.name == b.name with
   | false =>
    repeat' ((with_reducible first|refine wr ?_|refine k_cu ?_ ?_|refine wb2 ?_ ?_<;>(intro hb;try simp only [hb])|fail)<;>try simp only [go_sem,seval,h1,h2,h3])
    exact ⟨_,GL.refl _ _⟩
   | true =>
    cases hp:p with
    | true =>
     subst hp;repeat' ((with_reducible first|refine wr ?_|refine cpc hs ?_|refine k_cu ?_ ?_|refine wb2 ?_ ?_<;>(intro hb;try simp only [hb])|fail)<;>try simp only [go_sem,seval,h1,h2,h3])
     exact ⟨_,GL.refl _ _⟩
    | false =>
     subst hp;cases h4:a.pos == b.pos with
     | false =>
      repeat' ((with_reducible first|refine wr ?_|refine cpc hs ?_|refine k_cu ?_ ?_|refine wb2 ?_ ?_<;>(intro hb;try simp only [hb])|fail)<;>try simp only [go_sem,seval,h1,h2,h3,h4])
      exact ⟨_,GL.refl _ _⟩
     | true =>
      repeat' ((with_reducible first|refine wr ?_|refine cpc hs ?_|refine k_cu ?_ ?_|refine wb2 ?_ ?_<;>(intro hb;try simp only [hb])|fail)<;>try simp only [go_sem,seval,h1,h2,h3,h4])
      exact ⟨_,GL.refl _ _⟩
theorem stsEq_at:∀ (l l':List Pb.St) (k:Nat),l.length=l'.length->(J8 (l.take k) (l'.take k)=true)->∀ x x',l[k]? = some x->l'[k]? = some x'->J8 (l.take (k+1)) (l'.take (k+1))=stEq x x'/\(stEq x x'=false->J8 l l'=false)
 | [],_,k,_,_,x,x',h,_=>by simp at h
 | _ :: _,[],k,h,_,_,_,_,_=>by simp at h
 | a :: l,a' :: l',0,_,_,x,x',h,h'=>by
  cases h;cases h';refine ⟨?_,fun e=>?_⟩
  ·simp [J8]
  ·rw [J8,e];rfl
 | a :: l,a' :: l',k+1,hl,he,x,x',h,h'=>by
  rw [List.take_succ_cons,List.take_succ_cons,J8,Bool.and_eq_true] at he;have ih:=stsEq_at l l' k (by simpa using hl) he.2 x x' (by simpa using h) (by simpa using h');refine ⟨?_,fun e=>?_⟩
  ·rw [List.take_succ_cons,List.take_succ_cons,J8,he.1,Bool.true_and];exact ih.1
  ·rw [J8,ih.2 e,Bool.and_false]
theorem A6k:∀ (l l':List Pb.St),¬ l.length=l'.length->J8 l l'=false
 | [],[],h=>absurd rfl h
 | [],_ :: _,_=>rfl
 | _ :: _,[],_=>rfl
 | a :: l,a' :: l',h=>by rw [J8,A6k l l' (by simpa using h),Bool.and_false]
theorem stEq_e (a b:Pb.St):stEq a b=(a.kind == b.kind && (a.name == b.name && (a.text == b.text && (a.pos == b.pos && (M5 false a.args b.args && (J8 a.thn b.thn && J8 a.els b.els)))))):=by
 cases a with|mk k n t a x y q=>cases b with|mk k' n' t' a' x' y' q'=>rw [stEq];rfl
theorem c_sameS:∀ (m:Nat) (l l':List Pb.St),Pb.St.szs l<m->Pb.St.szs l<=100000000000->PC Tryz.prog 74 [F7 l,F7 l'] (.bool (J8 l l')):=by
 intro m
 induction m with
 | zero=>intro a b h;omega
 | succ m ih =>
 intro l l' hm hB;have hl:=Pb.St.szs_len l;refine PC.ofT A7 rfl (Nat.le_of_ble_eq_true rfl) (by simp [DV.nlL,DV.nl,X2]) rfl ?_;by_cases hlen:l.length=l'.length
 ·have hd0:((l.length:Int) != (l'.length:Int))=false:=by simp [hlen]
  repeat' ((with_reducible first|refine wr ?_|refine k_cu ?_ ?_|refine wb2 ?_ ?_<;>(intro hb;try simp only [hb])|fail)<;>try simp only [go_sem,seval,hd0,List.length_map])
  refine D5 (fun k:Nat=>[(0,F7 l),(1,F7 l'),(5,I64 k)]) (fun _=>Sym.nil) (fun k c=>k<=l.length/\J8 (l.take k) (l'.take k)=true) (fun k=>l.length-k) 0 (by simp [D0,tm,Tm.upd]) (Sub.nil _) ⟨Nat.zero_le _,rfl⟩ ?_;rintro k c ⟨hk,he⟩;by_cases hlt:k<l.length
  ·have hd:decide ((k:Int)<(l.length:Int))=true:=by simpa using hlt
   have hg:=List.getElem?_eq_getElem hlt;have hg':=List.getElem?_eq_getElem (l:=l') (i:=k) (by omega);have hw:=w64 (n:=(k:Int)+1) (by omega) (by omega);obtain ⟨s1,s2⟩:=stsEq_at l l' k hlen he _ _ hg hg';have hsx:=Pb.St.szs_mem (List.getElem_mem hlt);generalize l[k]=x at hg hsx s1 s2;generalize l'[k]'(by omega)=x' at hg' s1 s2;have ht:=x.sz_thn;have hy:=x.sz_els;have hargs:∀ y∈x.args,y.sz<x.sz:=fun y hy=>Pb.St.sz_arg hy;have hal:=x.sz_args;have ca:=c_sameEs false x.args x'.args (by omega) (fun y hy z=>c_sameE false (y.sz+1) y z (by omega) (by have:=hargs y hy;omega));have ct:=ih x.thn x'.thn (by omega) (by omega);have cy:=ih x.els x'.els (by omega) (by omega);rw [stEq_e] at s1 s2;have ne0:=X5 (c+8) (c+9) (by omega);have hn8:∀ i:Nat,Sym.nil (c+i)=none:=fun _=>rfl;repeat' ((with_reducible first|refine wr ?_|refine k_cu ?_ ?_|refine wb2 ?_ ?_<;>(intro hb;try simp only [hb])|fail)<;>try simp only [go_sem,seval,hd,hg,hg',Pb.St.v_w,List.length_map,ne0,A0,A1])
   refine ⟨by and_intros<;>(repeat rw [A2 (by omega)])<;>rfl,?_⟩;repeat' ((with_reducible first|refine E1 (p:=IW _ _ (pz Tryz.prog 74 (.o (.i (.o (.i .h))))) _ _) ?_|refine wr ?_|refine k_cu ?_ ?_|refine wb2 ?_ ?_<;>(intro hb;try simp only [hb])|fail)<;>try simp only [go_sem,seval,ne0,A0,A1])
   unfold W8;clear hd hg hg';cases h1:x.kind == x'.kind with
   | false =>
    have n1:(x.kind != x'.kind)=true:=by rw [bne,h1];rfl
    repeat' ((with_reducible first|refine wr ?_|refine cpc ca ?_|refine cpc ct ?_|refine cpc cy ?_|refine k_cu ?_ ?_|refine wb2 ?_ ?_<;>(intro hb;try simp only [hb])|fail)<;>try simp only [go_sem,seval,hw,ne0,A0,A1,n1])
    exact ⟨_,by rw [s2 (by rw [h1];rfl)];exact GL.refl _ _⟩
   | true =>
    have n1:(x.kind != x'.kind)=false:=by rw [bne,h1];rfl
    cases h2:x.name == x'.name with
    | false =>
     repeat' ((with_reducible first|refine wr ?_|refine cpc ca ?_|refine cpc ct ?_|refine cpc cy ?_|refine k_cu ?_ ?_|refine wb2 ?_ ?_<;>(intro hb;try simp only [hb])|fail)<;>try simp only [go_sem,seval,hw,ne0,A0,A1,n1,h2])
     exact ⟨_,by rw [s2 (by rw [h1,h2];rfl)];exact GL.refl _ _⟩
    | true =>
     cases h3:x.text == x'.text with
     | false =>
      repeat' ((with_reducible first|refine wr ?_|refine cpc ca ?_|refine cpc ct ?_|refine cpc cy ?_|refine k_cu ?_ ?_|refine wb2 ?_ ?_<;>(intro hb;try simp only [hb])|fail)<;>try simp only [go_sem,seval,hw,ne0,A0,A1,n1,h2,h3])
      exact ⟨_,by rw [s2 (by rw [h1,h2,h3];rfl)];exact GL.refl _ _⟩
     | true =>
      cases h4:x.pos == x'.pos with
      | false =>
       have n4:(x.pos != x'.pos)=true:=by rw [bne,h4];rfl
       repeat' ((with_reducible first|refine wr ?_|refine cpc ca ?_|refine cpc ct ?_|refine cpc cy ?_|refine k_cu ?_ ?_|refine wb2 ?_ ?_<;>(intro hb;try simp only [hb])|fail)<;>try simp only [go_sem,seval,hw,ne0,A0,A1,n1,h2,h3,n4])
       exact ⟨_,by rw [s2 (by rw [h1,h2,h3,h4];rfl)];exact GL.refl _ _⟩
      | true =>
       have n4:(x.pos != x'.pos)=false:=by rw [bne,h4];rfl
       cases h5:M5 false x.args x'.args with
       | false =>
        repeat' ((with_reducible first|refine wr ?_|refine cpc ca ?_|refine cpc ct ?_|refine cpc cy ?_|refine k_cu ?_ ?_|refine wb2 ?_ ?_<;>(intro hb;try simp only [hb])|fail)<;>try simp only [go_sem,seval,hw,ne0,A0,A1,n1,h2,h3,n4,h5])
        exact ⟨_,by rw [s2 (by rw [h1,h2,h3,h4,h5];rfl)];exact GL.refl _ _⟩
       | true =>
        cases h6:J8 x.thn x'.thn with
        | false =>
         repeat' ((with_reducible first|refine wr ?_|refine cpc ca ?_|refine cpc ct ?_|refine cpc cy ?_|refine k_cu ?_ ?_|refine wb2 ?_ ?_<;>(intro hb;try simp only [hb])|fail)<;>try simp only [go_sem,seval,hw,ne0,A0,A1,n1,h2,h3,n4,h5,h6])
         exact ⟨_,by rw [s2 (by rw [h1,h2,h3,h4,h5,h6];rfl)];exact GL.refl _ _⟩
        | true =>
         cases h7:J8 x.els x'.els with
         | false =>
          repeat' ((with_reducible first|refine wr ?_|refine cpc ca ?_|refine cpc ct ?_|refine cpc cy ?_|refine k_cu ?_ ?_|refine wb2 ?_ ?_<;>(intro hb;try simp only [hb])|fail)<;>try simp only [go_sem,seval,hw,ne0,A0,A1,n1,h2,h3,n4,h5,h6,h7])
          exact ⟨_,by rw [s2 (by rw [h1,h2,h3,h4,h5,h6,h7];rfl)];exact GL.refl _ _⟩
         | true =>
          repeat' ((with_reducible first|refine wr ?_|refine cpc ca ?_|refine cpc ct ?_|refine cpc cy ?_|refine k_cu ?_ ?_|refine wb2 ?_ ?_<;>(intro hb;try simp only [hb])|fail)<;>try simp only [go_sem,seval,hw,ne0,A0,A1,n1,h2,h3,n4,h5,h6,h7])
          exact ⟨k+1,by simp [D0,tm,Tm.upd],Sub.nil _,inv ⟨by omega,by rw [s1,h1,h2,h3,h4,h5,h6,h7];rfl⟩,by omega⟩
  ·have hd:decide ((k:Int)<(l.length:Int))=false:=by simpa using hlt
   rw [List.take_of_length_le (by omega),List.take_of_length_le (by omega)] at he;repeat' ((with_reducible first|refine wr ?_|refine k_cu ?_ ?_|refine wb2 ?_ ?_<;>(intro hb;try simp only [hb])|fail)<;>try simp only [go_sem,seval,hd,List.length_map])
   exact ⟨_,by rw [he];exact GL.refl _ _⟩
 ·have hd0:((l.length:Int) != (l'.length:Int))=true:=by simp;omega
  repeat' ((with_reducible first|refine wr ?_|refine k_cu ?_ ?_|refine wb2 ?_ ?_<;>(intro hb;try simp only [hb])|fail)<;>try simp only [go_sem,seval,hd0,List.length_map])
  exact ⟨_,by rw [A6k l l' hlen];exact GL.refl _ _⟩
def ruEq (a b:Ru):Bool:=@decide (a=b) (Classical.propDecidable _)
theorem ruEq_t {a b:Ru} (h:a=b):ruEq a b=true:=by unfold ruEq;exact @decide_eq_true _ (_) h
theorem ruEq_f {a b:Ru} (h:¬ a=b):ruEq a b=false:=by unfold ruEq;exact @decide_eq_false _ (_) h
theorem A7o {α : Type} {l l':List α} {k:Nat} {x x' : α} (h:l.take k=l'.take k) (hx:l[k]? = some x) (hx':l'[k]? = some x') (e:x=x'):l.take (k+1)=l'.take (k+1):=by
 rw [List.take_add_one,List.take_add_one,h,hx,hx',e]
theorem M6 {α : Type} {l l':List α} {k:Nat} {x x' : α} (hx:l[k]? = some x) (hx':l'[k]? = some x') (e:¬ x=x'):¬ l=l':=by
 rintro rfl;rw [hx] at hx';exact e (Option.some.inj hx')
theorem sub_low {H H':Hp} {c:Nat} (h1:∀ j b,H j=some b->j<c) (h2:∀ j,j<c->H' j=H j):Sym.Sub H H':=fun j b hj=>by rw [h2 j (h1 j b hj)];exact hj
theorem c_Same31 (a b:Ru) (hB:a.sz<=100000000000):PC Tryz.prog 37 [a.v,b.v] (.bool (ruEq a b)):=by
 refine PC.ofT A7 rfl (Nat.le_of_ble_eq_true rfl) (by simp [DV.nlL,DV.nl,X4,X3]) rfl ?_;obtain ⟨R,hR⟩:∃ R,R=ruEq a b:=⟨_,rfl⟩;rw [<- hR];obtain ⟨D,M⟩:=a;obtain ⟨D',M'⟩:=b;have hF:(¬ D=D'\/¬ M=M')->R=false:=fun h=>by
  rw [hR];exact ruEq_f fun e=>by cases e;exact h.elim (· rfl) (· rfl)
 have hT:D=D'->M=M'->R=true:=fun h1 h2=>by rw [hR];exact ruEq_t (by rw [h1,h2])
 clear hR;have hDs:(D.map Dc.sz).sum+(M.map Md.sz).sum<=100000000000:=hB;have hDl:D.length<=(D.map Dc.sz).sum:=O6 fun x _=>by show 1<=1+_;omega
 have hMl:M.length<=(M.map Md.sz).sum:=O6 fun x _=>by show 1<=1+_+_;omega
 dsimp only [Ru.v];by_cases l1:D.length=D'.length
 case neg =>
  have f1:((D.length:Int) != (D'.length:Int))=true:=by simp;omega
  repeat' ((with_reducible first|refine wr ?_|refine k_cu ?_ ?_|refine wb2 ?_ ?_<;>(intro hb;try simp only [hb])|fail)<;>try simp only [go_sem,seval,f1,List.length_map])
  exact ⟨_,by rw [hF (.inl fun e=>l1 (by rw [e]))];exact GL.refl _ _⟩
 have f1:((D.length:Int) != (D'.length:Int))=false:=by simp [l1]
 by_cases l2:M.length=M'.length
 case neg =>
  have f2:((M.length:Int) != (M'.length:Int))=true:=by simp;omega
  repeat' ((with_reducible first|refine wr ?_|refine k_cu ?_ ?_|refine wb2 ?_ ?_<;>(intro hb;try simp only [hb])|fail)<;>try simp only [go_sem,seval,f1,f2,List.length_map])
  exact ⟨_,by rw [hF (.inr fun e=>l2 (by rw [e]))];exact GL.refl _ _⟩
 have f2:((M.length:Int) != (M'.length:Int))=false:=by simp [l2]
 repeat' ((with_reducible first|refine wr ?_|refine k_cu ?_ ?_|refine wb2 ?_ ?_<;>(intro hb;try simp only [hb])|fail)<;>try simp only [go_sem,seval,f1,f2,List.length_map])
 refine D5 (fun k:Nat=>[(2,.ptr 0 0),(3,.ptr 1 0),(5,I64 k)]) (fun _=>(Sym.nil.upd 0 ⟨0,true,[J5 D,X7 M]⟩).upd 1 ⟨0,true,[J5 D',X7 M']⟩) (fun k c=>2<=c/\k<=D.length/\D.take k=D'.take k) (fun k=>D.length-k) 0 (by simp [D0,tm,Tm.upd]) (Sub.refl _) ⟨by omega,Nat.zero_le _,rfl⟩ ?_;rintro k c ⟨hc,hk,he⟩;by_cases hlt:k<D.length
 ·have hd:decide ((k:Int)<(D.length:Int))=true:=by simpa using hlt
  have hg:=List.getElem?_eq_getElem hlt;have hg':=List.getElem?_eq_getElem (l:=D') (i:=k) (by omega);have hw:=w64 (n:=(k:Int)+1) (by omega) (by omega);generalize D[k]=x at hg;generalize D'[k]'(by omega)=x' at hg';have hq:(x.kind == x'.kind && (x.name == x'.name && (x.value == x'.value && x.pos == x'.pos)))=true↔x=x':=by
   cases x;cases x';simp only [Bool.and_eq_true,beq_iff_eq,Dc.mk.injEq]
  by_cases hx:x=x'
  ·have hqt:(true != (x.kind == x'.kind && (x.name == x'.name && (x.value == x'.value && x.pos == x'.pos))))=false:=by rw [hq.2 hx];rfl
   repeat' ((with_reducible first|refine wr ?_|refine k_cu ?_ ?_|refine wb2 ?_ ?_<;>(intro hb;try simp only [hb])|fail)<;>try simp only [go_sem,seval,hd,hg,hg',hw,eqa4s,hqt,List.length_map])
   exact ⟨k+1,by simp [D0,tm,Tm.upd],Sub.refl _,inv ⟨by omega,by omega,A7o he hg hg' hx⟩,by omega⟩
  ·have hqf:(true != (x.kind == x'.kind && (x.name == x'.name && (x.value == x'.value && x.pos == x'.pos))))=true:=by
    rw [show (x.kind == x'.kind && (x.name == x'.name && (x.value == x'.value && x.pos == x'.pos)))=false from by
     cases hz:(x.kind == x'.kind && (x.name == x'.name && (x.value == x'.value && x.pos == x'.pos))) with
     | false=>rfl
     | true=>exact absurd (hq.1 hz) hx]
    rfl
   repeat' ((with_reducible first|refine wr ?_|refine k_cu ?_ ?_|refine wb2 ?_ ?_<;>(intro hb;try simp only [hb])|fail)<;>try simp only [go_sem,seval,hd,hg,hg',hw,eqa4s,hqf,List.length_map])
   exact ⟨_,by rw [hF (.inl (M6 hg hg' hx))];exact GL.refl _ _⟩
 ·have hd:decide ((k:Int)<(D.length:Int))=false:=by simpa using hlt
  rw [List.take_of_length_le (by omega),List.take_of_length_le (by omega)] at he;repeat' ((with_reducible first|refine wr ?_|refine k_cu ?_ ?_|refine wb2 ?_ ?_<;>(intro hb;try simp only [hb])|fail)<;>try simp only [go_sem,seval,hd,List.length_map])
  have hDD:=he;clear hd hlt he hk;refine D5 (fun k:Nat=>[(2,.ptr 0 0),(3,.ptr 1 0),(6,I64 k)]) (fun _=>(Sym.nil.upd 0 ⟨0,true,[J5 D,X7 M]⟩).upd 1 ⟨0,true,[J5 D',X7 M']⟩) (fun k c=>2<=c/\k<=M.length/\M.take k=M'.take k) (fun k=>M.length-k) 0 (by simp [D0,tm,Tm.upd]) (Sub.refl _) ⟨hc,Nat.zero_le _,rfl⟩ ?_;clear hc k c;rintro k c ⟨hc,hk,he⟩;by_cases hlt:k<M.length
  ·have hd:decide ((k:Int)<(M.length:Int))=true:=by simpa using hlt
   have hg:=List.getElem?_eq_getElem hlt;have hg':=List.getElem?_eq_getElem (l:=M') (i:=k) (by omega);have hw:=w64 (n:=(k:Int)+1) (by omega) (by omega);have hsx:=N8 (f:=Md.sz) (List.getElem_mem hlt);generalize M[k]=x at hg hsx;generalize M'[k]'(by omega)=x' at hg';have hxs:(x.hds.map Hd.sz).sum<Md.sz x:=by unfold Md.sz;omega
   have hxl:x.hds.length<=(x.hds.map Hd.sz).sum:=O6 fun x _=>by show 1<=1+_+_;omega
   have ne0:=T4 0 1 (c+10) (c+11) (by omega);repeat' ((with_reducible first|refine wr ?_|refine k_cu ?_ ?_|refine wb2 ?_ ?_<;>(intro hb;try simp only [hb])|fail)<;>try simp only [go_sem,seval,hd,hg,hg',ne0,A0,A1,List.length_map])
   refine ⟨by and_intros<;>(repeat rw [A2 (by omega)])<;>rfl,?_⟩;repeat' ((with_reducible first|refine E1 (p:=IW _ _ (pz Tryz.prog 37 (.i (.i (.i (.i (.o .h)))))) _ _) ?_|refine wr ?_|refine k_cu ?_ ?_|refine wb2 ?_ ?_<;>(intro hb;try simp only [hb])|fail)<;>try simp only [go_sem,seval,ne0,A0,A1])
   unfold W8;clear hd;by_cases h1:x.name=x'.name
   case neg =>
    have nh1:(x.name == x'.name)=false:=by simpa using h1
    repeat' ((with_reducible first|refine wr ?_|refine k_cu ?_ ?_|refine wb2 ?_ ?_<;>(intro hb;try simp only [hb])|fail)<;>try simp only [go_sem,seval,ne0,A0,A1,List.length_map,nh1])
    exact ⟨_,by rw [hF (.inr (M6 hg hg' fun e=>h1 (by rw [e])))];exact GL.refl _ _⟩
   case pos =>
    have nh1:(x.name == x'.name)=true:=by simpa using h1
    by_cases h2:x.prio=x'.prio
    case neg =>
     have nh2:(x.prio != x'.prio)=true:=by simpa using h2
     repeat' ((with_reducible first|refine wr ?_|refine k_cu ?_ ?_|refine wb2 ?_ ?_<;>(intro hb;try simp only [hb])|fail)<;>try simp only [go_sem,seval,ne0,A0,A1,List.length_map,nh1,nh2])
     exact ⟨_,by rw [hF (.inr (M6 hg hg' fun e=>h2 (by rw [e])))];exact GL.refl _ _⟩
    case pos =>
     have nh2:(x.prio != x'.prio)=false:=by simpa using h2
     by_cases h3:x.pos=x'.pos
     case neg =>
      have nh3:(x.pos != x'.pos)=true:=by simpa using h3
      repeat' ((with_reducible first|refine wr ?_|refine k_cu ?_ ?_|refine wb2 ?_ ?_<;>(intro hb;try simp only [hb])|fail)<;>try simp only [go_sem,seval,ne0,A0,A1,List.length_map,nh1,nh2,nh3])
      exact ⟨_,by rw [hF (.inr (M6 hg hg' fun e=>h3 (by rw [e])))];exact GL.refl _ _⟩
     case pos =>
      have nh3:(x.pos != x'.pos)=false:=by simpa using h3
      by_cases h4:x.hds.length=x'.hds.length
      case neg =>
       have nh4:((x.hds.length:Int) != (x'.hds.length:Int))=true:=by simp;omega
       repeat' ((with_reducible first|refine wr ?_|refine k_cu ?_ ?_|refine wb2 ?_ ?_<;>(intro hb;try simp only [hb])|fail)<;>try simp only [go_sem,seval,ne0,A0,A1,List.length_map,nh1,nh2,nh3,nh4])
       exact ⟨_,by rw [hF (.inr (M6 hg hg' fun e=>h4 (by rw [e])))];exact GL.refl _ _⟩
      case pos =>
       have nh4:((x.hds.length:Int) != (x'.hds.length:Int))=false:=by simp [h4]
       repeat' ((with_reducible first|refine wr ?_|refine k_cu ?_ ?_|refine wb2 ?_ ?_<;>(intro hb;try simp only [hb])|fail)<;>try simp only [go_sem,seval,ne0,A0,A1,List.length_map,nh1,nh2,nh3,nh4])
       refine D5 (fun j:Nat=>[(2,.ptr 0 0),(3,.ptr 1 0),(6,I64 k),(7,.ptr (c+10) 0),(8,.ptr (c+11) 0),(9,I64 j)]) (fun _=>(((Sym.nil.upd 0 ⟨0,true,[J5 D,X7 M]⟩).upd 1 ⟨0,true,[J5 D',X7 M']⟩).upd (c+10) ⟨0,true,[.str x.name,I64 x.prio,A2l x.hds,I64 x.pos]⟩).upd (c+11) ⟨0,true,[.str x'.name,I64 x'.prio,A2l x'.hds,I64 x'.pos]⟩) (fun j n=>c+12<=n/\j<=x.hds.length/\x.hds.take j=x'.hds.take j) (fun j=>x.hds.length-j) 0 (by simp [D0,tm,Tm.upd]) ?_ ⟨by omega,Nat.zero_le _,rfl⟩ ?_
       ·intro j b hj;by_cases e1:j=c+11
        ·subst e1;rw [A0] at hj ⊢;exact hj
        rw [A2 e1] at hj ⊢;by_cases e2:j=c+10
        ·subst e2;rw [A0] at hj ⊢;exact hj
        rw [A2 e2] at hj ⊢
        repeat rw [A2 (by omega)]
        exact hj
       rintro j n ⟨hn,hj,hej⟩;by_cases hjl:j<x.hds.length
       ·have hdj:decide ((j:Int)<(x.hds.length:Int))=true:=by simpa using hjl
        have gj:=List.getElem?_eq_getElem hjl;have gj':=List.getElem?_eq_getElem (l:=x'.hds) (i:=j) (by omega);have hwj:=w64 (n:=(j:Int)+1) (by omega) (by omega);have hsj:=N8 (f:=Hd.sz) (List.getElem_mem hjl);generalize x.hds[j]=y at gj hsj;generalize x'.hds[j]'(by omega)=y' at gj';have hbs:Pb.St.szs y.body<Hd.sz y:=by unfold Hd.sz;omega
        have cs:=c_sameS (Pb.St.szs y.body+1) y.body y'.body (by omega) (by omega);have ne0:=nes6 0 1 (c+10) (c+11) (n+10) (n+11) (by omega);repeat' ((with_reducible first|refine wr ?_|refine k_cu ?_ ?_|refine wb2 ?_ ?_<;>(intro hb;try simp only [hb])|fail)<;>try simp only [go_sem,seval,hdj,gj,gj',ne0,A0,A1,List.length_map])
        refine ⟨by and_intros<;>(repeat rw [A2 (by omega)])<;>rfl,?_⟩;repeat' ((with_reducible first|refine E1 (p:=IW _ _ (pz Tryz.prog 37 (.i (.o (.i (.o (.o (.o .h))))))) _ _) ?_|refine wr ?_|refine k_cu ?_ ?_|refine wb2 ?_ ?_<;>(intro hb;try simp only [hb])|fail)<;>try simp only [go_sem,seval,ne0,A0,A1])
        unfold W8;clear hdj;by_cases q1:y.trig=y'.trig
        case neg =>
         have nq1:(y.trig != y'.trig)=true:=by simpa using q1
         repeat' ((with_reducible first|refine wr ?_|refine cpc cs ?_|refine k_cu ?_ ?_|refine wb2 ?_ ?_<;>(intro hb;try simp only [hb])|fail)<;>try simp only [go_sem,seval,hwj,ne0,A0,A1,nq1])
         exact ⟨_,by rw [hF (.inr (M6 hg hg' fun e=>M6 gj gj' (fun e2=>by exact q1 (by rw [e2])) (by rw [e])))];exact GL.refl _ _⟩
        case pos =>
         have nq1:(y.trig != y'.trig)=false:=by simpa using q1
         by_cases q2:y.name=y'.name
         case neg =>
          have nq2:(y.name == y'.name)=false:=by simpa using q2
          repeat' ((with_reducible first|refine wr ?_|refine cpc cs ?_|refine k_cu ?_ ?_|refine wb2 ?_ ?_<;>(intro hb;try simp only [hb])|fail)<;>try simp only [go_sem,seval,hwj,ne0,A0,A1,nq1,nq2])
          exact ⟨_,by rw [hF (.inr (M6 hg hg' fun e=>M6 gj gj' (fun e2=>by exact q2 (by rw [e2])) (by rw [e])))];exact GL.refl _ _⟩
         case pos =>
          have nq2:(y.name == y'.name)=true:=by simpa using q2
          by_cases q3:y.pos=y'.pos
          case neg =>
           have nq3:(y.pos != y'.pos)=true:=by simpa using q3
           repeat' ((with_reducible first|refine wr ?_|refine cpc cs ?_|refine k_cu ?_ ?_|refine wb2 ?_ ?_<;>(intro hb;try simp only [hb])|fail)<;>try simp only [go_sem,seval,hwj,ne0,A0,A1,nq1,nq2,nq3])
           exact ⟨_,by rw [hF (.inr (M6 hg hg' fun e=>M6 gj gj' (fun e2=>by exact q3 (by rw [e2])) (by rw [e])))];exact GL.refl _ _⟩
          case pos =>
           have nq3:(y.pos != y'.pos)=false:=by simpa using q3
           cases q4:J8 y.body y'.body with
           | false =>
            repeat' ((with_reducible first|refine wr ?_|refine cpc cs ?_|refine k_cu ?_ ?_|refine wb2 ?_ ?_<;>(intro hb;try simp only [hb])|fail)<;>try simp only [go_sem,seval,hwj,ne0,A0,A1,nq1,nq2,nq3,q4])
            exact ⟨_,by rw [hF (.inr (M6 hg hg' fun e=>M6 gj gj' (fun e2=>by rw [e2,(V5 _ _).2 rfl] at q4;cases q4) (by rw [e])))];exact GL.refl _ _⟩
           | true =>
            repeat' ((with_reducible first|refine wr ?_|refine cpc cs ?_|refine k_cu ?_ ?_|refine wb2 ?_ ?_<;>(intro hb;try simp only [hb])|fail)<;>try simp only [go_sem,seval,hwj,ne0,A0,A1,nq1,nq2,nq3,q4])
            exact ⟨j+1,by simp [D0,tm,Tm.upd],(sub_low (c:=n) (fun j0 b0 h0=>by by_cases a1:j0=c+11;omega;rw [A2 a1] at h0;by_cases a2:j0=c+10;omega;rw [A2 a2] at h0;by_cases a3:j0=1;omega;rw [A2 a3] at h0;by_cases a4:j0=0;omega;rw [A2 a4] at h0;cases h0) (fun j0 h0=>by repeat rw [A2 (by omega)])),inv ⟨by omega,by omega,A7o hej gj gj' (by cases y;cases y';simp only [Hd.mk.injEq] at *;exact ⟨q1,q2,(V5 _ _).1 q4,q3⟩)⟩,by omega⟩
       ·have hdj:decide ((j:Int)<(x.hds.length:Int))=false:=by simpa using hjl
        rw [List.take_of_length_le (by omega),List.take_of_length_le (by omega)] at hej;have ne0:=T4 0 1 (c+10) (c+11) (by omega);repeat' ((with_reducible first|refine wr ?_|refine k_cu ?_ ?_|refine wb2 ?_ ?_<;>(intro hb;try simp only [hb])|fail)<;>try simp only [go_sem,seval,hdj,hw,ne0,A0,A1,List.length_map])
        exact ⟨k+1,by simp [D0,tm,Tm.upd],(sub_low (c:=c) (fun j0 b0 h0=>by by_cases a3:j0=1;omega;rw [A2 a3] at h0;by_cases a4:j0=0;omega;rw [A2 a4] at h0;cases h0) (fun j0 h0=>by repeat rw [A2 (by omega)])),inv ⟨by omega,by omega,A7o he hg hg' (by cases x;cases x';simp only [Md.mk.injEq] at *;exact ⟨h1,h2,hej,h3⟩)⟩,by omega⟩
  ·have hd:decide ((k:Int)<(M.length:Int))=false:=by simpa using hlt
   rw [List.take_of_length_le (by omega),List.take_of_length_le (by omega)] at he;repeat' ((with_reducible first|refine wr ?_|refine k_cu ?_ ?_|refine wb2 ?_ ?_<;>(intro hb;try simp only [hb])|fail)<;>try simp only [go_sem,seval,hd,List.length_map])
   exact ⟨_,by rw [hT hDD he];exact GL.refl _ _⟩
theorem c_IF_dc {g:Dc->Bool} {f:Nat} {a cs:List DV} (xs:List (Dc)) (hx:xs.length<=9223372036854775807) (na:DV.nlL a=true) (ncs:DV.nlL cs=true) (hf:∀ x∈xs,PC Tryz.prog f (a++[Dc.v x]++cs) (.bool (g x))) :
  PC Tryz.prog 90 [J5 xs,.func f a cs] (I64 (W1 g xs 0)):=by
 refine PC.ofT A7 rfl (Nat.le_of_ble_eq_true rfl) (by simp [DV.nlL,DV.nl,X4,na,ncs]) rfl ?_;repeat' ((with_reducible first|refine wr ?_|refine k_cu ?_ ?_|refine wb2 ?_ ?_<;>(intro hb;try simp only [hb])|fail)<;>try simp only [go_sem,seval,List.length_map])
 refine D5 (fun k:Nat=>[(0,J5 xs),(1,.func f a cs),(7,I64 xs.length),(8,I64 k)]) (fun _=>nil) (fun k _=>k<=xs.length/\W1 g xs 0=W1 g (xs.drop k) k) (fun k=>xs.length-k) 0 (by simp [D0,tm,Tm.upd]) (Sub.nil _) (by simp) ?_;rintro k c ⟨hk,he⟩;by_cases hlt:k<xs.length
 ·have hd:decide ((k:Int)<xs.length)=true:=by simpa using hlt
  have hg:=List.getElem?_eq_getElem hlt;have hw:=w64 (n:=(k:Int)+1) (by omega) (by omega);have hst:=A0h (g:=g) hg;have hc:=hf xs[k] (List.getElem_mem hlt);repeat' ((with_reducible first|refine wr ?_|refine cpc hc ?_|refine k_cu ?_ ?_|refine wb2 ?_ ?_<;>(intro hb;try simp only [hb])|fail)<;>try simp only [go_sem,seval,hd,hg,hw])
  ·refine A5 ?_;rw [he,hst,hb];rfl
  ·exact ⟨k+1,rfl,Sub.refl _,inv ⟨by omega,by rw [he,hst,hb];rfl⟩,by omega⟩
 ·have hd:decide ((k:Int)<xs.length)=false:=by simpa using hlt
  repeat' ((with_reducible first|refine wr ?_|refine k_cu ?_ ?_|refine wb2 ?_ ?_<;>(intro hb;try simp only [hb])|fail)<;>try simp only [go_sem,seval,hd])
  refine A5 ?_;rw [he,A1p (by omega)]
theorem c_CF_dc {g:Dc->Bool} {f:Nat} {a cs:List DV} (xs:List (Dc)) (hx:xs.length<=9223372036854775807) (na:DV.nlL a=true) (ncs:DV.nlL cs=true) (hf:∀ x∈xs,PC Tryz.prog f (a++[Dc.v x]++cs) (.bool (g x))) :
  PC Tryz.prog 49 [J5 xs,.func f a cs] (.bool (xs.any g)):=by
 refine PC.ofT A7 rfl (Nat.le_of_ble_eq_true rfl) (by simp [DV.nlL,DV.nl,X4,na,ncs]) rfl ?_;have hc:=c_IF_dc xs hx na ncs hf;repeat' ((with_reducible first|refine wr ?_|refine cpc hc ?_|refine k_cu ?_ ?_|refine wb2 ?_ ?_<;>(intro hb;try simp only [hb])|fail)<;>try simp only [go_sem,seval])
 refine A5 ?_;rw [A1q]
theorem c_IF_md {g:Md->Bool} {f:Nat} {a cs:List DV} (xs:List (Md)) (hx:xs.length<=9223372036854775807) (na:DV.nlL a=true) (ncs:DV.nlL cs=true) (hf:∀ x∈xs,PC Tryz.prog f (a++[Md.v x]++cs) (.bool (g x))) :
  PC Tryz.prog 92 [X7 xs,.func f a cs] (I64 (W1 g xs 0)):=by
 refine PC.ofT A7 rfl (Nat.le_of_ble_eq_true rfl) (by simp [DV.nlL,DV.nl,X3,na,ncs]) rfl ?_;repeat' ((with_reducible first|refine wr ?_|refine k_cu ?_ ?_|refine wb2 ?_ ?_<;>(intro hb;try simp only [hb])|fail)<;>try simp only [go_sem,seval,List.length_map])
 refine D5 (fun k:Nat=>[(0,X7 xs),(1,.func f a cs),(7,I64 xs.length),(8,I64 k)]) (fun _=>nil) (fun k _=>k<=xs.length/\W1 g xs 0=W1 g (xs.drop k) k) (fun k=>xs.length-k) 0 (by simp [D0,tm,Tm.upd]) (Sub.nil _) (by simp) ?_;rintro k c ⟨hk,he⟩;by_cases hlt:k<xs.length
 ·have hd:decide ((k:Int)<xs.length)=true:=by simpa using hlt
  have hg:=List.getElem?_eq_getElem hlt;have hw:=w64 (n:=(k:Int)+1) (by omega) (by omega);have hst:=A0h (g:=g) hg;have hc:=hf xs[k] (List.getElem_mem hlt);repeat' ((with_reducible first|refine wr ?_|refine cpc hc ?_|refine k_cu ?_ ?_|refine wb2 ?_ ?_<;>(intro hb;try simp only [hb])|fail)<;>try simp only [go_sem,seval,hd,hg,hw])
  ·refine A5 ?_;rw [he,hst,hb];rfl
  ·exact ⟨k+1,rfl,Sub.refl _,inv ⟨by omega,by rw [he,hst,hb];rfl⟩,by omega⟩
 ·have hd:decide ((k:Int)<xs.length)=false:=by simpa using hlt
  repeat' ((with_reducible first|refine wr ?_|refine k_cu ?_ ?_|refine wb2 ?_ ?_<;>(intro hb;try simp only [hb])|fail)<;>try simp only [go_sem,seval,hd])
  refine A5 ?_;rw [he,A1p (by omega)]
theorem c_CF_md {g:Md->Bool} {f:Nat} {a cs:List DV} (xs:List (Md)) (hx:xs.length<=9223372036854775807) (na:DV.nlL a=true) (ncs:DV.nlL cs=true) (hf:∀ x∈xs,PC Tryz.prog f (a++[Md.v x]++cs) (.bool (g x))) :
  PC Tryz.prog 52 [X7 xs,.func f a cs] (.bool (xs.any g)):=by
 refine PC.ofT A7 rfl (Nat.le_of_ble_eq_true rfl) (by simp [DV.nlL,DV.nl,X3,na,ncs]) rfl ?_;have hc:=c_IF_md xs hx na ncs hf;repeat' ((with_reducible first|refine wr ?_|refine cpc hc ?_|refine k_cu ?_ ?_|refine wb2 ?_ ?_<;>(intro hb;try simp only [hb])|fail)<;>try simp only [go_sem,seval])
 refine A5 ?_;rw [A1q]
theorem c_IF_st {g:Pb.St->Bool} {f:Nat} {a cs:List DV} (xs:List (Pb.St)) (hx:xs.length<=9223372036854775807) (na:DV.nlL a=true) (ncs:DV.nlL cs=true) (hf:∀ x∈xs,PC Tryz.prog f (a++[Pb.St.v x]++cs) (.bool (g x))) :
  PC Tryz.prog 177 [F7 xs,.func f a cs] (I64 (W1 g xs 0)):=by
 refine PC.ofT A7 rfl (Nat.le_of_ble_eq_true rfl) (by simp [DV.nlL,DV.nl,X2,na,ncs]) rfl ?_;repeat' ((with_reducible first|refine wr ?_|refine k_cu ?_ ?_|refine wb2 ?_ ?_<;>(intro hb;try simp only [hb])|fail)<;>try simp only [go_sem,seval,List.length_map])
 refine D5 (fun k:Nat=>[(0,F7 xs),(1,.func f a cs),(7,I64 xs.length),(8,I64 k)]) (fun _=>nil) (fun k _=>k<=xs.length/\W1 g xs 0=W1 g (xs.drop k) k) (fun k=>xs.length-k) 0 (by simp [D0,tm,Tm.upd]) (Sub.nil _) (by simp) ?_;rintro k c ⟨hk,he⟩;by_cases hlt:k<xs.length
 ·have hd:decide ((k:Int)<xs.length)=true:=by simpa using hlt
  have hg:=List.getElem?_eq_getElem hlt;have hw:=w64 (n:=(k:Int)+1) (by omega) (by omega);have hst:=A0h (g:=g) hg;have hc:=hf xs[k] (List.getElem_mem hlt);rw [Pb.St.v_w] at hc;repeat' ((with_reducible first|refine wr ?_|refine cpc hc ?_|refine k_cu ?_ ?_|refine wb2 ?_ ?_<;>(intro hb;try simp only [hb])|fail)<;>try simp only [go_sem,seval,hd,hg,hw,Pb.St.v_w])
  ·refine A5 ?_;rw [he,hst,hb];rfl
  ·exact ⟨k+1,rfl,Sub.refl _,inv ⟨by omega,by rw [he,hst,hb];rfl⟩,by omega⟩
 ·have hd:decide ((k:Int)<xs.length)=false:=by simpa using hlt
  repeat' ((with_reducible first|refine wr ?_|refine k_cu ?_ ?_|refine wb2 ?_ ?_<;>(intro hb;try simp only [hb])|fail)<;>try simp only [go_sem,seval,hd])
  refine A5 ?_;rw [he,A1p (by omega)]
theorem c_CF_st {g:Pb.St->Bool} {f:Nat} {a cs:List DV} (xs:List (Pb.St)) (hx:xs.length<=9223372036854775807) (na:DV.nlL a=true) (ncs:DV.nlL cs=true) (hf:∀ x∈xs,PC Tryz.prog f (a++[Pb.St.v x]++cs) (.bool (g x))) :
  PC Tryz.prog 146 [F7 xs,.func f a cs] (.bool (xs.any g)):=by
 refine PC.ofT A7 rfl (Nat.le_of_ble_eq_true rfl) (by simp [DV.nlL,DV.nl,X2,na,ncs]) rfl ?_;have hc:=c_IF_st xs hx na ncs hf;repeat' ((with_reducible first|refine wr ?_|refine cpc hc ?_|refine k_cu ?_ ?_|refine wb2 ?_ ?_<;>(intro hb;try simp only [hb])|fail)<;>try simp only [go_sem,seval])
 refine A5 ?_;rw [A1q]
theorem c_IF_ex {g:Ex->Bool} {f:Nat} {a cs:List DV} (xs:List (Ex)) (hx:xs.length<=9223372036854775807) (na:DV.nlL a=true) (ncs:DV.nlL cs=true) (hf:∀ x∈xs,PC Tryz.prog f (a++[Ex.v x]++cs) (.bool (g x))) :
  PC Tryz.prog 200 [K3 xs,.func f a cs] (I64 (W1 g xs 0)):=by
 refine PC.ofT A7 rfl (Nat.le_of_ble_eq_true rfl) (by simp [DV.nlL,DV.nl,A1n,na,ncs]) rfl ?_;repeat' ((with_reducible first|refine wr ?_|refine k_cu ?_ ?_|refine wb2 ?_ ?_<;>(intro hb;try simp only [hb])|fail)<;>try simp only [go_sem,seval,List.length_map])
 refine D5 (fun k:Nat=>[(0,K3 xs),(1,.func f a cs),(7,I64 xs.length),(8,I64 k)]) (fun _=>nil) (fun k _=>k<=xs.length/\W1 g xs 0=W1 g (xs.drop k) k) (fun k=>xs.length-k) 0 (by simp [D0,tm,Tm.upd]) (Sub.nil _) (by simp) ?_;rintro k c ⟨hk,he⟩;by_cases hlt:k<xs.length
 ·have hd:decide ((k:Int)<xs.length)=true:=by simpa using hlt
  have hg:=List.getElem?_eq_getElem hlt;have hw:=w64 (n:=(k:Int)+1) (by omega) (by omega);have hst:=A0h (g:=g) hg;have hc:=hf xs[k] (List.getElem_mem hlt);rw [Ex.v_w] at hc;repeat' ((with_reducible first|refine wr ?_|refine cpc hc ?_|refine k_cu ?_ ?_|refine wb2 ?_ ?_<;>(intro hb;try simp only [hb])|fail)<;>try simp only [go_sem,seval,hd,hg,hw,Ex.v_w])
  ·refine A5 ?_;rw [he,hst,hb];rfl
  ·exact ⟨k+1,rfl,Sub.refl _,inv ⟨by omega,by rw [he,hst,hb];rfl⟩,by omega⟩
 ·have hd:decide ((k:Int)<xs.length)=false:=by simpa using hlt
  repeat' ((with_reducible first|refine wr ?_|refine k_cu ?_ ?_|refine wb2 ?_ ?_<;>(intro hb;try simp only [hb])|fail)<;>try simp only [go_sem,seval,hd])
  refine A5 ?_;rw [he,A1p (by omega)]
theorem c_CF_ex {g:Ex->Bool} {f:Nat} {a cs:List DV} (xs:List (Ex)) (hx:xs.length<=9223372036854775807) (na:DV.nlL a=true) (ncs:DV.nlL cs=true) (hf:∀ x∈xs,PC Tryz.prog f (a++[Ex.v x]++cs) (.bool (g x))) :
  PC Tryz.prog 178 [K3 xs,.func f a cs] (.bool (xs.any g)):=by
 refine PC.ofT A7 rfl (Nat.le_of_ble_eq_true rfl) (by simp [DV.nlL,DV.nl,A1n,na,ncs]) rfl ?_;have hc:=c_IF_ex xs hx na ncs hf;repeat' ((with_reducible first|refine wr ?_|refine cpc hc ?_|refine k_cu ?_ ?_|refine wb2 ?_ ?_<;>(intro hb;try simp only [hb])|fail)<;>try simp only [go_sem,seval])
 refine A5 ?_;rw [A1q]
theorem pc_bool {H:Hp} {a b:Bool} (h:a=b):∃ H2,GL H [.bool a] H2 [.bool b]:=⟨H,by rw [h];exact GL.refl _ _⟩
theorem sub_upd2 {b1 b2 b3:Blk} {cc:Nat} (u:Unit) (h:1<=cc):Sym.Sub (Sym.nil.upd 0 b1) (((Sym.nil.upd 0 b1).upd cc b2).upd cc b3):=by
 intro j b hj;simp only [Hp.upd,Sym.nil] at hj ⊢;split at hj
 ·rename_i h0;rw [if_neg (by omega),if_neg (by omega),if_pos h0];exact hj
 ·cases hj
theorem c_levS (k:Int):PC Tryz.prog 112 [I64 k] (I64 (D6 k)):=by
 refine PC.ofT A7 rfl (Nat.le_of_ble_eq_true rfl) (by simp [DV.nlL,DV.nl]) (by simp [DV.nlL,DV.nl]) ?_;repeat' ((with_reducible first|refine wr ?_|refine k_cu ?_ ?_|refine wb2 ?_ ?_<;>(intro hb;try simp only [hb])|fail)<;>try simp only [go_sem,seval])
 all_goals refine A5 (congrArg I64 ?_)
 all_goals simp_all [D6]
 all_goals omega
theorem c_namedS (k:Int):PC Tryz.prog 116 [I64 k] (.bool (A1a k)):=by
 refine PC.ofT A7 rfl (Nat.le_of_ble_eq_true rfl) (by simp [DV.nlL,DV.nl]) (by simp [DV.nlL,DV.nl]) ?_;repeat' ((with_reducible first|refine wr ?_|refine k_cu ?_ ?_|refine wb2 ?_ ?_<;>(intro hb;try simp only [hb])|fail)<;>try simp only [go_sem,seval])
 all_goals refine A5 (congrArg DV.bool ?_)
 all_goals (cases h5:k == 5<;>cases h6:k == 6<;>cases h7:k == 7<;>simp_all [A1a])
theorem c_wrapped (e x:Ex) (i:Nat) (h:e.args[i]? = some x) (hi:i<=1):PC Tryz.prog 111 [e.v,I64 i] (.bool (Y6 e.kind x.kind i)):=by
 refine PC.ofT A7 rfl (Nat.le_of_ble_eq_true rfl) (by simp [DV.nlL,DV.nl,Ex.nl]) rfl ?_;rw [Ex.v_w];have h1:=c_levS e.kind;have h2:=c_levS x.kind;repeat' ((with_reducible first|refine wr ?_|refine cpc h1 ?_|refine cpc h2 ?_|refine k_cu ?_ ?_|refine wb2 ?_ ?_<;>(intro hb;try simp only [hb])|fail)<;>try simp only [go_sem,seval,h,Ex.v_w])
 all_goals refine pc_bool ?_
 all_goals unfold Y6
 all_goals (cases hi1:i == 1<;>cases h3:D6 e.kind == 3<;>simp_all)
 all_goals omega
theorem c_measure:∀ (m:Nat) (e:Ex),e.sz<m->e.sz<=100000000->PC Tryz.prog 66 [e.v] (msV (msM e)):=by
 intro m
 induction m with
 | zero=>intro e h;omega
 | succ m ih =>
 intro e hm hB;have hnl:=e.sz_name;have hx:∀ x∈e.args,PC Tryz.prog 66 [x.v] (msV (msM x)):=fun x hx=>ih x (by have:=Ex.sz_arg hx;omega) (by have:=Ex.sz_arg hx;omega);have hwr:∀ (x:Ex) (i:Nat),e.args[i]? = some x->i<=1->PC Tryz.prog 111 [e.w,I64 i] (.bool (Y6 e.kind x.kind i)):=fun x i h hi=>by have:=c_wrapped e x i h hi;rwa [Ex.v_w] at this
 refine PC.ofT A7 rfl (Nat.le_of_ble_eq_true rfl) (by simp [DV.nlL,DV.nl,Ex.nl]) (msV_nl _) ?_;rw [Ex.v_w];obtain ⟨R,hR⟩:∃ R,R=msV (msM e):=⟨_,rfl⟩;rw [<- hR];have hle:=msL_le e.kind 0 e.args;have hal:Ex.szs e.args<e.sz:=by cases e with|mk k v n a p=>rw [Ex.sz];show Ex.szs a<_;omega
 have hargs:∀ x∈e.args,x.sz<=Ex.szs e.args:=fun x hx=>Ex.szs_mem hx;cases e with|mk k v n a p =>
 rw [msM] at hR;dsimp only [Ex.w,Ex.kind,Ex.value,Ex.name,Ex.args,Ex.pos] at hx hwr hle hal hargs hnl ⊢;have hl:=c_levS k;have hnk:=c_namedS k;have hin:=c_IsName n (by omega);have none0:kOk k=false\/a.length≠L6 k\/A1m k n=false\/A4j k v=false->R=.tup [I64 0,I64 0,.bool false]:=fun h=>by rw [hR,if_pos h];rfl
 have ci:((L6 k:Nat):Int)<=2:=by unfold L6;(repeat' split)<;>decide
 have kA:∀ nm vl:Bool,A1m k n=nm->A4j k v=vl->kOk k=true->IW Tryz.prog 113 (pz Tryz.prog 66 (.o (.i (.o (.o (.o .h)))))) ⟨tm [(1,.ptr 0 0),(2,I64 0),(3,I64 0),(5,I64 (L6 k)),(7,.bool nm),(8,.bool vl)],Sym.nil.upd 0 ⟨0,true,[I64 k,I64 v,.str n,K3 a,I64 p]⟩,1⟩ (rt [.tmp 2,.tmp 3,.tmp 4] fun v H' x => ∃ H2,GL H' [v] H2 [R]):=by
  intro nm vl hnm hvl hkk;by_cases hlen:a.length=L6 k
  ·have d0:((a.length:Int) != (L6 k:Int))=false:=by simp [hlen]
   cases nm with
   | false =>
    repeat' ((with_reducible first|refine wr ?_|refine k_cu ?_ ?_|refine wb2 ?_ ?_<;>(intro hb;try simp only [hb])|fail)<;>try simp only [go_sem,seval,d0])
    exact A5 (none0 (.inr (.inr (.inl hnm)))).symm
   | true =>
    cases vl with
    | false =>
     repeat' ((with_reducible first|refine wr ?_|refine k_cu ?_ ?_|refine wb2 ?_ ?_<;>(intro hb;try simp only [hb])|fail)<;>try simp only [go_sem,seval,d0])
     exact A5 (none0 (.inr (.inr (.inr hvl)))).symm
    | true =>
     rw [if_neg (by simp [hkk,hnm,hvl,hlen])] at hR;by_cases hc0:L6 k=0
     ·have d1:((L6 k:Int) == 0)=true:=by simp [hc0]
      rw [if_pos hc0] at hR;repeat' ((with_reducible first|refine wr ?_|refine k_cu ?_ ?_|refine wb2 ?_ ?_<;>(intro hb;try simp only [hb])|fail)<;>try simp only [go_sem,seval,d0,d1])
      exact A5 hR.symm
     ·have d1:((L6 k:Int) == 0)=false:=by simp [hc0]
      rw [if_neg hc0] at hR;repeat' ((with_reducible first|refine wr ?_|refine k_cu ?_ ?_|refine wb2 ?_ ?_<;>(intro hb;try simp only [hb])|fail)<;>try simp only [go_sem,seval,d0,d1])
      have hl2:a.length<=2:=by omega
      refine D5 (fun q:Nat × Nat × Nat=>[(1,.ptr 0 0),(5,I64 (L6 k)),(80,K3 a),(81,I64 a.length),(82,I64 q.1),(2,I64 q.2.1),(3,I64 q.2.2)]) (fun _=>Sym.nil.upd 0 ⟨0,true,[I64 k,I64 v,.str n,K3 a,I64 p]⟩)
       (fun q cc=>1<=cc/\q.1<=a.length/\q.2.1<=q.1 * 1000000000/\q.2.2<=1000000000/\msL k 0 a=(match msL k q.1 (a.drop q.1) with
        | none=>none
        | some (o2,d2)=>some (q.2.1+o2,max q.2.2 d2))) (fun q=>a.length-q.1) (0,0,0) (by simp [D0,tm,Tm.upd]) (Sub.refl _)
       ⟨Nat.le_refl _,Nat.zero_le _,Nat.zero_le _,Nat.zero_le _,by
        rw [List.drop_zero];cases msL k 0 a with
        | none=>rfl
        | some q=>obtain ⟨o2,d2⟩:=q;simp⟩ ?_
      rintro ⟨i,o,d⟩ cc ⟨h1c,hk,ho,hd3,he⟩;dsimp only at hk ho hd3 he ⊢;by_cases hlt:i<a.length
      ·have hd:decide ((i:Int)<a.length)=true:=by simpa using hlt
       have hg:=List.getElem?_eq_getElem hlt;have hw:=w64 (n:=(i:Int)+1) (by omega) (by omega);rw [msL_drop hg] at he;have hmx:=hx _ (List.getElem_mem hlt);have hax:=hargs _ (List.getElem_mem hlt);have hwx:=hwr _ i hg (by omega);have hms:=ms_le a[i];generalize a[i]=x at hg he hmx hax hwx hms;rw [Ex.v_w] at hmx;have hwx:PC Tryz.prog 111 [DV.agg [I64 k,I64 v,DV.str n,K3 a,I64 p],I64 i] (.bool (Y6 k x.kind i)):=hwx;have ne0:=X5 0 cc (by omega);cases hq:msM x with
       | none =>
        rw [hq] at he hmx;dsimp only [msV] at he hmx;rw [he] at hR;repeat' ((with_reducible first|refine wr ?_|refine cpc hmx ?_|refine cpc hwx ?_|refine k_cu ?_ ?_|refine wb2 ?_ ?_<;>(intro hb;try simp only [hb])|fail)<;>try simp only [go_sem,seval,hd,hg,hw,Ex.v_w,ne0])
        exact A5 hR.symm
       | some qq =>
        obtain ⟨o1,d1'⟩:=qq;rw [hq] at he hmx;dsimp only [msV] at he hmx;have:=hms o1 d1' hq;have w1:=w64 (n:=(o:Int)+(o1:Int)) (by omega) (by omega);have w2:=w64 (n:=(d1':Int)+1) (by omega) (by omega);cases hwb:Y6 k x.kind i with
        | true =>
         rw [hwb] at he;repeat' ((with_reducible first|refine wr ?_|refine cpc hmx ?_|refine cpc hwx ?_|refine k_cu ?_ ?_|refine wb2 ?_ ?_<;>(intro hb;try simp only [hb])|fail)<;>try simp only [go_sem,seval,hd,hg,hw,Ex.v_w,ne0,hwb,w1,w2])
         all_goals (refine ⟨(i+1,o+o1,max d (d1'+1)),⟨by simp,by simp,?_⟩,?_,inv ⟨by omega,by simp only;omega,by simp only;omega,by simp only;omega,?_⟩,by simp only;omega⟩)
         all_goals first
          | (refine congrArg I64 ?_;dsimp only;split<;>omega)
          | exact sub_upd2 () h1c
          | (rw [he];dsimp only;cases msL k (i+1) (a.drop (i+1)) with
           | none=>rfl
           | some q=>obtain ⟨o2,d2⟩:=q;simp [Nat.add_assoc,Nat.max_assoc])
        | false =>
         rw [hwb] at he;repeat' ((with_reducible first|refine wr ?_|refine cpc hmx ?_|refine cpc hwx ?_|refine k_cu ?_ ?_|refine wb2 ?_ ?_<;>(intro hb;try simp only [hb])|fail)<;>try simp only [go_sem,seval,hd,hg,hw,Ex.v_w,ne0,hwb,w1,w2])
         all_goals (refine ⟨(i+1,o+o1,max d (d1')),⟨by simp,by simp,?_⟩,?_,inv ⟨by omega,by simp only;omega,by simp only;omega,by simp only;omega,?_⟩,by simp only;omega⟩)
         all_goals first
          | (refine congrArg I64 ?_;dsimp only;split<;>omega)
          | exact sub_upd2 () h1c
          | (rw [he];dsimp only;cases msL k (i+1) (a.drop (i+1)) with
           | none=>rfl
           | some q=>obtain ⟨o2,d2⟩:=q;simp [Nat.add_assoc,Nat.max_assoc])
      ·have hd:decide ((i:Int)<a.length)=false:=by simpa using hlt
       rw [List.drop_of_length_le (by omega)] at he;have w1:=w64 (n:=(d:Int)+1) (by omega) (by omega);by_cases hc1:L6 k=1
       ·have e1:((L6 k:Int) == 1)=true:=by simp [hc1]
        rw [he,hc1] at hR;repeat' ((with_reducible first|refine wr ?_|refine k_cu ?_ ?_|refine wb2 ?_ ?_<;>(intro hb;try simp only [hb])|fail)<;>try simp only [go_sem,seval,hd,e1,w1])
        refine A5 ?_;rw [hR];simp [msV,msL]
       ·have e1:((L6 k:Int) == 1)=false:=by simp;omega
        rw [he] at hR;simp only [if_neg hc1] at hR;repeat' ((with_reducible first|refine wr ?_|refine k_cu ?_ ?_|refine wb2 ?_ ?_<;>(intro hb;try simp only [hb])|fail)<;>try simp only [go_sem,seval,hd,e1,w1])
        refine A5 ?_;rw [hR];simp [msV,msL]
  ·have d0:((a.length:Int) != (L6 k:Int))=true:=by simp;omega
   repeat' ((with_reducible first|refine wr ?_|refine k_cu ?_ ?_|refine wb2 ?_ ?_<;>(intro hb;try simp only [hb])|fail)<;>try simp only [go_sem,seval,d0])
   exact A5 (none0 (.inr (.inl hlen))).symm
 have kB:∀ nm:Bool,A1m k n=nm->kOk k=true->IW Tryz.prog 113 (pz Tryz.prog 66 (.o (.o (.o (.o (.o .h)))))) ⟨tm [(1,.ptr 0 0),(2,I64 0),(3,I64 0),(5,I64 (L6 k)),(7,.bool nm)],Sym.nil.upd 0 ⟨0,true,[I64 k,I64 v,.str n,K3 a,I64 p]⟩,1⟩ (rt [.tmp 2,.tmp 3,.tmp 4] fun v H' x => ∃ H2,GL H' [v] H2 [R]):=by
  intro nm hnm hkk;repeat' ((with_reducible first|refine E1 (p:=IW _ _ (pz Tryz.prog 66 (.o (.i (.o (.o (.o .h)))))) _ _) ?_|refine wr ?_|refine k_cu ?_ ?_|refine wb2 ?_ ?_<;>(intro hb;try simp only [hb])|fail)<;>try simp only [go_sem,seval])
  all_goals refine IW.stage (L:=[(1,.ptr 0 0),(2,I64 0),(3,I64 0),(5,I64 (L6 k)),(7,.bool nm),(8,.bool (A4j k v))]) ?_ (kA nm _ hnm rfl hkk)
  all_goals simp_all [D0,tm,Tm.upd,A4j]
  all_goals omega
 have kC:kOk k=true->IW Tryz.prog 113 (pz Tryz.prog 66 (.o (.o (.o (.i .h))))) ⟨tm [(1,.ptr 0 0),(2,I64 0),(3,I64 0),(5,I64 (L6 k))],Sym.nil.upd 0 ⟨0,true,[I64 k,I64 v,.str n,K3 a,I64 p]⟩,1⟩ (rt [.tmp 2,.tmp 3,.tmp 4] fun v H' x => ∃ H2,GL H' [v] H2 [R]):=by
  intro hkk;repeat' ((with_reducible first|refine E1 (p:=IW _ _ (pz Tryz.prog 66 (.o (.o (.o (.o (.o .h)))))) _ _) ?_|refine wr ?_|refine cpc hnk ?_|refine cpc hin ?_|refine k_cu ?_ ?_|refine wb2 ?_ ?_<;>(intro hb;try simp only [hb])|fail)<;>try simp only [go_sem,seval])
  all_goals refine IW.stage (L:=[(1,.ptr 0 0),(2,I64 0),(3,I64 0),(5,I64 (L6 k)),(7,.bool (A1m k n))]) ?_ (kB _ rfl hkk)
  all_goals simp_all [D0,tm,Tm.upd,A1m]
 by_cases l6:D6 k=6
 ·have m6:(D6 k == 6)=true:=by simpa using l6
  repeat' ((with_reducible first|refine E1 (p:=IW _ _ (pz Tryz.prog 66 (.o (.o (.o (.i .h))))) _ _) ?_|refine wr ?_|refine cpc hl ?_|refine k_cu ?_ ?_|refine wb2 ?_ ?_<;>(intro hb;try simp only [hb])|fail)<;>try simp only [go_sem,seval,m6])
  refine IW.stage ?_ (kC (by simp [kOk];left;omega));simp [D0,tm,Tm.upd,L6,l6]
 have m6:(D6 k == 6)=false:=by simpa using l6
 by_cases l5:D6 k<6
 ·have m5:decide (D6 k<6)=true:=by simpa using l5
  repeat' ((with_reducible first|refine E1 (p:=IW _ _ (pz Tryz.prog 66 (.o (.o (.o (.i .h))))) _ _) ?_|refine wr ?_|refine cpc hl ?_|refine k_cu ?_ ?_|refine wb2 ?_ ?_<;>(intro hb;try simp only [hb])|fail)<;>try simp only [go_sem,seval,m6,m5])
  refine IW.stage ?_ (kC (by simp [kOk];left;omega));simp [D0,tm,Tm.upd,L6,l6,l5]
 have m5:decide (D6 k<6)=false:=by simpa using l5
 repeat' ((with_reducible first|refine E1 (p:=IW _ _ (pz Tryz.prog 66 (.o (.o (.o (.i .h))))) _ _) ?_|refine wr ?_|refine cpc hl ?_|refine k_cu ?_ ?_|refine wb2 ?_ ?_<;>(intro hb;try simp only [hb])|fail)<;>try simp only [go_sem,seval,m6,m5])
 all_goals first
  | (refine IW.stage ?_ (kC (by simp_all [kOk]<;>omega));simp [D0,tm,Tm.upd,L6,l6,l5];done)
  | (refine A5 (none0 (.inl ?_)).symm;simp_all [kOk]<;>omega)
theorem c_ValidExpr (e:Ex) (hB:e.sz<=100000000):PC Tryz.prog 30 [e.v] (.bool (A4k e)):=by
 refine PC.ofT A7 rfl (Nat.le_of_ble_eq_true rfl) (by simp [DV.nlL,DV.nl]) (by simp [DV.nlL,DV.nl]) ?_;have hm:=c_measure _ e (Nat.lt_succ_self _) hB;unfold A4k;rw [Ex.v_w] at hm ⊢;cases hq:msM e with
 | none =>
  rw [hq] at hm;dsimp only [msV] at hm;repeat' ((with_reducible first|refine wr ?_|refine cpc hm ?_|refine k_cu ?_ ?_|refine wb2 ?_ ?_<;>(intro hb;try simp only [hb])|fail)<;>try simp only [go_sem,seval])
  all_goals exact A5 rfl
 | some q =>
  obtain ⟨o,d⟩:=q;rw [hq] at hm;dsimp only [msV] at hm;repeat' ((with_reducible first|refine wr ?_|refine cpc hm ?_|refine k_cu ?_ ?_|refine wb2 ?_ ?_<;>(intro hb;try simp only [hb])|fail)<;>try simp only [go_sem,seval])
  all_goals (refine A5 (congrArg DV.bool ?_);by_cases h1:o<=32<;>by_cases h2:d<=16<;>simp_all<;>omega)
end Go.Proofs.YthlpinppaclofaaGreatDoor
end
