/-
  HELPERS of the claim: part 7 of its texts.
-/
import Derived.Shelf.LaysC
import Derived.Shelf.Strconv.ParseIntPublic10
import Derived.Test.YtibjoemdkeimfaaDoorProg
import Derived.KernelRfl
import Derived.Lib.Join
import Derived.Test.YtibjoemdkeimfaaDoorTokf
noncomputable section
set_option linter.unusedVariables false
namespace Go.Proofs
open Go.Shelf
def Tryd.laysC174_ren:Go.Shelf.Ren:=⟨fun | 174=>55 | 247=>61 | 245=>62 | 287=>72 | 279=>73 | 280=>74 | 281=>75 | 282=>76 | 321=>83 | 322=>84 | 316=>85 | 171=>35 | 205=>86 | 243=>45 | 246=>57 | 283=>64 | 284=>65 | 285=>66 | 286=>67 | 129=>79 | 317=>78 | 318=>80 | 319=>81 | 320=>82 | 337=>87 | 338=>88|n=>n,fun | 9=>9 | 3=>3 | 2=>2 | 75=>65 | 85=>72 | 4=>4 | 167=>104 | 5=>5 | 53=>85 | 175=>105 | 46=>107 | 168=>108 | 37=>22 | 0=>0 | 210=>121 | 21=>21 | 127=>76 | 145=>126 | 143=>124 | 171=>84 | 173=>88 | 212=>113 | 51=>80 | 20=>20 | 213=>114 | 232=>127 | 233=>128 | 80=>68|n=>n,fun | 15=>4 | 16=>5 | 17=>2 | 18=>6 | 19=>7|n=>n⟩
theorem Tryd.laysC174:Go.Proofs.LaysC.n174 Tryd.prog Tryd.laysC174_ren:={
 mixed:=by kernel_rfl
 f129:=Tryd.func79.trans (congrArg some (by kernel_rfl))
 f171:=Tryd.func35.trans (congrArg some (by kernel_rfl))
 f174:=Tryd.func55.trans (congrArg some (by kernel_rfl))
 f205:=Tryd.func86.trans (congrArg some (by kernel_rfl))
 f243:=Tryd.func45.trans (congrArg some (by kernel_rfl))
 f245:=Tryd.func62.trans (congrArg some (by kernel_rfl))
 f246:=Tryd.func57.trans (congrArg some (by kernel_rfl))
 f247:=Tryd.func61.trans (congrArg some (by kernel_rfl))
 f279:=Tryd.func73.trans (congrArg some (by kernel_rfl))
 f280:=Tryd.func74.trans (congrArg some (by kernel_rfl))
 f281:=Tryd.func75.trans (congrArg some (by kernel_rfl))
 f282:=Tryd.func76.trans (congrArg some (by kernel_rfl))
 f283:=Tryd.func64.trans (congrArg some (by kernel_rfl))
 f284:=Tryd.func65.trans (congrArg some (by kernel_rfl))
 f285:=Tryd.func66.trans (congrArg some (by kernel_rfl))
 f286:=Tryd.func67.trans (congrArg some (by kernel_rfl))
 f287:=Tryd.func72.trans (congrArg some (by kernel_rfl))
 f316:=Tryd.func85.trans (congrArg some (by kernel_rfl))
 f317:=Tryd.func78.trans (congrArg some (by kernel_rfl))
 f318:=Tryd.func80.trans (congrArg some (by kernel_rfl))
 f319:=Tryd.func81.trans (congrArg some (by kernel_rfl))
 f320:=Tryd.func82.trans (congrArg some (by kernel_rfl))
 f321:=Tryd.func83.trans (congrArg some (by kernel_rfl))
 f322:=Tryd.func84.trans (congrArg some (by kernel_rfl))
 f337:=Tryd.func87.trans (congrArg some (by kernel_rfl))
 f338:=Tryd.func88.trans (congrArg some (by kernel_rfl))
 t0:=Tryd.underlying0
 a0:=Tryd.isAgg0
 z0:=Tryd.sizeOf0
 v0:=Tryd.zeroValue0
 t2:=Tryd.underlying2
 a2:=Tryd.isAgg2
 z2:=Tryd.sizeOf2
 v2:=Tryd.zeroValue2
 t3:=Tryd.underlying3
 a3:=Tryd.isAgg3
 z3:=Tryd.sizeOf3
 v3:=Tryd.zeroValue3
 t4:=Tryd.underlying4
 a4:=Tryd.isAgg4
 z4:=Tryd.sizeOf4
 v4:=Tryd.zeroValue4
 t5:=Tryd.underlying5
 a5:=Tryd.isAgg5
 z5:=Tryd.sizeOf5
 v5:=Tryd.zeroValue5
 t9:=Tryd.underlying9
 a9:=Tryd.isAgg9
 z9:=Tryd.sizeOf9
 v9:=Tryd.zeroValue9
 t20:=Tryd.underlying20
 a20:=Tryd.isAgg20
 z20:=Tryd.sizeOf20
 v20:=Tryd.zeroValue20
 t21:=Tryd.underlying21
 a21:=Tryd.isAgg21
 z21:=Tryd.sizeOf21
 v21:=Tryd.zeroValue21
 t37:=Tryd.underlying22
 a37:=Tryd.isAgg22
 z37:=Tryd.sizeOf22
 v37:=Tryd.zeroValue22
 t46:=Tryd.underlying107
 a46:=Tryd.isAgg107
 z46:=Tryd.sizeOf107
 v46:=Tryd.zeroValue107
 t51:=Tryd.underlying80
 a51:=Tryd.isAgg80
 z51:=Tryd.sizeOf80
 v51:=Tryd.zeroValue80
 t53:=Tryd.underlying85
 a53:=Tryd.isAgg85
 z53:=Tryd.sizeOf85
 v53:=Tryd.zeroValue85
 t75:=Tryd.underlying65
 a75:=Tryd.isAgg65
 z75:=Tryd.sizeOf65
 v75:=Tryd.zeroValue65
 t85:=Tryd.underlying72
 a85:=Tryd.isAgg72
 z85:=Tryd.sizeOf72
 v85:=Tryd.zeroValue72
 t127:=Tryd.underlying76
 a127:=Tryd.isAgg76
 z127:=Tryd.sizeOf76
 v127:=Tryd.zeroValue76
 t143:=Tryd.underlying124
 a143:=Tryd.isAgg124
 z143:=Tryd.sizeOf124
 v143:=Tryd.zeroValue124
 t145:=Tryd.underlying126
 a145:=Tryd.isAgg126
 z145:=Tryd.sizeOf126
 v145:=Tryd.zeroValue126
 t167:=Tryd.underlying104
 a167:=Tryd.isAgg104
 z167:=Tryd.sizeOf104
 v167:=Tryd.zeroValue104
 t168:=Tryd.underlying108
 a168:=Tryd.isAgg108
 z168:=Tryd.sizeOf108
 v168:=Tryd.zeroValue108
 t171:=Tryd.underlying84
 a171:=Tryd.isAgg84
 z171:=Tryd.sizeOf84
 v171:=Tryd.zeroValue84
 t173:=Tryd.underlying88
 a173:=Tryd.isAgg88
 z173:=Tryd.sizeOf88
 v173:=Tryd.zeroValue88
 t175:=Tryd.underlying105
 a175:=Tryd.isAgg105
 z175:=Tryd.sizeOf105
 v175:=Tryd.zeroValue105
 t210:=Tryd.underlying121
 a210:=Tryd.isAgg121
 z210:=Tryd.sizeOf121
 v210:=Tryd.zeroValue121
 t212:=Tryd.underlying113
 a212:=Tryd.isAgg113
 z212:=Tryd.sizeOf113
 v212:=Tryd.zeroValue113
 t213:=Tryd.underlying114
 a213:=Tryd.isAgg114
 z213:=Tryd.sizeOf114
 t232:=Tryd.underlying127
 a232:=Tryd.isAgg127
 z232:=Tryd.sizeOf127
 v232:=Tryd.zeroValue127
 t233:=Tryd.underlying128
 a233:=Tryd.isAgg128
 z233:=Tryd.sizeOf128
 v233:=Tryd.zeroValue128
 g15:=by kernel_rfl
 g16:=by kernel_rfl
 g17:=by kernel_rfl
 g18:=by kernel_rfl
 g19:=by kernel_rfl
 t80:=Tryd.underlying68
 a80:=Tryd.isAgg68
 z80:=Tryd.sizeOf68
 v80:=Tryd.zeroValue68
 i0:=by kernel_rfl
 i2:=by kernel_rfl
 i3:=by kernel_rfl
 i4:=by kernel_rfl
 i5:=by kernel_rfl
 i9:=by kernel_rfl
 i20:=by kernel_rfl
 i21:=by kernel_rfl
 i37:=by kernel_rfl
 i46:=by kernel_rfl
 i51:=by kernel_rfl
 i53:=by kernel_rfl
 i75:=by kernel_rfl
 i80:=by kernel_rfl
 i85:=by kernel_rfl
 i127:=by kernel_rfl
 i143:=by kernel_rfl
 i145:=by kernel_rfl
 i167:=by kernel_rfl
 i168:=by kernel_rfl
 i171:=by kernel_rfl
 i173:=by kernel_rfl
 i175:=by kernel_rfl
 i210:=by kernel_rfl
 i212:=by kernel_rfl
 i232:=by kernel_rfl
 i233:=by kernel_rfl
 m15:=by kernel_rfl
 m16:=by kernel_rfl
 m17:=by kernel_rfl
 m18:=by kernel_rfl
 m19:=by kernel_rfl
 c0:=by kernel_rfl
 c2:=by kernel_rfl
 c3:=by kernel_rfl
 c4:=by kernel_rfl
 c5:=by kernel_rfl
 c9:=by kernel_rfl
 c20:=by kernel_rfl
 c21:=by kernel_rfl
 c37:=by kernel_rfl
 c46:=by kernel_rfl
 c51:=by kernel_rfl
 c53:=by kernel_rfl
 c75:=by kernel_rfl
 c80:=by kernel_rfl
 c85:=by kernel_rfl
 c127:=by kernel_rfl
 c143:=by kernel_rfl
 c145:=by kernel_rfl
 c167:=by kernel_rfl
 c168:=by kernel_rfl
 c171:=by kernel_rfl
 c173:=by kernel_rfl
 c175:=by kernel_rfl
 c210:=by kernel_rfl
 c212:=by kernel_rfl
 c213:=by kernel_rfl
 c232:=by kernel_rfl
 c233:=by kernel_rfl }
open Go.RowKit in
theorem Tryd.strconv_ParseInt_10_at64_ok (s:ByteArray) (hmax:s.size≤9223372036854775806) (v:Int) (h:Lib.parseIntB 64 s.data.toList=.ok v) (w:World) :
  Calls Tryd.prog 55 #[.string s,.int .i64 10,.int .i64 64] w fun e w'=>e=.returned (.tuple #[.int .i64 v,.nilIface])∧(w'=w∨∃ t,w'=Lib.bytesWorld w 5 t):=Any.strconv_ParseInt_10_at64_ok Tryd.laysC174 s hmax v h w
open Go.RowKit in
theorem Tryd.strconv_ParseInt_10_at64_range (s:ByteArray) (hlim:s.size≤281474976710656) (h:Lib.parseIntB 64 s.data.toList=.range) (ev:Value) (w:World) (hv:w.cell? ⟨5,0,none⟩=some ev) (hev:ev=.nilIface∨∃ te pe,ev=.iface te pe) :
  Calls Tryd.prog 55 #[.string s,.int .i64 10,.int .i64 64] w fun e w' => ∃ N,e=.returned (.tuple #[.int .i64 (Lib.intSat 64 s.data.toList),.iface 108 (.pointer (some ⟨N,0,none⟩))])∧w.heap.size≤N∧w'.heap[N]? = some (.cells #[.string ⟨#[80,97,114,115,101,73,110,116]⟩,.string s,ev] 121 (0,0))∧Below w.heap.size w w':=Any.strconv_ParseInt_10_at64_range Tryd.laysC174 s hlim h ev w hv hev
end Go.Proofs
set_option maxHeartbeats 4000000
set_option maxRecDepth 100000
set_option linter.unusedSimpArgs false
namespace Go.Proofs.YtibjoemdkeimfaaDoor
open Go.Eng (IC IOper DReg IFn IsFn Callable)
open Go.Sym Go.Pb Go.RowKit
theorem dec_eq:∀ (m u:Nat),u<m→Lib.decDigits u=decB u:=by
 intro m
 induction m with
 | zero=>intro u h;omega
 | succ m ih =>
  intro u h
  unfold Lib.decDigits
  by_cases h0:u<10
  ·rw [dif_pos h0,decB_lt h0];rfl
  ·rw [dif_neg h0,decB_ge h0,ih (u / 10) (by omega)];rfl
theorem itoa_eq (n:Int):Lib.itoa n=decI n:=by
 unfold Lib.itoa decI
 by_cases h:n<0
 ·rw [if_pos h,if_pos h,dec_eq (n.natAbs+1) _ (by omega)]
 ·rw [if_neg h,if_neg h,dec_eq (n.toNat+1) _ (by omega)]
  congr 1;omega
theorem arg1 {ρ : Ren} {x:DV} {u:Value} {vs:Array Value} (hA:ARel ρ [x] vs) (h:∀ y,VRel ρ x y→y=u):vs = #[u]:=by
 obtain ⟨y,h1,h2⟩:=hA.get (i:=0) rfl
 have hs:vs.size=1:=hA.1.symm
 obtain rfl:=h y h2
 cases vs with|mk l=>match l,hs,h1 with
  | [a],_,h1=>simp at h1;subst h1;rfl
theorem c_Itoa (n:Int) (h0 : -9223372036854775808≤n) (h1:n≤9223372036854775807):PC Tryd.prog 35 [I64 n] (.str (decI n)):=by
 refine PC.of_calls (by kernel_rfl) rfl rfl fun ρ w vs hf hA=>?_
 have hvs:vs = #[.int .i64 n]:=arg1 hA fun y h=>h.int_inv
 rw [hvs]
 obtain ⟨r,hr,rfl⟩ := ρ.tab _ (List.mem_cons_self)
 obtain ⟨e,fr,hb⟩:=hf _ _ hr
 have ht : Lib.TabIs Tryd.prog w "internal/strconv.uint64pow10" .u64 Lib.pow10Tab := by
  unfold Lib.TabIs World.var?
  rw [Tryd.laysM171.m17]
  show (match w.heap[2]? with|some (.cells cs _ _)=>some cs|_=>none)=_
  rw [hb]
 refine (Tryd.strconv_Itoa n h0 h1 w ht).mono ?_
 rintro e w' ⟨rfl,k,os,rfl⟩
 exact ⟨_,rfl,fun ρ'=>by rw [itoa_eq];exact .mkStr,⟨rfl,rfl,rfl,by show w.heap.size≤(w.heap++os).size;rw [Array.size_append];omega,fun j hj=>by
  show (w.heap++os)[j]? = w.heap[j]?
  rw [Array.getElem?_append,if_pos hj]⟩⟩
theorem arg2 {ρ : Ren} {x x2:DV} {u u2:Value} {vs:Array Value} (hA:ARel ρ [x,x2] vs) (h:∀ y,VRel ρ x y→y=u) (h2:∀ y,VRel ρ x2 y→y=u2):vs = #[u,u2]:=by
 obtain ⟨y,g1,g2⟩:=hA.get (i:=0) rfl
 obtain ⟨z,g3,g4⟩:=hA.get (i:=1) rfl
 obtain rfl:=h y g2
 obtain rfl:=h2 z g4
 have hs:vs.size=2:=hA.1.symm
 cases vs with|mk r=>match r,hs,g1,g3 with
  | [a,b],_,h1,h3=>simp at h1 h3;subst h1 h3;rfl
theorem arg3 {ρ : Ren} {x x2 x3:DV} {u u2 u3:Value} {vs:Array Value} (hA:ARel ρ [x,x2,x3] vs) (h:∀ y,VRel ρ x y→y=u) (h2:∀ y,VRel ρ x2 y→y=u2) (h3:∀ y,VRel ρ x3 y→y=u3):vs = #[u,u2,u3]:=by
 obtain ⟨y,g1,g2⟩:=hA.get (i:=0) rfl
 obtain ⟨z,g3,g4⟩:=hA.get (i:=1) rfl
 obtain ⟨q,g5,g6⟩:=hA.get (i:=2) rfl
 obtain rfl:=h y g2
 obtain rfl:=h2 z g4
 obtain rfl:=h3 q g6
 have hs:vs.size=3:=hA.1.symm
 cases vs with|mk r=>match r,hs,g1,g3,g5 with
  | [a,b,c],_,h1,h3,h5=>simp at h1 h3 h5;subst h1 h3 h5;rfl
theorem c_IndexByte (s:List UInt8) (c:UInt8):PC Tryd.prog 56 [.str s,.int .u8 c.toNat] (I64 (Lib.indexByte s c)):=by
 refine PC.of_calls (by kernel_rfl) rfl rfl fun ρ w vs hf hA=>?_
 rw [arg2 hA (fun y h=>h.str_inv) (fun y h=>h.int_inv)]
 refine (Tryd.strings_IndexByte _ _ w).mono ?_
 rintro e w' ⟨rfl,rfl⟩
 refine ⟨_,rfl,fun ρ'=>?_,Below.refl _ _⟩
 have:((c.toNat:Int).toNat.toUInt8)=c:=by rw [Int.toNat_natCast];exact UInt8.ofNat_toNat
 rw [this]
 exact .int _ _
theorem c_ParseOk (s:List UInt8) (hs:s.length≤281474976710656) (h:∀ c∈s,dgB c=true) (h0:s≠[]) (hv:numV s≤9223372036854775807):PC Tryd.prog 55 [.str s,I64 10,I64 64] (.tup [I64 (numV s),.inil]):=by
 refine PC.of_calls (by kernel_rfl) rfl rfl fun ρ w vs hf hA=>?_
 rw [arg3 hA (fun y h=>h.str_inv) (fun y h=>h.int_inv) (fun y h=>h.int_inv)]
 refine (Tryd.strconv_ParseInt_10_at64_ok _ (by show s.toArray.size≤_;rw [List.size_toArray];omega) (numV s:Int) (by have:=pib h h0;rw [if_pos hv] at this;exact this) w).mono ?_
 rintro e w' ⟨rfl,hw⟩
 refine ⟨_,rfl,fun ρ'=>.tup _ _ rfl (fun i x y hx hy=>?_),?_⟩
 ·match i with
  | 0=>simp at hx hy;subst hx hy;exact .int _ _
  | 1=>simp at hx hy;subst hx hy;exact .inil
  | _+2=>simp at hx
 ·rcases hw with rfl|⟨t,rfl⟩
  ·exact Below.refl _ _
  ·exact ⟨rfl,rfl,rfl,by rw [Lib.bytesWorld_size];omega,fun j hj=>Lib.bytesWorld_at_old _ _ _ _ hj⟩
theorem c_ParseBig (s:List UInt8) (hs:s.length≤281474976710656) (h:∀ c∈s,dgB c=true) (h0:s≠[]) (hv:9223372036854775807<numV s):PC Tryd.prog 55 [.str s,I64 10,I64 64] (.tup [.bot,.iface 108 .bot]):=by
 refine PC.of_calls (by kernel_rfl) rfl rfl fun ρ w vs hf hA=>?_
 rw [arg3 hA (fun y h=>h.str_inv) (fun y h=>h.int_inv) (fun y h=>h.int_inv)]
 obtain ⟨r,hr,te,pe,rfl⟩ := ρ.tab _ (List.mem_cons_of_mem _ (List.mem_cons_of_mem _ List.mem_cons_self))
 obtain ⟨e,fr,hb⟩:=hf _ _ hr
 refine (Tryd.strconv_ParseInt_10_at64_range _ (by show s.toArray.size≤_;rw [List.size_toArray];omega) (by have:=pib h h0;rw [if_neg (by omega)] at this;exact this) (.iface te pe) w ?_ (.inr ⟨te,pe,rfl⟩)).mono ?_
 ·simp only [World.cell?]
  have hb':w.heap[5]? = _:=hb
  rw [hb'];rfl
 ·rintro e w' ⟨N,rfl, -, -,hB⟩
  refine ⟨_,rfl,fun ρ'=>.tup _ _ rfl (fun i x y hx hy=>?_),hB⟩
  match i with
  | 0=>simp at hx hy;subst hx hy;exact .bot _
  | 1=>simp at hx hy;subst hx hy;exact .iface _ _ _ (.bot _)
  | _+2=>simp at hx
def wlit:List UInt8:=w8 [115,119,105,116,99,104,32,99,111,105,108,32,108,97,109,112,32,115,111,117,110,100,32,115,104,111,119,32,118,97,114,32,116,105,109,101,114,32,101,118,101,110,116,32,109,111,100,101,32,111,110,32,115,116,97,114,116,32,115,116,111,112,32,99,108,111,115,101,32,111,112,101,110,32,105,102,32,101,108,115,101,32,114,101,112,101,97,116,32,115,99,111,114,101,32,102,105,114,101,32,104,111,108,100,32,114,101,108,101,97,115,101,32,108,105,103,104,116,32,98,108,105,110,107,32,98,101,103,105,110,32,101,110,100,32,112,111,115,116,32,112,108,97,121,32,114,117,110,32,104,97,108,116,32,116,101,120,116,32,99,111,110,115,117,109,101,32,99,108,111,115,101,100,32,97,99,116,105,118,101,32,108,101,102,116,32,112,108,97,121,101,114,32,98,97,108,108,32,116,114,117,101,32,102,97,108,115,101]
theorem wlit_f:Lib.fields wlit=wordsL:=by kernel_rfl
theorem wlit_a:wlit.all (fun b=>decide (b.toNat<128))=true:=by kernel_rfl
theorem c_Fields:PC Tryd.prog 40 [.str wlit] (.lst (wordsL.map DV.str)):=by
 refine PC.of_callsF (by kernel_rfl) rfl (nlL_strs _) fun ρ w vs hf hA=>?_
 rw [arg1 hA (fun y h=>h.str_inv)]
 obtain ⟨r,hr,rfl⟩ := ρ.tab _ (List.mem_cons_of_mem _ List.mem_cons_self)
 obtain ⟨e,fr,hb⟩:=hf _ _ hr
 have ht : Lib.TabIs Tryd.prog w "strings.asciiSpace" .u8 Lib.asciiSpaceTab := by
  unfold Lib.TabIs World.var?
  rw [show Tryd.prog.globalNamed "strings.asciiSpace" = some 0 by kernel_rfl]
  show (match w.heap[0]? with|some (.cells cs _ _)=>some cs|_=>none)=_
  have hb':w.heap[0]? = _:=hb
  rw [hb']
 refine (Tryd.strings_Fields _ w (by decide) ?_ ht).mono ?_
 ·intro j b hj
  have:=List.all_eq_true.1 wlit_a b (List.mem_of_getElem? hj)
  simpa using this
 ·rintro e w' ⟨rfl,rfl⟩
  have hl:Lib.fields (⟨wlit.toArray⟩:ByteArray).data.toList=wordsL:=wlit_f
  rw [hl]
  refine ⟨_,w.heap.size,_,9,_,rfl,Nat.le_refl _,(by show (w.heap.push _)[w.heap.size]? = _;rw [Array.getElem?_push_size]),fun ρ' hρ => VRel.strs hρ rfl (Nat.le_refl _) (by decide),Below.alloc (Below.refl _ _) (Nat.le_refl _) _⟩
end Go.Proofs.YtibjoemdkeimfaaDoor
set_option linter.unusedSectionVars false
namespace Go.Pb
variable [Go.Sym.Tab]
open Go.Sym
theorem sls_from {s:List UInt8} {k:Nat} (h:k≤s.length):slsR s (some (.int .i64 (k:Int))) none=some (.str (s.drop k)):=by
 rw [r_sls (l:=k) (h:=s.length) rfl (by simp [boundOf]) (Nat.le_refl _) h,List.take_of_length_le (by simp)]
theorem sls_to {s:List UInt8} {k:Nat} (h:k≤s.length):slsR s none (some (.int .i64 (k:Int)))=some (.str (s.take k)):=by
 rw [r_sls (l:=0) (h:=k) (by simp [boundOf]) rfl h (Nat.zero_le _),List.drop_zero,Nat.sub_zero]
theorem strC_len (l:List (List UInt8)):(cellsL (l.map DV.str)).length=l.length * 1:=by
 rw [cellsL_length (u:=1)]
 ·simp
 ·intro x hx;obtain ⟨y, -,rfl⟩:=List.mem_map.1 hx;rfl
theorem str_unit (l:List (List UInt8)):∀ x∈l.map DV.str,x.cells.length=1:=by
 intro x hx;obtain ⟨y, -,rfl⟩:=List.mem_map.1 hx;rfl
end Go.Pb
namespace Go.Pb
variable [Go.Sym.Tab]
open Go.Sym
def delO (H:Hp):Option Nat→Hp
 | none=>H
 | some i=>H.del i
theorem r_lentodo {o:Option Nat} {n:Nat} (h:o=none→n=0):lenR (todoV o n)=some (I64 (n:Int)):=by
 cases o with
 | none=>rw [h rfl];rfl
 | some i=>rfl
theorem r_apptodo {H:Hp} {c sz bytes n m:Nat} {o:Option Nat} {cs src:List DV} (hn:o=none→n=0∧cs=[]) (hb:∀ i,o=some i→H i=some ⟨sz,true,cs⟩) (hl:cs.length=n * sz) (hm:1≤m) (h2:(n+m) * bytes≤140737488355328) (h3:n+m≤9223372036854775807) :
  appR H c sz bytes (todoV o n) m src=some (.slc c 0 (n+m),(delO H o).upd c ⟨sz,true,cs++src⟩,c+1):=by
 cases o with
 | none =>
  obtain ⟨rfl,rfl⟩:=hn rfl
  rw [todo_n,r_appn' (by omega) (by simpa using h2) (by omega)]
  simp [delO]
 | some i=>rw [todo_s,r_apps,hb i rfl,b_appx hl h2 h3];rfl
theorem delO_ne {H:Hp} {o:Option Nat} {j:Nat} (h:∀ i,o=some i→¬ j=i):delO H o j=H j:=by
 cases o with
 | none=>rfl
 | some i=>exact h_dne (h i rfl)
theorem optH_ne {H:Hp} {o:Option Nat} {b:Blk} {j:Nat} (h:∀ i,o=some i→¬ j=i):optH H o b j=H j:=by
 cases o with
 | none=>rfl
 | some i=>exact h_ne (h i rfl)
section
variable {l:List UInt8} {k p:Nat} {S P V:DV} {I:List Ins} {E:List Ent} {o1 o2:Option Nat} {cc:Nat}
end
end Go.Pb
namespace Go.Pb
variable [Go.Sym.Tab]
open Go.Sym
theorem bq_t {a b:Nat} (h:((a:Int) == (b:Int))=true):a=b:=by have:=beq_iff_eq.1 h;omega
theorem bq_f {a b:Nat} (h:((a:Int) == (b:Int))=false):a≠b:=fun e=>by rw [e] at h;simp at h
theorem bn_t {a b:Nat} (h:((a:Int) != (b:Int))=true):a≠b:=fun e=>by rw [e] at h;simp at h
theorem bn_f {a b:Nat} (h:((a:Int) != (b:Int))=false):a=b:=by
 have:(a:Int)=b:=by simpa using h
 omega
theorem gt_t {a b:Nat} (h:decide ((a:Int)>(b:Int))=true):b<a:=by have:=of_decide_eq_true h;omega
theorem gt_f {a b:Nat} (h:decide ((a:Int)>(b:Int))=false):¬ b<a:=by have:=of_decide_eq_false h;omega
theorem drop_at {α : Type} {s:List α} {i:Nat} {c : α} (h:s[i]? = some c):s.drop i=c :: s.drop (i+1):=by
 obtain ⟨hi,rfl⟩:=List.getElem?_eq_some_iff.1 h
 exact List.drop_eq_getElem_cons hi
theorem sk_sep {s:List UInt8} {i:Nat} {c:UInt8} (h:s[i]? = some c) (hc:sepB c=true):skM false (s.drop i)=skM false (s.drop (i+1))+1:=by
 rw [drop_at h];simp only [skM];rw [if_pos hc]
theorem sk_cmt {s:List UInt8} {i:Nat} {c:UInt8} (h:s[i]? = some c) (hc:c.toNat=35) :
  skM false (s.drop i)=spnM (fun c=>decide (c.toNat≠10)) (s.drop i)+skM false (s.drop (i+spnM (fun c=>decide (c.toNat≠10)) (s.drop i))):=by
 have hs:¬ sepB c=true:=by simp [sepB,hc]
 have e1:skM false (s.drop i)=skM true (s.drop i):=by
  rw [drop_at h]
  simp only [skM]
  rw [if_neg hs,if_pos hc,if_neg (by omega)]
 rw [e1,skM_true,List.drop_drop]
theorem sk_stop {s:List UInt8} {i:Nat} {c:UInt8} (h:s[i]? = some c) (h1:¬ sepB c=true) (h2:¬ c.toNat=35):skM false (s.drop i)=0:=by
 rw [drop_at h];simp only [skM];rw [if_neg h1,if_neg h2]
theorem sk_end {s:List UInt8} {i:Nat} (h:s.length≤i):skM false (s.drop i)=0:=by
 rw [List.drop_eq_nil_of_le h];rfl
theorem sk_cmt1 {s:List UInt8} {i:Nat} {c:UInt8} (h:s[i]? = some c) (hc:c.toNat=35):1≤spnM (fun c=>decide (c.toNat≠10)) (s.drop i):=by
 rw [drop_at h];simp only [spnM];rw [if_pos (by simp [hc])];omega
def quA (acc:List UInt8) (k:Nat) (q:Option (List UInt8 × Nat)):Option (List UInt8 × Nat):=q.map fun x=>(acc++x.1,x.2+k)
theorem quM_cons (c:UInt8) (r:List UInt8):quM (c :: r)=if c.toNat=34 then some ([],1)
  else if c.toNat<32∨126<c.toNat then none
  else if c.toNat=92 then match r with
   | []=>none
   | d :: q=>if d.toNat=34∨d.toNat=92 then (quM q).map fun x=>(d :: x.1,x.2+2) else none
  else (quM r).map fun x=>(c :: x.1,x.2+1):=by rw [quM.eq_def];rfl
theorem qu_quote {s acc:List UInt8} {k:Nat} {c:UInt8} (h:s[k]? = some c) (hc:c.toNat=34):quA acc k (quM (s.drop k))=some (acc,k+1):=by
 rw [drop_at h,quM_cons,if_pos hc];simp [quA];omega
theorem qu_bad {s acc:List UInt8} {k:Nat} {c:UInt8} (h:s[k]? = some c) (h0:c.toNat≠34) (hc:c.toNat<32∨126<c.toNat):quA acc k (quM (s.drop k))=none:=by
 rw [drop_at h,quM_cons,if_neg h0,if_pos hc];rfl
theorem qu_end {s acc:List UInt8} {k:Nat} (h:s.length≤k):quA acc k (quM (s.drop k))=none:=by
 rw [List.drop_eq_nil_of_le h,quM];rfl
theorem qu_char {s acc:List UInt8} {k:Nat} {c:UInt8} (h:s[k]? = some c) (h0:c.toNat≠34) (h1:32≤c.toNat) (h2:c.toNat≤126) (h3:c.toNat≠92) :
  quA acc k (quM (s.drop k))=quA (acc++[c]) (k+1) (quM (s.drop (k+1))):=by
 rw [drop_at h,quM_cons,if_neg h0,if_neg (by omega),if_neg h3]
 cases quM (s.drop (k+1)) with
 | none=>rfl
 | some x=>simp [quA];omega
theorem qu_esc {s acc:List UInt8} {k:Nat} {c d:UInt8} (h:s[k]? = some c) (h3:c.toNat=92) (hd:s[k+1]? = some d) (h4:d.toNat=34∨d.toNat=92) :
  quA acc k (quM (s.drop k))=quA (acc++[d]) (k+2) (quM (s.drop (k+2))):=by
 rw [drop_at h,drop_at hd,quM_cons,if_neg (by omega),if_neg (by omega),if_pos h3]
 simp only
 rw [if_pos h4]
 cases quM (s.drop (k+1+1)) with
 | none=>rfl
 | some x=>simp [quA];omega
theorem qu_esc0 {s acc:List UInt8} {k:Nat} {c:UInt8} (h:s[k]? = some c) (h3:c.toNat=92) (hd:∀ d,s[k+1]? = some d→d.toNat≠34∧d.toNat≠92) :
  quA acc k (quM (s.drop k))=none:=by
 rw [drop_at h]
 cases hq:s.drop (k+1) with
 | nil=>rw [quM_cons,if_neg (by omega),if_neg (by omega),if_pos h3];rfl
 | cons d q =>
  have h5:s[k+1]? = some d:=by
   have:=congrArg List.head? hq
   rwa [List.head?_drop] at this
  have h6:=hd d h5
  rw [quM_cons,if_neg (by omega),if_neg (by omega),if_pos h3]
  simp only
  rw [if_neg (by omega)];rfl
def quV:Option (List UInt8 × Nat)→DV
 | none=>.tup [.str [],I64 0]
 | some x=>.tup [.str x.1,I64 x.2]
theorem r_cvtodo {H:Hp} {o:Option Nat} {u:Nat} {acc:List UInt8} (hn:o=none→acc=[]) (hb:∀ i,o=some i→H i=some ⟨u,true,bytesC acc⟩):cvbsR H (todoV o acc.length)=some (.str acc):=by
 cases o with
 | none=>rw [hn rfl];rfl
 | some i=>exact cv_own (hb i rfl) rfl rfl
theorem sub_one {X:Hp} {id:Nat} {b b':Blk} (h:b=b'):Sub (optH Sym.nil (some id) b) (X.upd id b'):=by
 intro j q hj
 simp only [optH] at hj
 by_cases e:j=id
 ·subst e;rw [h_same] at hj ⊢;rw [← h];exact hj
 ·rw [h_ne e] at hj;cases hj
theorem r_aptodo2 {X:Hp} {o:Option Nat} {c sz bytes n m:Nat} {cs src:List DV} {b2:Blk} (hn:o=none→n=0∧cs=[]) (ho:∀ i,o=some i→i<c) (hl:cs.length=n * sz) (hm:1≤m)
  (h2:(n+m) * bytes≤140737488355328) (h3:n+m≤9223372036854775807) :
  appR ((optH X o ⟨sz,true,cs⟩).upd c b2) (c+1) sz bytes (todoV o n) m src=some (.slc (c+1) 0 (n+m),(delO ((optH X o ⟨sz,true,cs⟩).upd c b2) o).upd (c+1) ⟨sz,true,cs++src⟩,c+1+1) :=
 r_apptodo hn (fun i hi=>by have:=ho i hi;rw [h_ne (by omega)];subst hi;exact h_same) hl hm h2 h3
theorem r_apbyte {X:Hp} {o:Option Nat} {c:Nat} {acc:List UInt8} (hn:o=none→acc=[]) (ho:∀ i,o=some i→i<c) (hl:acc.length≤10000000) (b2:Blk) (x:UInt8) :
  appR ((optH X o ⟨1,true,bytesC acc⟩).upd c b2) (c+1) 1 1 (todoV o acc.length) 1 [.int .u8 (x.toNat:Int)]=some (.slc (c+1) 0 (acc.length+1),(delO ((optH X o ⟨1,true,bytesC acc⟩).upd c b2) o).upd (c+1) ⟨1,true,bytesC (acc++[x])⟩,c+1+1):=by
 rw [bytesC_app]
 exact r_aptodo2 (fun e=>by rw [hn e];exact ⟨rfl,rfl⟩) ho (bytesC_len1 acc) (by omega) (by omega) (by omega)
theorem ix_one (c:UInt8):decide (Lib.indexByte [123,125,40,41,59,44,61,43,45,42,47,37,33,60,62] c≥0)=oneB c:=by
 rw [Bool.eq_iff_iff,decide_eq_true_iff]
 refine (ixb_iff c _).trans ?_
 have key:∀ n:Nat,n<256→([123,125,40,41,59,44,61,43,45,42,47,37,33,60,62]:List UInt8).contains (UInt8.ofNat n)=oneB (UInt8.ofNat n):=by decide +kernel
 have:=key c.toNat c.toNat_lt
 rw [UInt8.ofNat_toNat] at this
 rw [this]
def quB (c:UInt8):List UInt8:=if c.toNat=34∨c.toNat=92 then [92,c] else [c]
def qpre (s:List UInt8):List UInt8:=[34]++s.flatMap quB
def quoteM (s:List UInt8):List UInt8:=qpre s++[34]
theorem qpre_step {s:List UInt8} {k:Nat} {c:UInt8} (h:s[k]? = some c):qpre (s.take (k+1))=qpre (s.take k)++quB c:=by
 unfold qpre
 rw [List.take_add_one,h,List.flatMap_append,List.append_assoc];simp
theorem quB_len:∀ s:List UInt8,(s.flatMap quB).length≤2 * s.length
 | []=>by simp
 | c :: r=>by
  have:=quB_len r
  rw [List.flatMap_cons,List.length_append,List.length_cons]
  have:(quB c).length≤2:=by unfold quB;split<;>simp
  omega
theorem qpre_len (s:List UInt8):(qpre s).length≤2 * s.length+1:=by
 have:=quB_len s
 unfold qpre
 rw [List.length_append,List.length_singleton];omega
theorem apb1 {H:Hp} {c id n:Nat} {acc:List UInt8} {x:UInt8} (hn:n=acc.length) (hl:n≤10000000) :
  apB H c id 1 1 n 1 [.int .u8 (x.toNat:Int)] (some ⟨1,true,bytesC acc⟩)=some (.slc c 0 (n+1),(H.del id).upd c ⟨1,true,bytesC (acc++[x])⟩,c+1):=by
 rw [bytesC_app]
 exact b_appx (by rw [bytesC_len,hn];omega) (by omega) (by omega)
theorem scanV_nl (q:List Tok × Int × Int):(scanV q).nl=true:=by
 simp only [DV.nl,DV.nlL,nlL_toks,Bool.and_true]
theorem pc_snil3 {H:Hp} {a b:DV}:∃ H2,GL H [.tup [.snil,a,b]] H2 [.tup [.lst [],a,b]] :=
 ⟨H,GL.view fun ρ vs hA=>⟨hA.1,fun i x y hx hy=>by
  match i with
  | 0 =>
   cases hx
   have:=hA.2 0 _ y rfl hy
   obtain ⟨b',rfl,k1,k2⟩:=this.tup_inv
   refine .tup _ _ k1 fun j x' y' hx' hy'=>?_
   match j with
   | 0=>cases hx';exact (k2 0 _ y' rfl hy').snil_lst
   | 1=>cases hx';exact k2 1 _ y' rfl hy'
   | 2=>cases hx';exact k2 2 _ y' rfl hy'
   | _+3=>cases hx'
  | _+1=>cases hx⟩⟩
theorem scan_nil {H:Hp} {a b:Int}:∃ H2,GL H [.tup [.snil,I64 a,I64 b]] H2 [scanV ([],a,b)]:=pc_snil3
theorem pc_todo3 {o:Option Nat} {xs:List DV} {u n:Nat} {a b:DV} (hno:o=none→xs=[]) (hl:xs.length=n) (hu:∀ x∈xs,x.cells.length=u) :
  ∃ H2,GL (optH Sym.nil o ⟨u,true,cellsL xs⟩) [.tup [todoV o n,a,b]] H2 [.tup [.lst xs,a,b]]:=by
 cases o with
 | none=>rw [hno rfl];exact pc_snil3
 | some i=>exact ⟨nil,GL.one (id:=i) h_same rfl (.cons _ _ _ _ (.tup _ _ (.cons _ _ _ _ (fz_slc hl hu ⟨[],by simp⟩) (.cons _ _ _ _ (.same _) (.cons _ _ _ _ (.same _) .nil)))) .nil)⟩
theorem opt_at {X:Hp} {o:Option Nat} {b:Blk} {i:Nat} (hi:o=some i):optH X o b i=some b:=by subst hi;exact h_same
def nxV (x:Nx):DV:=.tup [.agg [I64 x.kind,.str x.text,I64 x.value,I64 0],I64 x.n,I64 x.err]
theorem nxV_nl (x:Nx):(nxV x).nl=true:=rfl
theorem u8_eq (c:UInt8) (n:Nat) (h:n<256):(c == UInt8.ofNat n)=decide (c.toNat=n):=by
 rw [Bool.eq_iff_iff,beq_iff_eq,decide_eq_true_iff, ← UInt8.toNat_inj]
 simp
 omega
theorem two_iff (c d:UInt8):twoB c d=([c,d] == [60,61] || [c,d] == [62,61] || [c,d] == [61,61] || [c,d] == [33,61] || [c,d] == [38,38] || [c,d] == [124,124]):=by
 have hk:∀ a b:UInt8,([c,d] == [a,b])=(c == a && d == b):=fun a b=>by simp [List.cons_beq_cons]
 rw [hk,hk,hk,hk,hk,hk]
 have hu:∀ (x:UInt8) (n:Nat),n<256→(x == UInt8.ofNat n)=(x.toNat == n):=fun x n h=>by rw [u8_eq x n h];rfl
 have e:∀ n:Nat,(OfNat.ofNat n:UInt8)=UInt8.ofNat n:=fun _=>rfl
 show ([(60,61),(62,61),(61,61),(33,61),(38,38),(124,124)]:List (Nat × Nat)).contains (c.toNat,d.toNat)=(c == UInt8.ofNat 60 && d == UInt8.ofNat 61 || c == UInt8.ofNat 62 && d == UInt8.ofNat 61 || c == UInt8.ofNat 61 && d == UInt8.ofNat 61 || c == UInt8.ofNat 33 && d == UInt8.ofNat 61 || c == UInt8.ofNat 38 && d == UInt8.ofNat 38 || c == UInt8.ofNat 124 && d == UInt8.ofNat 124)
 rw [hu c 60 (by omega),hu c 61 (by omega),hu c 62 (by omega),hu c 33 (by omega),hu c 38 (by omega),hu c 124 (by omega),hu d 61 (by omega),hu d 38 (by omega),hu d 124 (by omega)]
 rw [Bool.eq_iff_iff]
 simp
 omega
end Go.Pb
namespace Go.Proofs.YtibjoemdkeimfaaDoor
open Go.Eng (IC IOper DReg IFn IsFn)
open Go.Sym Go.Pb
theorem c_skip (s:List UInt8) (hs:s.length≤140737488355328):PC Tryd.prog 33 [.str s] (I64 (skM false s)):=by
 refine PC.of mixedU isU33 (Nat.le_of_ble_eq_true rfl) (by simp [DV.nlL,DV.nl,nlL_ints,nlL_strs,nlL_instrs,nlL_entries,nlL_stp]) (by simp [DV.nlL,DV.nl,nlL_ints,nlL_strs,nlL_instrs,nlL_entries,nlL_stp]) ?_
 show IW Tryd.prog 28 u33_1 ⟨argT _,_,_⟩ (rt [.tmp 2] _)
 repeat' ((with_reducible first|refine wr ?_|refine wb2 ?_ ?_<;>(intro hb;try simp only [hb])|fail)<;>try simp only [go_sem,seval])
 refine i_loop (fun k:Nat=>[(0,.str s),(3,I64 k)]) (fun _=>nil) (fun k _=>k≤s.length∧skM false s=k+skM false (s.drop k)) (fun k=>s.length-k) 0 (by simp [tmLe,tm,Tm.upd]) (Sub.nil _) (by simp) ?_
 rintro k c ⟨hk,he⟩
 by_cases hlt:k<s.length
 ·have hd:decide ((k:Int)<s.length)=true:=by simpa using hlt
  have hg:=List.getElem?_eq_getElem hlt
  have hw:=w64 (n:=(k:Int)+1) (by omega) (by omega)
  have hsl:=sls_from (s:=s) (k:=k) hk
  have hcm:=c_spanCm (s.drop k) (by rw [List.length_drop];omega)
  have hle:=spnM_le (fun c=>decide (c.toNat≠10)) (s.drop k)
  rw [List.length_drop] at hle
  have hw2:=w64 (n:=(k:Int)+(spnM (fun c=>decide (c.toNat≠10)) (s.drop k):Nat)) (by omega) (by omega)
  have hsep:sepB s[k]=true→∃ b,DV.int IntKind.i64 ((k:Int)+1)=I64 ((b:Nat):Int)∧Sym.Sub Sym.nil Sym.nil∧Keep (fun k _=>k≤s.length∧skM false s=k+skM false (s.drop k)) b c∧s.length-b<s.length-k :=
   fun h=>⟨k+1,rfl,Sub.refl _,inv ⟨by omega,by rw [he,sk_sep hg h];omega⟩,by omega⟩
  have hc0:∀ n:Nat,((s[k].toNat:Int) == (n:Int))=true→s[k].toNat=n:=fun n h=>by have:=beq_iff_eq.1 h;omega
  have hc1:∀ n:Nat,((s[k].toNat:Int) == (n:Int))=false→s[k].toNat≠n:=fun n h h2=>by rw [h2] at h;simp at h
  repeat' ((with_reducible first|refine wr ?_|refine cpc hcm ?_|refine wb2 ?_ ?_<;>(intro hb;try simp only [hb])|fail)<;>try simp only [go_sem,seval,hd,hg,hw,hsl,hw2])
  ·exact hsep (by simp [sepB,hc0 9 hb])
  ·exact hsep (by simp [sepB,hc0 10 hb])
  ·exact hsep (by simp [sepB,hc0 13 hb])
  ·exact hsep (by simp [sepB,hc0 32 hb])
  ·have h35:=hc0 35 hb
   have h1:=sk_cmt1 hg h35
   exact ⟨k+spnM (fun c=>decide (c.toNat≠10)) (s.drop k),by simp,Sub.refl _,inv ⟨by omega,by rw [he,sk_cmt hg h35];omega⟩,by omega⟩
  ·refine pc_ret ?_
   have h9:=hc1 9 (by assumption)
   have h10:=hc1 10 (by assumption)
   have h13:=hc1 13 (by assumption)
   have h32:=hc1 32 (by assumption)
   have h35:=hc1 35 (by assumption)
   rw [he,sk_stop hg (by simp [sepB,h9,h10,h13,h32]) h35];simp
 ·have hd:decide ((k:Int)<s.length)=false:=by simpa using hlt
  repeat' ((with_reducible first|refine wr ?_|refine wb2 ?_ ?_<;>(intro hb;try simp only [hb])|fail)<;>try simp only [go_sem,seval,hd])
  refine pc_ret ?_
  rw [he,sk_end (by omega)];simp
theorem quV_nl (q:Option (List UInt8 × Nat)):(quV q).nl=true:=by cases q<;>rfl
theorem c_quoted (s:List UInt8) (hs:s.length≤100000):PC Tryd.prog 43 [.str s] (quV (quA [] 1 (quM (s.drop 1)))):=by
 refine PC.of mixedU isU43 (Nat.le_of_ble_eq_true rfl) (by simp [DV.nlL,DV.nl]) (quV_nl _) ?_
 show IW Tryd.prog 58 u43_1 ⟨argT _,_,_⟩ (rt [.tmp 2,.tmp 3] _)
 repeat' ((with_reducible first|refine wr ?_|refine wb2 ?_ ?_<;>(intro hb;try simp only [hb])|fail)<;>try simp only [go_sem,seval])
 refine i_loop (fun q:Nat × Option Nat × List UInt8=>[(0,.str s),(4,todoV q.2.1 q.2.2.length),(5,I64 q.1)]) (fun q=>optH Sym.nil q.2.1 ⟨1,true,bytesC q.2.2⟩)
  (fun q c=>1≤q.1∧q.2.2.length≤q.1∧q.1≤s.length+1∧(q.2.1=none→q.2.2=[])∧(∀ i,q.2.1=some i→i<c)∧quA [] 1 (quM (s.drop 1))=quA q.2.2 q.1 (quM (s.drop q.1))) (fun q=>s.length+1-q.1) (1,none,[])
  (by simp [tmLe,tm,Tm.upd,todoV]) (Sub.nil _) ⟨by simp,by simp,by simp,fun _=>rfl,(fun i hi=>by cases hi),rfl⟩ ?_
 rintro ⟨k,o,acc⟩ c ⟨h1,hal,hk,hno,ho,he⟩
 simp only at h1 hal hk hno ho he
 simp only
 rw [he]
 by_cases hlt:k<s.length
 ·have hd:decide ((k:Int)<s.length)=true:=by simpa using hlt
  have hg:=List.getElem?_eq_getElem hlt
  have hw:IntKind.i64.wrap ((k:Int)+1)=((k+1:Nat):Int):=by rw [w64 (by omega) (by omega)];omega
  have hw2:IntKind.i64.wrap (((k+1:Nat):Int)+1)=((k+2:Nat):Int):=by rw [w64 (by omega) (by omega)];omega
  have hcv:=r_cvtodo (H:=optH Sym.nil o ⟨1,true,bytesC acc⟩) (u:=1) hno (fun i hi=>by subst hi;exact h_same)
  have hc0:∀ n:Nat,((s[k].toNat:Int) == (n:Int))=true→s[k].toNat=n:=fun n h=>by have:=beq_iff_eq.1 h;omega
  have hc1:∀ n:Nat,((s[k].toNat:Int) == (n:Int))=false→s[k].toNat≠n:=fun n h h2=>by rw [h2] at h;simp at h
  by_cases hlt2:k+1<s.length
  ·have hd2:decide (((k+1:Nat):Int)≥s.length)=false:=by simp;omega
   have hg2:=List.getElem?_eq_getElem hlt2
   have hc2:∀ n:Nat,((s[k+1].toNat:Int) == (n:Int))=true→s[k+1].toNat=n:=fun n h=>by have:=beq_iff_eq.1 h;omega
   have hc3:∀ n:Nat,((s[k+1].toNat:Int) == (n:Int))=false→s[k+1].toNat≠n:=fun n h h2=>by rw [h2] at h;simp at h
   have ne0:=nes2 c (c+1) (by omega)
   have hap:=r_apbyte (X:=Sym.nil) hno ho (by omega)
   repeat' ((with_reducible first|refine wr ?_|refine wb2 ?_ ?_<;>(intro hb;try simp only [hb])|fail)<;>try simp only [go_sem,seval,hd,hg,hw,hcv,hd2,hg2,hw2,ne0,hap])
   ·refine pc_ret ?_
    rw [qu_quote hg (hc0 34 hb)];rfl
   ·refine pc_ret ?_
    rw [qu_bad hg (hc1 34 (by assumption)) (.inl (by have:=of_decide_eq_true hb;omega))];rfl
   ·refine pc_ret ?_
    rw [qu_bad hg (hc1 34 (by assumption)) (.inr (by have:=of_decide_eq_true hb;omega))];rfl
   ·refine pc_ret ?_
    rw [qu_esc0 hg (hc0 92 (by assumption)) (fun d hd=>by
     rw [hg2] at hd;cases hd
     exact ⟨bn_t (b:=34) (by assumption),bn_t (b:=92) hb⟩)];rfl
   ·have hq:=qu_esc (acc:=acc) hg (hc0 92 (by assumption)) hg2 (.inr (bn_f (b:=92) hb))
    exact ⟨(k+2,some (c+1),acc++[s[k+1]]),⟨by simp only [List.length_append,List.length_singleton];rfl,rfl⟩,sub_one rfl,inv ⟨by omega,by simp;omega,by simp only;omega,(fun h=>by cases h),(fun i hi=>by cases hi;omega),hq⟩,by simp only;omega⟩
   ·have hq:=qu_esc (acc:=acc) hg (hc0 92 (by assumption)) hg2 (.inl (bn_f (b:=34) hb))
    exact ⟨(k+2,some (c+1),acc++[s[k+1]]),⟨by simp only [List.length_append,List.length_singleton];rfl,rfl⟩,sub_one rfl,inv ⟨by omega,by simp;omega,by simp only;omega,(fun h=>by cases h),(fun i hi=>by cases hi;omega),hq⟩,by simp only;omega⟩
   ·have hq:=qu_char (acc:=acc) hg (hc1 34 (by assumption)) (by have:=of_decide_eq_false (by assumption:decide (((s[k].toNat:Int))<32)=false);omega) (by have:=of_decide_eq_false (by assumption:decide (((s[k].toNat:Int))>126)=false);omega) (hc1 92 (by assumption))
    exact ⟨(k+1,some (c+1),acc++[s[k]]),⟨by simp only [List.length_append,List.length_singleton];rfl,rfl⟩,sub_one rfl,inv ⟨by omega,by simp;omega,by simp only;omega,(fun h=>by cases h),(fun i hi=>by cases hi;omega),hq⟩,by simp only;omega⟩
  ·have hd2:decide (((k+1:Nat):Int)≥s.length)=true:=by simp;omega
   have ne0:=nes2 c (c+1) (by omega)
   have hap:=r_apbyte (X:=Sym.nil) hno ho (by omega)
   repeat' ((with_reducible first|refine wr ?_|refine wb2 ?_ ?_<;>(intro hb;try simp only [hb])|fail)<;>try simp only [go_sem,seval,hd,hg,hw,hcv,hd2,ne0,hap])
   ·refine pc_ret ?_
    rw [qu_quote hg (hc0 34 hb)];rfl
   ·refine pc_ret ?_
    rw [qu_bad hg (hc1 34 (by assumption)) (.inl (by have:=of_decide_eq_true hb;omega))];rfl
   ·refine pc_ret ?_
    rw [qu_bad hg (hc1 34 (by assumption)) (.inr (by have:=of_decide_eq_true hb;omega))];rfl
   ·refine pc_ret ?_
    rw [qu_esc0 hg (hc0 92 (by assumption)) (fun d hd=>by rw [List.getElem?_eq_none (by omega)] at hd;cases hd)];rfl
   ·have hq:=qu_char (acc:=acc) hg (hc1 34 (by assumption)) (by have:=of_decide_eq_false (by assumption:decide (((s[k].toNat:Int))<32)=false);omega) (by have:=of_decide_eq_false (by assumption:decide (((s[k].toNat:Int))>126)=false);omega) (hc1 92 (by assumption))
    exact ⟨(k+1,some (c+1),acc++[s[k]]),⟨by simp only [List.length_append,List.length_singleton];rfl,rfl⟩,sub_one rfl,inv ⟨by omega,by simp;omega,by simp only;omega,(fun h=>by cases h),(fun i hi=>by cases hi;omega),hq⟩,by simp only;omega⟩
 ·have hd:decide ((k:Int)<s.length)=false:=by simpa using hlt
  repeat' ((with_reducible first|refine wr ?_|refine wb2 ?_ ?_<;>(intro hb;try simp only [hb])|fail)<;>try simp only [go_sem,seval,hd])
  refine pc_ret ?_
  rw [qu_end (by omega)];rfl
theorem c_sign (s:List UInt8) (hs:s.length≤100000) (h0:s≠[]):PC Tryd.prog 44 [.str s] (I64 (signM s)):=by
 refine PC.of mixedU isU44 (Nat.le_of_ble_eq_true rfl) (by simp [DV.nlL,DV.nl,nlL_ints,nlL_strs,nlL_instrs,nlL_entries,nlL_stp]) (by simp [DV.nlL,DV.nl,nlL_ints,nlL_strs,nlL_instrs,nlL_entries,nlL_stp]) ?_
 show IW Tryd.prog 19 u44_1 ⟨argT _,_,_⟩ (rt [.tmp 2] _)
 have hix:∀ c,decide (Lib.indexByte [123,125,40,41,59,44,61,43,45,42,47,37,33,60,62] c≥0)=oneB c:=fun c=>ix_one c
 match s,h0 with
 | [c],_ =>
  have hi:=c_IndexByte [123,125,40,41,59,44,61,43,45,42,47,37,33,60,62] c
  have hx:idxR (DV.str [c]) (.int .i64 0)=some (.int .u8 (c.toNat:Int)):=rfl
  repeat' ((with_reducible first|refine wr ?_|refine cpc hi ?_|refine wb2 ?_ ?_<;>(intro hb;try simp only [hb])|fail)<;>try simp only [go_sem,seval,hix,hx])
  all_goals (refine pc_ret ?_;simp [signM,hb])
 | c :: d :: r,_ =>
  have hi:=c_IndexByte [123,125,40,41,59,44,61,43,45,42,47,37,33,60,62] c
  have hx:idxR (DV.str (c :: d :: r)) (.int .i64 0)=some (.int .u8 (c.toNat:Int)):=rfl
  have hsl:slsR (c :: d :: r) none (some (DV.int .i64 2))=some (DV.str [c,d]):=sls_to (s:=c :: d :: r) (k:=2) (by simp)
  have hd:decide (((r.length+1+1:Nat):Int)>1)=true:=by simp;omega
  have hk:∀ a b:UInt8,([c,d] == [a,b])=(c == a && d == b):=fun a b=>by simp [List.cons_beq_cons]
  have h2:=two_iff c d
  repeat' ((with_reducible first|refine wr ?_|refine cpc hi ?_|refine wb2 ?_ ?_<;>(intro hb;try simp only [hb])|fail)<;>try simp only [go_sem,seval,hd,hix,hx,hsl])
  all_goals (refine pc_ret ?_;simp_all [signM])
theorem c_Fields':PC Tryd.prog 40 [.str [115,119,105,116,99,104,32,99,111,105,108,32,108,97,109,112,32,115,111,117,110,100,32,115,104,111,119,32,118,97,114,32,116,105,109,101,114,32,101,118,101,110,116,32,109,111,100,101,32,111,110,32,115,116,97,114,116,32,115,116,111,112,32,99,108,111,115,101,32,111,112,101,110,32,105,102,32,101,108,115,101,32,114,101,112,101,97,116,32,115,99,111,114,101,32,102,105,114,101,32,104,111,108,100,32,114,101,108,101,97,115,101,32,108,105,103,104,116,32,98,108,105,110,107,32,98,101,103,105,110,32,101,110,100,32,112,111,115,116,32,112,108,97,121,32,114,117,110,32,104,97,108,116,32,116,101,120,116,32,99,111,110,115,117,109,101,32,99,108,111,115,101,100,32,97,99,116,105,118,101,32,108,101,102,116,32,112,108,97,121,101,114,32,98,97,108,108,32,116,114,117,101,32,102,97,108,115,101]] (.lst (wordsL.map DV.str)):=c_Fields
theorem words_new:∀ k:Nat,k<38→(wordsL.take k).contains (wordsL.getD k [])=false:=by decide +kernel
theorem c_words:PC Tryd.prog 31 [] (.mp .s (wordsL.map DV.str) (wordsL.map fun _=>DV.bool true)):=by
 refine PC.of mixedU isU31 (Nat.le_of_ble_eq_true rfl) rfl (by simp only [DV.nl];rw [nlL_strs,nlL_map (fun _=>rfl)];rfl) ?_
 show IW Tryd.prog 15 u31_1 ⟨argT _,_,_⟩ (rt [.tmp 0] _)
 have hf:=c_Fields'
 repeat' ((with_reducible first|refine wr ?_|refine cpc hf ?_|refine wb2 ?_ ?_<;>(intro hb;try simp only [hb])|fail)<;>try simp only [go_sem,seval])
 clear hf
 refine i_loop (fun k:Nat=>[(1,.mid 0),(5,.lst (wordsL.map DV.str)),(6,I64 wordsL.length),(7,I64 k)]) (fun k=>Sym.nil.upd 0 ⟨0,true,[.mpc .s ((wordsL.take k).map DV.str) ((wordsL.take k).map fun _=>DV.bool true)]⟩) (fun k _=>k≤wordsL.length) (fun k=>wordsL.length-k) 0 (by simp [tmLe,tm,Tm.upd]) (Sub.refl _) (by simp) ?_
 rintro k c hk
 have hlen:wordsL.length=38:=rfl
 by_cases hlt:k<wordsL.length
 ·have hd:decide ((k:Int)<wordsL.length)=true:=by simpa using hlt
  have hg:=List.getElem?_eq_getElem hlt
  have hw:IntKind.i64.wrap ((k:Int)+1)=((k+1:Nat):Int):=by rw [w64 (by omega) (by omega)];omega
  have hn:(wordsL.take k).contains wordsL[k]=false:=by
   have:=words_new k (by omega)
   rwa [List.getD_eq_getElem?_getD,hg,Option.getD_some] at this
  have hm:=mfind_none hn 0
  have e1:wordsL.take (k+1)=wordsL.take k++[wordsL[k]]:=by rw [List.take_add_one,hg];rfl
  repeat' ((with_reducible first|refine wr ?_|refine wb2 ?_ ?_<;>(intro hb;try simp only [hb])|fail)<;>try simp only [go_sem,seval,hd,hg,hw,hm])
  refine ⟨k+1,rfl,?_,inv hlt,by omega⟩
  rw [e1,List.map_append,List.map_append]
  intro j b hj
  by_cases e:j=0
  ·subst e;rw [h_same] at hj ⊢;exact hj
  ·rw [h_ne e] at hj;cases hj
 ·have hd:decide ((k:Int)<wordsL.length)=false:=by simpa using hlt
  repeat' ((with_reducible first|refine wr ?_|refine wb2 ?_ ?_<;>(intro hb;try simp only [hb])|fail)<;>try simp only [go_sem,seval,hd])
  rw [List.take_of_length_le (by omega)]
  exact pc_map h_same
end Go.Proofs.YtibjoemdkeimfaaDoor
namespace Go.Proofs.YtibjoemdkeimfaaDoor
open Go.Eng (IC IOper DReg IFn IsFn)
open Go.Sym Go.Pb
abbrev resV:DV:=.mp .s (wordsL.map DV.str) (wordsL.map fun _=>DV.bool true)
theorem c_number (c:UInt8) (r:List UInt8) (hs:(c :: r).length≤100000) (hc:dgB c=true) (hl:ltB c=false):PC Tryd.prog 42 [.str (c :: r)] (nxV (nextM' (c :: r))):=by
 have hsp:=c_spanDg (c :: r) (by omega)
 have hn1:1≤spnM dgB (c :: r):=by simp [spnM,hc]
 have hle:=spnM_le dgB (c :: r)
 have hall:=span_all (p:=dgB) (c :: r)
 have hne:(c :: r).take (spnM dgB (c :: r))≠[]:=by
  intro e;have:=congrArg List.length e
  rw [List.length_take,List.length_nil] at this;omega
 have hx:idxR (DV.str (c :: r)) (.int .i64 0)=some (.int .u8 (c.toNat:Int)):=rfl
 have hsl:=sls_to (s:=c :: r) (k:=spnM dgB (c :: r)) hle
 have hlen:((c :: r).take (spnM dgB (c :: r))).length≤281474976710656:=by rw [List.length_take];omega
 have hM:nextM' (c :: r)=if 1<spnM dgB (c :: r)∧c.toNat=48 then nxE 47
   else if 2147483647<numV ((c :: r).take (spnM dgB (c :: r))) then nxE 5
   else ⟨3,[],(numV ((c :: r).take (spnM dgB (c :: r))):Int),spnM dgB (c :: r),0⟩:=by
  rw [nextM',if_neg (by rw [hl];simp),if_pos hc]
 rw [hM]
 generalize spnM dgB (c :: r)=n at *
 generalize hnv:numV ((c :: r).take n)=v at *
 refine PC.of mixedU isU42 (Nat.le_of_ble_eq_true rfl) rfl (nxV_nl _) ?_
 show IW Tryd.prog 35 u42_1 ⟨argT _,_,_⟩ (rt [.cell 2 4 true,.tmp 3,.tmp 4] _)
 have z1:eqnR true 3 .inil (inj .nilIface)=some (.bool false):=rfl
 have z2:∀ (t:TypeId) (x:DV),eqnR true 3 (.iface t x) (inj .nilIface)=some (.bool true):=fun _ _=>rfl
 by_cases hbig:v≤9223372036854775807
 ·have hp:=c_ParseOk _ hlen hall hne (by rw [hnv];exact hbig)
  rw [hnv] at hp
  repeat' ((with_reducible first|refine wr ?_|refine cpc hsp ?_|refine cpc hp ?_|refine wb2 ?_ ?_<;>(intro hb;try simp only [hb])|fail)<;>try simp only [go_sem,seval,hx,hsl,z1])
  ·rw [k_rv (v:=nxV (nxE 47)) rfl]
   refine pc_ret (congrArg nxV ?_)
   rw [if_pos ⟨gt_t (by assumption),bq_t (b:=48) hb⟩]
  ·rw [k_rv (v:=nxV (nxE 5)) rfl]
   refine pc_ret (congrArg nxV ?_)
   rw [if_neg (fun h=>bq_f (b:=48) (by assumption) h.2),if_pos (gt_t hb)]
  ·rw [k_rv (v:=nxV ⟨3,[],(v:Int),n,0⟩) rfl]
   refine pc_ret (congrArg nxV ?_)
   rw [if_neg (fun h=>bq_f (b:=48) (by assumption) h.2),if_neg (gt_f hb)]
  ·rw [k_rv (v:=nxV (nxE 5)) rfl]
   refine pc_ret (congrArg nxV ?_)
   rw [if_neg (fun h=>gt_f (a:=n) (b:=1) (by assumption) h.1),if_pos (gt_t hb)]
  ·rw [k_rv (v:=nxV ⟨3,[],(v:Int),n,0⟩) rfl]
   refine pc_ret (congrArg nxV ?_)
   rw [if_neg (fun h=>gt_f (a:=n) (b:=1) (by assumption) h.1),if_neg (gt_f hb)]
 ·have hp:=c_ParseBig _ hlen hall hne (by rw [hnv];omega)
  repeat' ((with_reducible first|refine wr ?_|refine cpc hsp ?_|refine cpc hp ?_|refine wb2 ?_ ?_<;>(intro hb;try simp only [hb])|fail)<;>try simp only [go_sem,seval,hx,hsl,z2])
  ·rw [k_rv (v:=nxV (nxE 47)) rfl]
   refine pc_ret (congrArg nxV ?_)
   rw [if_pos ⟨gt_t (by assumption),bq_t (b:=48) hb⟩]
  ·rw [k_rv (v:=nxV (nxE 5)) rfl]
   refine pc_ret (congrArg nxV ?_)
   rw [if_neg (fun h=>bq_f (b:=48) (by assumption) h.2),if_pos (by omega)]
  ·rw [k_rv (v:=nxV (nxE 5)) rfl]
   refine pc_ret (congrArg nxV ?_)
   rw [if_neg (fun h=>gt_f (a:=n) (b:=1) (by assumption) h.1),if_pos (by omega)]
theorem lk_res (w:List UInt8):lkV (.bool false) false (wordsL.map fun _=>DV.bool true) (mfind (.str w) (wordsL.map DV.str) 0)=some (.bool (isWordM w)):=by
 cases h:isWordM w with
 | false=>rw [mfind_none h 0];rfl
 | true =>
  obtain ⟨j,hj⟩:=mfind_some h 0
  have hlt:=(mfind_lt hj).2
  rw [List.length_map] at hlt
  rw [hj,l_some,List.getElem?_map,List.getElem?_eq_getElem (by omega)];rfl
theorem c_next (c:UInt8) (r:List UInt8) (hs:(c :: r).length≤100000):PC Tryd.prog 34 [.str (c :: r),resV] (nxV (nextM' (c :: r))):=by
 have hx:idxR (DV.str (c :: r)) (.int .i64 0)=some (.int .u8 (c.toNat:Int)):=rfl
 have hlt:=c_letter c
 have hdg:=c_digit c
 have hnl:DV.nlL (wordsL.map fun _=>DV.bool true)=true:=nlL_map (fun _=>rfl) _
 refine PC.of mixedU isU34 (Nat.le_of_ble_eq_true rfl) (by simp [DV.nlL,DV.nl,nlL_strs,hnl]) (nxV_nl _) ?_
 show IW Tryd.prog 73 u34_1 ⟨argT _,_,_⟩ (rt [.cell 4 4 true,.tmp 5,.tmp 6] _)
 by_cases hl:ltB c=true
 ·have hsp:=c_spanPt (c :: r) (by omega)
  have hle:=spnM_le ptB (c :: r)
  have hsl:=sls_to (s:=c :: r) (k:=spnM ptB (c :: r)) hle
  have hM:nextM' (c :: r)=if 12<spnM ptB (c :: r) then nxE 9 else ⟨if isWordM ((c :: r).take (spnM ptB (c :: r)))=true then 2 else 1,(c :: r).take (spnM ptB (c :: r)),0,spnM ptB (c :: r),0⟩:=by
   rw [nextM',if_pos hl]
  rw [hM]
  generalize spnM ptB (c :: r)=n at *
  have hlk:=lk_res ((c :: r).take n)
  repeat' ((with_reducible first|refine wr ?_|refine cpc hlt ?_|refine cpc hsp ?_|refine wb2 ?_ ?_<;>(intro hb;try simp only [hb])|fail)<;>try simp only [go_sem,seval,hl,hx,hsl,hlk])
  ·rw [k_rv (v:=nxV (nxE 9)) rfl]
   refine pc_ret (congrArg nxV ?_)
   rw [if_pos (gt_t hb)]
  ·rw [k_rv (v:=nxV ⟨2,(c :: r).take n,0,n,0⟩) rfl]
   refine pc_ret (congrArg nxV ?_)
   rw [if_neg (gt_f (a:=n) (b:=12) (by assumption))];try (rw [hb];rfl)
  ·rw [k_rv (v:=nxV ⟨1,(c :: r).take n,0,n,0⟩) rfl]
   refine pc_ret (congrArg nxV ?_)
   rw [if_neg (gt_f (a:=n) (b:=12) (by assumption))];try (rw [hb];rfl)
 have hl0:ltB c=false:=by simpa using hl
 by_cases hd:dgB c=true
 ·have hnum:=c_number c r hs hd hl0
  obtain ⟨x,hxx⟩:∃ x,x=nextM' (c :: r):=⟨_,rfl⟩
  rw [← hxx] at hnum ⊢
  have hnum:PC Tryd.prog 42 [.str (c :: r)] (.tup [.agg [I64 x.kind,.str x.text,I64 x.value,I64 0],I64 x.n,I64 x.err]):=hnum
  repeat' ((with_reducible first|refine wr ?_|refine cpc hlt ?_|refine cpc hdg ?_|refine cpc hnum ?_|refine wb2 ?_ ?_<;>(intro hb;try simp only [hb])|fail)<;>try simp only [go_sem,seval,hl0,hx,hd])
  rw [k_rv (v:=nxV x) rfl]
  exact pc_ret rfl
 have hd0:dgB c=false:=by simpa using hd
 by_cases hq:c.toNat=34
 ·have hqu:=c_quoted (c :: r) hs
  rw [List.drop_one,List.tail_cons] at hqu
  have hb34:((c.toNat:Int) == 34)=true:=by rw [hq];rfl
  cases hqr:quM r with
  | none =>
   have hM:nextM' (c :: r)=nxE 48:=by
    rw [nextM',if_neg hl,if_neg hd,if_pos hq,hqr]
   rw [hM]
   rw [hqr] at hqu
   have hqu:PC Tryd.prog 43 [.str (c :: r)] (.tup [.str [],I64 0]):=hqu
   repeat' ((with_reducible first|refine wr ?_|refine cpc hlt ?_|refine cpc hdg ?_|refine cpc hqu ?_|refine wb2 ?_ ?_<;>(intro hb;try simp only [hb])|fail)<;>try simp only [go_sem,seval,hl0,hx,hd0,hb34])
   rw [k_rv (v:=nxV (nxE 48)) rfl]
   exact pc_ret rfl
  | some x =>
   obtain ⟨t,m⟩:=x
   have hM:nextM' (c :: r)=if 32<t.length then nxE 9 else ⟨4,t,0,m+1,0⟩:=by
    rw [nextM',if_neg hl,if_neg hd,if_pos hq,hqr]
   rw [hM]
   rw [hqr] at hqu
   have hqu:PC Tryd.prog 43 [.str (c :: r)] (.tup [.str t,I64 ((m+1:Nat):Int)]):=hqu
   have hm0:(((m+1:Nat):Int) == 0)=false:=by simp;omega
   repeat' ((with_reducible first|refine wr ?_|refine cpc hlt ?_|refine cpc hdg ?_|refine cpc hqu ?_|refine wb2 ?_ ?_<;>(intro hb;try simp only [hb])|fail)<;>try simp only [go_sem,seval,hl0,hx,hd0,hb34,hm0])
   ·rw [k_rv (v:=nxV (nxE 9)) rfl]
    refine pc_ret (congrArg nxV ?_)
    rw [if_pos (gt_t hb)]
   ·rw [k_rv (v:=nxV ⟨4,t,0,m+1,0⟩) rfl]
    refine pc_ret (congrArg nxV ?_)
    rw [if_neg (gt_f hb)]
 ·have hsg:=c_sign (c :: r) hs (by simp)
  have hb34:((c.toNat:Int) == 34)=false:=by simpa using (fun h=>hq (by omega))
  have hle:=signM_le (c :: r)
  have hsl:=sls_to (s:=c :: r) (k:=signM (c :: r)) hle
  have hM:nextM' (c :: r)=if signM (c :: r)=0 then nxE 47 else ⟨5,(c :: r).take (signM (c :: r)),0,signM (c :: r),0⟩:=by
   rw [nextM',if_neg hl,if_neg hd,if_neg hq]
  rw [hM]
  generalize signM (c :: r)=n at *
  repeat' ((with_reducible first|refine wr ?_|refine cpc hlt ?_|refine cpc hdg ?_|refine cpc hsg ?_|refine wb2 ?_ ?_<;>(intro hb;try simp only [hb])|fail)<;>try simp only [go_sem,seval,hl0,hx,hd0,hb34,hsl])
  ·rw [k_rv (v:=nxV (nxE 47)) rfl]
   refine pc_ret (congrArg nxV ?_)
   rw [if_pos (bq_t (b:=0) hb)]
  ·rw [k_rv (v:=nxV ⟨5,(c :: r).take n,0,n,0⟩) rfl]
   refine pc_ret (congrArg nxV ?_)
   rw [if_neg (bq_f (b:=0) hb)]
theorem c_IsWord (s:List UInt8):PC Tryd.prog 15 [.str s] (.bool (isWordM s)):=by
 refine PC.of mixedU isU15 (Nat.le_of_ble_eq_true rfl) (by simp [DV.nlL,DV.nl,nlL_ints,nlL_strs,nlL_instrs,nlL_entries,nlL_stp]) (by simp [DV.nlL,DV.nl,nlL_ints,nlL_strs,nlL_instrs,nlL_entries,nlL_stp]) ?_
 show IW Tryd.prog 6 u15_1 ⟨argT _,_,_⟩ (rt [.tmp 2] _)
 have hw:=c_words
 have hlk:=lk_res s
 repeat' ((with_reducible first|refine wr ?_|refine cpc hw ?_|refine wb2 ?_ ?_<;>(intro hb;try simp only [hb])|fail)<;>try simp only [go_sem,seval,hlk])
 exact pc_ret rfl
theorem c_IsName (s:List UInt8) (hs:s.length≤100000):PC Tryd.prog 13 [.str s] (.bool (isNameM s)):=by
 refine PC.of mixedU isU13 (Nat.le_of_ble_eq_true rfl) (by simp [DV.nlL,DV.nl,nlL_ints,nlL_strs,nlL_instrs,nlL_entries,nlL_stp]) (by simp [DV.nlL,DV.nl,nlL_ints,nlL_strs,nlL_instrs,nlL_entries,nlL_stp]) ?_
 show IW Tryd.prog 28 u13_1 ⟨argT _,_,_⟩ (rt [.tmp 2] _)
 have hw:=c_IsWord s
 have hsp:=c_spanPt s (by omega)
 cases s with
 | nil =>
  repeat' ((with_reducible first|refine wr ?_|refine wb2 ?_ ?_<;>(intro hb;try simp only [hb])|fail)<;>try simp only [go_sem,seval])
  exact pc_ret rfl
 | cons c r =>
  have hx:idxR (DV.str (c :: r)) (.int .i64 0)=some (.int .u8 (c.toNat:Int)):=rfl
  have hlt:=c_letter c
  have hd1:decide (((r.length+1:Nat):Int)≥1)=true:=by simp;omega
  repeat' ((with_reducible first|refine wr ?_|refine cpc hw ?_|refine cpc hsp ?_|refine cpc hlt ?_|refine wb2 ?_ ?_<;>(intro hb;try simp only [hb])|fail)<;>try simp only [go_sem,seval,hx,hd1])
  all_goals (refine pc_ret (congrArg DV.bool ?_);simp_all [isNameM]<;>omega)
theorem c_Quote (s:List UInt8) (hs:s.length≤100000):PC Tryd.prog 22 [.str s] (.str (quoteM s)):=by
 refine PC.of mixedU isU22 (Nat.le_of_ble_eq_true rfl) (by simp [DV.nlL,DV.nl,nlL_ints,nlL_strs,nlL_instrs,nlL_entries,nlL_stp]) (by simp [DV.nlL,DV.nl,nlL_ints,nlL_strs,nlL_instrs,nlL_entries,nlL_stp]) ?_
 show IW Tryd.prog 35 u22_1 ⟨argT _,_,_⟩ (rt [.tmp 2] _)
 repeat' ((with_reducible first|refine wr ?_|refine wb2 ?_ ?_<;>(intro hb;try simp only [hb])|fail)<;>try simp only [go_sem,seval])
 refine i_loop (fun q:Nat × Nat=>[(0,.str s),(3,.slc q.2 0 (qpre (s.take q.1)).length),(4,I64 q.1)]) (fun q=>Sym.nil.upd q.2 ⟨1,true,bytesC (qpre (s.take q.1))⟩)
  (fun q c=>q.1≤s.length∧q.2<c) (fun q=>s.length-q.1) (0,0) (by simp [tmLe,tm,Tm.upd,qpre]) (Sub.refl _) (by simp) ?_
 rintro ⟨k,id⟩ c ⟨hk,hid⟩
 simp only at hk hid
 simp only
 have hal:(qpre (s.take k)).length≤2 * k+1:=by
  have:=qpre_len (s.take k)
  rw [List.length_take] at this
  omega
 obtain ⟨acc,hacc⟩:∃ acc,acc=qpre (s.take k):=⟨_,rfl⟩
 rw [← hacc] at hal ⊢
 by_cases hlt:k<s.length
 ·have hd:decide ((k:Int)<s.length)=true:=by simpa using hlt
  have hg:=List.getElem?_eq_getElem hlt
  have hw:IntKind.i64.wrap ((k:Int)+1)=((k+1:Nat):Int):=by rw [w64 (by omega) (by omega)];omega
  have hA:∀ H c id,apB H c id 1 1 acc.length 1 [.int .u8 92] (some ⟨1,true,bytesC acc⟩)=some (.slc c 0 (acc.length+1),(H.del id).upd c ⟨1,true,bytesC (acc++[92])⟩,c+1):=fun H c id=>apb1 (x:=92) rfl (by omega)
  have hB:∀ H c id,apB H c id 1 1 (acc.length+1) 1 [.int .u8 (s[k].toNat:Int)] (some ⟨1,true,bytesC (acc++[92])⟩)=some (.slc c 0 (acc.length+1+1),(H.del id).upd c ⟨1,true,bytesC (acc++[92]++[s[k]])⟩,c+1):=fun H c id=>apb1 (by simp) (by omega)
  have hC:∀ H c id,apB H c id 1 1 acc.length 1 [.int .u8 (s[k].toNat:Int)] (some ⟨1,true,bytesC acc⟩)=some (.slc c 0 (acc.length+1),(H.del id).upd c ⟨1,true,bytesC (acc++[s[k]])⟩,c+1):=fun H c id=>apb1 rfl (by omega)
  have est:qpre (s.take (k+1))=acc++quB s[k]:=by rw [hacc,qpre_step hg]
  have ne0:=nes5 id c (c+1) (c+2) (c+3) (by omega)
  repeat' ((with_reducible first|refine wr ?_|refine wb2 ?_ ?_<;>(intro hb;try simp only [hb])|fail)<;>try simp only [go_sem,seval,hd,hg,hw,ne0,hA,hB,hC])
  ·have e2:quB s[k]=[92,s[k]]:=if_pos (.inl (bq_t (b:=34) hb))
   exact ⟨(k+1,c+1+1+1),⟨by simp only [est,e2,List.length_append];rfl,rfl⟩,sub_one (by simp only [est,e2,List.append_assoc];rfl),inv ⟨hlt,by simp only;omega⟩,by simp only;omega⟩
  ·have e2:quB s[k]=[92,s[k]]:=if_pos (.inr (bq_t (b:=92) hb))
   exact ⟨(k+1,c+1+1+1),⟨by simp only [est,e2,List.length_append];rfl,rfl⟩,sub_one (by simp only [est,e2,List.append_assoc];rfl),inv ⟨hlt,by simp only;omega⟩,by simp only;omega⟩
  ·have e2:quB s[k]=[s[k]]:=if_neg (fun h=>h.elim (bq_f (b:=34) (by assumption)) (bq_f (b:=92) hb))
   exact ⟨(k+1,c+1),⟨by simp only [est,e2,List.length_append];rfl,rfl⟩,sub_one (by simp only [est,e2]),inv ⟨hlt,by simp only;omega⟩,by simp only;omega⟩
 ·have hd:decide ((k:Int)<s.length)=false:=by simpa using hlt
  have hZ:∀ H c id,apB H c id 1 1 acc.length 1 [.int .u8 34] (some ⟨1,true,bytesC acc⟩)=some (.slc c 0 (acc.length+1),(H.del id).upd c ⟨1,true,bytesC (acc++[34])⟩,c+1):=fun H c id=>apb1 (x:=34) rfl (by omega)
  have ne0:=nes3 id c (c+1) (by omega)
  have hcv:∀ (H:Hp) u,cvbsR (H.upd (c+1) ⟨u,true,bytesC (acc++[34])⟩) (.slc (c+1) 0 (acc.length+1))=some (.str (acc++[34])):=fun H u=>cv_own h_same rfl (by simp)
  repeat' ((with_reducible first|refine wr ?_|refine wb2 ?_ ?_<;>(intro hb;try simp only [hb])|fail)<;>try simp only [go_sem,seval,hd,ne0,hZ,hcv])
  refine pc_ret ?_
  rw [hacc,List.take_of_length_le (by omega)];rfl
end Go.Proofs.YtibjoemdkeimfaaDoor
namespace Go.Proofs.YtibjoemdkeimfaaDoor
open Go.Eng (IC IOper DReg IFn IsFn)
open Go.Sym Go.Pb
theorem c_Scan (s:List UInt8) (hs:s.length≤100000):PC Tryd.prog 17 [.str s] (scanV (scanM s)):=by
 refine PC.of mixedU isU17 (Nat.le_of_ble_eq_true rfl) rfl (scanV_nl _) ?_
 show IW Tryd.prog 50 u17_1 ⟨argT _,_,_⟩ (rt [.tmp 2,.tmp 3,.tmp 4] _)
 have hwd:=c_words
 have hsk:=c_skip s (by omega)
 by_cases h20:20000<s.length
 ·have hd0:decide ((s.length:Int)>20000)=true:=by simp;omega
  have hM:scanM s=([],0,9):=if_pos h20
  rw [hM]
  repeat' ((with_reducible first|refine wr ?_|refine wb2 ?_ ?_<;>(intro hb;try simp only [hb])|fail)<;>try simp only [go_sem,seval,hd0])
  exact scan_nil
 have hd0:decide ((s.length:Int)>20000)=false:=by simp;omega
 have hM:scanM s=scanT (s.length+1) s (skM false s) []:=if_neg h20
 rw [hM]
 have hle0:=skM_le false s
 repeat' ((with_reducible first|refine wr ?_|refine cpc hwd ?_|refine cpc hsk ?_|refine wb2 ?_ ?_<;>(intro hb;try simp only [hb])|fail)<;>try simp only [go_sem,seval,hd0])
 refine i_loop (fun q:Nat × Nat × Option Nat × List Tok=>[(0,.str s),(5,resV),(6,todoV q.2.2.1 q.2.2.2.length),(7,I64 q.2.1)]) (fun q=>optH Sym.nil q.2.2.1 ⟨4,true,cellsL (q.2.2.2.map Tok.v)⟩)
  (fun q c=>q.2.1≤s.length∧s.length<q.1+q.2.1∧q.2.2.2.length≤q.2.1∧(q.2.2.1=none→q.2.2.2=[])∧(∀ i,q.2.2.1=some i→i<c)∧scanT (s.length+1) s (skM false s) []=scanT q.1 s q.2.1 q.2.2.2) (fun q=>q.1) (s.length+1,skM false s,none,[])
  (by simp [tmLe,tm,Tm.upd,todoV]) (Sub.nil _) ⟨by simp only;omega,by simp only;omega,by simp,fun _=>rfl,(fun i hi=>by cases hi),rfl⟩ ?_
 rintro ⟨f,at_,o,acc⟩ c ⟨h1,hf,hal,hno,ho,he⟩
 simp only at h1 hf hal hno ho he
 simp only
 rw [he]
 by_cases hlt:at_<s.length
 ·have hd:decide ((at_:Int)<s.length)=true:=by simpa using hlt
  have hg:=List.getElem?_eq_getElem hlt
  have hsl:=sls_from (s:=s) (k:=at_) h1
  have hdr:=drop_at hg
  have hnx:PC Tryd.prog 34 [.str (s.drop at_),resV] (nxV (nextM' (s.drop at_))):=by
   rw [hdr];exact c_next _ _ (by rw [← hdr,List.length_drop];omega)
  obtain ⟨f,rfl⟩:∃ g,f=g+1:=⟨f-1,by omega⟩
  by_cases hz:(nextM' (s.drop at_)).err=0
  ·have hn:=nextM_n hz
   rw [List.length_drop] at hn
   have hst:scanT (f+1) s at_ acc=scanT f s (at_+(nextM' (s.drop at_)).n+skM false (s.drop (at_+(nextM' (s.drop at_)).n))) (acc++[⟨(nextM' (s.drop at_)).kind,(nextM' (s.drop at_)).text,(nextM' (s.drop at_)).value,(at_:Int)⟩]):=by
    rw [scanT,if_neg (by omega),if_neg (by simpa using hz)]
   rw [hst]
   obtain ⟨x,hx⟩:∃ x,x=nextM' (s.drop at_):=⟨_,rfl⟩
   rw [← hx] at hnx hz hn ⊢
   have hnx:PC Tryd.prog 34 [.str (s.drop at_),resV] (.tup [.agg [I64 x.kind,.str x.text,I64 x.value,I64 0],I64 x.n,I64 x.err]):=hnx
   have hz':(x.err != 0)=false:=by simpa using hz
   have hw1:IntKind.i64.wrap ((at_:Int)+x.n)=((at_+x.n:Nat):Int):=by rw [w64 (by omega) (by omega)];omega
   have hsl2:=sls_from (s:=s) (k:=at_+x.n) (by omega)
   have hsk2:=c_skip (s.drop (at_+x.n)) (by rw [List.length_drop];omega)
   have hkl:=skM_le false (s.drop (at_+x.n))
   rw [List.length_drop] at hkl
   obtain ⟨z,hzz⟩:∃ z,z=skM false (s.drop (at_+x.n)):=⟨_,rfl⟩
   rw [← hzz] at hsk2 hkl ⊢
   have hw2:IntKind.i64.wrap (((at_+x.n:Nat):Int)+z)=((at_+x.n+z:Nat):Int):=by rw [w64 (by omega) (by omega)];omega
   have ne0:=nes3 c (c+1) (c+2) (by omega)
   repeat' ((with_reducible first|refine wr ?_|refine cpc hnx ?_|refine cpc hsk2 ?_|refine wb2 ?_ ?_<;>(intro hb;try simp only [hb])|fail)<;>try simp only [go_sem,seval,hd,hsl,hz',hw1,hsl2,hw2,ne0])
   refine k_eval (r_apptodo (cs:=cellsL (acc.map Tok.v)) (fun e=>by rw [hno e];exact ⟨rfl,rfl⟩) (fun i hi=>?_) (by rw [cellsL_length (u:=4) (tok_unit _)];simp) (by omega) (by omega) (by omega)) ?_
   ·have:=ho i hi
    rw [h_ne (by omega),h_ne (by omega),h_ne (by omega),h_ne (by omega)]
    exact opt_at hi
   simp only [go_sem,seval,ne0,hw1,hw2]
   repeat' ((with_reducible first|refine wr ?_|refine cpc hnx ?_|refine cpc hsk2 ?_|refine wb2 ?_ ?_<;>(intro hb;try simp only [hb])|fail)<;>try simp only [go_sem,seval,hd,hsl,hz',hw1,hsl2,hw2,ne0])
   exact ⟨(f,at_+x.n+z,some (c+1+1),acc++[⟨x.kind,x.text,x.value,(at_:Int)⟩]),⟨by simp only [List.length_append,List.length_singleton];rfl,rfl⟩,
    sub_one (by simp only [List.map_append,cellsL_append];rfl),inv ⟨by simp only;omega,by simp only;omega,by simp only [List.length_append,List.length_singleton];omega,(fun h=>by cases h),(fun i hi=>by cases hi;omega),rfl⟩,by simp only;omega⟩
  ·have hst:scanT (f+1) s at_ acc=([],(at_:Int),(nextM' (s.drop at_)).err):=by
    rw [scanT,if_neg (by omega),if_pos hz]
   rw [hst]
   obtain ⟨x,hx⟩:∃ x,x=nextM' (s.drop at_):=⟨_,rfl⟩
   rw [← hx] at hnx hz ⊢
   have hnx:PC Tryd.prog 34 [.str (s.drop at_),resV] (.tup [.agg [I64 x.kind,.str x.text,I64 x.value,I64 0],I64 x.n,I64 x.err]):=hnx
   have hz':(x.err != 0)=true:=by simpa using hz
   have ne0:=nes2 c (c+1) (by omega)
   repeat' ((with_reducible first|refine wr ?_|refine cpc hnx ?_|refine wb2 ?_ ?_<;>(intro hb;try simp only [hb])|fail)<;>try simp only [go_sem,seval,hd,hsl,hz',ne0])
   exact scan_nil
 ·have hd:decide ((at_:Int)<s.length)=false:=by simpa using hlt
  repeat' ((with_reducible first|refine wr ?_|refine wb2 ?_ ?_<;>(intro hb;try simp only [hb])|fail)<;>try simp only [go_sem,seval,hd])
  have hM2:scanT f s at_ acc=(acc,0,0):=by
   cases f with
   | zero=>rfl
   | succ f=>rw [scanT,if_pos (by omega)]
  rw [hM2]
  exact pc_todo3 (fun e=>by rw [hno e];rfl) (by simp) (tok_unit acc)
end Go.Proofs.YtibjoemdkeimfaaDoor
namespace Go.Pb
variable [Go.Sym.Tab]
open Go.Sym
def okR (kind:Int) (text:List UInt8) (value:Int) (i n:Nat):DV:=.tup [.agg [I64 kind,.str text,I64 value,I64 i],I64 ((i+n:Nat):Int),I64 0]
def badR (e:Int) (i:Nat):DV:=.tup [.agg [I64 0,.str [],I64 0,I64 0],I64 i,I64 e]
def nxR (x:Nx) (i:Nat):DV:=if x.err=0 then okR x.kind x.text x.value i x.n else badR x.err i
theorem nxR_nl (x:Nx) (i:Nat):(nxR x i).nl=true:=by unfold nxR;split<;>rfl
theorem nxR_ok {k:Int} {t:List UInt8} {v:Int} {n i:Nat}:nxR ⟨k,t,v,n,0⟩ i=okR k t v i n:=if_pos rfl
theorem nxR_bad {e:Int} {i:Nat} (h:e≠0):nxR (nxE e) i=badR e i:=if_neg h
def bigV (s:List UInt8):Bool:=decide (2147483647<numV s)
def smV (s:List UInt8):Nat:=if 2147483647<numV s then 0 else numV s
theorem smV_le (s:List UInt8):smV s≤2147483647:=by unfold smV;split<;>omega
theorem smV_f {s:List UInt8} (h:¬ 2147483647<numV s):smV s=numV s:=if_neg h
theorem smV_t {s:List UInt8} (h:2147483647<numV s):smV s=0:=if_pos h
theorem spnM_at' {p:UInt8→Bool} {s:List UInt8} {i j:Nat} {c:UInt8} (h:s[i+j]? = some c) (hj:j≤spnM p (s.drop i)):(p c=true→j+1≤spnM p (s.drop i))∧(p c=false→spnM p (s.drop i)=j) :=
 spnM_at (by rw [List.getElem?_drop];exact h) hj
theorem spnM_end' {p:UInt8→Bool} {s:List UInt8} {i j:Nat} (h:s.length≤i+j) (hj:j≤spnM p (s.drop i)):spnM p (s.drop i)=j :=
 spnM_end (by rw [List.length_drop];omega) hj
theorem slx_take {s:List UInt8} {i n:Nat} (h:i+n≤s.length):slsR s (some (.int .i64 (i:Int))) (some (.int .i64 ((i+n:Nat):Int)))=some (.str ((s.drop i).take n)):=by
 have b1:∀ k:Nat,boundOf s.length (some (.int .i64 (k:Int)))=some k:=fun k=>by simp [boundOf]
 have b2:∀ k:Nat,boundOf 0 (some (.int .i64 (k:Int)))=some k:=fun k=>by simp [boundOf]
 simp only [slsR,b1,b2]
 rw [if_pos ⟨h,by omega⟩,show i+n-i=n by omega]
theorem nxR_shape (x:Nx) (i:Nat):∃ (k:Int) (t:List UInt8) (v p n e:Int),nxR x i=.tup [.agg [I64 k,.str t,I64 v,I64 p],I64 n,I64 e]:=by
 unfold nxR
 split
 ·exact ⟨_,_,_,_,_,_,rfl⟩
 ·exact ⟨_,_,_,_,_,_,rfl⟩
def box4:Blk:=⟨0,true,[I64 0,.str [],I64 0,I64 0]⟩
def quR (i:Nat):Option (List UInt8 × Nat)→DV
 | none=>badR 48 i
 | some x=>if 32<x.1.length then badR 9 i else .tup [.agg [I64 4,.str x.1,I64 0,I64 i],I64 (x.2:Int),I64 0]
theorem quR_nl (i:Nat) (q:Option (List UInt8 × Nat)):(quR i q).nl=true:=by
 cases q with
 | none=>rfl
 | some x=>simp only [quR];split<;>rfl
theorem quR_next {s:List UInt8} {i:Nat} {c:UInt8} (h:s[i]? = some c) (h1:ltB c=false) (h2:dgB c=false) (h3:c.toNat=34):quR i (quA [] (i+1) (quM (s.drop (i+1))))=nxR (nextM' (s.drop i)) i:=by
 rw [drop_at h,nextM',if_neg (by rw [h1];simp),if_neg (by rw [h2];simp),if_pos h3]
 cases hq:quM (s.drop (i+1)) with
 | none=>rfl
 | some x =>
  simp only [quA,Option.map_some,List.nil_append,quR]
  split
  ·rw [nxR_bad (by decide)]
  ·rw [nxR_ok,okR]
   have:x.2+(i+1)=i+(x.2+1):=by omega
   rw [this]
theorem sub_opt {X:Hp} {o:Option Nat} {c:Nat} {b b2 b3 b3':Blk} (hX:∀ j q,X j=some q→j<c) (ho:∀ i,o=some i→X i=none) (h:b3=b3') :
  Sub (optH X (some (c+1)) b3) ((delO ((optH X o b).upd c b2) o).upd (c+1) b3'):=by
 subst h
 intro j q hj
 simp only [optH] at hj
 by_cases e:j=c+1
 ·subst e;rw [h_same] at hj ⊢;exact hj
 ·rw [h_ne e] at hj ⊢
  have h1:=hX j q hj
  have h2:∀ i,o=some i→¬ j=i:=fun i hi e2=>by rw [e2,ho i hi] at hj;cases hj
  rw [delO_ne h2,h_ne (by omega),optH_ne h2]
  exact hj
theorem upd0_lt {b:Blk} {c j:Nat} {q:Blk} (hc:1≤c) (h:(Sym.nil.upd 0 b) j=some q):j<c:=by
 by_cases e:j=0
 ·omega
 ·rw [h_ne e] at h;cases h
theorem upd0_no {b:Blk} {i:Nat} (h:¬ i=0):(Sym.nil.upd 0 b) i=none:=by rw [h_ne h];rfl
def sgnL:List (List UInt8):=[[60,61],[62,61],[61,61],[33,61],[38,38],[124,124],[123],[125],[40],[41],[59],[44],[61],[43],[45],[42],[47],[37],[33],[60],[62]]
theorem sgn_len2:∀ k:Nat,k<6→∃ a b,sgnL.getD k []=[a,b]∧twoB a b=true:=by
 intro k hk
 have:∀ k:Nat,k<6→(match sgnL.getD k [] with | [a,b]=>twoB a b|_=>false)=true:=by decide
 have:=this k hk
 split at this
 ·rename_i a b e;exact ⟨a,b,e,this⟩
 ·cases this
theorem sgn_len1:∀ k:Nat,6≤k→k<21→∃ a,sgnL.getD k []=[a]∧oneB a=true:=by
 intro k h6 hk
 have:∀ k:Nat,k<21→6≤k→(match sgnL.getD k [] with | [a]=>oneB a|_=>false)=true:=by decide
 have:=this k hk h6
 split at this
 ·rename_i a e;exact ⟨a,e,this⟩
 ·cases this
theorem two_in {c d:UInt8} (h:twoB c d=true):∃ k,k<6∧sgnL.getD k []=[c,d]:=by
 rw [two_iff] at h
 simp only [Bool.or_eq_true,beq_iff_eq] at h
 rcases h with ((((h|h)|h)|h)|h)|h
 ·exact ⟨0,by omega,h.symm⟩
 ·exact ⟨1,by omega,h.symm⟩
 ·exact ⟨2,by omega,h.symm⟩
 ·exact ⟨3,by omega,h.symm⟩
 ·exact ⟨4,by omega,h.symm⟩
 ·exact ⟨5,by omega,h.symm⟩
theorem one_in {c:UInt8} (h:oneB c=true):∃ k,6≤k∧k<21∧sgnL.getD k []=[c]:=by
 have key:∀ n:Nat,n<256→oneB (UInt8.ofNat n)=true→∃ k,k<21∧6≤k∧sgnL.getD k []=[UInt8.ofNat n]:=by decide +kernel
 obtain ⟨k,h1,h2,h3⟩:=key c.toNat c.toNat_lt (by rw [UInt8.ofNat_toNat];exact h)
 rw [UInt8.ofNat_toNat] at h3
 exact ⟨k,h2,h1,h3⟩
def preS (l s:List UInt8):Bool:=decide (l.length≤s.length) && (s.take l.length == l)
theorem sgn_found {s:List UInt8} {k:Nat} (hk:k<21) (hno:∀ j,j<k→preS (sgnL.getD j []) s=false) (h:preS (sgnL.getD k []) s=true):signM s=(sgnL.getD k []).length∧(sgnL.getD k [])=s.take (sgnL.getD k []).length:=by
 simp only [preS,Bool.and_eq_true,decide_eq_true_eq,beq_iff_eq] at h
 refine ⟨?_,h.2.symm⟩
 by_cases h6:k<6
 ·obtain ⟨a,b,e,ht⟩:=sgn_len2 k h6
  rw [e] at h ⊢
  match s,h with
  | [],h=>simp at h
  | [x],h=>simp at h
  | x :: y :: r,h =>
   simp at h
   obtain ⟨rfl,rfl⟩:=h
   simp [signM,ht]
 ·obtain ⟨a,e,ho⟩:=sgn_len1 k (by omega) hk
  rw [e] at h ⊢
  match s,h with
  | [],h=>simp at h
  | [x],h =>
   simp at h
   subst h
   simp [signM,ho]
  | x :: y :: r,h =>
   simp at h
   subst h
   have h2:twoB x y=false:=by
    cases ht:twoB x y with
    | false=>rfl
    | true =>
     obtain ⟨j,hj,e2⟩:=two_in ht
     have:=hno j (by omega)
     rw [e2] at this
     simp [preS] at this
   simp [signM,h2,ho]
theorem sgn_none {s:List UInt8} (hno:∀ j,j<21→preS (sgnL.getD j []) s=false):signM s=0:=by
 have h1:∀ x r,s=x :: r→oneB x=false:=by
  intro x r e
  cases ho:oneB x with
  | false=>rfl
  | true =>
   obtain ⟨j, -,hj,e2⟩:=one_in ho
   have:=hno j hj
   rw [e2,e] at this
   simp [preS] at this
 match s,hno,h1 with
 | [],_,_=>rfl
 | [x],_,h1=>simp [signM,h1 x [] rfl]
 | x :: y :: r,hno,h1 =>
  have h2:twoB x y=false:=by
   cases ht:twoB x y with
   | false=>rfl
   | true =>
    obtain ⟨j,hj,e2⟩:=two_in ht
    have:=hno j (by omega)
    rw [e2] at this
    simp [preS] at this
  simp [signM,h2,h1 x _ rfl]
end Go.Pb
namespace Go.Proofs.YtibjoemdkeimfaaDoor
open Go.Eng (IC IOper DReg IFn IsFn)
open Go.Sym Go.Pb
theorem c_wordsR:PC Tryd.prog 32 [] (.lst (wordsL.map DV.str)):=by
 refine PC.of mixedU isU32 (Nat.le_of_ble_eq_true rfl) rfl (nlL_strs _) ?_
 show IW Tryd.prog 2 u32_1 ⟨argT _,_,_⟩ (rt [.tmp 0] _)
 repeat' ((with_reducible first|refine wr ?_|refine wb2 ?_ ?_<;>(intro hb;try simp only [hb])|fail)<;>try simp only [go_sem,seval])
 exact pc_slc (xs:=wordsL.map DV.str) (u:=1) h_same rfl rfl (str_unit _) ⟨[],rfl⟩
theorem c_signsR:PC Tryd.prog 52 [] (.lst (sgnL.map DV.str)):=by
 refine PC.of mixedU isU52 (Nat.le_of_ble_eq_true rfl) rfl (nlL_strs _) ?_
 show IW Tryd.prog 2 u52_1 ⟨argT _,_,_⟩ (rt [.tmp 0] _)
 repeat' ((with_reducible first|refine wr ?_|refine wb2 ?_ ?_<;>(intro hb;try simp only [hb])|fail)<;>try simp only [go_sem,seval])
 exact pc_slc (xs:=sgnL.map DV.str) (u:=1) h_same rfl rfl (str_unit _) ⟨[],rfl⟩
theorem c_IsWordR (s:List UInt8):PC Tryd.prog 16 [.str s] (.bool (isWordM s)):=by
 refine PC.of mixedU isU16 (Nat.le_of_ble_eq_true rfl) (by simp [DV.nlL,DV.nl,nlL_ints,nlL_strs,nlL_instrs,nlL_entries,nlL_stp]) (by simp [DV.nlL,DV.nl,nlL_ints,nlL_strs,nlL_instrs,nlL_entries,nlL_stp]) ?_
 show IW Tryd.prog 18 u16_1 ⟨argT _,_,_⟩ (rt [.tmp 2] _)
 have hw:=c_wordsR
 repeat' ((with_reducible first|refine wr ?_|refine cpc hw ?_|refine wb2 ?_ ?_<;>(intro hb;try simp only [hb])|fail)<;>try simp only [go_sem,seval])
 refine i_loop (fun k:Nat=>[(0,.str s),(3,.lst (wordsL.map DV.str)),(4,I64 k)]) (fun _=>nil) (fun k _=>k≤wordsL.length∧(wordsL.take k).contains s=false) (fun k=>wordsL.length-k) 0 (by simp [tmLe,tm,Tm.upd]) (Sub.nil _) (by simp) ?_
 rintro k c ⟨hk,he⟩
 have hlen:wordsL.length=38:=rfl
 by_cases hlt:k<wordsL.length
 ·have hd:decide ((k:Int)<wordsL.length)=true:=by simpa using hlt
  have hg:=List.getElem?_eq_getElem hlt
  have hw:IntKind.i64.wrap ((k:Int)+1)=((k+1:Nat):Int):=by rw [w64 (by omega) (by omega)];omega
  repeat' ((with_reducible first|refine wr ?_|refine wb2 ?_ ?_<;>(intro hb;try simp only [hb])|fail)<;>try simp only [go_sem,seval,hd,hg,hw])
  ·refine pc_ret (congrArg DV.bool ?_)
   have:s=wordsL[k]:=(beq_iff_eq.1 hb).symm
   unfold isWordM
   rw [List.contains_iff_mem.2 (by rw [this];exact List.getElem_mem hlt)]
  ·refine ⟨k+1,rfl,Sub.refl _,inv ⟨hlt,?_⟩,by omega⟩
   rw [List.take_add_one,hg,List.contains_append,he]
   have:¬ s=wordsL[k]:=fun e=>by rw [e] at hb;simp at hb
   simpa using this
 ·have hd:decide ((k:Int)<wordsL.length)=false:=by simpa using hlt
  repeat' ((with_reducible first|refine wr ?_|refine wb2 ?_ ?_<;>(intro hb;try simp only [hb])|fail)<;>try simp only [go_sem,seval,hd])
  refine pc_ret (congrArg DV.bool ?_)
  rw [List.take_of_length_le (by omega)] at he
  exact he.symm
theorem c_skipR (s:List UInt8) (hs:s.length≤100000) (i:Nat) (hi:i≤s.length):PC Tryd.prog 37 [.str s,I64 i] (I64 ((i+skM false (s.drop i):Nat):Int)):=by
 refine PC.of mixedU isU37 (Nat.le_of_ble_eq_true rfl) (by simp [DV.nlL,DV.nl,nlL_ints,nlL_strs,nlL_instrs,nlL_entries,nlL_stp]) (by simp [DV.nlL,DV.nl,nlL_ints,nlL_strs,nlL_instrs,nlL_entries,nlL_stp]) ?_
 show IW Tryd.prog 45 u37_1 ⟨argT _,_,_⟩ (rt [.tmp 4] _)
 repeat' ((with_reducible first|refine wr ?_|refine wb2 ?_ ?_<;>(intro hb;try simp only [hb])|fail)<;>try simp only [go_sem,seval])
 refine i_loop (fun k:Nat=>[(0,.str s),(1,I64 k)]) (fun _=>nil) (fun k _=>k≤s.length∧i+skM false (s.drop i)=k+skM false (s.drop k)) (fun k=>s.length-k) i (by simp [tmLe,tm,Tm.upd]) (Sub.nil _) ⟨hi,rfl⟩ ?_
 rintro k c ⟨hk,he⟩
 by_cases hlt:k<s.length
 ·have hd:decide ((k:Int)<s.length)=true:=by simpa using hlt
  have hg:=List.getElem?_eq_getElem hlt
  have hw:=w64 (n:=(k:Int)+1) (by omega) (by omega)
  have hsep:sepB s[k]=true→∃ b,DV.int IntKind.i64 ((k:Int)+1)=I64 ((b:Nat):Int)∧Sym.Sub Sym.nil Sym.nil∧Keep (fun k _=>k≤s.length∧i+skM false (s.drop i)=k+skM false (s.drop k)) b c∧s.length-b<s.length-k :=
   fun h=>⟨k+1,rfl,Sub.refl _,inv ⟨by omega,by rw [he,sk_sep hg h];omega⟩,by omega⟩
  repeat' ((with_reducible first|refine wr ?_|refine wb2 ?_ ?_<;>(intro hb;try simp only [hb])|fail)<;>try simp only [go_sem,seval,hd,hg,hw])
  ·have h35:=bq_t (b:=35) hb
   have h1:=sk_cmt1 hg h35
   have h2:=sk_cmt hg h35
   refine i_loop (fun j:Nat=>[(0,.str s),(1,I64 ((k+j:Nat):Int))]) (fun _=>nil) (fun j _=>k+j≤s.length∧j≤spnM (fun c=>decide (c.toNat≠10)) (s.drop k)) (fun j=>s.length-(k+j)) 0 (by simp [tmLe,tm,Tm.upd]) (Sub.nil _) (by simp;omega) ?_
   rintro j c ⟨hkj,hej⟩
   have hend:spnM (fun c=>decide (c.toNat≠10)) (s.drop k)=j→∃ b,I64 ((k+j:Nat):Int)=I64 ((b:Nat):Int)∧Sym.Sub Sym.nil Sym.nil∧Keep (fun k _=>k≤s.length∧i+skM false (s.drop i)=k+skM false (s.drop k)) b c∧s.length-b<s.length-k:=by
    intro e
    rw [e] at h1 h2
    exact ⟨k+j,rfl,Sub.refl _,inv ⟨hkj,by rw [he,h2];omega⟩,by omega⟩
   by_cases hlt2:k+j<s.length
   ·have hd2:decide (((k+j:Nat):Int)<s.length)=true:=by simp;omega
    have hg2:=List.getElem?_eq_getElem hlt2
    have hw2:IntKind.i64.wrap (((k+j:Nat):Int)+1)=((k+(j+1):Nat):Int):=by rw [w64 (by omega) (by omega)];omega
    have hst:=spnM_at' hg2 hej
    repeat' ((with_reducible first|refine wr ?_|refine wb2 ?_ ?_<;>(intro hb;try simp only [hb])|fail)<;>try simp only [go_sem,seval,hd2,hg2,hw2])
    ·exact ⟨j+1,rfl,Sub.refl _,inv ⟨hlt2,hst.1 (by simpa using bn_t (b:=10) hb)⟩,by omega⟩
    ·exact hend (hst.2 (by simpa using bn_f (b:=10) hb))
   ·have hd2:decide (((k+j:Nat):Int)<s.length)=false:=by simp;omega
    repeat' ((with_reducible first|refine wr ?_|refine wb2 ?_ ?_<;>(intro hb;try simp only [hb])|fail)<;>try simp only [go_sem,seval,hd2])
    exact hend (spnM_end' (by omega) hej)
  ·exact hsep (by simp [sepB,bq_t (b:=9) hb])
  ·exact hsep (by simp [sepB,bq_t (b:=10) hb])
  ·exact hsep (by simp [sepB,bq_t (b:=13) hb])
  ·exact hsep (by simp [sepB,bq_t (b:=32) hb])
  ·refine pc_ret ?_
   have h9:=bq_f (a:=s[k].toNat) (b:=9) (by assumption)
   have h10:=bq_f (a:=s[k].toNat) (b:=10) (by assumption)
   have h13:=bq_f (a:=s[k].toNat) (b:=13) (by assumption)
   have h32:=bq_f (a:=s[k].toNat) (b:=32) (by assumption)
   have h35:=bq_f (a:=s[k].toNat) (b:=35) (by assumption)
   rw [he,sk_stop hg (by simp [sepB,h9,h10,h13,h32]) h35];simp
 ·have hd:decide ((k:Int)<s.length)=false:=by simpa using hlt
  repeat' ((with_reducible first|refine wr ?_|refine wb2 ?_ ?_<;>(intro hb;try simp only [hb])|fail)<;>try simp only [go_sem,seval,hd])
  refine pc_ret ?_
  rw [he,sk_end (by omega)];simp
theorem c_wordR (s:List UInt8) (hs:s.length≤100000) (i:Nat) (hi:i<s.length) (hl:ltB s[i]=true):PC Tryd.prog 49 [.str s,I64 i] (nxR (nextM' (s.drop i)) i):=by
 have hM:nextM' (s.drop i)=if 12<spnM ptB (s.drop i) then nxE 9 else ⟨if isWordM ((s.drop i).take (spnM ptB (s.drop i)))=true then 2 else 1,(s.drop i).take (spnM ptB (s.drop i)),0,spnM ptB (s.drop i),0⟩:=by
  rw [drop_at (List.getElem?_eq_getElem hi),nextM',if_pos hl]
 rw [hM]
 have hle:=spnM_le ptB (s.drop i)
 rw [List.length_drop] at hle
 refine PC.of mixedU isU49 (Nat.le_of_ble_eq_true rfl) rfl (nxR_nl _ _) ?_
 show IW Tryd.prog 52 u49_1 ⟨argT _,_,_⟩ (rt [.cell 4 4 true,.tmp 5,.tmp 6] _)
 repeat' ((with_reducible first|refine wr ?_|refine wb2 ?_ ?_<;>(intro hb;try simp only [hb])|fail)<;>try simp only [go_sem,seval])
 refine i_loop (fun j:Nat=>[(0,.str s),(1,I64 i),(4,.ptr 0 0),(7,I64 ((i+j:Nat):Int))]) (fun _=>Sym.nil.upd 0 ⟨0,true,[I64 0,.str [],I64 0,I64 0]⟩) (fun j cc=>1≤cc∧i+j≤s.length∧j≤spnM ptB (s.drop i)) (fun j=>s.length-(i+j)) 0 (by simp [tmLe,tm,Tm.upd]) (Sub.refl _) (by simp;omega) ?_
 rintro j c ⟨h1c,hk,he⟩
 have hw2:IntKind.i64.wrap (((i+j:Nat):Int)-i)=(j:Int):=by rw [w64 (by omega) (by omega)];omega
 have hsx:=slx_take hk
 have hiw:=c_IsWordR ((s.drop i).take j)
 have hR9:spnM ptB (s.drop i)=j→12<j→badR 9 i=nxR (if 12<spnM ptB (s.drop i) then nxE 9 else ⟨if isWordM ((s.drop i).take (spnM ptB (s.drop i)))=true then 2 else 1,(s.drop i).take (spnM ptB (s.drop i)),0,spnM ptB (s.drop i),0⟩) i:=by
  intro e h;rw [e,if_pos h,nxR_bad (by decide)]
 have hRw:spnM ptB (s.drop i)=j→¬ 12<j→isWordM ((s.drop i).take j)=true→okR 2 ((s.drop i).take j) 0 i j=nxR (if 12<spnM ptB (s.drop i) then nxE 9 else ⟨if isWordM ((s.drop i).take (spnM ptB (s.drop i)))=true then 2 else 1,(s.drop i).take (spnM ptB (s.drop i)),0,spnM ptB (s.drop i),0⟩) i:=by
  intro e h h2;rw [e,if_neg h,nxR_ok,if_pos h2]
 have hRn:spnM ptB (s.drop i)=j→¬ 12<j→isWordM ((s.drop i).take j)=false→okR 1 ((s.drop i).take j) 0 i j=nxR (if 12<spnM ptB (s.drop i) then nxE 9 else ⟨if isWordM ((s.drop i).take (spnM ptB (s.drop i)))=true then 2 else 1,(s.drop i).take (spnM ptB (s.drop i)),0,spnM ptB (s.drop i),0⟩) i:=by
  intro e h h2;rw [e,if_neg h,nxR_ok,if_neg (by rw [h2];simp)]
 by_cases hlt:i+j<s.length
 ·have hd:decide (((i+j:Nat):Int)<s.length)=true:=by simp;omega
  have hg:=List.getElem?_eq_getElem hlt
  have hw:IntKind.i64.wrap (((i+j:Nat):Int)+1)=((i+(j+1):Nat):Int):=by rw [w64 (by omega) (by omega)];omega
  have h1:=c_letterR s[i+j]
  have h2:=c_digitR s[i+j]
  have hst:=spnM_at' hg he
  have hlp:ptB s[i+j]=true→∃ b,DV.int IntKind.i64 ((i+(j+1):Nat):Int)=I64 ((i+b:Nat):Int)∧Sym.Sub (Sym.nil.upd 0 ⟨0,true,[I64 0,.str [],I64 0,I64 0]⟩) (Sym.nil.upd 0 ⟨0,true,[I64 0,.str [],I64 0,I64 0]⟩) ∧
    Keep (fun j cc=>1≤cc∧i+j≤s.length∧j≤spnM ptB (s.drop i)) b c∧s.length-(i+b)<s.length-(i+j) :=
   fun h=>⟨j+1,rfl,Sub.refl _,inv ⟨h1c,hlt,hst.1 h⟩,by omega⟩
  have ne0:=nes2 c 0 (by omega)
  repeat' ((with_reducible first|refine wr ?_|refine cpc h1 ?_|refine cpc h2 ?_|refine cpc hiw ?_|refine wb2 ?_ ?_<;>(intro hb;try simp only [hb])|fail)<;>try simp only [go_sem,seval,hd,hg,hw,hw2,hsx,ne0])
  ·exact hlp (by simp [ptB,hb])
  ·exact hlp (by simp [ptB,hb])
  ·exact hlp (by simp [ptB,bq_t (b:=95) hb])
  ·have hj:=hst.2 (by simp only [ptB];rw [‹ltB s[i+j]=false›, ‹dgB s[i+j]=false›];simpa using bq_f (a:=s[i+j].toNat) (b:=95) (by assumption))
   rw [k_rv (v:=badR 9 i) rfl]
   exact pc_ret (hR9 hj (gt_t hb))
  ·have hj:=hst.2 (by simp only [ptB];rw [‹ltB s[i+j]=false›, ‹dgB s[i+j]=false›];simpa using bq_f (a:=s[i+j].toNat) (b:=95) (by assumption))
   rw [k_rv (v:=okR 2 ((s.drop i).take j) 0 i j) rfl]
   exact pc_ret (hRw hj (gt_f (a:=j) (b:=12) (by assumption)) hb)
  ·have hj:=hst.2 (by simp only [ptB];rw [‹ltB s[i+j]=false›, ‹dgB s[i+j]=false›];simpa using bq_f (a:=s[i+j].toNat) (b:=95) (by assumption))
   rw [k_rv (v:=okR 1 ((s.drop i).take j) 0 i j) rfl]
   exact pc_ret (hRn hj (gt_f (a:=j) (b:=12) (by assumption)) hb)
 ·have hd:decide (((i+j:Nat):Int)<s.length)=false:=by simp;omega
  have hj:=spnM_end' (p:=ptB) (s:=s) (by omega) he
  have ne0:=nes2 c 0 (by omega)
  repeat' ((with_reducible first|refine wr ?_|refine cpc hiw ?_|refine wb2 ?_ ?_<;>(intro hb;try simp only [hb])|fail)<;>try simp only [go_sem,seval,hd,hw2,hsx,ne0])
  ·rw [k_rv (v:=badR 9 i) rfl]
   exact pc_ret (hR9 hj (gt_t hb))
  ·rw [k_rv (v:=okR 2 ((s.drop i).take j) 0 i j) rfl]
   exact pc_ret (hRw hj (gt_f (a:=j) (b:=12) (by assumption)) hb)
  ·rw [k_rv (v:=okR 1 ((s.drop i).take j) 0 i j) rfl]
   exact pc_ret (hRn hj (gt_f (a:=j) (b:=12) (by assumption)) hb)
theorem c_numberR (s:List UInt8) (hs:s.length≤100000) (i:Nat) (hi:i<s.length) (hl:ltB s[i]=false) (hg0:dgB s[i]=true):PC Tryd.prog 50 [.str s,I64 i] (nxR (nextM' (s.drop i)) i):=by
 have hM:nextM' (s.drop i)=if 1<spnM dgB (s.drop i)∧s[i].toNat=48 then nxE 47
   else if 2147483647<numV ((s.drop i).take (spnM dgB (s.drop i))) then nxE 5
   else ⟨3,[],(numV ((s.drop i).take (spnM dgB (s.drop i))):Int),spnM dgB (s.drop i),0⟩:=by
  have hdr:=drop_at (List.getElem?_eq_getElem hi)
  have:∀ r,s.drop i=s[i] :: r→nextM' (s.drop i)=if 1<spnM dgB (s.drop i)∧s[i].toNat=48 then nxE 47
   else if 2147483647<numV ((s.drop i).take (spnM dgB (s.drop i))) then nxE 5
   else ⟨3,[],(numV ((s.drop i).take (spnM dgB (s.drop i))):Int),spnM dgB (s.drop i),0⟩:=by
   intro r e
   rw [e,nextM',if_neg (by rw [hl];simp),if_pos hg0]
  exact this _ hdr
 have hle:=spnM_le dgB (s.drop i)
 rw [List.length_drop] at hle
 obtain ⟨D,hD⟩:∃ D,D=s.drop i:=⟨_,rfl⟩
 refine PC.of mixedU isU50 (Nat.le_of_ble_eq_true rfl) rfl (nxR_nl _ _) ?_
 show IW Tryd.prog 58 u50_1 ⟨argT _,_,_⟩ (rt [.cell 4 4 true,.tmp 5,.tmp 6] _)
 repeat' ((with_reducible first|refine wr ?_|refine wb2 ?_ ?_<;>(intro hb;try simp only [hb])|fail)<;>try simp only [go_sem,seval])
 refine i_loop (fun j:Nat=>[(0,.str s),(1,I64 i),(4,.ptr 0 0),(7,I64 ((i+j:Nat):Int)),(8,I64 (smV (D.take j))),(9,.bool (bigV (D.take j)))]) (fun _=>Sym.nil.upd 0 ⟨0,true,[I64 0,.str [],I64 0,I64 0]⟩) (fun j _=>i+j≤s.length∧j≤spnM dgB (s.drop i)) (fun j=>s.length-(i+j)) 0 (by simp [tmLe,tm,Tm.upd,smV,bigV,numV]) (Sub.refl _) (by simp;omega) ?_
 rintro j c ⟨hk,he⟩
 have hw2:IntKind.i64.wrap (((i+j:Nat):Int)-i)=(j:Int):=by rw [w64 (by omega) (by omega)];omega
 have hgi:=List.getElem?_eq_getElem hi
 have hRz:spnM dgB (s.drop i)=j→1<j→s[i].toNat=48→badR 47 i=nxR (nextM' (s.drop i)) i:=by
  intro e h h2;rw [hM,e,if_pos ⟨h,h2⟩,nxR_bad (by decide)]
 have hRb:spnM dgB (s.drop i)=j→¬ (1<j∧s[i].toNat=48)→bigV (D.take j)=true→badR 5 i=nxR (nextM' (s.drop i)) i:=by
  intro e h h2;rw [hM,e,if_neg h, ← hD,if_pos (of_decide_eq_true h2),nxR_bad (by decide)]
 have hRk:spnM dgB (s.drop i)=j→¬ (1<j∧s[i].toNat=48)→bigV (D.take j)=false→okR 3 [] (smV (D.take j)) i j=nxR (nextM' (s.drop i)) i:=by
  intro e h h2
  have h3:=of_decide_eq_false h2
  rw [hM,e,if_neg h, ← hD,if_neg h3,nxR_ok,smV_f h3]
 by_cases hlt:i+j<s.length
 ·have hd:decide (((i+j:Nat):Int)<s.length)=true:=by simp;omega
  have hg:=List.getElem?_eq_getElem hlt
  have hw:IntKind.i64.wrap (((i+j:Nat):Int)+1)=((i+(j+1):Nat):Int):=by rw [w64 (by omega) (by omega)];omega
  have h2:=c_digitR s[i+j]
  have hst:=spnM_at' hg he
  by_cases hdg:dgB s[i+j]=true
  ·rw [hdg] at h2
   have hgD:D[j]? = some s[i+j]:=by rw [hD,List.getElem?_drop];exact hg
   have hn:=numV_step hgD
   have hdd:48≤s[i+j].toNat∧s[i+j].toNat≤57:=by simpa [dgB] using hdg
   obtain ⟨z,hz⟩:∃ z:Nat,z=s[i+j].toNat-48:=⟨_,rfl⟩
   rw [← hz] at hn
   have w1:IntKind.i64.wrap (10 * (smV (D.take j):Int))=((10 * smV (D.take j):Nat):Int):=by have:=smV_le (D.take j);rw [w64 (by omega) (by omega)];omega
   have w2:IntKind.u8.wrap ((s[i+j].toNat:Int)-48)=(z:Int):=by rw [wu8 (by omega) (by omega)];omega
   have w3:IntKind.i64.wrap (z:Int)=(z:Int):=w64 (by omega) (by omega)
   have w4:IntKind.i64.wrap (((10 * smV (D.take j):Nat):Int)+z)=((10 * smV (D.take j)+z:Nat):Int):=by have:=smV_le (D.take j);rw [w64 (by omega) (by omega)];omega
   by_cases hbg:2147483647<numV (D.take j)
   ·have hb1:bigV (D.take j)=true:=decide_eq_true hbg
    have e1:bigV (D.take (j+1))=true:=decide_eq_true (by omega)
    have e2:smV (D.take (j+1))=0:=smV_t (by omega)
    rw [hb1]
    repeat' ((with_reducible first|refine wr ?_|refine cpc h2 ?_|refine wb2 ?_ ?_<;>(intro hb;try simp only [hb])|fail)<;>try simp only [go_sem,seval,hd,hg,hw,w1,w2,w3,w4])
    exact ⟨j+1,⟨rfl,by rw [e2];rfl,by rw [e1]⟩,Sub.refl _,inv ⟨hlt,hst.1 hdg⟩,by omega⟩
   ·have hb1:bigV (D.take j)=false:=decide_eq_false hbg
    have hs1:=smV_f hbg
    rw [hb1]
    by_cases hbn:2147483647<numV (D.take (j+1))
    ·have e1:bigV (D.take (j+1))=true:=decide_eq_true hbn
     have e2:smV (D.take (j+1))=0:=smV_t hbn
     have hd5:decide (((10 * smV (D.take j)+z:Nat):Int)>2147483647)=true:=by simp only [decide_eq_true_eq];omega
     repeat' ((with_reducible first|refine wr ?_|refine cpc h2 ?_|refine wb2 ?_ ?_<;>(intro hb;try simp only [hb])|fail)<;>try simp only [go_sem,seval,hd,hg,hw,w1,w2,w3,w4,hd5])
     exact ⟨j+1,⟨rfl,by rw [e2];rfl,by rw [e1]⟩,Sub.refl _,inv ⟨hlt,hst.1 hdg⟩,by omega⟩
    ·have e1:bigV (D.take (j+1))=false:=decide_eq_false hbn
     have e2:smV (D.take (j+1))=10 * smV (D.take j)+z:=by rw [smV_f hbn,hn,hs1]
     have hd5:decide (((10 * smV (D.take j)+z:Nat):Int)>2147483647)=false:=by simp only [decide_eq_false_iff_not];omega
     repeat' ((with_reducible first|refine wr ?_|refine cpc h2 ?_|refine wb2 ?_ ?_<;>(intro hb;try simp only [hb])|fail)<;>try simp only [go_sem,seval,hd,hg,hw,w1,w2,w3,w4,hd5])
     exact ⟨j+1,⟨rfl,by rw [e2],by rw [e1]⟩,Sub.refl _,inv ⟨hlt,hst.1 hdg⟩,by omega⟩
  ·have hdg0:dgB s[i+j]=false:=by simpa using hdg
   rw [hdg0] at h2
   have hj:=hst.2 hdg0
   repeat' ((with_reducible first|refine wr ?_|refine cpc h2 ?_|refine wb2 ?_ ?_<;>(intro hb;try simp only [hb])|fail)<;>try simp only [go_sem,seval,hd,hg,hw2,hgi])
   ·rw [k_rv (v:=badR 47 i) rfl]
    exact pc_ret (hRz hj (gt_t hb) (bq_t (b:=48) (by assumption)))
   ·rw [k_rv (v:=badR 5 i) rfl]
    exact pc_ret (hRb hj (fun h=>gt_f (a:=j) (b:=1) (by assumption) h.1) hb)
   ·rw [k_rv (v:=okR 3 [] (smV (D.take j)) i j) rfl]
    exact pc_ret (hRk hj (fun h=>gt_f (a:=j) (b:=1) (by assumption) h.1) hb)
   ·rw [k_rv (v:=badR 5 i) rfl]
    exact pc_ret (hRb hj (fun h=>bq_f (b:=48) (by assumption) h.2) hb)
   ·rw [k_rv (v:=okR 3 [] (smV (D.take j)) i j) rfl]
    exact pc_ret (hRk hj (fun h=>bq_f (b:=48) (by assumption) h.2) hb)
 ·have hd:decide (((i+j:Nat):Int)<s.length)=false:=by simp;omega
  have hj:=spnM_end' (p:=dgB) (s:=s) (by omega) he
  repeat' ((with_reducible first|refine wr ?_|refine wb2 ?_ ?_<;>(intro hb;try simp only [hb])|fail)<;>try simp only [go_sem,seval,hd,hw2,hgi])
  ·rw [k_rv (v:=badR 47 i) rfl]
   exact pc_ret (hRz hj (gt_t hb) (bq_t (b:=48) (by assumption)))
  ·rw [k_rv (v:=badR 5 i) rfl]
   exact pc_ret (hRb hj (fun h=>gt_f (a:=j) (b:=1) (by assumption) h.1) hb)
  ·rw [k_rv (v:=okR 3 [] (smV (D.take j)) i j) rfl]
   exact pc_ret (hRk hj (fun h=>gt_f (a:=j) (b:=1) (by assumption) h.1) hb)
  ·rw [k_rv (v:=badR 5 i) rfl]
   exact pc_ret (hRb hj (fun h=>bq_f (b:=48) (by assumption) h.2) hb)
  ·rw [k_rv (v:=okR 3 [] (smV (D.take j)) i j) rfl]
   exact pc_ret (hRk hj (fun h=>bq_f (b:=48) (by assumption) h.2) hb)
end Go.Proofs.YtibjoemdkeimfaaDoor
namespace Go.Proofs.YtibjoemdkeimfaaDoor
open Go.Eng (IC IOper DReg IFn IsFn)
open Go.Sym Go.Pb
theorem c_quotedR (s:List UInt8) (hs:s.length≤100000) (i:Nat) (hi:i<s.length):PC Tryd.prog 51 [.str s,I64 i] (quR i (quA [] (i+1) (quM (s.drop (i+1))))):=by
 refine PC.of mixedU isU51 (Nat.le_of_ble_eq_true rfl) rfl (quR_nl _ _) ?_
 show IW Tryd.prog 76 u51_1 ⟨argT _,_,_⟩ (rt [.cell 4 4 true,.tmp 5,.tmp 6] _)
 have hw0:IntKind.i64.wrap ((i:Int)+1)=((i+1:Nat):Int):=by rw [w64 (by omega) (by omega)];omega
 repeat' ((with_reducible first|refine wr ?_|refine wb2 ?_ ?_<;>(intro hb;try simp only [hb])|fail)<;>try simp only [go_sem,seval,hw0])
 refine i_loop (fun q:Nat × Option Nat × List UInt8=>[(0,.str s),(1,I64 i),(4,.ptr 0 0),(7,todoV q.2.1 q.2.2.length),(8,I64 q.1)]) (fun q=>optH (Sym.nil.upd 0 box4) q.2.1 ⟨1,true,bytesC q.2.2⟩)
  (fun q c=>1≤c∧i+1≤q.1∧q.2.2.length≤q.1∧q.1≤s.length+1∧(q.2.1=none→q.2.2=[])∧(∀ i,q.2.1=some i→1≤i∧i<c)∧quA [] (i+1) (quM (s.drop (i+1)))=quA q.2.2 q.1 (quM (s.drop q.1))) (fun q=>s.length+1-q.1) (i+1,none,[])
  (by simp [tmLe,tm,Tm.upd,todoV]) (Sub.refl _) ⟨by simp,by simp,by simp,by simp only;omega,fun _=>rfl,(fun i hi=>by cases hi),rfl⟩ ?_
 rintro ⟨k,o,acc⟩ c ⟨h1c,h1,hal,hk,hno,ho,he⟩
 simp only at h1 hal hk hno ho he
 simp only
 rw [he]
 have hH0:optH (Sym.nil.upd 0 box4) o ⟨1,true,bytesC acc⟩ 0=some ⟨0,true,[I64 0,.str [],I64 0,I64 0]⟩:=by rw [optH_ne (fun i hi=>by have:=ho i hi;omega),h_same];rfl
 have hlt0:=r_lentodo (o:=o) (n:=acc.length) (fun e=>by rw [hno e];rfl)
 by_cases hlt:k<s.length
 ·have hd:decide ((k:Int)<s.length)=true:=by simpa using hlt
  have hg:=List.getElem?_eq_getElem hlt
  have hw:IntKind.i64.wrap ((k:Int)+1)=((k+1:Nat):Int):=by rw [w64 (by omega) (by omega)];omega
  have hw2:IntKind.i64.wrap (((k+1:Nat):Int)+1)=((k+2:Nat):Int):=by rw [w64 (by omega) (by omega)];omega
  have hcv:=r_cvtodo (H:=optH (Sym.nil.upd 0 box4) o ⟨1,true,bytesC acc⟩) (u:=1) hno (fun i hi=>by subst hi;exact h_same)
  have hc0:∀ n:Nat,((s[k].toNat:Int) == (n:Int))=true→s[k].toNat=n:=fun n h=>by have:=beq_iff_eq.1 h;omega
  have hc1:∀ n:Nat,((s[k].toNat:Int) == (n:Int))=false→s[k].toNat≠n:=fun n h h2=>by rw [h2] at h;simp at h
  by_cases hlt2:k+1<s.length
  ·have hd2:decide (((k+1:Nat):Int)≥s.length)=false:=by simp;omega
   have hg2:=List.getElem?_eq_getElem hlt2
   have hc2:∀ n:Nat,((s[k+1].toNat:Int) == (n:Int))=true→s[k+1].toNat=n:=fun n h=>by have:=beq_iff_eq.1 h;omega
   have hc3:∀ n:Nat,((s[k+1].toNat:Int) == (n:Int))=false→s[k+1].toNat≠n:=fun n h h2=>by rw [h2] at h;simp at h
   have ne0:=nes3 c (c+1) 0 (by omega)
   have hap:=r_apbyte (X:=Sym.nil.upd 0 box4) hno (fun i hi=>(ho i hi).2) (by omega)
   repeat' ((with_reducible first|refine wr ?_|refine wb2 ?_ ?_<;>(intro hb;try simp only [hb])|fail)<;>try simp only [go_sem,seval,hd,hg,hw,hcv,hlt0,hd2,hg2,hw2,ne0,hap,hH0])
   ·rw [k_rv (v:=badR 9 i) rfl]
    refine pc_ret ?_
    rw [qu_quote hg (hc0 34 (by assumption)),quR,if_pos (gt_t hb)]
   ·rw [k_rv (v:=.tup [.agg [I64 4,.str acc,I64 0,I64 i],I64 ((k+1:Nat):Int),I64 0]) rfl]
    refine pc_ret ?_
    rw [qu_quote hg (hc0 34 (by assumption)),quR,if_neg (gt_f hb)]
   ·rw [k_rv (v:=badR 48 i) rfl]
    refine pc_ret ?_
    rw [qu_bad hg (hc1 34 (by assumption)) (.inl (by have:=of_decide_eq_true hb;omega))];rfl
   ·rw [k_rv (v:=badR 48 i) rfl]
    refine pc_ret ?_
    rw [qu_bad hg (hc1 34 (by assumption)) (.inr (by have:=of_decide_eq_true hb;omega))];rfl
   ·rw [k_rv (v:=badR 48 i) rfl]
    refine pc_ret ?_
    rw [qu_esc0 hg (hc0 92 (by assumption)) (fun d hd=>by
     rw [hg2] at hd;cases hd
     exact ⟨bn_t (b:=34) (by assumption),bn_t (b:=92) hb⟩)];rfl
   ·have hq:=qu_esc (acc:=acc) hg (hc0 92 (by assumption)) hg2 (.inr (bn_f (b:=92) hb))
    exact ⟨(k+2,some (c+1),acc++[s[k+1]]),⟨by simp only [List.length_append,List.length_singleton];rfl,rfl⟩,sub_opt (fun j q=>upd0_lt h1c) (fun i hi=>upd0_no (by have:=ho i hi;omega)) rfl,inv ⟨by omega,by simp only;omega,by simp;omega,by simp only;omega,(fun h=>by cases h),(fun i hi=>by cases hi;omega),hq⟩,by simp only;omega⟩
   ·have hq:=qu_esc (acc:=acc) hg (hc0 92 (by assumption)) hg2 (.inl (bn_f (b:=34) hb))
    exact ⟨(k+2,some (c+1),acc++[s[k+1]]),⟨by simp only [List.length_append,List.length_singleton];rfl,rfl⟩,sub_opt (fun j q=>upd0_lt h1c) (fun i hi=>upd0_no (by have:=ho i hi;omega)) rfl,inv ⟨by omega,by simp only;omega,by simp;omega,by simp only;omega,(fun h=>by cases h),(fun i hi=>by cases hi;omega),hq⟩,by simp only;omega⟩
   ·have hq:=qu_char (acc:=acc) hg (hc1 34 (by assumption)) (by have:=of_decide_eq_false (by assumption:decide (((s[k].toNat:Int))<32)=false);omega) (by have:=of_decide_eq_false (by assumption:decide (((s[k].toNat:Int))>126)=false);omega) (hc1 92 (by assumption))
    exact ⟨(k+1,some (c+1),acc++[s[k]]),⟨by simp only [List.length_append,List.length_singleton];rfl,rfl⟩,sub_opt (fun j q=>upd0_lt h1c) (fun i hi=>upd0_no (by have:=ho i hi;omega)) rfl,inv ⟨by omega,by simp only;omega,by simp;omega,by simp only;omega,(fun h=>by cases h),(fun i hi=>by cases hi;omega),hq⟩,by simp only;omega⟩
  ·have hd2:decide (((k+1:Nat):Int)≥s.length)=true:=by simp;omega
   have ne0:=nes3 c (c+1) 0 (by omega)
   have hap:=r_apbyte (X:=Sym.nil.upd 0 box4) hno (fun i hi=>(ho i hi).2) (by omega)
   repeat' ((with_reducible first|refine wr ?_|refine wb2 ?_ ?_<;>(intro hb;try simp only [hb])|fail)<;>try simp only [go_sem,seval,hd,hg,hw,hcv,hlt0,hd2,ne0,hap,hH0])
   ·rw [k_rv (v:=badR 9 i) rfl]
    refine pc_ret ?_
    rw [qu_quote hg (hc0 34 (by assumption)),quR,if_pos (gt_t hb)]
   ·rw [k_rv (v:=.tup [.agg [I64 4,.str acc,I64 0,I64 i],I64 ((k+1:Nat):Int),I64 0]) rfl]
    refine pc_ret ?_
    rw [qu_quote hg (hc0 34 (by assumption)),quR,if_neg (gt_f hb)]
   ·rw [k_rv (v:=badR 48 i) rfl]
    refine pc_ret ?_
    rw [qu_bad hg (hc1 34 (by assumption)) (.inl (by have:=of_decide_eq_true hb;omega))];rfl
   ·rw [k_rv (v:=badR 48 i) rfl]
    refine pc_ret ?_
    rw [qu_bad hg (hc1 34 (by assumption)) (.inr (by have:=of_decide_eq_true hb;omega))];rfl
   ·rw [k_rv (v:=badR 48 i) rfl]
    refine pc_ret ?_
    rw [qu_esc0 hg (hc0 92 (by assumption)) (fun d hd=>by rw [List.getElem?_eq_none (by omega)] at hd;cases hd)];rfl
   ·have hq:=qu_char (acc:=acc) hg (hc1 34 (by assumption)) (by have:=of_decide_eq_false (by assumption:decide (((s[k].toNat:Int))<32)=false);omega) (by have:=of_decide_eq_false (by assumption:decide (((s[k].toNat:Int))>126)=false);omega) (hc1 92 (by assumption))
    exact ⟨(k+1,some (c+1),acc++[s[k]]),⟨by simp only [List.length_append,List.length_singleton];rfl,rfl⟩,sub_opt (fun j q=>upd0_lt h1c) (fun i hi=>upd0_no (by have:=ho i hi;omega)) rfl,inv ⟨by omega,by simp only;omega,by simp;omega,by simp only;omega,(fun h=>by cases h),(fun i hi=>by cases hi;omega),hq⟩,by simp only;omega⟩
 ·have hd:decide ((k:Int)<s.length)=false:=by simpa using hlt
  have ne0:=nes2 c 0 (by omega)
  repeat' ((with_reducible first|refine wr ?_|refine wb2 ?_ ?_<;>(intro hb;try simp only [hb])|fail)<;>try simp only [go_sem,seval,hd,ne0,hH0])
  rw [k_rv (v:=badR 48 i) rfl]
  refine pc_ret ?_
  rw [qu_end (by omega)];rfl
end Go.Proofs.YtibjoemdkeimfaaDoor
namespace Go.Proofs.YtibjoemdkeimfaaDoor
open Go.Eng (IC IOper DReg IFn IsFn)
open Go.Sym Go.Pb
theorem c_oneR (s:List UInt8) (hs:s.length≤100000) (i:Nat) (hi:i<s.length):PC Tryd.prog 38 [.str s,I64 i] (nxR (nextM' (s.drop i)) i):=by
 refine PC.of mixedU isU38 (Nat.le_of_ble_eq_true rfl) rfl (nxR_nl _ _) ?_
 show IW Tryd.prog 83 u38_1 ⟨argT _,_,_⟩ (rt [.cell 4 4 true,.tmp 5,.tmp 6] _)
 have hg:=List.getElem?_eq_getElem hi
 have hlt:=c_letterR s[i]
 have hdg:=c_digitR s[i]
 obtain ⟨k,t,v,p,n,e,hsh⟩:=nxR_shape (nextM' (s.drop i)) i
 by_cases hl:ltB s[i]=true
 ·have hw:=c_wordR s hs i hi hl
  rw [hsh] at hw ⊢
  repeat' ((with_reducible first|refine wr ?_|refine cpc hlt ?_|refine cpc hw ?_|refine wb2 ?_ ?_<;>(intro hb;try simp only [hb])|fail)<;>try simp only [go_sem,seval,hl,hg])
  rw [k_rv (v:=.tup [.agg [I64 k,.str t,I64 v,I64 p],I64 n,I64 e]) rfl]
  exact pc_ret rfl
 have hl0:ltB s[i]=false:=by simpa using hl
 by_cases hd:dgB s[i]=true
 ·have hw:=c_numberR s hs i hi hl0 hd
  rw [hsh] at hw ⊢
  repeat' ((with_reducible first|refine wr ?_|refine cpc hlt ?_|refine cpc hdg ?_|refine cpc hw ?_|refine wb2 ?_ ?_<;>(intro hb;try simp only [hb])|fail)<;>try simp only [go_sem,seval,hl0,hd,hg])
  rw [k_rv (v:=.tup [.agg [I64 k,.str t,I64 v,I64 p],I64 n,I64 e]) rfl]
  exact pc_ret rfl
 have hd0:dgB s[i]=false:=by simpa using hd
 by_cases hq:s[i].toNat=34
 ·have hw:=c_quotedR s hs i hi
  rw [quR_next hg hl0 hd0 hq,hsh] at hw
  rw [hsh]
  have hb34:((s[i].toNat:Int) == 34)=true:=by rw [hq];rfl
  repeat' ((with_reducible first|refine wr ?_|refine cpc hlt ?_|refine cpc hdg ?_|refine cpc hw ?_|refine wb2 ?_ ?_<;>(intro hb;try simp only [hb])|fail)<;>try simp only [go_sem,seval,hl0,hd0,hg,hb34])
  rw [k_rv (v:=.tup [.agg [I64 k,.str t,I64 v,I64 p],I64 n,I64 e]) rfl]
  exact pc_ret rfl
 clear hsh
 have hb34:((s[i].toNat:Int) == 34)=false:=by simpa using (fun h=>hq (by omega))
 have hM:nextM' (s.drop i)=if signM (s.drop i)=0 then nxE 47 else ⟨5,(s.drop i).take (signM (s.drop i)),0,signM (s.drop i),0⟩:=by
  have hdr:=drop_at hg
  have:∀ r,s.drop i=s[i] :: r→nextM' (s.drop i)=if signM (s.drop i)=0 then nxE 47 else ⟨5,(s.drop i).take (signM (s.drop i)),0,signM (s.drop i),0⟩:=by
   intro r e
   rw [e,nextM',if_neg hl,if_neg hd,if_neg hq]
  exact this _ hdr
 rw [hM]
 have hsg:=c_signsR
 repeat' ((with_reducible first|refine wr ?_|refine cpc hlt ?_|refine cpc hdg ?_|refine cpc hsg ?_|refine wb2 ?_ ?_<;>(intro hb;try simp only [hb])|fail)<;>try simp only [go_sem,seval,hl0,hd0,hg,hb34])
 have hlen:sgnL.length=21:=rfl
 refine i_loop (fun k:Nat=>[(0,.str s),(1,I64 i),(4,.ptr 0 0),(8,.lst (sgnL.map DV.str)),(9,I64 k)]) (fun _=>Sym.nil.upd 0 ⟨0,true,[I64 0,.str [],I64 0,I64 0]⟩) (fun k _=>k≤sgnL.length∧∀ j,j<k→preS (sgnL.getD j []) (s.drop i)=false) (fun k=>sgnL.length-k) 0 (by simp [tmLe,tm,Tm.upd]) (Sub.refl _) (by simp) ?_
 rintro k c ⟨hk,he⟩
 by_cases hkl:k<sgnL.length
 ·have hd:decide ((k:Int)<sgnL.length)=true:=by simpa using hkl
  have hgk:=List.getElem?_eq_getElem hkl
  have hget:sgnL.getD k []=sgnL[k]:=by rw [List.getD_eq_getElem?_getD,hgk];rfl
  have hw:IntKind.i64.wrap ((k:Int)+1)=((k+1:Nat):Int):=by rw [w64 (by omega) (by omega)];omega
  obtain ⟨L,hL⟩:∃ L,L=sgnL[k]:=⟨_,rfl⟩
  rw [← hL] at hgk hget
  have hLl:1≤L.length∧L.length≤2:=by
   have:∀ x∈sgnL,1≤x.length∧x.length≤2:=by decide
   rw [hL];exact this _ (List.getElem_mem hkl)
  have hw1:IntKind.i64.wrap ((s.length:Int)-i)=((s.length-i:Nat):Int):=by rw [w64 (by omega) (by omega)];omega
  have hw2:IntKind.i64.wrap ((i:Int)+L.length)=((i+L.length:Nat):Int):=by rw [w64 (by omega) (by omega)];omega
  have hnext:preS L (s.drop i)=false→Keep (fun k _=>k≤sgnL.length∧∀ j,j<k→preS (sgnL.getD j []) (s.drop i)=false) (k+1) c:=fun h=>inv ⟨hkl,fun j hj=>by
   by_cases e:j=k
   ·rw [e,hget];exact h
   ·exact he j (by omega)⟩
  by_cases hln:L.length≤s.length-i
  ·have hd2:decide (((s.length-i:Nat):Int)≥L.length)=true:=by simp only [decide_eq_true_eq];omega
   have hsx:=slx_take (s:=s) (i:=i) (n:=L.length) (by omega)
   have hpr:preS L (s.drop i)=((s.drop i).take L.length == L):=by
    unfold preS
    rw [decide_eq_true (by rw [List.length_drop];exact hln),Bool.true_and]
   repeat' ((with_reducible first|refine wr ?_|refine wb2 ?_ ?_<;>(intro hb;try simp only [hb])|fail)<;>try simp only [go_sem,seval,hd,hgk,hw,hw1,hw2,hd2,hsx])
   ·have hp:=hpr.trans hb
    have:=sgn_found (s:=s.drop i) (k:=k) (by omega) he (by rw [hget];exact hp)
    rw [hget] at this
    rw [k_rv (v:=okR 5 L 0 i L.length) rfl]
    refine pc_ret ?_
    rw [this.1,if_neg (by omega),nxR_ok, ← this.2]
   ·exact ⟨k+1,rfl,Sub.refl _,hnext (hpr.trans hb),by omega⟩
  ·have hd2:decide (((s.length-i:Nat):Int)≥L.length)=false:=by simp only [decide_eq_false_iff_not];omega
   repeat' ((with_reducible first|refine wr ?_|refine wb2 ?_ ?_<;>(intro hb;try simp only [hb])|fail)<;>try simp only [go_sem,seval,hd,hgk,hw,hw1,hd2])
   exact ⟨k+1,rfl,Sub.refl _,hnext (by unfold preS;rw [decide_eq_false (by rw [List.length_drop];exact hln),Bool.false_and]),by omega⟩
 ·have hd:decide ((k:Int)<sgnL.length)=false:=by simpa using hkl
  repeat' ((with_reducible first|refine wr ?_|refine wb2 ?_ ?_<;>(intro hb;try simp only [hb])|fail)<;>try simp only [go_sem,seval,hd])
  rw [k_rv (v:=badR 47 i) rfl]
  refine pc_ret ?_
  rw [if_pos (sgn_none fun j hj=>he j (by omega)),nxR_bad (by decide)]
theorem c_ScanR (s:List UInt8) (hs:s.length≤100000):PC Tryd.prog 25 [.str s] (scanV (scanM s)):=by
 refine PC.of mixedU isU25 (Nat.le_of_ble_eq_true rfl) rfl (scanV_nl _) ?_
 show IW Tryd.prog 39 u25_1 ⟨argT _,_,_⟩ (rt [.tmp 2,.tmp 3,.tmp 4] _)
 have hsk:=c_skipR s hs 0 (by omega)
 rw [List.drop_zero,Nat.zero_add] at hsk
 by_cases h20:20000<s.length
 ·have hd0:decide ((s.length:Int)>20000)=true:=by simp;omega
  have hM:scanM s=([],0,9):=if_pos h20
  rw [hM]
  repeat' ((with_reducible first|refine wr ?_|refine wb2 ?_ ?_<;>(intro hb;try simp only [hb])|fail)<;>try simp only [go_sem,seval,hd0])
  exact scan_nil
 have hd0:decide ((s.length:Int)>20000)=false:=by simp;omega
 have hM:scanM s=scanT (s.length+1) s (skM false s) []:=if_neg h20
 rw [hM]
 have hle0:=skM_le false s
 repeat' ((with_reducible first|refine wr ?_|refine cpc hsk ?_|refine wb2 ?_ ?_<;>(intro hb;try simp only [hb])|fail)<;>try simp only [go_sem,seval,hd0])
 refine i_loop (fun q:Nat × Nat × Option Nat × List Tok=>[(0,.str s),(5,todoV q.2.2.1 q.2.2.2.length),(6,I64 q.2.1)]) (fun q=>optH Sym.nil q.2.2.1 ⟨4,true,cellsL (q.2.2.2.map Tok.v)⟩)
  (fun q c=>q.2.1≤s.length∧s.length<q.1+q.2.1∧q.2.2.2.length≤q.2.1∧(q.2.2.1=none→q.2.2.2=[])∧(∀ i,q.2.2.1=some i→i<c)∧scanT (s.length+1) s (skM false s) []=scanT q.1 s q.2.1 q.2.2.2) (fun q=>q.1) (s.length+1,skM false s,none,[])
  (by simp [tmLe,tm,Tm.upd,todoV]) (Sub.nil _) ⟨by simp only;omega,by simp only;omega,by simp,fun _=>rfl,(fun i hi=>by cases hi),rfl⟩ ?_
 rintro ⟨f,at_,o,acc⟩ c ⟨h1,hf,hal,hno,ho,he⟩
 simp only at h1 hf hal hno ho he
 simp only
 rw [he]
 by_cases hlt:at_<s.length
 ·have hd:decide ((at_:Int)<s.length)=true:=by simpa using hlt
  have hnx:=c_oneR s hs at_ hlt
  obtain ⟨f,rfl⟩:∃ g,f=g+1:=⟨f-1,by omega⟩
  by_cases hz:(nextM' (s.drop at_)).err=0
  ·have hn:=nextM_n hz
   rw [List.length_drop] at hn
   have hst:scanT (f+1) s at_ acc=scanT f s (at_+(nextM' (s.drop at_)).n+skM false (s.drop (at_+(nextM' (s.drop at_)).n))) (acc++[⟨(nextM' (s.drop at_)).kind,(nextM' (s.drop at_)).text,(nextM' (s.drop at_)).value,(at_:Int)⟩]):=by
    rw [scanT,if_neg (by omega),if_neg (by simpa using hz)]
   rw [hst]
   obtain ⟨x,hx⟩:∃ x,x=nextM' (s.drop at_):=⟨_,rfl⟩
   rw [← hx] at hnx hz hn ⊢
   rw [nxR,if_pos hz,okR] at hnx
   have hsk2:=c_skipR s hs (at_+x.n) (by omega)
   have hkl:=skM_le false (s.drop (at_+x.n))
   rw [List.length_drop] at hkl
   obtain ⟨z,hzz⟩:∃ z,z=skM false (s.drop (at_+x.n)):=⟨_,rfl⟩
   rw [← hzz] at hsk2 hkl ⊢
   have ne0:=nes3 c (c+1) (c+2) (by omega)
   repeat' ((with_reducible first|refine wr ?_|refine cpc hnx ?_|refine cpc hsk2 ?_|refine wb2 ?_ ?_<;>(intro hb;try simp only [hb])|fail)<;>try simp only [go_sem,seval,hd,ne0])
   refine k_eval (r_apptodo (cs:=cellsL (acc.map Tok.v)) (fun e=>by rw [hno e];exact ⟨rfl,rfl⟩) (fun i hi=>?_) (by rw [cellsL_length (u:=4) (tok_unit _)];simp) (by omega) (by omega) (by omega)) ?_
   ·have:=ho i hi
    rw [h_ne (by omega),h_ne (by omega),h_ne (by omega)]
    exact opt_at hi
   simp only [go_sem,seval,ne0]
   repeat' ((with_reducible first|refine wr ?_|refine cpc hnx ?_|refine cpc hsk2 ?_|refine wb2 ?_ ?_<;>(intro hb;try simp only [hb])|fail)<;>try simp only [go_sem,seval,hd,ne0])
   exact ⟨(f,at_+x.n+z,some (c+1+1),acc++[⟨x.kind,x.text,x.value,(at_:Int)⟩]),⟨by simp only [List.length_append,List.length_singleton];rfl,rfl⟩,
    sub_one (by simp only [List.map_append,cellsL_append];rfl),inv ⟨by simp only;omega,by simp only;omega,by simp only [List.length_append,List.length_singleton];omega,(fun h=>by cases h),(fun i hi=>by cases hi;omega),rfl⟩,by simp only;omega⟩
  ·have hst:scanT (f+1) s at_ acc=([],(at_:Int),(nextM' (s.drop at_)).err):=by
    rw [scanT,if_neg (by omega),if_pos hz]
   rw [hst]
   obtain ⟨x,hx⟩:∃ x,x=nextM' (s.drop at_):=⟨_,rfl⟩
   rw [← hx] at hnx hz ⊢
   rw [nxR,if_neg hz,badR] at hnx
   have hz':(x.err != 0)=true:=by simpa using hz
   have ne0:=nes2 c (c+1) (by omega)
   repeat' ((with_reducible first|refine wr ?_|refine cpc hnx ?_|refine wb2 ?_ ?_<;>(intro hb;try simp only [hb])|fail)<;>try simp only [go_sem,seval,hd,hz',ne0])
   exact scan_nil
 ·have hd:decide ((at_:Int)<s.length)=false:=by simpa using hlt
  repeat' ((with_reducible first|refine wr ?_|refine wb2 ?_ ?_<;>(intro hb;try simp only [hb])|fail)<;>try simp only [go_sem,seval,hd])
  have hM2:scanT f s at_ acc=(acc,0,0):=by
   cases f with
   | zero=>rfl
   | succ f=>rw [scanT,if_pos (by omega)]
  rw [hM2]
  exact pc_todo3 (fun e=>by rw [hno e];rfl) (by simp) (tok_unit acc)
theorem c_IsNameR (s:List UInt8) (hs:s.length≤100000):PC Tryd.prog 14 [.str s] (.bool (isNameM s)):=by
 refine PC.of mixedU isU14 (Nat.le_of_ble_eq_true rfl) (by simp [DV.nlL,DV.nl,nlL_ints,nlL_strs,nlL_instrs,nlL_entries,nlL_stp]) (by simp [DV.nlL,DV.nl,nlL_ints,nlL_strs,nlL_instrs,nlL_entries,nlL_stp]) ?_
 show IW Tryd.prog 46 u14_1 ⟨argT _,_,_⟩ (rt [.tmp 2] _)
 have hw:=c_IsWordR s
 cases s with
 | nil =>
  repeat' ((with_reducible first|refine wr ?_|refine wb2 ?_ ?_<;>(intro hb;try simp only [hb])|fail)<;>try simp only [go_sem,seval])
  exact pc_ret rfl
 | cons c r =>
  have hx:idxR (DV.str (c :: r)) (.int .i64 0)=some (.int .u8 (c.toNat:Int)):=rfl
  have hlt:=c_letterR c
  have hd1:decide (((r.length+1:Nat):Int)<1)=false:=by simp;omega
  have hN:isNameM (c :: r)=(decide ((r.length+1)≤12) && ltB c && decide (spnM ptB (c :: r)=r.length+1) && !isWordM (c :: r)):=by
   simp [isNameM]
  rw [hN]
  have hN2:∀ b:Bool,decide (((r.length+1:Nat):Int)>12)=b→decide ((r.length+1)≤12) = !b:=by
   intro b hb
   subst hb
   rw [Bool.eq_iff_iff];simp;omega
  obtain ⟨dd,hdd⟩:∃ dd,dd=decide ((r.length+1)≤12):=⟨_,rfl⟩
  rw [← hdd] at hN2 ⊢
  obtain ⟨ee,hee⟩:∃ ee,ee=decide (spnM ptB (c :: r)=r.length+1):=⟨_,rfl⟩
  rw [← hee]
  obtain ⟨ff,hff⟩:∃ ff,ff=isWordM (c :: r):=⟨_,rfl⟩
  rw [← hff] at hw ⊢
  repeat' ((with_reducible first|refine wr ?_|refine cpc hw ?_|refine cpc hlt ?_|refine wb2 ?_ ?_<;>(intro hb;try simp only [hb])|fail)<;>try simp only [go_sem,seval,hx,hd1])
  ·refine pc_ret (congrArg DV.bool ?_)
   rw [hN2 _ hb];rfl
  ·refine pc_ret (congrArg DV.bool ?_)
   have:ltB c=false:=by simpa using hb
   rw [this];simp
  ·refine pc_ret (congrArg DV.bool ?_)
   simp
  ·have hN3:=hN2 _ (by assumption)
   have hl:ltB c=true:=by simpa using (by assumption:(!ltB c)=false)
   rw [hN3,hl]
   refine i_loop (fun k:Nat=>[(0,.str (c :: r)),(3,I64 k)]) (fun _=>nil) (fun k _=>k≤(c :: r).length∧k≤spnM ptB (c :: r)) (fun k=>(c :: r).length-k) 0 (by simp [tmLe,tm,Tm.upd]) (Sub.nil _) (by simp) ?_
   rintro k cc ⟨hk,he⟩
   have hsl:=spnM_le ptB (c :: r)
   have hS:(c :: r).length=r.length+1:=rfl
   by_cases hlt2:k<(c :: r).length
   ·have hd:decide ((k:Int)<((r.length+1:Nat):Int))=true:=by simp only [decide_eq_true_eq];omega
    have hg:=List.getElem?_eq_getElem hlt2
    have hw:IntKind.i64.wrap ((k:Int)+1)=((k+1:Nat):Int):=by rw [w64 (by omega) (by omega)];omega
    have hst:=spnM_at hg he
    obtain ⟨x,hxx⟩:∃ x,x=(c :: r)[k]:=⟨_,rfl⟩
    rw [← hxx] at hg hst
    have h1:=c_letterR x
    have h2:=c_digitR x
    obtain ⟨L,hL⟩:∃ L,L=c :: r:=⟨_,rfl⟩
    have hd3:decide ((k:Int)<(L.length:Int))=true:=by rw [hL];exact hd
    rw [← hL] at hg hst hk he hsl hee ⊢
    by_cases hp:ptB x=true
    ·have hgo:∃ b,DV.int IntKind.i64 ((k+1:Nat):Int)=I64 ((b:Nat):Int)∧Sym.Sub Sym.nil Sym.nil∧Keep (fun k _=>k≤L.length∧k≤spnM ptB L) b cc∧L.length-b<L.length-k :=
      ⟨k+1,rfl,Sub.refl _,inv ⟨by rw [hL];exact hlt2,hst.1 hp⟩,by rw [hL];omega⟩
     simp only [ptB,Bool.or_eq_true,decide_eq_true_eq] at hp
     repeat' ((with_reducible first|refine wr ?_|refine cpc h1 ?_|refine cpc h2 ?_|refine wb2 ?_ ?_<;>(intro hb;try simp only [hb])|fail)<;>try simp only [go_sem,seval,hd3,hg,hw])
     ·exfalso
      have p1:ltB x=false:=by simpa using (by assumption:(!ltB x)=true)
      have p2:dgB x=false:=by simpa using (by assumption:(!dgB x)=true)
      have p3:=bn_t (b:=95) hb
      rw [p1,p2] at hp
      rcases hp with (hp|hp)|hp
      ·cases hp
      ·cases hp
      ·exact p3 hp
     ·exact hgo
     ·exact hgo
     ·exact hgo
    ·have hp':ptB x=false:=by simpa using hp
     have hj:=hst.2 hp'
     simp only [ptB,Bool.or_eq_false_iff,decide_eq_false_iff_not] at hp'
     obtain ⟨⟨q1,q2⟩,q3⟩:=hp'
     have q4:((x.toNat:Int) != 95)=true:=by simp;omega
     repeat' ((with_reducible first|refine wr ?_|refine cpc h1 ?_|refine cpc h2 ?_|refine wb2 ?_ ?_<;>(intro hb;try simp only [hb])|fail)<;>try simp only [go_sem,seval,hd3,hg,hw,q1,q2,q4])
     refine pc_ret (congrArg DV.bool ?_)
     rw [hee,hj,decide_eq_false]
     have:L.length=r.length+1:=by rw [hL];rfl
     have:k<L.length:=by rw [hL];exact hlt2
     omega
   ·have hd:decide ((k:Int)<((r.length+1:Nat):Int))=false:=by simp only [decide_eq_false_iff_not];omega
    repeat' ((with_reducible first|refine wr ?_|refine wb2 ?_ ?_<;>(intro hb;try simp only [hb])|fail)<;>try simp only [go_sem,seval,hd])
    refine pc_ret (congrArg DV.bool ?_)
    rw [hee,decide_eq_true (by omega)]
end Go.Proofs.YtibjoemdkeimfaaDoor
namespace Go.Pb
variable [Go.Sym.Tab]
open Go.Sym
def tokEq (plain:Bool) (a b:Tok):Bool:=a.kind == b.kind && (a.text == b.text && (a.value == b.value && (plain || a.pos == b.pos)))
def sameL (plain:Bool):List Tok→List Tok→Bool
 | [],[]=>true
 | a :: l,b :: m=>tokEq plain a b && sameL plain l m
 | _,_=>false
def T0:Tok:=⟨0,[],0,0⟩
theorem sameL_len {p:Bool}:∀ {l m:List Tok},l.length≠m.length→sameL p l m=false
 | [],[],h=>absurd rfl h
 | [],b :: m,_=>rfl
 | a :: l,[],_=>rfl
 | a :: l,b :: m,h=>by
  simp only [sameL]
  rw [sameL_len (fun e=>h (by simp [e])),Bool.and_false]
theorem sameL_no {p:Bool}:∀ {l m:List Tok} {k:Nat},l.length=m.length→k<l.length→tokEq p (l.getD k T0) (m.getD k T0)=false→sameL p l m=false
 | [],_,k,_,h,_=>absurd h (by simp)
 | a :: l,[],k,h,_,_=>by simp at h
 | a :: l,b :: m,0,h,hk,e=>by
  simp only [sameL]
  have:tokEq p a b=false:=e
  rw [this,Bool.false_and]
 | a :: l,b :: m,k+1,h,hk,e=>by
  simp only [sameL]
  rw [sameL_no (l:=l) (m:=m) (k:=k) (by simpa using h) (by simpa using hk) (by simpa using e),Bool.and_false]
theorem sameL_yes {p:Bool}:∀ {l m:List Tok},l.length=m.length→(∀ k,k<l.length→tokEq p (l.getD k T0) (m.getD k T0)=true)→sameL p l m=true
 | [],[],_,_=>rfl
 | [],b :: m,h,_=>by simp at h
 | a :: l,[],h,_=>by simp at h
 | a :: l,b :: m,h,e=>by
  simp only [sameL]
  have h0:tokEq p a b=true:=e 0 (by simp)
  rw [h0,Bool.true_and]
  exact sameL_yes (by simpa using h) (fun k hk=>by simpa using e (k+1) (by simpa using hk))
theorem tokEq_refl (p:Bool) (a:Tok):tokEq p a a=true:=by simp [tokEq]
theorem sameL_refl (p:Bool):∀ l:List Tok,sameL p l l=true
 | []=>rfl
 | a :: l=>by simp [sameL,tokEq_refl,sameL_refl p l]
theorem eqa4s {g:Bool} {a b d a' b' d':Int} {s t:List UInt8}:eqaR g [0,2,0,0] (.agg [I64 a,.str s,I64 b,I64 d]) (.agg [I64 a',.str t,I64 b',I64 d'])=some (.bool (g != (a == a' && (s == t && (b == b' && d == d'))))):=by
 simp only [eqaR,cellsEq,cellEq,if_true]
 cases h1:a == a'<;>cases h2:s == t<;>cases h3:b == b'<;>cases h4:d == d'<;>simp
theorem scanT_len:∀ (f:Nat) (s:List UInt8) (k:Nat) (acc:List Tok),acc.length≤k→k≤s.length→(scanT f s k acc).1.length≤s.length
 | 0,s,k,acc,h1,h2=>by simp only [scanT];omega
 | f+1,s,k,acc,h1,h2=>by
  rw [scanT]
  split
  ·simp only;omega
  ·split
   ·simp
   ·rename_i h3 h4
    have h4:(nextM' (s.drop k)).err=0:=by simpa using h4
    have hn:=nextM_n h4
    rw [List.length_drop] at hn
    have hk:=skM_le false (s.drop (k+(nextM' (s.drop k)).n))
    rw [List.length_drop] at hk
    exact scanT_len f s _ _ (by rw [List.length_append,List.length_singleton];omega) (by omega)
theorem scanM_len (s:List UInt8):(scanM s).1.length≤s.length:=by
 unfold scanM
 split
 ·simp
 ·have:=skM_le false s
  exact scanT_len _ _ _ _ (by simp) this
def sn1:List UInt8:=[115,99,111,114,101,32,49,48,42,120,59,32,35,32,116,101,110]
def sn2:List UInt8:=[120,32,48,55]
def sn1T:List Tok:=[⟨2,[115,99,111,114,101],0,0⟩,⟨3,[],10,6⟩,⟨5,[42],0,8⟩,⟨1,[120],0,9⟩,⟨5,[59],0,10⟩]
theorem sn1_scan:scanM sn1=(sn1T,0,0):=by decide +kernel
theorem sn2_scan:scanM sn2=([],2,47):=by decide +kernel
theorem sn3_name:isNameM [114,97,109,112,95,49]=true:=by decide +kernel
theorem sn4_name:isNameM [115,99,111,114,101]=false:=by decide +kernel
theorem sn5_quote:quoteM [97,34]=[34,97,92,34,34]:=by decide +kernel
theorem word_all:∀ k:Nat,k<38→isWordM (wordsL.getD k [])=true∧isNameM (wordsL.getD k [])=false∧isNameM (wordsL.getD k []++[95])=true∧(wordsL.getD k []).length≤7:=by decide +kernel
def pieceL:List (List UInt8):=[[115,99,111,114,101],[114,97,109,112],[120,95,49],[65],[99,108,111,115,101,100],[97,98,99,100,101,102,103,104,105,106,107,108],[97,98,99,100,101,102,103,104,105,106,107,108,109],[48],[55],[48,48],[50,49,52,55,52,56,51,54,52,55],[50,49,52,55,52,56,51,54,52,56],[57,57,57,57,57,57,57,57,57,57,57,57,57,57,57,57,57,57,57,57],[34],[34,117,112,34],[34,97,92,34,34],[92],[34,49,50,51,52,53,54,55,56,57,48,49,50,51,52,53,54,55,56,57,48,49,50,51,52,53,54,55,56,57,48,49,50,34],[123],[125],[40],[41],[59],[44],[61],[61,61],[33],[33,61],[60],[60,61],[62],[62,61],[38,38],[124,124],[38],[124],[43],[45],[42],[47],[37],[32],[10],[9],[35,32],[35,10],[95],[0],[255],[39]]
theorem piece_len:∀ k:Nat,k<50→(pieceL.getD k []).length≤40:=by decide +kernel
def piece1 (b:UInt8):List UInt8:=pieceL.getD (b.toNat % 50) []++(if 150<b.toNat then [32] else [])
def piecesM (l:List UInt8):List UInt8:=(l.take 40).flatMap piece1
theorem piece1_len (b:UInt8):(piece1 b).length≤41:=by
 have:=piece_len (b.toNat % 50) (by omega)
 unfold piece1
 rw [List.length_append]
 split
 ·rw [List.length_singleton];omega
 ·rw [List.length_nil];omega
theorem pieces_len:∀ l:List UInt8,(l.flatMap piece1).length≤41 * l.length
 | []=>by simp
 | b :: l=>by
  have h1:=piece1_len b
  have h2:=pieces_len l
  rw [List.flatMap_cons,List.length_append,List.length_cons];omega
theorem piecesM_len (l:List UInt8):(piecesM l).length≤1640:=by
 have:=pieces_len (l.take 40)
 rw [List.length_take] at this
 unfold piecesM;omega
theorem pieces_step {l:List UInt8} {k:Nat} {b:UInt8} (h:l[k]? = some b):(l.take (k+1)).flatMap piece1=(l.take k).flatMap piece1++piece1 b:=by
 rw [List.take_add_one,h,List.flatMap_append];simp
end Go.Pb
namespace Go.Proofs.YtibjoemdkeimfaaDoor
open Go.Eng (IC IOper DReg IFn IsFn)
open Go.Sym Go.Pb
theorem c_Same (l m:List Tok) (p:Bool) (hl:l.length≤1000000) (hm:m.length≤1000000):PC Tryd.prog 19 [toksV l,toksV m,.bool p] (.bool (sameL p l m)):=by
 refine PC.of mixedU isU19 (Nat.le_of_ble_eq_true rfl) (by simp only [DV.nlL,DV.nl,nlL_toks,Bool.and_true]) rfl ?_
 show IW Tryd.prog 35 u19_1 ⟨argT _,_,_⟩ (rt [.tmp 6] _)
 by_cases hlen:l.length=m.length
 ·have hn0:(((l.length:Nat):Int) != (m.length:Nat))=false:=by simp [hlen]
  repeat' ((with_reducible first|refine wr ?_|refine wb2 ?_ ?_<;>(intro hb;try simp only [hb])|fail)<;>try simp only [go_sem,seval,hn0])
  refine i_loop (fun k:Nat=>[(0,toksV l),(1,toksV m),(2,.bool p),(7,I64 k)]) (fun _=>nil) (fun k _=>k≤l.length∧∀ j,j<k→tokEq p (l.getD j T0) (m.getD j T0)=true) (fun k=>l.length-k) 0 (by simp [tmLe,tm,Tm.upd]) (Sub.nil _) (by simp) ?_
  rintro k c ⟨hk,he⟩
  by_cases hlt:k<l.length
  ·have hd:decide ((k:Int)<l.length)=true:=by simpa using hlt
   have hg1:=List.getElem?_eq_getElem hlt
   have hg2:=List.getElem?_eq_getElem (show k<m.length by omega)
   have hw:IntKind.i64.wrap ((k:Int)+1)=((k+1:Nat):Int):=by rw [w64 (by omega) (by omega)];omega
   have e1:l.getD k T0=l[k]:=by rw [List.getD_eq_getElem?_getD,hg1];rfl
   have e2:m.getD k T0=m[k]:=by rw [List.getD_eq_getElem?_getD,hg2];rfl
   generalize l[k]=a at *
   generalize m[k]=b at *
   have hq:∀ (x y:Int),(true != (a.kind == b.kind && (a.text == b.text && (a.value == b.value && x == y)))) = !(a.kind == b.kind && (a.text == b.text && (a.value == b.value && x == y))):=fun x y=>by simp
   have hgo:∀ cc,tokEq p a b=true→Keep (fun k _=>k≤l.length∧∀ j,j<k→tokEq p (l.getD j T0) (m.getD j T0)=true) (k+1) cc:=fun cc h=>inv ⟨hlt,fun j hj=>by
    by_cases e:j=k
    ·rw [e,e1,e2];exact h
    ·exact he j (by omega)⟩
   have ne0:¬c=c+1∧¬c=c+4∧¬c=c+5∧¬c=c+6∧¬c=c+7∧¬c=c+8∧¬c=c+9∧¬c+1=c∧¬c+1=c+4∧¬c+1=c+5∧¬c+1=c+6∧¬c+1=c+7∧¬c+1=c+8∧¬c+1=c+9∧¬c+4=c∧¬c+4=c+1∧¬c+4=c+5∧¬c+4=c+6∧¬c+4=c+7∧¬c+4=c+8∧¬c+4=c+9∧¬c+5=c∧¬c+5=c+1∧¬c+5=c+4∧¬c+5=c+6∧¬c+5=c+7∧¬c+5=c+8∧¬c+5=c+9∧¬c+6=c∧¬c+6=c+1∧¬c+6=c+4∧¬c+6=c+5∧¬c+6=c+7∧¬c+6=c+8∧¬c+6=c+9∧¬c+7=c∧¬c+7=c+1∧¬c+7=c+4∧¬c+7=c+5∧¬c+7=c+6∧¬c+7=c+8∧¬c+7=c+9∧¬c+8=c∧¬c+8=c+1∧¬c+8=c+4∧¬c+8=c+5∧¬c+8=c+6∧¬c+8=c+7∧¬c+8=c+9∧¬c+9=c∧¬c+9=c+1∧¬c+9=c+4∧¬c+9=c+5∧¬c+9=c+6∧¬c+9=c+7∧¬c+9=c+8:=by and_intros<;>omega
   cases p with
   | true =>
    repeat' ((with_reducible first|refine wr ?_|refine wb2 ?_ ?_<;>(intro hb;try simp only [hb])|fail)<;>try simp only [go_sem,seval,hd,hg1,hg2,hw,ne0,eqa4s])
    ·have h:tokEq true a b=false:=by
      unfold tokEq
      cases h1:a.kind == b.kind<;>cases h2:a.text == b.text<;>cases h3:a.value == b.value<;>cases h4:a.pos == b.pos<;>simp_all
     refine pc_ret (congrArg DV.bool ?_)
     rw [sameL_no hlen hlt (by rw [e1,e2];exact h)]
    ·have h:tokEq true a b=true:=by
      unfold tokEq
      cases h1:a.kind == b.kind<;>cases h2:a.text == b.text<;>cases h3:a.value == b.value<;>cases h4:a.pos == b.pos<;>simp_all
     exact ⟨k+1,rfl,Sub.nil _,hgo _ h,by omega⟩
   | false =>
    repeat' ((with_reducible first|refine wr ?_|refine wb2 ?_ ?_<;>(intro hb;try simp only [hb])|fail)<;>try simp only [go_sem,seval,hd,hg1,hg2,hw,ne0,eqa4s])
    ·have h:tokEq false a b=false:=by
      unfold tokEq
      cases h1:a.kind == b.kind<;>cases h2:a.text == b.text<;>cases h3:a.value == b.value<;>cases h4:a.pos == b.pos<;>simp_all
     refine pc_ret (congrArg DV.bool ?_)
     rw [sameL_no hlen hlt (by rw [e1,e2];exact h)]
    ·have h:tokEq false a b=true:=by
      unfold tokEq
      cases h1:a.kind == b.kind<;>cases h2:a.text == b.text<;>cases h3:a.value == b.value<;>cases h4:a.pos == b.pos<;>simp_all
     exact ⟨k+1,rfl,Sub.nil _,hgo _ h,by omega⟩
  ·have hd:decide ((k:Int)<l.length)=false:=by simpa using hlt
   repeat' ((with_reducible first|refine wr ?_|refine wb2 ?_ ?_<;>(intro hb;try simp only [hb])|fail)<;>try simp only [go_sem,seval,hd])
   refine pc_ret (congrArg DV.bool ?_)
   rw [sameL_yes hlen (fun j hj=>he j (by omega))]
 ·have hn0:(((l.length:Nat):Int) != (m.length:Nat))=true:=by simpa using (fun h=>hlen (by omega))
  repeat' ((with_reducible first|refine wr ?_|refine wb2 ?_ ?_<;>(intro hb;try simp only [hb])|fail)<;>try simp only [go_sem,seval,hn0])
  refine pc_ret (congrArg DV.bool ?_)
  rw [sameL_len hlen]
theorem c_sane:PC Tryd.prog 12 [] (.bool true):=by
 refine PC.of mixedU isU12 (Nat.le_of_ble_eq_true rfl) (by simp [DV.nlL,DV.nl,nlL_ints,nlL_strs,nlL_instrs,nlL_entries,nlL_stp]) (by simp [DV.nlL,DV.nl,nlL_ints,nlL_strs,nlL_instrs,nlL_entries,nlL_stp]) ?_
 show IW Tryd.prog 64 u12_1 ⟨argT _,_,_⟩ (rt [.tmp 0] _)
 have h1:PC Tryd.prog 17 [.str [115,99,111,114,101,32,49,48,42,120,59,32,35,32,116,101,110]] (.tup [.lst [Tok.v ⟨2,[115,99,111,114,101],0,0⟩,Tok.v ⟨3,[],10,6⟩,Tok.v ⟨5,[42],0,8⟩,Tok.v ⟨1,[120],0,9⟩,Tok.v ⟨5,[59],0,10⟩],I64 0,I64 0]):=by
  have:=c_Scan sn1 (by decide)
  rw [sn1_scan] at this
  exact this
 have h2:PC Tryd.prog 17 [.str [120,32,48,55]] (.tup [.lst [],I64 2,I64 47]):=by
  have:=c_Scan sn2 (by decide)
  rw [sn2_scan] at this
  exact this
 have h3:=c_IsName [114,97,109,112,95,49] (by decide)
 rw [sn3_name] at h3
 have h4:=c_IsName [115,99,111,114,101] (by decide)
 rw [sn4_name] at h4
 have h5:=c_Quote [97,34] (by decide)
 rw [sn5_quote] at h5
 have i1:∀ a b c d e:DV,iadR 4 (.lst [a,b,c,d,e]) (.int .i64 1)=iadO 4 (some b):=fun _ _ _ _ _=>rfl
 have i3:∀ a b c d e:DV,iadR 4 (.lst [a,b,c,d,e]) (.int .i64 3)=iadO 4 (some d):=fun _ _ _ _ _=>rfl
 repeat' ((with_reducible first|refine wr ?_|refine cpc h1 ?_|refine cpc h2 ?_|refine cpc h3 ?_|refine cpc h4 ?_|refine cpc h5 ?_|refine wb2 ?_ ?_<;>(intro hb;try simp only [hb])|fail)<;>try simp only [go_sem,seval,i1,i3])
 exact pc_ret rfl
theorem c_scans (s:List UInt8) (hs:s.length≤20000):PC Tryd.prog 10 [.str s] (.bool true):=by
 refine PC.of mixedU isU10 (Nat.le_of_ble_eq_true rfl) (by simp [DV.nlL,DV.nl,nlL_ints,nlL_strs,nlL_instrs,nlL_entries,nlL_stp]) (by simp [DV.nlL,DV.nl,nlL_ints,nlL_strs,nlL_instrs,nlL_entries,nlL_stp]) ?_
 show IW Tryd.prog 34 u10_1 ⟨argT _,_,_⟩ (rt [.tmp 2] _)
 have h1:=c_Scan s (by omega)
 have h2:=c_ScanR s (by omega)
 have hl:(scanM s).1.length≤1000000:=by have:=scanM_len s;omega
 have h3:=c_Same (scanM s).1 (scanM s).1 false hl hl
 rw [sameL_refl] at h3
 repeat' ((with_reducible first|refine wr ?_|refine cpc h1 ?_|refine cpc h2 ?_|refine cpc h3 ?_|refine wb2 ?_ ?_<;>(intro hb;try simp only [hb])|fail)<;>try simp only [go_sem,seval])
 exact pc_ret rfl
theorem c_Pieces (l:List UInt8) (hl:l.length≤9223372036854775807):PC Tryd.prog 11 [.lst (bytesC l)] (.str (piecesM l)):=by
 refine PC.of mixedU isU11 (Nat.le_of_ble_eq_true rfl) (by simp only [DV.nlL,DV.nl,bytesC,Bool.and_true];exact nlL_map (fun _=>rfl) l) rfl ?_
 show IW Tryd.prog 38 u11_1 ⟨argT _,_,_⟩ (rt [.tmp 2] _)
 repeat' ((with_reducible first|refine wr ?_|refine wb2 ?_ ?_<;>(intro hb;try simp only [hb])|fail)<;>try simp only [go_sem,seval])
 generalize hC:([DV.str [115,99,111,114,101],DV.str [114,97,109,112],DV.str [120,95,49],DV.str [65],DV.str [99,108,111,115,101,100],DV.str [97,98,99,100,101,102,103,104,105,106,107,108],DV.str [97,98,99,100,101,102,103,104,105,106,107,108,109],DV.str [48],DV.str [55],DV.str [48,48],DV.str [50,49,52,55,52,56,51,54,52,55],DV.str [50,49,52,55,52,56,51,54,52,56],DV.str [57,57,57,57,57,57,57,57,57,57,57,57,57,57,57,57,57,57,57,57],DV.str [34],DV.str [34,117,112,34],DV.str [34,97,92,34,34],DV.str [92],DV.str [34,49,50,51,52,53,54,55,56,57,48,49,50,51,52,53,54,55,56,57,48,49,50,51,52,53,54,55,56,57,48,49,50,34],DV.str [123],DV.str [125],DV.str [40],DV.str [41],DV.str [59],DV.str [44],DV.str [61],DV.str [61,61],DV.str [33],DV.str [33,61],DV.str [60],DV.str [60,61],DV.str [62],DV.str [62,61],DV.str [38,38],DV.str [124,124],DV.str [38],DV.str [124],DV.str [43],DV.str [45],DV.str [42],DV.str [47],DV.str [37],DV.str [32],DV.str [10],DV.str [9],DV.str [35,32],DV.str [35,10],DV.str [95],DV.str [0],DV.str [255],DV.str [39]]:List DV)=C
 have hCm:C=pieceL.map DV.str:=by rw [← hC];rfl
 have hrd:∀ m:Nat,m<50→C[m]? = some (.str (pieceL.getD m [])):=by
  intro m hm
  have h5:m<pieceL.length:=hm
  rw [hCm,List.getElem?_map,List.getD_eq_getElem?_getD,List.getElem?_eq_getElem h5];rfl
 clear hC hCm
 refine i_loop (fun k:Nat=>[(0,.lst (bytesC l)),(3,.slc 0 0 50),(4,.str ((l.take k).flatMap piece1)),(5,I64 k)]) (fun _=>Sym.nil.upd 0 ⟨1,true,C⟩) (fun k _=>k≤l.length∧k≤40) (fun k=>40-k) 0 (by simp [tmLe,tm,Tm.upd]) (Sub.refl _) (by simp) ?_
 rintro k c ⟨hk,hk4⟩
 have hpl:=pieces_len (l.take k)
 rw [List.length_take] at hpl
 obtain ⟨acc,hacc⟩:∃ acc,acc=(l.take k).flatMap piece1:=⟨_,rfl⟩
 rw [← hacc] at hpl ⊢
 have hll:(bytesC l).length=l.length:=bytesC_len l
 by_cases hlt:k<l.length
 ·have hd:decide ((k:Int)<l.length)=true:=by simpa using hlt
  by_cases h40:k<40
  ·have hd4:decide ((k:Int)<40)=true:=by simp;omega
   have hg:=List.getElem?_eq_getElem hlt
   have hgb:(bytesC l)[k]? = some (.int .u8 (l[k].toNat:Int)):=by rw [bytesC,List.getElem?_map,hg];rfl
   have hst:=pieces_step hg
   rw [← hacc] at hst
   obtain ⟨b,hb⟩:∃ b,b=l[k]:=⟨_,rfl⟩
   rw [← hb] at hgb hst
   have hbt:=b.toNat_lt
   have hw:IntKind.i64.wrap ((k:Int)+1)=((k+1:Nat):Int):=by rw [w64 (by omega) (by omega)];omega
   have hwb:IntKind.i64.wrap (b.toNat:Int)=(b.toNat:Int):=w64 (by omega) (by omega)
   have hrem:binR .rem (.int .i64 (b.toNat:Int)) (.int .i64 50)=some (.int .i64 ((b.toNat % 50:Nat):Int)):=by rw [r_rem (by omega)];exact congrArg (fun x=>some (DV.int .i64 x)) (Int.ofNat_tmod _ _).symm
   have hr:=hrd (b.toNat % 50) (by omega)
   have hpc:=piece_len (b.toNat % 50) (by omega)
   have hp1:piece1 b=pieceL.getD (b.toNat % 50) []++(if 150<b.toNat then [32] else []):=rfl
   obtain ⟨pc,hpcc⟩:∃ pc,pc=pieceL.getD (b.toNat % 50) []:=⟨_,rfl⟩
   rw [← hpcc] at hr hpc hp1
   have hm:b.toNat % 50<50:=by omega
   have a1:=sadd (s:=acc) (t:=pc) (by omega)
   have a2:=sadd (s:=acc++pc) (t:=[32]) (by rw [List.length_append,List.length_singleton];omega)
   repeat' ((with_reducible first|refine wr ?_|refine wb2 ?_ ?_<;>(intro hb;try simp only [hb])|fail)<;>try simp only [go_sem,seval,hd,hd4,hg,hgb,hll,hw,hwb,hrem,hr,hm,a1,a2])
   ·have hp2:piece1 b=pc++[32]:=by rw [hp1,if_pos (gt_t (a:=b.toNat) (b:=150) (by assumption))]
    exact ⟨k+1,⟨by rw [hst,hp2,List.append_assoc],rfl⟩,Sub.refl _,inv ⟨hlt,h40⟩,by omega⟩
   ·have hp2:piece1 b=pc:=by rw [hp1,if_neg (gt_f (a:=b.toNat) (b:=150) (by assumption)),List.append_nil]
    exact ⟨k+1,⟨by rw [hst,hp2],rfl⟩,Sub.refl _,inv ⟨hlt,h40⟩,by omega⟩
  ·have hd4:decide ((k:Int)<40)=false:=by simp;omega
   repeat' ((with_reducible first|refine wr ?_|refine wb2 ?_ ?_<;>(intro hb;try simp only [hb])|fail)<;>try simp only [go_sem,seval,hd,hd4,hll])
   refine pc_ret ?_
   rw [hacc,show k=40 by omega];rfl
 ·have hd:decide ((k:Int)<l.length)=false:=by simpa using hlt
  repeat' ((with_reducible first|refine wr ?_|refine wb2 ?_ ?_<;>(intro hb;try simp only [hb])|fail)<;>try simp only [go_sem,seval,hd,hll])
  refine pc_ret ?_
  rw [hacc,List.take_of_length_le (by omega),piecesM,List.take_of_length_le (by omega)]
theorem c_names (s:List UInt8) (hs:s.length≤9223372036854775807) (k:UInt8):PC Tryd.prog 4 [.str s,.int .u8 k.toNat] (.bool true):=by
 refine PC.of mixedU isU4 (Nat.le_of_ble_eq_true rfl) (by simp [DV.nlL,DV.nl,nlL_ints,nlL_strs,nlL_instrs,nlL_entries,nlL_stp]) (by simp [DV.nlL,DV.nl,nlL_ints,nlL_strs,nlL_instrs,nlL_entries,nlL_stp]) ?_
 show IW Tryd.prog 49 u4_1 ⟨argT _,_,_⟩ (rt [.tmp 4] _)
 have hsn:=c_sane
 by_cases h40:40<s.length
 ·have hd:decide ((s.length:Int)>40)=true:=by simp;omega
  repeat' ((with_reducible first|refine wr ?_|refine cpc hsn ?_|refine wb2 ?_ ?_<;>(intro hb;try simp only [hb])|fail)<;>try simp only [go_sem,seval,hd])
  exact pc_ret rfl
 have hd:decide ((s.length:Int)>40)=false:=by simp;omega
 have h1:=c_IsName s (by omega)
 have h2:=c_IsNameR s (by omega)
 have h3:=c_IsWord s
 have h4:=c_IsWordR s
 obtain ⟨w1,w2,w3,w4⟩:=word_all (k.toNat % 38) (by omega)
 obtain ⟨w,hw⟩:∃ w,w=wordsL.getD (k.toNat % 38) []:=⟨_,rfl⟩
 rw [← hw] at w1 w2 w3 w4
 have h5:=c_IsWord w
 have h6:=c_IsName w (by omega)
 have h7:=c_IsName (w++[95]) (by rw [List.length_append,List.length_singleton];omega)
 rw [w1] at h5
 rw [w2] at h6
 rw [w3] at h7
 have hC:([DV.str [115,119,105,116,99,104],DV.str [99,111,105,108],DV.str [108,97,109,112],DV.str [115,111,117,110,100],DV.str [115,104,111,119],DV.str [118,97,114],DV.str [116,105,109,101,114],DV.str [101,118,101,110,116],DV.str [109,111,100,101],DV.str [111,110],DV.str [115,116,97,114,116],DV.str [115,116,111,112],DV.str [99,108,111,115,101],DV.str [111,112,101,110],DV.str [105,102],DV.str [101,108,115,101],DV.str [114,101,112,101,97,116],DV.str [115,99,111,114,101],DV.str [102,105,114,101],DV.str [104,111,108,100],DV.str [114,101,108,101,97,115,101],DV.str [108,105,103,104,116],DV.str [98,108,105,110,107],DV.str [98,101,103,105,110],DV.str [101,110,100],DV.str [112,111,115,116],DV.str [112,108,97,121],DV.str [114,117,110],DV.str [104,97,108,116],DV.str [116,101,120,116],DV.str [99,111,110,115,117,109,101],DV.str [99,108,111,115,101,100],DV.str [97,99,116,105,118,101],DV.str [108,101,102,116],DV.str [112,108,97,121,101,114],DV.str [98,97,108,108],DV.str [116,114,117,101],DV.str [102,97,108,115,101]]:List DV)=wordsL.map DV.str:=rfl
 have hr:([DV.str [115,119,105,116,99,104],DV.str [99,111,105,108],DV.str [108,97,109,112],DV.str [115,111,117,110,100],DV.str [115,104,111,119],DV.str [118,97,114],DV.str [116,105,109,101,114],DV.str [101,118,101,110,116],DV.str [109,111,100,101],DV.str [111,110],DV.str [115,116,97,114,116],DV.str [115,116,111,112],DV.str [99,108,111,115,101],DV.str [111,112,101,110],DV.str [105,102],DV.str [101,108,115,101],DV.str [114,101,112,101,97,116],DV.str [115,99,111,114,101],DV.str [102,105,114,101],DV.str [104,111,108,100],DV.str [114,101,108,101,97,115,101],DV.str [108,105,103,104,116],DV.str [98,108,105,110,107],DV.str [98,101,103,105,110],DV.str [101,110,100],DV.str [112,111,115,116],DV.str [112,108,97,121],DV.str [114,117,110],DV.str [104,97,108,116],DV.str [116,101,120,116],DV.str [99,111,110,115,117,109,101],DV.str [99,108,111,115,101,100],DV.str [97,99,116,105,118,101],DV.str [108,101,102,116],DV.str [112,108,97,121,101,114],DV.str [98,97,108,108],DV.str [116,114,117,101],DV.str [102,97,108,115,101]]:List DV)[k.toNat % 38]? = some (.str w):=by
  have h5:k.toNat % 38<wordsL.length:=Nat.mod_lt _ (by decide)
  rw [hC,List.getElem?_map,hw,List.getD_eq_getElem?_getD,List.getElem?_eq_getElem h5];rfl
 clear hC
 have hbt:=k.toNat_lt
 have hwb:IntKind.i64.wrap (k.toNat:Int)=(k.toNat:Int):=w64 (by omega) (by omega)
 have hrem:binR .rem (.int .i64 (k.toNat:Int)) (.int .i64 38)=some (.int .i64 ((k.toNat % 38:Nat):Int)):=by rw [r_rem (by omega)];exact congrArg (fun x=>some (DV.int .i64 x)) (Int.ofNat_tmod _ _).symm
 have hm:k.toNat % 38<38:=by omega
 have a1:=sadd (s:=w) (t:=[95]) (by rw [List.length_singleton];omega)
 repeat' ((with_reducible first|refine wr ?_|refine cpc hsn ?_|refine cpc h1 ?_|refine cpc h2 ?_|refine cpc h3 ?_|refine cpc h4 ?_|refine cpc h5 ?_|refine cpc h6 ?_|refine cpc h7 ?_|refine wb2 ?_ ?_<;>(intro hb;try simp only [hb])|fail)<;>try simp only [go_sem,seval,hd,hwb,hrem,hr,hm,a1])
 all_goals (refine pc_ret (congrArg DV.bool ?_);simp_all)
end Go.Proofs.YtibjoemdkeimfaaDoor
namespace Go.Pb
variable [Go.Sym.Tab]
open Go.Sym
def endB (c:UInt8):Bool:=sepB c || decide (c.toNat=35)
def bnd:List UInt8→Bool
 | []=>true
 | c :: _=>endB c
theorem endB_cases {c:UInt8} (h:endB c=true):c.toNat=9∨c.toNat=10∨c.toNat=13∨c.toNat=32∨c.toNat=35:=by
 simp only [endB,sepB,Bool.or_eq_true,decide_eq_true_eq] at h;omega
theorem end_lt {c:UInt8} (h:endB c=true):ltB c=false:=by
 have:=endB_cases h;simp only [ltB];simp;omega
theorem end_dg {c:UInt8} (h:endB c=true):dgB c=false:=by
 have:=endB_cases h;simp only [dgB];simp;omega
theorem end_pt {c:UInt8} (h:endB c=true):ptB c=false:=by
 have h1:=end_lt h
 have h2:=end_dg h
 have:=endB_cases h
 simp only [ptB,h1,h2];simp;omega
theorem end_two {c d:UInt8} (h:endB d=true):twoB c d=false:=by
 have:=endB_cases h
 unfold twoB
 rw [Bool.eq_false_iff]
 intro h2
 simp at h2
 omega
theorem end_two1 {c d:UInt8} (h:endB c=true):twoB c d=false:=by
 have:=endB_cases h
 unfold twoB
 rw [Bool.eq_false_iff]
 intro h2
 simp at h2
 omega
theorem end_one {c:UInt8} (h:endB c=true):oneB c=false:=by
 have:=endB_cases h
 unfold oneB
 rw [Bool.eq_false_iff]
 intro h2
 simp at h2
 omega
theorem end_34 {c:UInt8} (h:endB c=true):¬ c.toNat=34:=by
 have:=endB_cases h;omega
theorem spn_bnd {p:UInt8→Bool} (hp:∀ c,endB c=true→p c=false):∀ r,bnd r=true→spnM p r=0
 | [],_=>rfl
 | c :: r,h=>by simp only [spnM];rw [if_neg (by rw [hp c h];simp)]
theorem spn_loc {p:UInt8→Bool} (hp:∀ c,endB c=true→p c=false) {r:List UInt8} (hr:bnd r=true):∀ s:List UInt8,spnM p (s.take (spnM p s)++r)=spnM p s
 | []=>by rw [show spnM p []=0 from rfl,List.take_zero,List.nil_append];exact spn_bnd hp r hr
 | c :: s=>by
  by_cases h:p c=true
  ·have e:spnM p (c :: s)=spnM p s+1:=by simp only [spnM];rw [if_pos h]
   rw [e,List.take_succ_cons,List.cons_append]
   simp only [spnM]
   rw [if_pos h,spn_loc hp hr s]
  ·have e:spnM p (c :: s)=0:=by simp only [spnM];rw [if_neg h]
   rw [e,List.take_zero,List.nil_append];exact spn_bnd hp r hr
theorem qu_loc (r:List UInt8):∀ {s t:List UInt8} {n:Nat},quM s=some (t,n)→quM (s.take n++r)=some (t,n)
 | [],t,n,h=>by simp [quM] at h
 | c :: q,t,n,h=>by
  rw [quM_cons] at h
  by_cases h1:c.toNat=34
  ·rw [if_pos h1] at h
   cases h
   rw [List.take_succ_cons,List.cons_append,quM_cons,if_pos h1]
  ·rw [if_neg h1] at h
   by_cases h2:c.toNat<32∨126<c.toNat
   ·rw [if_pos h2] at h;cases h
   ·rw [if_neg h2] at h
    by_cases h3:c.toNat=92
    ·rw [if_pos h3] at h
     cases q with
     | nil=>cases h
     | cons d q =>
      simp only at h
      by_cases h4:d.toNat=34∨d.toNat=92
      ·rw [if_pos h4] at h
       obtain ⟨⟨t',n'⟩,g1,g2⟩:=Option.map_eq_some_iff.1 h
       have ih:=qu_loc r g1
       cases g2
       rw [List.take_succ_cons,List.take_succ_cons,List.cons_append,List.cons_append,quM_cons,if_neg h1,if_neg h2,if_pos h3]
       simp only
       rw [if_pos h4,ih];rfl
      ·rw [if_neg h4] at h;cases h
    ·rw [if_neg h3] at h
     obtain ⟨⟨t',n'⟩,g1,g2⟩:=Option.map_eq_some_iff.1 h
     have ih:=qu_loc r g1
     cases g2
     rw [List.take_succ_cons,List.cons_append,quM_cons,if_neg h1,if_neg h2,if_neg h3,ih];rfl
theorem sg_loc {r:List UInt8} (hr:bnd r=true):∀ {s:List UInt8},signM s≠0→signM (s.take (signM s)++r)=signM s
 | [],h=>absurd rfl h
 | [c],h=>by
  have ho:oneB c=true:=by
   cases ho:oneB c with
   | true=>rfl
   | false=>simp [signM,ho] at h
  have e:signM [c]=1:=by simp [signM,ho]
  rw [e,List.take_succ_cons,List.take_zero,List.cons_append,List.nil_append]
  match r,hr with
  | [],_=>exact e
  | d :: r,hr=>simp only [signM];rw [if_neg (by rw [end_two hr];simp),if_pos ho]
 | c :: d :: q,h=>by
  by_cases h2:twoB c d=true
  ·have e:signM (c :: d :: q)=2:=by simp only [signM];rw [if_pos h2]
   rw [e,List.take_succ_cons,List.take_succ_cons,List.take_zero]
   simp only [List.cons_append,List.nil_append,signM]
   rw [if_pos h2]
  ·have ho:oneB c=true:=by
    cases ho:oneB c with
    | true=>rfl
    | false=>simp only [signM] at h;rw [if_neg h2,if_neg (by rw [ho];simp)] at h;exact absurd rfl h
   have e:signM (c :: d :: q)=1:=by simp only [signM];rw [if_neg h2,if_pos ho]
   rw [e,List.take_succ_cons,List.take_zero,List.cons_append,List.nil_append]
   match r,hr with
   | [],_=>simp only [signM];rw [if_pos ho]
   | d :: r,hr=>simp only [signM];rw [if_neg (by rw [end_two hr];simp),if_pos ho]
theorem take_app {α : Type} {s r:List α} {n:Nat} (h:n≤s.length):(s.take n++r).take n=s.take n:=by
 have hl:(s.take n).length=n:=by rw [List.length_take];omega
 exact List.take_left' hl
theorem next_loc {s r:List UInt8} (h:(nextM' s).err=0) (hr:bnd r=true):nextM' (s.take (nextM' s).n++r)=nextM' s:=by
 cases s with
 | nil=>simp [nextM',nxE] at h
 | cons c q =>
  obtain ⟨hn1,hn2⟩:=nextM_n h
  obtain ⟨k,hk⟩:∃ k,(nextM' (c :: q)).n=k+1:=⟨(nextM' (c :: q)).n-1,by omega⟩
  have hform:(c :: q).take (nextM' (c :: q)).n++r=c :: (q.take k++r):=by rw [hk,List.take_succ_cons,List.cons_append]
  have htk:(c :: (q.take k++r)).take (nextM' (c :: q)).n=(c :: q).take (nextM' (c :: q)).n:=by rw [← hform];exact take_app hn2
  have hp:=spn_loc (p:=ptB) (fun _=>end_pt) hr (c :: q)
  have hg:=spn_loc (p:=dgB) (fun _=>end_dg) hr (c :: q)
  rw [hform]
  by_cases hl:ltB c=true
  ·by_cases h12:12<spnM ptB (c :: q)
   ·rw [nextM',if_pos hl,if_pos h12] at h;simp [nxE] at h
   ·have e:nextM' (c :: q)=⟨if isWordM ((c :: q).take (spnM ptB (c :: q)))=true then 2 else 1,(c :: q).take (spnM ptB (c :: q)),0,spnM ptB (c :: q),0⟩:=by rw [nextM',if_pos hl,if_neg h12]
    have en:(nextM' (c :: q)).n=spnM ptB (c :: q):=by rw [e]
    rw [en] at hform htk
    rw [hform] at hp
    rw [nextM',if_pos hl,hp,if_neg h12,htk,e]
  ·by_cases hd:dgB c=true
   ·by_cases h1:1<spnM dgB (c :: q)∧c.toNat=48
    ·rw [nextM',if_neg hl,if_pos hd,if_pos h1] at h;simp [nxE] at h
    ·by_cases h2:2147483647<numV ((c :: q).take (spnM dgB (c :: q)))
     ·rw [nextM',if_neg hl,if_pos hd,if_neg h1,if_pos h2] at h;simp [nxE] at h
     ·have e:nextM' (c :: q)=⟨3,[],(numV ((c :: q).take (spnM dgB (c :: q))):Int),spnM dgB (c :: q),0⟩:=by rw [nextM',if_neg hl,if_pos hd,if_neg h1,if_neg h2]
      have en:(nextM' (c :: q)).n=spnM dgB (c :: q):=by rw [e]
      rw [en] at hform htk
      rw [hform] at hg
      rw [nextM',if_neg hl,if_pos hd,hg,htk,if_neg h1,if_neg h2,e]
   ·by_cases h34:c.toNat=34
    ·cases hq:quM q with
     | none=>rw [nextM',if_neg hl,if_neg hd,if_pos h34,hq] at h;simp [nxE] at h
     | some x =>
      obtain ⟨t,m⟩:=x
      by_cases h32:32<t.length
      ·rw [nextM',if_neg hl,if_neg hd,if_pos h34,hq] at h;simp only at h;rw [if_pos h32] at h;simp [nxE] at h
      ·have e:nextM' (c :: q)=⟨4,t,0,m+1,0⟩:=by rw [nextM',if_neg hl,if_neg hd,if_pos h34,hq];simp only;rw [if_neg h32]
       have en:m=k:=by rw [e] at hk;simp only at hk;omega
       subst en
       rw [e,nextM',if_neg hl,if_neg hd,if_pos h34,qu_loc r hq];simp only;rw [if_neg h32]
    ·by_cases hs:signM (c :: q)=0
     ·rw [nextM',if_neg hl,if_neg hd,if_neg h34,if_pos hs] at h;simp [nxE] at h
     ·have e:nextM' (c :: q)=⟨5,(c :: q).take (signM (c :: q)),0,signM (c :: q),0⟩:=by rw [nextM',if_neg hl,if_neg hd,if_neg h34,if_neg hs]
      have en:(nextM' (c :: q)).n=signM (c :: q):=by rw [e]
      have hsg:=sg_loc hr hs
      rw [en] at hform htk
      rw [hform] at hsg
      rw [nextM',if_neg hl,if_neg hd,if_neg h34,hsg,if_neg hs,htk,e]
theorem next_sk {s:List UInt8} (h:(nextM' s).err=0):skM false s=0:=by
 cases s with
 | nil=>rfl
 | cons c q =>
  by_cases he:endB c=true
  ·have hs:signM (c :: q)=0:=by
    cases q with
    | nil=>simp only [signM];rw [if_neg (by rw [end_one he];simp)]
    | cons d q=>simp only [signM];rw [if_neg (by rw [end_two1 he];simp),if_neg (by rw [end_one he];simp)]
   rw [nextM',if_neg (by rw [end_lt he];simp),if_neg (by rw [end_dg he];simp),if_neg (end_34 he),if_pos hs] at h
   simp [nxE] at h
  ·have he:sepB c=false∧¬ c.toNat=35:=by simpa [endB] using he
   simp only [skM];rw [if_neg (by rw [he.1];simp),if_neg he.2]
theorem sk_take:∀ (b:Bool) (l:List UInt8),skM b (l.take (skM b l))=skM b l
 | _,[]=>by simp [skM]
 | true,c :: r=>by
  have h1:=sk_take true r
  have h2:=sk_take false r
  simp only [skM]
  split
  ·rename_i h;rw [List.take_succ_cons];simp only [skM];rw [if_pos h,h2]
  ·rename_i h;rw [List.take_succ_cons];simp only [skM];rw [if_neg h,h1]
 | false,c :: r=>by
  have h1:=sk_take true r
  have h2:=sk_take false r
  simp only [skM]
  split
  ·rename_i h;rw [List.take_succ_cons];simp only [skM];rw [if_pos h,h2]
  ·split
   ·rename_i h h3;rw [List.take_succ_cons];simp only [skM];rw [if_neg h,if_pos h3,h1]
   ·simp [skM]
theorem bnd_sk:∀ l:List UInt8,bnd (l.take (skM false l))=true
 | []=>rfl
 | c :: r=>by
  simp only [skM]
  split
  ·rename_i h;rw [List.take_succ_cons];simp [bnd,endB,h]
  ·split
   ·rename_i h h3;rw [List.take_succ_cons];simp [bnd,endB,h3]
   ·rfl
def oneT (t:Tok):List UInt8:=if t.kind=1∨t.kind=2∨t.kind=5 then t.text else if t.kind=3 then decI t.value else if t.kind=4 then quoteM t.text else []
def nxT (x:Nx) (p:Int):Tok:=⟨x.kind,x.text,x.value,p⟩
theorem numV_app (s:List UInt8) (c:UInt8):numV (s++[c])=10 * numV s+(c.toNat-48):=by
 unfold numV;rw [List.foldl_append];rfl
theorem dig_back {c:UInt8} (h:dgB c=true):digB (c.toNat-48)=c:=by
 simp only [dgB,Bool.and_eq_true,decide_eq_true_eq] at h
 rw [← UInt8.toNat_inj]
 unfold digB
 simp
 omega
theorem dec_num:∀ (m:Nat) (d:List UInt8),d.length=m→d≠[]→(∀ c∈d,dgB c=true)→(1<d.length→∀ c,d.head? = some c→c.toNat≠48)→decB (numV d)=d:=by
 intro m
 induction m with
 | zero=>intro d h h0;exact absurd (List.eq_nil_of_length_eq_zero h) h0
 | succ m ih =>
  intro d h h0 hd h1
  obtain ⟨e,c,rfl⟩:∃ e c,d=e++[c]:=⟨d.dropLast,d.getLast h0,(List.dropLast_concat_getLast h0).symm⟩
  have hc:=hd c (by simp)
  have hb:=dig_back hc
  simp only [dgB,Bool.and_eq_true,decide_eq_true_eq] at hc
  rw [numV_app]
  cases e with
  | nil =>
   show decB (10 * 0+(c.toNat-48))=[c]
   rw [decB_lt (by omega),show 10 * 0+(c.toNat-48)=c.toNat-48 by omega,hb]
  | cons x e =>
   have hx:=hd x (by simp)
   simp only [dgB,Bool.and_eq_true,decide_eq_true_eq] at hx
   have hx48:x.toNat≠48:=h1 (by simp) x rfl
   have hpos:1≤numV (x :: e):=by
    have h2:numV (x :: e)=numA (10 * 0+(x.toNat-48)) e:=rfl
    have:=numA_ge e (10 * 0+(x.toNat-48))
    rw [h2];omega
   rw [decB_ge (by omega),show (10 * numV (x :: e)+(c.toNat-48)) / 10=numV (x :: e) by omega,show (10 * numV (x :: e)+(c.toNat-48)) % 10=c.toNat-48 by omega,hb]
   rw [ih (x :: e) (by simp at h ⊢;omega) (by simp) (fun y hy=>hd y (List.mem_append_left _ hy)) (fun _ y hy=>by cases hy;exact hx48)]
theorem qu_back:∀ {s t:List UInt8} {n:Nat},quM s=some (t,n)→t.flatMap quB++[34]=s.take n
 | [],t,n,h=>by simp [quM] at h
 | c :: q,t,n,h=>by
  have h8:∀ x:UInt8,x.toNat=34→x=34:=fun x hx=>by rw [← UInt8.toNat_inj,hx];rfl
  have h9:∀ x:UInt8,x.toNat=92→x=92:=fun x hx=>by rw [← UInt8.toNat_inj,hx];rfl
  rw [quM_cons] at h
  by_cases h1:c.toNat=34
  ·rw [if_pos h1] at h
   cases h
   rw [h8 c h1];rfl
  ·rw [if_neg h1] at h
   by_cases h2:c.toNat<32∨126<c.toNat
   ·rw [if_pos h2] at h;cases h
   ·rw [if_neg h2] at h
    by_cases h3:c.toNat=92
    ·rw [if_pos h3] at h
     cases q with
     | nil=>cases h
     | cons d q =>
      simp only at h
      by_cases h4:d.toNat=34∨d.toNat=92
      ·rw [if_pos h4] at h
       obtain ⟨⟨t',n'⟩,g1,g2⟩:=Option.map_eq_some_iff.1 h
       have ih:=qu_back g1
       cases g2
       rw [List.take_succ_cons,List.take_succ_cons,List.flatMap_cons,quB,if_pos h4,h9 c h3]
       simp only [List.cons_append,List.nil_append]
       rw [ih]
      ·rw [if_neg h4] at h;cases h
    ·rw [if_neg h3] at h
     obtain ⟨⟨t',n'⟩,g1,g2⟩:=Option.map_eq_some_iff.1 h
     have ih:=qu_back g1
     cases g2
     rw [List.take_succ_cons,List.flatMap_cons,quB,if_neg (by omega)]
     simp only [List.cons_append,List.nil_append]
     rw [ih]
theorem one_take {s:List UInt8} (h:(nextM' s).err=0) (p:Int):oneT (nxT (nextM' s) p)=s.take (nextM' s).n:=by
 cases s with
 | nil=>simp [nextM',nxE] at h
 | cons c q =>
  by_cases hl:ltB c=true
  ·by_cases h12:12<spnM ptB (c :: q)
   ·rw [nextM',if_pos hl,if_pos h12] at h;simp [nxE] at h
   ·rw [nextM',if_pos hl,if_neg h12,nxT,oneT]
    simp only
    rw [if_pos (by split<;>simp)]
  ·by_cases hd:dgB c=true
   ·by_cases h1:1<spnM dgB (c :: q)∧c.toNat=48
    ·rw [nextM',if_neg hl,if_pos hd,if_pos h1] at h;simp [nxE] at h
    ·by_cases h2:2147483647<numV ((c :: q).take (spnM dgB (c :: q)))
     ·rw [nextM',if_neg hl,if_pos hd,if_neg h1,if_pos h2] at h;simp [nxE] at h
     ·rw [nextM',if_neg hl,if_pos hd,if_neg h1,if_neg h2,nxT,oneT]
      simp only
      rw [if_neg (by omega),if_pos trivial,decI,if_neg (by omega),Int.natAbs_natCast]
      have hle:=spnM_le dgB (c :: q)
      have hn1:1≤spnM dgB (c :: q):=by simp [spnM,hd]
      refine dec_num _ _ rfl (fun e=>?_) (span_all (c :: q)) (fun hlen x hx=>?_)
      ·have:=congrArg List.length e
       rw [List.length_take,List.length_nil] at this;omega
      ·rw [List.length_take] at hlen
       obtain ⟨k,hk⟩:∃ k,spnM dgB (c :: q)=k+1:=⟨spnM dgB (c :: q)-1,by omega⟩
       rw [hk,List.take_succ_cons] at hx
       cases hx
       exact fun e=>h1 ⟨by omega,e⟩
   ·by_cases h34:c.toNat=34
    ·cases hq:quM q with
     | none=>rw [nextM',if_neg hl,if_neg hd,if_pos h34,hq] at h;simp [nxE] at h
     | some x =>
      obtain ⟨t,m⟩:=x
      by_cases h32:32<t.length
      ·rw [nextM',if_neg hl,if_neg hd,if_pos h34,hq] at h;simp only at h;rw [if_pos h32] at h;simp [nxE] at h
      ·rw [nextM',if_neg hl,if_neg hd,if_pos h34,hq]
       simp only
       rw [if_neg h32,nxT,oneT]
       simp only
       rw [if_neg (by omega),if_neg (by omega),if_pos trivial,quoteM,qpre,List.append_assoc,qu_back hq,List.take_succ_cons]
       have:c=34:=by rw [← UInt8.toNat_inj,h34];rfl
       rw [this];rfl
    ·by_cases hs:signM (c :: q)=0
     ·rw [nextM',if_neg hl,if_neg hd,if_neg h34,if_pos hs] at h;simp [nxE] at h
     ·rw [nextM',if_neg hl,if_neg hd,if_neg h34,if_neg hs,nxT,oneT]
      exact if_pos (.inr (.inr rfl))
def Reads (s:List UInt8):Nat→List Tok→Prop
 | k,[]=>s.length≤k
 | k,t :: l=>k<s.length∧(nextM' (s.drop k)).err=0∧t=nxT (nextM' (s.drop k)) (k:Int)∧Reads s (k+(nextM' (s.drop k)).n+skM false (s.drop (k+(nextM' (s.drop k)).n))) l
theorem scanT_reads:∀ (f:Nat) (s:List UInt8) (k:Nat) (acc:List Tok),s.length+1≤k+f→(scanT f s k acc).2.2=0→∃ l,(scanT f s k acc).1=acc++l∧Reads s k l
 | 0,s,k,acc,hf,h=>⟨[],by simp [scanT],by show s.length≤k;omega⟩
 | f+1,s,k,acc,hf,h=>by
  rw [scanT] at h ⊢
  by_cases h1:s.length≤k
  ·rw [if_pos h1];exact ⟨[],by simp,h1⟩
  ·rw [if_neg h1] at h ⊢
   by_cases h2:(nextM' (s.drop k)).err=0
   ·rw [if_neg (by simpa using h2)] at h ⊢
    have hn:=nextM_n h2
    obtain ⟨l,e,hr⟩:=scanT_reads f s _ _ (by omega) h
    exact ⟨_ :: l,by rw [e,List.append_assoc];rfl,by omega,h2,rfl,hr⟩
   ·rw [if_pos h2] at h
    exact absurd h h2
theorem reads_scanT:∀ (f:Nat) (s:List UInt8) (k:Nat) (acc l:List Tok),s.length+1≤k+f→Reads s k l→scanT f s k acc=(acc++l,0,0)
 | 0,s,k,acc,l,hf,h=>by
  cases l with
  | nil=>simp [scanT]
  | cons t l=>have:=h.1;omega
 | f+1,s,k,acc,[],hf,h=>by
  rw [scanT,if_pos (show s.length≤k from h)];simp
 | f+1,s,k,acc,t :: l,hf,h=>by
  obtain ⟨h1,h2,h3,h4⟩:=h
  have hn:=nextM_n h2
  rw [scanT,if_neg (by omega),if_neg (by simpa using h2),reads_scanT f s _ _ l (by omega) h4,h3,List.append_assoc];rfl
theorem scanM_reads {s:List UInt8} (h:(scanM s).2.2=0):s.length≤20000∧Reads s (skM false s) (scanM s).1:=by
 unfold scanM at h ⊢
 by_cases h1:20000<s.length
 ·rw [if_pos h1] at h;cases h
 ·rw [if_neg h1] at h ⊢
  have:=skM_le false s
  obtain ⟨l,e,hr⟩:=scanT_reads _ s _ [] (by omega) h
  rw [e]
  exact ⟨by omega,hr⟩
theorem reads_scanM {s:List UInt8} {l:List Tok} (h1:s.length≤20000) (h:Reads s (skM false s) l):scanM s=(l,0,0):=by
 unfold scanM
 rw [if_neg (by omega),reads_scanT _ s _ [] l (by omega) h];rfl
def TOk (t:Tok):Prop:=∃ s p,(nextM' s).err=0∧t=nxT (nextM' s) p
theorem Reads.ok {s:List UInt8}:∀ {k:Nat} {l:List Tok},Reads s k l→∀ t∈l,TOk t
 | k,[],_,t,h=>by cases h
 | k,x :: l,h,t,ht=>by
  rcases List.mem_cons.1 ht with rfl|ht
  ·exact ⟨_,_,h.2.1,h.2.2.1⟩
  ·exact Reads.ok h.2.2.2 t ht
def sumT (l:List Tok):Nat:=(l.map fun t=>(oneT t).length).sum
theorem Reads.len {s:List UInt8}:∀ {k:Nat} {l:List Tok},Reads s k l→k≤s.length→k+l.length≤s.length∧k+sumT l≤s.length
 | k,[],h,hk=>⟨hk,hk⟩
 | k,x :: l,h,hk=>by
  obtain ⟨h1,h2,h3,h4⟩:=h
  have hn:=nextM_n h2
  rw [List.length_drop] at hn
  have hz:=skM_le false (s.drop (k+(nextM' (s.drop k)).n))
  rw [List.length_drop] at hz
  have ih:=h4.len (by omega)
  have ho:(oneT x).length=(nextM' (s.drop k)).n:=by rw [h3,one_take h2,List.length_take,List.length_drop];omega
  simp only [sumT,List.map_cons,List.sum_cons,List.length_cons] at ih ⊢
  omega
def glueI (sp:Nat→List UInt8):Nat→List Tok→List UInt8
 | _,[]=>[]
 | i,t :: l=>sp i++oneT t++glueI sp (i+1) l
theorem glue_app (sp:Nat→List UInt8) (t:Tok):∀ (l:List Tok) (i:Nat),glueI sp i (l++[t])=glueI sp i l++sp (i+l.length)++oneT t
 | [],i=>by simp [glueI]
 | x :: l,i=>by
  simp only [List.cons_append,glueI]
  rw [glue_app sp t l (i+1),show i+1+l.length=i+(x :: l).length by simp;omega]
  simp only [List.append_assoc]
theorem glue_step {sp:Nat→List UInt8} {l:List Tok} {k:Nat} {t:Tok} (h:l[k]? = some t):glueI sp 0 (l.take (k+1))=glueI sp 0 (l.take k)++sp k++oneT t:=by
 have hk:=(List.getElem?_eq_some_iff.1 h).1
 rw [List.take_add_one,h,Option.toList_some,glue_app,List.length_take,show 0+min k l.length=k by omega]
theorem glue_len {sp:Nat→List UInt8} {m:Nat} (h:∀ i,(sp i).length≤m):∀ (l:List Tok) (i:Nat),(glueI sp i l).length≤m * l.length+sumT l
 | [],i=>by simp [glueI]
 | t :: l,i=>by
  have ih:=glue_len h l (i+1)
  have hi:=h i
  simp only [glueI,List.length_append,sumT,List.map_cons,List.sum_cons,List.length_cons,Nat.mul_succ] at ih ⊢
  omega
structure Sep (s:List UInt8):Prop where
 bnd:Pb.bnd s=true
 sk:∀ r,skM false (s++r)=s.length+skM false r
theorem bnd_glue {sp:Nat→List UInt8} (l:List Tok) (i:Nat) (h:Sep (sp i)) (h0:sp i≠[]):bnd (glueI sp i l)=true:=by
 cases l with
 | nil=>rfl
 | cons t l =>
  simp only [glueI]
  have hb:=h.bnd
  cases hs:sp i with
  | nil=>exact absurd hs h0
  | cons c r=>rw [hs] at hb;exact hb
theorem glue_reads {sp:Nat→List UInt8} (hs:∀ i,Sep (sp i)) (hn:∀ i,1≤i→sp i≠[]):∀ (l:List Tok) (i:Nat) (S:List UInt8) (k:Nat),(∀ t∈l,TOk t)→S.drop k=glueI sp i l→k≤S.length →
  ∃ l',Reads S (k+skM false (S.drop k)) l'∧sameL true l l'=true
 | [],i,S,k,_,h,hk=>⟨[],by
   have:=congrArg List.length h
   rw [List.length_drop] at this
   simp only [glueI,List.length_nil] at this
   show S.length≤_;omega,rfl⟩
 | t :: l,i,S,k,ht,h,hk=>by
  obtain ⟨s,p,h1,h2⟩:=ht t List.mem_cons_self
  have ho:=one_take h1 p
  rw [← h2] at ho
  obtain ⟨n1,n2⟩:=nextM_n h1
  have hbn:=bnd_glue l (i+1) (hs _) (hn (i+1) (by omega))
  have hnx:nextM' (oneT t++glueI sp (i+1) l)=nextM' s:=by rw [ho];exact next_loc h1 hbn
  simp only [glueI,List.append_assoc] at h
  have hsk:skM false (S.drop k)=(sp i).length:=by
   rw [h,(hs i).sk,next_sk (by rw [hnx];exact h1)];omega
  have hol:(oneT t).length=(nextM' s).n:=by rw [ho,List.length_take];omega
  have hd1:S.drop (k+(sp i).length)=oneT t++glueI sp (i+1) l:=by rw [← List.drop_drop,h,List.drop_left]
  have hd2:S.drop (k+(sp i).length+(nextM' s).n)=glueI sp (i+1) l:=by rw [← List.drop_drop,hd1, ← hol,List.drop_left]
  have hlen:=congrArg List.length h
  rw [List.length_drop,List.length_append,List.length_append] at hlen
  obtain ⟨l',hr,hsm⟩:=glue_reads hs hn l (i+1) S (k+(sp i).length+(nextM' s).n) (fun x hx=>ht x (List.mem_cons_of_mem _ hx)) hd2 (by omega)
  refine ⟨nxT (nextM' s) (k+(sp i).length:Nat) :: l',?_,?_⟩
  ·rw [hsk]
   refine ⟨by omega,?_,?_,?_⟩
   ·rw [hd1,hnx];exact h1
   ·rw [hd1,hnx]
   ·rw [hd1,hnx];exact hr
  ·simp only [sameL,hsm,Bool.and_true,h2]
   simp [tokEq,nxT]
theorem scan_glue {s:List UInt8} {sp:Nat→List UInt8} {m:Nat} (h:(scanM s).2.2=0) (hs:∀ i,Sep (sp i)) (hn:∀ i,1≤i→sp i≠[]) (hm:∀ i,(sp i).length≤m) (hlen:(m+1) * s.length≤20000) :
  (scanM (glueI sp 0 (scanM s).1)).2.2=0∧sameL true (scanM s).1 (scanM (glueI sp 0 (scanM s).1)).1=true:=by
 obtain ⟨h1,h2⟩:=scanM_reads h
 have h3:=h2.len (skM_le false s)
 have h4:=glue_len hm (scanM s).1 0
 have h5:m * (scanM s).1.length≤m * s.length:=Nat.mul_le_mul_left _ (by omega)
 have h6:(m+1) * s.length=m * s.length+s.length:=by rw [Nat.add_mul,Nat.one_mul]
 obtain ⟨l',hr,hsm⟩:=glue_reads hs hn (scanM s).1 0 (glueI sp 0 (scanM s).1) 0 h2.ok rfl (Nat.zero_le _)
 rw [Nat.zero_add] at hr
 rw [reads_scanM (by omega) hr]
 exact ⟨rfl,hsm⟩
theorem scan_one {q:List UInt8} (h0:q.length≤20000) (h:(nextM' q).err=0) :
  scanM (q.take ((nextM' q).n+skM false (q.drop (nextM' q).n)))=([nxT (nextM' q) 0],0,0):=by
 obtain ⟨n1,n2⟩:=nextM_n h
 have hz:=skM_le false (q.drop (nextM' q).n)
 rw [List.length_drop] at hz
 have hnx:=next_loc h (bnd_sk (q.drop (nextM' q).n))
 have hst:=sk_take false (q.drop (nextM' q).n)
 have ha:(q.take (nextM' q).n).length=(nextM' q).n:=by rw [List.length_take];omega
 have hb:((q.drop (nextM' q).n).take (skM false (q.drop (nextM' q).n))).length=skM false (q.drop (nextM' q).n):=by rw [List.length_take,List.length_drop];omega
 rw [List.take_add]
 generalize skM false (q.drop (nextM' q).n)=z at *
 generalize (q.drop (nextM' q).n).take z=b at *
 generalize q.take (nextM' q).n=a at *
 have hl:(a++b).length=(nextM' q).n+z:=by rw [List.length_append,ha,hb]
 refine reads_scanM (by omega) ?_
 rw [next_sk (by rw [hnx];exact h)]
 refine ⟨by omega,?_,?_,?_⟩
 ·rw [List.drop_zero,hnx];exact h
 ·rw [List.drop_zero,hnx];rfl
 ·rw [List.drop_zero,hnx,Nat.zero_add]
  have hd:(a++b).drop (nextM' q).n=b:=by rw [← ha];exact List.drop_left
  rw [hd,hst]
  show (a++b).length≤_
  omega
theorem Reads.at {s:List UInt8}:∀ {k:Nat} {l:List Tok} {i:Nat} {t:Tok},Reads s k l→k≤s.length→l[i]? = some t →
  ∃ p:Nat,(nextM' (s.drop p)).err=0∧t=nxT (nextM' (s.drop p)) (p:Int)∧p+((nextM' (s.drop p)).n+skM false ((s.drop p).drop (nextM' (s.drop p)).n))≤s.length∧1≤(nextM' (s.drop p)).n ∧
   (∀ t',l[i+1]? = some t'→t'.pos=((p+((nextM' (s.drop p)).n+skM false ((s.drop p).drop (nextM' (s.drop p)).n)):Nat):Int)) ∧
   (l.length≤i+1→s.length=p+((nextM' (s.drop p)).n+skM false ((s.drop p).drop (nextM' (s.drop p)).n)))
 | k,[],i,t,h,hk,ht=>by simp at ht
 | k,x :: l,0,t,h,hk,ht=>by
  obtain ⟨h1,h2,h3,h4⟩:=h
  simp only [List.getElem?_cons_zero,Option.some.injEq] at ht
  subst ht
  have hn:=nextM_n h2
  rw [List.length_drop] at hn
  rw [← List.drop_drop] at h4
  have hz:=skM_le false ((s.drop k).drop (nextM' (s.drop k)).n)
  rw [List.length_drop,List.length_drop] at hz
  refine ⟨k,h2,h3,by omega,hn.1,fun t' ht'=>?_,fun hl=>?_⟩
  ·cases l with
   | nil=>simp at ht'
   | cons y l =>
    simp at ht'
    subst ht'
    rw [h4.2.2.1]
    simp only [nxT]
    omega
  ·have:l=[]:=by cases l with|nil=>rfl|cons y l=>simp at hl
   subst this
   have:s.length≤_:=h4
   omega
 | k,x :: l,i+1,t,h,hk,ht=>by
  obtain ⟨h1,h2,h3,h4⟩:=h
  have hn:=nextM_n h2
  rw [List.length_drop] at hn
  have hz:=skM_le false (s.drop (k+(nextM' (s.drop k)).n))
  rw [List.length_drop] at hz
  obtain ⟨p,a,b,c,d,e,f⟩:=h4.at (by omega) (by simpa using ht)
  exact ⟨p,a,b,c,d,fun t' h'=>e t' (by simpa using h'),fun hl=>f (by simp at hl;omega)⟩
end Go.Pb
namespace Go.Pb
variable [Go.Sym.Tab]
open Go.Sym
def spB (i:Nat):List UInt8:=if i=0 then [] else [32]
def textM (l:List Tok):List UInt8:=glueI spB 0 l
theorem spB_len (i:Nat):(spB i).length≤1:=by unfold spB;split<;>simp
theorem spB_sep (i:Nat):Sep (spB i):=by
 unfold spB
 split
 ·exact ⟨rfl,fun r=>by simp⟩
 ·exact ⟨rfl,fun r=>by
   have h:skM false ((32:UInt8) :: r)=skM false r+1:=by simp only [skM];rw [if_pos (by decide)]
   simp only [List.cons_append,List.nil_append,h,List.length_cons,List.length_nil];omega⟩
theorem quote_len (s:List UInt8):(quoteM s).length≤2 * s.length+2:=by
 have:=qpre_len s
 unfold quoteM
 rw [List.length_append,List.length_singleton];omega
def Fit (t:Tok):Prop:=t.text.length≤100000∧I6 t.value
theorem oneT_len {t:Tok} (h:Fit t):(oneT t).length≤200024:=by
 have h1:=quote_len t.text
 have h2:=decI_len h.2.1 h.2.2
 have h3:=h.1
 unfold oneT
 split
 ·omega
 ·split
  ·omega
  ·split
   ·omega
   ·simp
theorem sumT_le:∀ {l:List Tok},(∀ t∈l,Fit t)→sumT l≤200024 * l.length
 | [],_=>by simp [sumT]
 | t :: l,h=>by
  have h1:=oneT_len (h t List.mem_cons_self)
  have h2:=sumT_le (l:=l) fun x hx=>h x (List.mem_cons_of_mem _ hx)
  simp only [sumT,List.map_cons,List.sum_cons,List.length_cons] at h2 ⊢
  omega
theorem textM_len {l:List Tok} (h:∀ t∈l,Fit t):(textM l).length≤200025 * l.length:=by
 have h1:=glue_len spB_len l 0
 have h2:=sumT_le h
 unfold textM;omega
theorem glue_tail:∀ (l:List Tok) (i:Nat),1≤i→glueI spB i l=Lib.joinTail [32] (l.map oneT)
 | [],i,_=>rfl
 | t :: l,i,h=>by
  have ih:=glue_tail l (i+1) (by omega)
  simp only [glueI,ih,Lib.joinTail,List.map_cons,List.flatten_cons]
  rw [spB,if_neg (by omega)]
theorem text_join (l:List Tok):Lib.join (l.map oneT) [32]=textM l:=by
 cases l with
 | nil=>rfl
 | cons t l =>
  rw [List.map_cons,Lib.join_cons,textM,glueI,glue_tail l 1 (by omega),spB,if_pos rfl]
  simp
theorem TOk.fit {t:Tok} (h:TOk t):Fit t:=by
 obtain ⟨s,p,h1,rfl⟩:=h
 unfold Fit I6
 cases s with
 | nil=>simp [nextM',nxE] at h1
 | cons c q =>
  by_cases hl:ltB c=true
  ·by_cases h12:12<spnM ptB (c :: q)
   ·rw [nextM',if_pos hl,if_pos h12] at h1;simp [nxE] at h1
   ·rw [nextM',if_pos hl,if_neg h12,nxT]
    refine ⟨?_,by simp only;omega,by simp only;omega⟩
    simp only [List.length_take]
    omega
  ·by_cases hd:dgB c=true
   ·by_cases h3:1<spnM dgB (c :: q)∧c.toNat=48
    ·rw [nextM',if_neg hl,if_pos hd,if_pos h3] at h1;simp [nxE] at h1
    ·by_cases h2:2147483647<numV ((c :: q).take (spnM dgB (c :: q)))
     ·rw [nextM',if_neg hl,if_pos hd,if_neg h3,if_pos h2] at h1;simp [nxE] at h1
     ·rw [nextM',if_neg hl,if_pos hd,if_neg h3,if_neg h2,nxT]
      exact ⟨by simp,by simp only;omega,by simp only;omega⟩
   ·by_cases h34:c.toNat=34
    ·cases hq:quM q with
     | none=>rw [nextM',if_neg hl,if_neg hd,if_pos h34,hq] at h1;simp [nxE] at h1
     | some x =>
      obtain ⟨t,m⟩:=x
      by_cases h32:32<t.length
      ·rw [nextM',if_neg hl,if_neg hd,if_pos h34,hq] at h1;simp only at h1;rw [if_pos h32] at h1;simp [nxE] at h1
      ·rw [nextM',if_neg hl,if_neg hd,if_pos h34,hq]
       simp only
       rw [if_neg h32,nxT]
       exact ⟨by simp only;omega,by simp only;omega,by simp only;omega⟩
    ·by_cases hs:signM (c :: q)=0
     ·rw [nextM',if_neg hl,if_neg hd,if_neg h34,if_pos hs] at h1;simp [nxE] at h1
     ·rw [nextM',if_neg hl,if_neg hd,if_neg h34,if_neg hs,nxT]
      have h2:signM (c :: q)≤2:=by
       cases q with
       | nil=>simp only [signM];split<;>omega
       | cons d q=>simp only [signM];split<;>(try split)<;>omega
      refine ⟨?_,by simp only;omega,by simp only;omega⟩
      simp only [List.length_take]
      omega
theorem scan_ok {s:List UInt8} (h:(scanM s).2.2=0):∀ t∈(scanM s).1,TOk t:=(scanM_reads h).2.ok
theorem scan_back {s:List UInt8} (h:(scanM s).2.2=0) (hl:s.length≤1000) :
  (scanM (textM (scanM s).1)).2.2=0∧sameL true (scanM s).1 (scanM (textM (scanM s).1)).1=true :=
 scan_glue h spB_sep (fun i hi=>by unfold spB;rw [if_neg (by omega)];simp) spB_len (by omega)
def sepL:List (List UInt8):=[[32],[10,9,32],[35,32,110,111,116,101,32,34,10],[13],[32,35,10,10]]
theorem sep_all:∀ k:Nat,k<5→Sep (sepL.getD k [])∧sepL.getD k []≠[]∧(sepL.getD k []).length≤9:=by
 intro k hk
 have hs:∀ (c:UInt8) (r:List UInt8),sepB c=true→skM false (c :: r)=skM false r+1:=fun c r h=>by simp only [skM];rw [if_pos h]
 have hc:∀ (r:List UInt8),skM false ((35:UInt8) :: r)=skM true r+1:=fun r=>by simp only [skM];rw [if_neg (by decide),if_pos (by decide)]
 have h1:∀ (c:UInt8) (r:List UInt8),¬ c.toNat=10→skM true (c :: r)=skM true r+1:=fun c r h=>by simp only [skM];rw [if_neg h]
 have h2:∀ (c:UInt8) (r:List UInt8),c.toNat=10→skM true (c :: r)=skM false r+1:=fun c r h=>by simp only [skM];rw [if_pos h]
 match k,hk with
 | 0,_=>exact ⟨⟨rfl,fun r=>by show skM false ((32:UInt8) :: r)=_;rw [hs _ _ (by decide)];show _=1+_;omega⟩,by decide,by decide⟩
 | 1,_=>exact ⟨⟨rfl,fun r=>by show skM false ((10:UInt8) :: 9 :: 32 :: r)=_;rw [hs _ _ (by decide),hs _ _ (by decide),hs _ _ (by decide)];show _=3+_;omega⟩,by decide,by decide⟩
 | 2,_=>exact ⟨⟨rfl,fun r=>by
   show skM false ((35:UInt8) :: 32 :: 110 :: 111 :: 116 :: 101 :: 32 :: 34 :: 10 :: r)=_
   rw [hc,h1 _ _ (by decide),h1 _ _ (by decide),h1 _ _ (by decide),h1 _ _ (by decide),h1 _ _ (by decide),h1 _ _ (by decide),h1 _ _ (by decide),h2 _ _ (by decide)];show _=9+_;omega⟩,by decide,by decide⟩
 | 3,_=>exact ⟨⟨rfl,fun r=>by show skM false ((13:UInt8) :: r)=_;rw [hs _ _ (by decide)];show _=1+_;omega⟩,by decide,by decide⟩
 | 4,_=>exact ⟨⟨rfl,fun r=>by show skM false ((32:UInt8) :: 35 :: 10 :: 10 :: r)=_;rw [hs _ _ (by decide),hc,h2 _ _ (by decide),hs _ _ (by decide)];show _=4+_;omega⟩,by decide,by decide⟩
def sepI (seps:List UInt8) (i:Nat):Nat:=if i<seps.length then (seps.getD i 0).toNat % 5 else 0
def sepS (seps:List UInt8) (i:Nat):List UInt8:=sepL.getD (sepI seps i) []
theorem sepI_lt (seps:List UInt8) (i:Nat):sepI seps i<5:=by unfold sepI;split<;>omega
theorem scan_seps {s:List UInt8} (seps:List UInt8) (h:(scanM s).2.2=0) (hl:s.length≤1640) :
  (scanM (glueI (sepS seps) 0 (scanM s).1)).2.2=0∧sameL true (scanM s).1 (scanM (glueI (sepS seps) 0 (scanM s).1)).1=true :=
 scan_glue h (fun i=>(sep_all _ (sepI_lt seps i)).1) (fun i _=>(sep_all _ (sepI_lt seps i)).2.1) (fun i=>(sep_all _ (sepI_lt seps i)).2.2) (by omega)
end Go.Pb
namespace Go.Proofs.YtibjoemdkeimfaaDoor
open Go.Eng (IC IOper DReg IFn IsFn Callable)
open Go.Sym Go.Pb Go.RowKit
theorem c_Dec:∀ (m:Nat) (n:Int),n.natAbs<m → -9223372036854775808≤n→n≤9223372036854775807→PC Tryd.prog 21 [I64 n] (.str (decI n)):=by
 intro m
 induction m with
 | zero=>intro n h;omega
 | succ m ih =>
  intro n h h1 h2
  have b:=dig_u8 (d:=lo10 n) (lo10_lt n)
  have hl:=lo10_lt n
  by_cases h0:n<0
  ·have hd:decide (n<0)=true:=by simpa using h0
   have e1:=neg_div h0
   have e2:=neg_mod h0
   have hh:=hi10_le (n:=n) (by omega)
   have w1:=w64 (n := -((hi10 n:Nat):Int)) (by omega) (by omega)
   have w2:=w64 (n:=0 - -((lo10 n:Nat):Int)) (by omega) (by omega)
   have w3:0 - -((lo10 n:Nat):Int)=(lo10 n:Int):=by omega
   rw [w3] at w2
   have hlen:=decI_len (n := -((hi10 n:Nat):Int)) (by omega) (by omega)
   have a0:=sadd (s:=decI (-((hi10 n:Nat):Int))) (t:=[digB (lo10 n)]) (by simp;omega)
   have a2:cvbsR (nil.upd 5 ⟨1,true,[DV.int .u8 ((digB (lo10 n)).toNat:Int)]⟩) (.slc 5 0 1)=some (.str [digB (lo10 n)]):=cv_own h_same rfl rfl
   have a1:=sadd (s:=[45]) (t:=[digB (lo10 n)]) (by simp)
   refine PC.of mixedU isU21 (Nat.le_of_ble_eq_true rfl) (by simp [DV.nlL,DV.nl,nlL_ints,nlL_strs,nlL_instrs,nlL_entries,nlL_stp]) (by simp [DV.nlL,DV.nl,nlL_ints,nlL_strs,nlL_instrs,nlL_entries,nlL_stp]) ?_
   show IW Tryd.prog 43 u21_1 ⟨argT _,_,_⟩ (rt [.tmp 2] _)
   repeat' ((first|(with_reducible first|refine wr ?_|refine cpc (ih (-((hi10 n:Nat):Int)) (by omega) (by omega) (by omega)) ?_)|(with_reducible refine wb2 ?_ ?_<;>(intro hb;try simp only [hb]))|((with_reducible refine k_val (cv_own (l:=[digB (lo10 n)]) h_same rfl rfl) ?_))|fail)<;>try simp only [go_sem,seval,hd,r_rem,r_quo,e1,e2,w1,w3,w2,b,a0,a1,a2])
   ·rw [decI_neg0 h0 (by simpa using hb)];exact pc_ret rfl
   ·rw [decI_neg h0 (by simpa using hb)]
    refine ⟨?_,?_⟩
    ·rw [ag_n]
     exact ⟨some 1,_,rfl,rfl,rfl⟩
    ·repeat' ((with_reducible first|refine wr ?_|refine wb2 ?_ ?_<;>(intro hb;try simp only [hb])|fail)<;>try simp only [go_sem,seval])
     exact pc_ret rfl
  ·have hd:decide (n<0)=false:=by simpa using h0
   have e1:=pos_div (n:=n) (by omega)
   have e2:=pos_mod (n:=n) (by omega)
   have hh:hi10 n≤n.natAbs:=by unfold hi10;omega
   have w1:=w64 (n:=((hi10 n:Nat):Int)) (by omega) (by omega)
   have hlen:=decI_len (n:=((hi10 n:Nat):Int)) (by omega) (by omega)
   have a0:=sadd (s:=decI ((hi10 n:Nat):Int)) (t:=[digB (lo10 n)]) (by simp;omega)
   by_cases h9:n<10
   ·have hd9:decide (n<10)=true:=by simpa using h9
    refine PC.of mixedU isU21 (Nat.le_of_ble_eq_true rfl) (by simp [DV.nlL,DV.nl,nlL_ints,nlL_strs,nlL_instrs,nlL_entries,nlL_stp]) (by simp [DV.nlL,DV.nl,nlL_ints,nlL_strs,nlL_instrs,nlL_entries,nlL_stp]) ?_
    show IW Tryd.prog 43 u21_1 ⟨argT _,_,_⟩ (rt [.tmp 2] _)
    repeat' ((first|(with_reducible first|refine wr ?_)|(with_reducible refine wb2 ?_ ?_<;>(intro hb;try simp only [hb]))|((with_reducible refine k_val (cv_own (l:=[digB (lo10 n)]) h_same rfl rfl) ?_))|fail)<;>try simp only [go_sem,seval,hd,hd9,r_rem,r_quo,e1,e2,w1,b])
    rw [decI_lt (by omega) h9];exact pc_ret rfl
   ·have hd9:decide (n<10)=false:=by simpa using h9
    have hh:=hi10_le (n:=n) (by omega)
    refine PC.of mixedU isU21 (Nat.le_of_ble_eq_true rfl) (by simp [DV.nlL,DV.nl,nlL_ints,nlL_strs,nlL_instrs,nlL_entries,nlL_stp]) (by simp [DV.nlL,DV.nl,nlL_ints,nlL_strs,nlL_instrs,nlL_entries,nlL_stp]) ?_
    show IW Tryd.prog 43 u21_1 ⟨argT _,_,_⟩ (rt [.tmp 2] _)
    repeat' ((first|(with_reducible first|refine wr ?_|refine cpc (ih ((hi10 n:Nat):Int) (by omega) (by omega) (by omega)) ?_)|(with_reducible refine wb2 ?_ ?_<;>(intro hb;try simp only [hb]))|((with_reducible refine k_val (cv_own (l:=[digB (lo10 n)]) h_same rfl rfl) ?_))|fail)<;>try simp only [go_sem,seval,hd,hd9,r_rem,r_quo,e1,e2,w1,b,a0])
    rw [decI_ge h9];exact pc_ret rfl
theorem c_Dec' (n:Int) (h1 : -9223372036854775808≤n) (h2:n≤9223372036854775807):PC Tryd.prog 21 [I64 n] (.str (decI n)):=c_Dec (n.natAbs+1) n (by omega) h1 h2
theorem c_QuoteR (s:List UInt8) (hs:s.length≤100000):PC Tryd.prog 20 [.str s] (.str (quoteM s)):=by
 refine PC.of mixedU isU20 (Nat.le_of_ble_eq_true rfl) (by simp [DV.nlL,DV.nl,nlL_ints,nlL_strs,nlL_instrs,nlL_entries,nlL_stp]) (by simp [DV.nlL,DV.nl,nlL_ints,nlL_strs,nlL_instrs,nlL_entries,nlL_stp]) ?_
 show IW Tryd.prog 35 u20_1 ⟨argT _,_,_⟩ (rt [.tmp 2] _)
 repeat' ((with_reducible first|refine wr ?_|refine wb2 ?_ ?_<;>(intro hb;try simp only [hb])|fail)<;>try simp only [go_sem,seval])
 refine i_loop (fun q:Nat × Nat=>[(0,.str s),(3,.slc q.2 0 (qpre (s.take q.1)).length),(4,I64 q.1)]) (fun q=>Sym.nil.upd q.2 ⟨1,true,bytesC (qpre (s.take q.1))⟩)
  (fun q c=>q.1≤s.length∧q.2<c) (fun q=>s.length-q.1) (0,0) (by simp [tmLe,tm,Tm.upd,qpre]) (Sub.refl _) (by simp) ?_
 rintro ⟨k,id⟩ c ⟨hk,hid⟩
 simp only at hk hid
 simp only
 have hal:(qpre (s.take k)).length≤2 * k+1:=by
  have:=qpre_len (s.take k)
  rw [List.length_take] at this
  omega
 obtain ⟨acc,hacc⟩:∃ acc,acc=qpre (s.take k):=⟨_,rfl⟩
 rw [← hacc] at hal ⊢
 by_cases hlt:k<s.length
 ·have hd:decide ((k:Int)<s.length)=true:=by simpa using hlt
  have hg:=List.getElem?_eq_getElem hlt
  have hw:IntKind.i64.wrap ((k:Int)+1)=((k+1:Nat):Int):=by rw [w64 (by omega) (by omega)];omega
  have hA:∀ H c id,apB H c id 1 1 acc.length 1 [.int .u8 92] (some ⟨1,true,bytesC acc⟩)=some (.slc c 0 (acc.length+1),(H.del id).upd c ⟨1,true,bytesC (acc++[92])⟩,c+1):=fun H c id=>apb1 (x:=92) rfl (by omega)
  have hB:∀ H c id,apB H c id 1 1 (acc.length+1) 1 [.int .u8 (s[k].toNat:Int)] (some ⟨1,true,bytesC (acc++[92])⟩)=some (.slc c 0 (acc.length+1+1),(H.del id).upd c ⟨1,true,bytesC (acc++[92]++[s[k]])⟩,c+1):=fun H c id=>apb1 (by simp) (by omega)
  have hC:∀ H c id,apB H c id 1 1 acc.length 1 [.int .u8 (s[k].toNat:Int)] (some ⟨1,true,bytesC acc⟩)=some (.slc c 0 (acc.length+1),(H.del id).upd c ⟨1,true,bytesC (acc++[s[k]])⟩,c+1):=fun H c id=>apb1 rfl (by omega)
  have est:qpre (s.take (k+1))=acc++quB s[k]:=by rw [hacc,qpre_step hg]
  have ne0:=nes5 id c (c+1) (c+2) (c+3) (by omega)
  repeat' ((with_reducible first|refine wr ?_|refine wb2 ?_ ?_<;>(intro hb;try simp only [hb])|fail)<;>try simp only [go_sem,seval,hd,hg,hw,ne0,hA,hB,hC])
  ·have e2:quB s[k]=[92,s[k]]:=if_pos (.inl (bq_t (b:=34) hb))
   exact ⟨(k+1,c+1+1+1),⟨by simp only [est,e2,List.length_append];rfl,rfl⟩,sub_one (by simp only [est,e2,List.append_assoc];rfl),inv ⟨hlt,by simp only;omega⟩,by simp only;omega⟩
  ·have e2:quB s[k]=[92,s[k]]:=if_pos (.inr (bq_t (b:=92) hb))
   exact ⟨(k+1,c+1+1+1),⟨by simp only [est,e2,List.length_append];rfl,rfl⟩,sub_one (by simp only [est,e2,List.append_assoc];rfl),inv ⟨hlt,by simp only;omega⟩,by simp only;omega⟩
  ·have e2:quB s[k]=[s[k]]:=if_neg (fun h=>h.elim (bq_f (b:=34) (by assumption)) (bq_f (b:=92) hb))
   exact ⟨(k+1,c+1),⟨by simp only [est,e2,List.length_append];rfl,rfl⟩,sub_one (by simp only [est,e2]),inv ⟨hlt,by simp only;omega⟩,by simp only;omega⟩
 ·have hd:decide ((k:Int)<s.length)=false:=by simpa using hlt
  have hZ:∀ H c id,apB H c id 1 1 acc.length 1 [.int .u8 34] (some ⟨1,true,bytesC acc⟩)=some (.slc c 0 (acc.length+1),(H.del id).upd c ⟨1,true,bytesC (acc++[34])⟩,c+1):=fun H c id=>apb1 (x:=34) rfl (by omega)
  have ne0:=nes3 id c (c+1) (by omega)
  have hcv:∀ (H:Hp) u,cvbsR (H.upd (c+1) ⟨u,true,bytesC (acc++[34])⟩) (.slc (c+1) 0 (acc.length+1))=some (.str (acc++[34])):=fun H u=>cv_own h_same rfl (by simp)
  repeat' ((with_reducible first|refine wr ?_|refine wb2 ?_ ?_<;>(intro hb;try simp only [hb])|fail)<;>try simp only [go_sem,seval,hd,ne0,hZ,hcv])
  refine pc_ret ?_
  rw [hacc,List.take_of_length_le (by omega)];rfl
theorem c_OneR (t:Tok) (ht:Fit t):PC Tryd.prog 18 [t.v] (.str (oneT t)):=by
 refine PC.of mixedU isU18 (Nat.le_of_ble_eq_true rfl) (by simp [DV.nlL,DV.nl,nlL_ints,nlL_strs,nlL_instrs,nlL_entries,nlL_stp]) (by simp [DV.nlL,DV.nl,nlL_ints,nlL_strs,nlL_instrs,nlL_entries,nlL_stp]) ?_
 show IW Tryd.prog 21 u18_1 ⟨argT _,_,_⟩ (rt [.tmp 2] _)
 have hq:=c_QuoteR t.text ht.1
 have hd:=c_Dec' t.value ht.2.1 ht.2.2
 repeat' ((with_reducible first|refine wr ?_|refine cpc hq ?_|refine cpc hd ?_|refine wb2 ?_ ?_<;>(intro hb;try simp only [hb])|fail)<;>try simp only [go_sem,seval])
 all_goals (refine pc_ret (congrArg DV.str ?_);unfold oneT;simp_all)
theorem c_TextR (l:List Tok) (hl:l.length≤100000) (hx:∀ t∈l,Fit t):PC Tryd.prog 24 [toksV l] (.str (textM l)):=by
 refine PC.of mixedU isU24 (Nat.le_of_ble_eq_true rfl) (by simp only [DV.nlL,DV.nl,nlL_toks,Bool.and_true]) rfl ?_
 show IW Tryd.prog 23 u24_1 ⟨argT _,_,_⟩ (rt [.tmp 2] _)
 repeat' ((with_reducible first|refine wr ?_|refine wb2 ?_ ?_<;>(intro hb;try simp only [hb])|fail)<;>try simp only [go_sem,seval])
 refine i_loop (fun k:Nat=>[(0,toksV l),(3,.str (glueI spB 0 (l.take k))),(4,I64 k)]) (fun _=>nil) (fun k _=>k≤l.length) (fun k=>l.length-k) 0 (by simp [tmLe,tm,Tm.upd,glueI]) (Sub.nil _) (by simp) ?_
 rintro k c hk
 by_cases hlt:k<l.length
 ·have hd:decide ((k:Int)<l.length)=true:=by simpa using hlt
  have hg:=List.getElem?_eq_getElem hlt
  have hw:IntKind.i64.wrap ((k:Int)+1)=((k+1:Nat):Int):=by rw [w64 (by omega) (by omega)];omega
  have hst:=glue_step (sp:=spB) hg
  have hfit:=hx _ (List.getElem_mem hlt)
  have hal:(glueI spB 0 (l.take k)).length≤200025 * (l.take k).length:=textM_len (fun x hx'=>hx x (List.mem_of_mem_take hx'))
  rw [List.length_take] at hal
  obtain ⟨t,ht⟩:∃ t,t=l[k]:=⟨_,rfl⟩
  rw [← ht] at hg hst hfit
  obtain ⟨acc,hacc⟩:∃ acc,acc=glueI spB 0 (l.take k):=⟨_,rfl⟩
  rw [← hacc] at hst hal ⊢
  have h1:=c_OneR t hfit
  have h1l:=oneT_len hfit
  by_cases h0:k=0
  ·have hp:decide ((k:Int)>0)=false:=by simp;omega
   have a2:=sadd (s:=acc) (t:=oneT t) (by omega)
   repeat' ((with_reducible first|refine wr ?_|refine cpc h1 ?_|refine wb2 ?_ ?_<;>(intro hb;try simp only [hb])|fail)<;>try simp only [go_sem,seval,hd,hg,hw,hp,a2])
   exact ⟨k+1,⟨by rw [hst,spB,if_pos h0,List.append_nil],rfl⟩,Sub.nil _,inv hlt,by omega⟩
  ·have hp:decide ((k:Int)>0)=true:=by simp;omega
   have a1:=sadd (s:=acc) (t:=[32]) (by rw [List.length_singleton];omega)
   have a2:=sadd (s:=acc++[32]) (t:=oneT t) (by rw [List.length_append,List.length_singleton];omega)
   repeat' ((with_reducible first|refine wr ?_|refine cpc h1 ?_|refine wb2 ?_ ?_<;>(intro hb;try simp only [hb])|fail)<;>try simp only [go_sem,seval,hd,hg,hw,hp,a1,a2])
   exact ⟨k+1,⟨by rw [hst,spB,if_neg h0],rfl⟩,Sub.nil _,inv hlt,by omega⟩
 ·have hd:decide ((k:Int)<l.length)=false:=by simpa using hlt
  repeat' ((with_reducible first|refine wr ?_|refine wb2 ?_ ?_<;>(intro hb;try simp only [hb])|fail)<;>try simp only [go_sem,seval,hd])
  refine pc_ret ?_
  rw [List.take_of_length_le (by omega)];rfl
theorem c_Join (l:List (List UInt8)) (sp:List UInt8) (h1:l.length≤140737488355328) (h2:(Lib.join l sp).length≤140737488355328):PC Tryd.prog 36 [strs l,.str sp] (.str (Lib.join l sp)):=by
 refine PC.of_calls (by kernel_rfl) (by simp [DV.nlL,DV.nl,nlL_strs]) rfl fun ρ w vs hf hA=>?_
 obtain ⟨y,g1,g2⟩:=hA.get (i:=0) rfl
 obtain ⟨z,g3,g4⟩:=hA.get (i:=1) rfl
 obtain rfl:=g4.str_inv
 have hvs:vs = #[y,.string ⟨sp.toArray⟩]:=by
  have hs:vs.size=2:=hA.1.symm
  cases vs with|mk r=>match r,hs,g1,g3 with
   | [a,b],_,h1,h3=>simp at h1 h3;subst h1 h3;rfl
 rw [hvs]
 rcases g2.lst_inv with ⟨e0,e1|⟨a,c,e1⟩⟩|⟨u,b,off,c,row,e1,e2,e3,e4,e5,e6⟩
 ·subst e1
  have:l=[]:=by simpa using e0
  subst this
  refine (Tryd.strings_Join_none none 0 ⟨sp.toArray⟩ w).mono ?_
  rintro e w' ⟨rfl,rfl⟩
  exact ⟨_,rfl,fun ρ'=>.mkStr,Below.refl _ _⟩
 ·subst e1
  have:l=[]:=by simpa using e0
  subst this
  refine (Tryd.strings_Join_none (some a) c ⟨sp.toArray⟩ w).mono ?_
  rintro e w' ⟨rfl,rfl⟩
  exact ⟨_,rfl,fun ρ'=>.mkStr,Below.refl _ _⟩
 ·subst e1
  obtain ⟨e,fr,hb⟩:=hf b row e2
  obtain ⟨bs,hbs⟩:∃ bs:List ByteArray,bs=l.map fun s=>(⟨s.toArray⟩:ByteArray):=⟨_,rfl⟩
  have hL:(l.map DV.str).length=bs.length:=by rw [hbs];simp
  have hmap:bs.map (fun x=>x.data.toList)=l:=by
   rw [hbs,List.map_map]
   exact (List.map_congr_left fun s _=>rfl).trans (List.map_id l)
  have hmap2:bs.map (·.data.toList)=l:=hmap
  have p1:∀ (j:Nat) x,bs[j]? = some x→w.cell? ⟨b,off+j,none⟩=some (.string x):=by
   intro j x hx
   rw [hbs,List.getElem?_map] at hx
   obtain ⟨s,hs,rfl⟩:=Option.map_eq_some_iff.1 hx
   have hc:(cellsL (l.map DV.str))[j]? = some (DV.str s):=by rw [cellsL_map1 (fun _=>rfl),List.getElem?_map,hs];rfl
   obtain ⟨v,v1,v2⟩:=e6.get hc
   rw [v2.str_inv] at v1
   simp only [World.cell?,hb]
   exact v1
  have p2:b<w.heap.size:=(Array.getElem?_eq_some_iff.1 hb).1
  have p3:bs.length≤140737488355328:=by rw [hbs];simpa using h1
  have p4:bs.length≤c:=by rw [← hL];exact e3
  have p5:(Lib.join (bs.map (·.data.toList)) (⟨sp.toArray⟩:ByteArray).data.toList).length≤140737488355328:=by
   rw [hmap2];exact h2
  rw [hL]
  have key:=Tryd.strings_Join b off c bs ⟨sp.toArray⟩ w p1 p2 p3 p4 p5
  rw [hmap2] at key
  refine key.mono fun e w' hq=>⟨_,hq.1,fun ρ'=>?_,hq.2⟩
  exact .mkStr
theorem c_Text (l:List Tok) (hl:l.length≤100000) (hx:∀ t∈l,Fit t):PC Tryd.prog 23 [toksV l] (.str (textM l)):=by
 refine PC.of mixedU isU23 (Nat.le_of_ble_eq_true rfl) (by simp only [DV.nlL,DV.nl,nlL_toks,Bool.and_true]) rfl ?_
 show IW Tryd.prog 45 u23_1 ⟨argT _,_,_⟩ (rt [.tmp 2] _)
 have htl:=textM_len hx
 repeat' ((with_reducible first|refine wr ?_|refine wb2 ?_ ?_<;>(intro hb;try simp only [hb])|fail)<;>try simp only [go_sem,seval])
 refine i_loop (fun q:Nat × Option Nat=>[(3,todoV q.2 q.1),(6,toksV l),(7,I64 l.length),(8,I64 q.1)]) (fun q=>optH Sym.nil q.2 ⟨1,true,cellsL (((l.take q.1).map oneT).map DV.str)⟩)
  (fun q cc=>q.1≤l.length∧(q.2=none→q.1=0)∧∀ i,q.2=some i→i<cc) (fun q=>l.length-q.1) (0,none)
  (by simp [tmLe,tm,Tm.upd,todoV]) (Sub.nil _) ⟨by simp,by simp,by simp⟩ ?_
 rintro ⟨k,o⟩ c ⟨hk,hno,ho⟩
 simp only at hk hno ho
 simp only
 have hkl:((l.take k).map oneT).length=k:=by rw [List.length_map,List.length_take];omega
 by_cases hlt:k<l.length
 ·have hd:decide ((k:Int)<l.length)=true:=by simpa using hlt
  have hg:=List.getElem?_eq_getElem hlt
  have hw:IntKind.i64.wrap ((k:Int)+1)=((k+1:Nat):Int):=by rw [w64 (by omega) (by omega)];omega
  have hfit:=hx _ (List.getElem_mem hlt)
  have est:cellsL (((l.take (k+1)).map oneT).map DV.str)=cellsL (((l.take k).map oneT).map DV.str)++[DV.str (oneT l[k])]:=by
   rw [List.take_add_one,hg,Option.toList_some,List.map_append,List.map_append,cellsL_append];rfl
  obtain ⟨t,ht⟩:∃ t,t=l[k]:=⟨_,rfl⟩
  rw [← ht] at hg hfit est
  have h1:=c_Quote t.text hfit.1
  have h2:=c_Itoa t.value hfit.2.1 hfit.2.2
  obtain ⟨cs,hcs⟩:∃ cs,cs=cellsL (((l.take k).map oneT).map DV.str):=⟨_,rfl⟩
  have hcl:cs.length=k * 1:=by rw [hcs,strC_len,hkl]
  rw [← hcs] at est ⊢
  have hno2:o=none→k=0∧cs=[]:=fun e=>⟨hno e,by rw [hcs,hno e];rfl⟩
  have ne0:=nes3 c (c+1) (c+2) (by omega)
  repeat' ((with_reducible first|refine wr ?_|refine cpc h1 ?_|refine cpc h2 ?_|refine wb2 ?_ ?_<;>(intro hb;try simp only [hb])|fail)<;>try simp only [go_sem,seval,hd,hg,hw,ne0])
  all_goals
   refine k_eval (r_apptodo (cs:=cs) hno2 (fun i hi=>?_) hcl (by omega) (by omega) (by omega)) ?_
   ·have:=ho i hi
    rw [h_ne (by omega),h_ne (by omega),h_ne (by omega)]
    exact opt_at hi
   simp only [go_sem,seval,ne0,hw]
   repeat' ((with_reducible first|refine wr ?_|refine cpc h1 ?_|refine cpc h2 ?_|refine wb2 ?_ ?_<;>(intro hb;try simp only [hb])|fail)<;>try simp only [go_sem,seval,hd,hg,hw,ne0])
   exact ⟨(k+1,some (c+1+1)),⟨rfl,rfl⟩,sub_one (by simp only [est];exact congrArg (fun z=>(⟨1,true,cs++[DV.str z]⟩:Blk)) (by unfold oneT;simp_all)),inv ⟨hlt,by simp,fun i hi=>by cases hi;omega⟩,by simp only;omega⟩
 ·have hd:decide ((k:Int)<l.length)=false:=by simpa using hlt
  have hj:=c_Join (l.map oneT) [32] (by rw [List.length_map];omega) (by rw [text_join];omega)
  rw [text_join] at hj
  obtain rfl:k=l.length:=by omega
  rw [List.take_length] at hkl ⊢
  rcases o with _|id
  ·have hk0:=hno rfl
   have h00:l=[]:=List.eq_nil_of_length_eq_zero (by omega)
   repeat' ((with_reducible first|refine wr ?_|refine wb2 ?_ ?_<;>(intro hb;try simp only [hb])|fail)<;>try simp only [go_sem,seval,hd])
   refine AC.call (hj.give (H0:=Sym.nil) ⟨fun _ h=>h,fun ρ w vs h1 h2=>⟨ρ,rfl,h1,?_,Ext.refl _ _ _⟩⟩) ?_
   ·rw [h00]
    exact ⟨h2.1,fun i x y hx hy=>by
     match i with
     | 0=>cases hx;exact (h2.2 0 _ y rfl hy).snil_lst
     | 1=>cases hx;exact h2.2 1 _ y rfl hy
     | _+2=>cases hx⟩
   ·rintro v H' c' ⟨rfl,rfl,rfl⟩ -
    simp only [go_sem,seval]
    repeat' ((with_reducible first|refine wr ?_|refine wb2 ?_ ?_<;>(intro hb;try simp only [hb])|fail)<;>try simp only [go_sem,seval])
    exact pc_ret rfl
  ·repeat' ((with_reducible first|refine wr ?_|refine wb2 ?_ ?_<;>(intro hb;try simp only [hb])|fail)<;>try simp only [go_sem,seval,hd])
   refine AC.call (hj.give (H0:=Sym.nil) (GL.one (id:=id) h_same rfl (.cons _ _ _ _ (fz_slc (u:=1) (by rw [List.length_map,hkl]) (str_unit _) ⟨[],by simp⟩) (.cons _ _ _ _ (.same _) .nil)))) ?_
   rintro v H' c' ⟨rfl,rfl,rfl⟩ -
   simp only [go_sem,seval]
   repeat' ((with_reducible first|refine wr ?_|refine wb2 ?_ ?_<;>(intro hb;try simp only [hb])|fail)<;>try simp only [go_sem,seval])
   exact pc_ret rfl
theorem c_texts (l:List Tok) (hl:l.length≤9223372036854775807) (hv:∀ t∈l,I6 t.value):PC Tryd.prog 8 [toksV l] (.bool true):=by
 refine PC.of mixedU isU8 (Nat.le_of_ble_eq_true rfl) (by simp only [DV.nlL,DV.nl,nlL_toks,Bool.and_true]) rfl ?_
 show IW Tryd.prog 51 u8_1 ⟨argT _,_,_⟩ (rt [.tmp 2] _)
 have hsn:=c_sane
 by_cases h40:40<l.length
 ·have hd:decide ((l.length:Int)>40)=true:=by simp;omega
  repeat' ((with_reducible first|refine wr ?_|refine cpc hsn ?_|refine wb2 ?_ ?_<;>(intro hb;try simp only [hb])|fail)<;>try simp only [go_sem,seval,hd])
  exact pc_ret rfl
 have hd40:decide ((l.length:Int)>40)=false:=by simp;omega
 repeat' ((with_reducible first|refine wr ?_|refine cpc hsn ?_|refine wb2 ?_ ?_<;>(intro hb;try simp only [hb])|fail)<;>try simp only [go_sem,seval,hd40])
 refine i_loop (fun k:Nat=>[(0,toksV l),(3,I64 k)]) (fun _=>nil) (fun k _=>k≤l.length∧∀ t∈l.take k,t.text.length≤100) (fun k=>l.length-k) 0 (by simp [tmLe,tm,Tm.upd]) (Sub.nil _) (by simp) ?_
 rintro k c ⟨hk,he⟩
 by_cases hlt:k<l.length
 ·have hd:decide ((k:Int)<l.length)=true:=by simpa using hlt
  have hg:=List.getElem?_eq_getElem hlt
  have hw:IntKind.i64.wrap ((k:Int)+1)=((k+1:Nat):Int):=by rw [w64 (by omega) (by omega)];omega
  have htk:∀ P:Tok→Prop,(∀ t∈l.take k,P t)→P l[k]→∀ t∈l.take (k+1),P t:=by
   intro P h1 h2 t ht
   rw [List.take_add_one,hg,Option.toList_some] at ht
   rcases List.mem_append.1 ht with ht|ht
   ·exact h1 t ht
   ·rw [List.mem_singleton.1 ht];exact h2
  obtain ⟨t,ht⟩:∃ t,t=l[k]:=⟨_,rfl⟩
  rw [← ht] at hg htk
  by_cases h100:100<t.text.length
  ·have hx:decide ((t.text.length:Int)>100)=true:=by simp;omega
   repeat' ((with_reducible first|refine wr ?_|refine wb2 ?_ ?_<;>(intro hb;try simp only [hb])|fail)<;>try simp only [go_sem,seval,hd,hg,hw,hx])
   all_goals first|exact pc_ret rfl|skip
  ·have hx:decide ((t.text.length:Int)>100)=false:=by simp;omega
   have h1:=c_Quote t.text (by omega)
   have h2:=c_QuoteR t.text (by omega)
   repeat' ((with_reducible first|refine wr ?_|refine cpc h1 ?_|refine cpc h2 ?_|refine wb2 ?_ ?_<;>(intro hb;try simp only [hb])|fail)<;>try simp only [go_sem,seval,hd,hg,hw,hx])
   all_goals first|exact ⟨k+1,rfl,Sub.nil _,inv ⟨hlt,htk _ he (by omega)⟩,by omega⟩|skip
 ·have hd:decide ((k:Int)<l.length)=false:=by simpa using hlt
  rw [List.take_of_length_le (by omega)] at he
  have hfit:∀ t∈l,Fit t:=fun t ht=>⟨by have:=he t ht;omega,hv t ht⟩
  have h1:=c_Text l (by omega) hfit
  have h2:=c_TextR l (by omega) hfit
  repeat' ((with_reducible first|refine wr ?_|refine cpc h1 ?_|refine cpc h2 ?_|refine cpc hsn ?_|refine wb2 ?_ ?_<;>(intro hb;try simp only [hb])|fail)<;>try simp only [go_sem,seval,hd])
  exact pc_ret rfl
end Go.Proofs.YtibjoemdkeimfaaDoor
namespace Go.Pb
variable [Go.Sym.Tab]
open Go.Sym
theorem glue_scan_len {s:List UInt8} {sp:Nat→List UInt8} {m:Nat} (h:(scanM s).2.2=0) (hm:∀ i,(sp i).length≤m) (k:Nat):(glueI sp 0 ((scanM s).1.take k)).length≤(m+1) * s.length:=by
 obtain ⟨h1,h2⟩:=scanM_reads h
 have h3:=h2.len (skM_le false s)
 have h4:=glue_len hm ((scanM s).1.take k) 0
 have h5:((scanM s).1.take k).length≤s.length:=by rw [List.length_take];omega
 have h6:sumT ((scanM s).1.take k)≤sumT (scanM s).1:=by
  have e:=List.take_append_drop k (scanM s).1
  have:sumT (scanM s).1=sumT ((scanM s).1.take k)+sumT ((scanM s).1.drop k):=by
   conv=>lhs;rw [← e]
   simp only [sumT,List.map_append,List.sum_append]
  omega
 have h7:m * ((scanM s).1.take k).length≤m * s.length:=Nat.mul_le_mul_left _ h5
 have h8:(m+1) * s.length=m * s.length+s.length:=by rw [Nat.add_mul,Nat.one_mul]
 omega
theorem text_scan_len {s:List UInt8} (h:(scanM s).2.2=0):(textM (scanM s).1).length≤2 * s.length:=by
 have:=glue_scan_len h spB_len (scanM s).1.length
 rw [List.take_length] at this
 exact this
theorem sepS_len (seps:List UInt8) (i:Nat):(sepS seps i).length≤9:=(sep_all _ (sepI_lt seps i)).2.2
theorem unit_map {α : Type} {F : α → DV} {u:Nat} (h:∀ a,(F a).cells.length=u) (l:List α):unit u (l.map F)=true:=by
 unfold unit
 rw [List.all_eq_true]
 intro x hx
 obtain ⟨a, -,rfl⟩:=List.mem_map.1 hx
 simp [h a]
theorem slc_one {H:Hp} {l:List Tok} {k:Nat} {t:Tok} (h:l[k]? = some t):slcR H 4 (toksV l) (some (.int .i64 (k:Int))) (some (.int .i64 ((k+1:Nat):Int)))=some (toksV [t]):=by
 have hk:=(List.getElem?_eq_some_iff.1 h).1
 have b1:∀ (n k:Nat),boundOf n (some (.int .i64 (k:Int)))=some k:=fun n k=>by simp [boundOf]
 simp only [slcR,b1,List.length_map]
 rw [if_pos ⟨by omega,by omega,unit_map (F:=Tok.v) (u:=4) (fun _=>rfl) l⟩,show k+1-k=1 by omega, ← List.map_drop, ← List.map_take,drop_at h]
 rfl
end Go.Pb
namespace Go.Proofs.YtibjoemdkeimfaaDoor
open Go.Eng (IC IOper DReg IFn IsFn)
open Go.Sym Go.Pb
theorem c_back (l:List UInt8) (hl:l.length≤9223372036854775807) (s:List UInt8) (hs:s.length≤9223372036854775807):PC Tryd.prog 9 [.lst (bytesC l),.str s] (.bool true):=by
 refine PC.of mixedU isU9 (Nat.le_of_ble_eq_true rfl) (by simp only [DV.nlL,DV.nl,bytesC,Bool.and_true];exact nlL_map (fun _=>rfl) l) rfl ?_
 show IW Tryd.prog 49 u9_1 ⟨argT _,_,_⟩ (rt [.tmp 4] _)
 have hsn:=c_sane
 have hp:=c_Pieces l hl
 repeat' ((with_reducible first|refine wr ?_|refine wb2 ?_ ?_<;>(intro hb;try simp only [hb])|fail)<;>try simp only [go_sem,seval])
 refine i_loop (fun k:Nat=>[(0,.lst (bytesC l)),(1,.str s),(5,I64 k)]) (fun _=>nil) (fun k _=>k≤2) (fun k=>2-k) 0 (by simp [tmLe,tm,Tm.upd]) (Sub.nil _) (by simp) ?_
 rintro k c hk
 by_cases hlt:k<2
 ·have hd:decide ((k:Int)<2)=true:=by simp;omega
  have hw:IntKind.i64.wrap ((k:Int)+1)=((k+1:Nat):Int):=by rw [w64 (by omega) (by omega)];omega
  by_cases h1:k=1
  ·have e1:((k:Int) == 1)=true:=by simp [h1]
   obtain ⟨t,ht,htl⟩:∃ t,t=s∧t.length≤9223372036854775807:=⟨s,rfl,hs⟩
   by_cases hlen:1000<t.length
   ·have e2:decide ((t.length:Int)>1000)=true:=by simp;omega
    have e2':=e2
    rw [ht] at e2'
    repeat' ((with_reducible first|refine wr ?_|refine cpc hp ?_|refine wb2 ?_ ?_<;>(intro hb;try simp only [hb])|fail)<;>try simp only [go_sem,seval,hd,hw,e1,e2'])
    exact ⟨k+1,rfl,Sub.nil _,inv (by omega),by omega⟩
   ·have e2:decide ((t.length:Int)>1000)=false:=by simp;omega
    have hsc:=c_Scan t (by omega)
    by_cases he:(scanM t).2.2=0
    ·have e3:((scanM t).2.2 != 0)=false:=by simp [he]
     obtain ⟨r1,r2⟩:=scan_back he (by omega)
     have hxl:=scanM_len t
     have htx:=text_scan_len he
     have h2:=c_Text (scanM t).1 (by omega) (fun x hx=>(scan_ok he x hx).fit)
     have h3:=c_Scan (textM (scanM t).1) (by omega)
     have h4:=c_Same (scanM t).1 (scanM (textM (scanM t).1)).1 true (by omega) (by have:=scanM_len (textM (scanM t).1);omega)
     rw [r2] at h4
     have e4:((scanM (textM (scanM t).1)).2.2 != 0)=false:=by simp [r1]
     rw [ht] at e2 e3 e4 hsc h2 h3 h4
     repeat' ((with_reducible first|refine wr ?_|refine cpc hp ?_|refine cpc hsc ?_|refine cpc h2 ?_|refine cpc h3 ?_|refine cpc h4 ?_|refine wb2 ?_ ?_<;>(intro hb;try simp only [hb])|fail)<;>try simp only [go_sem,seval,hd,hw,e1,e2,e3,e4])
     exact ⟨k+1,rfl,Sub.nil _,inv (by omega),by omega⟩
    ·have e3:((scanM t).2.2 != 0)=true:=by simp [he]
     rw [ht] at e2 e3 hsc
     repeat' ((with_reducible first|refine wr ?_|refine cpc hp ?_|refine cpc hsc ?_|refine wb2 ?_ ?_<;>(intro hb;try simp only [hb])|fail)<;>try simp only [go_sem,seval,hd,hw,e1,e2,e3])
     exact ⟨k+1,rfl,Sub.nil _,inv (by omega),by omega⟩
  ·have e1:((k:Int) == 1)=false:=by simp;omega
   obtain ⟨t,ht,htl⟩:∃ t,t=piecesM l∧t.length≤9223372036854775807:=⟨_,rfl,by have:=piecesM_len l;omega⟩
   by_cases hlen:1000<t.length
   ·have e2:decide ((t.length:Int)>1000)=true:=by simp;omega
    have e2':=e2
    rw [ht] at e2'
    repeat' ((with_reducible first|refine wr ?_|refine cpc hp ?_|refine wb2 ?_ ?_<;>(intro hb;try simp only [hb])|fail)<;>try simp only [go_sem,seval,hd,hw,e1,e2'])
    exact ⟨k+1,rfl,Sub.nil _,inv (by omega),by omega⟩
   ·have e2:decide ((t.length:Int)>1000)=false:=by simp;omega
    have hsc:=c_Scan t (by omega)
    by_cases he:(scanM t).2.2=0
    ·have e3:((scanM t).2.2 != 0)=false:=by simp [he]
     obtain ⟨r1,r2⟩:=scan_back he (by omega)
     have hxl:=scanM_len t
     have htx:=text_scan_len he
     have h2:=c_Text (scanM t).1 (by omega) (fun x hx=>(scan_ok he x hx).fit)
     have h3:=c_Scan (textM (scanM t).1) (by omega)
     have h4:=c_Same (scanM t).1 (scanM (textM (scanM t).1)).1 true (by omega) (by have:=scanM_len (textM (scanM t).1);omega)
     rw [r2] at h4
     have e4:((scanM (textM (scanM t).1)).2.2 != 0)=false:=by simp [r1]
     rw [ht] at e2 e3 e4 hsc h2 h3 h4
     repeat' ((with_reducible first|refine wr ?_|refine cpc hp ?_|refine cpc hsc ?_|refine cpc h2 ?_|refine cpc h3 ?_|refine cpc h4 ?_|refine wb2 ?_ ?_<;>(intro hb;try simp only [hb])|fail)<;>try simp only [go_sem,seval,hd,hw,e1,e2,e3,e4])
     exact ⟨k+1,rfl,Sub.nil _,inv (by omega),by omega⟩
    ·have e3:((scanM t).2.2 != 0)=true:=by simp [he]
     rw [ht] at e2 e3 hsc
     repeat' ((with_reducible first|refine wr ?_|refine cpc hp ?_|refine cpc hsc ?_|refine wb2 ?_ ?_<;>(intro hb;try simp only [hb])|fail)<;>try simp only [go_sem,seval,hd,hw,e1,e2,e3])
     exact ⟨k+1,rfl,Sub.nil _,inv (by omega),by omega⟩
 ·have hd:decide ((k:Int)<2)=false:=by simp;omega
  repeat' ((with_reducible first|refine wr ?_|refine cpc hsn ?_|refine wb2 ?_ ?_<;>(intro hb;try simp only [hb])|fail)<;>try simp only [go_sem,seval,hd])
  exact pc_ret rfl
theorem c_seps (l:List UInt8) (hl:l.length≤9223372036854775807) (seps:List UInt8) (hs:seps.length≤9223372036854775807):PC Tryd.prog 5 [.lst (bytesC l),.lst (bytesC seps)] (.bool true):=by
 refine PC.of mixedU isU5 (Nat.le_of_ble_eq_true rfl) (by simp only [DV.nlL,DV.nl,bytesC,Bool.and_true,Bool.and_eq_true];exact ⟨nlL_map (fun _=>rfl) l,nlL_map (fun _=>rfl) seps⟩) rfl ?_
 show IW Tryd.prog 68 u5_1 ⟨argT _,_,_⟩ (rt [.tmp 4] _)
 have hsn:=c_sane
 have hp:=c_Pieces l hl
 have htl:=piecesM_len l
 obtain ⟨t,ht⟩:∃ t,t=piecesM l:=⟨_,rfl⟩
 rw [← ht] at hp htl
 have hsc:=c_Scan t (by omega)
 by_cases he:(scanM t).2.2=0
 ·have e2:((scanM t).2.2 != 0)=false:=by simp [he]
  obtain ⟨r1,r2⟩:=scan_seps seps he htl
  have hgl:=fun k=>glue_scan_len he (sepS_len seps) k
  have hfit:∀ x∈(scanM t).1,Fit x:=fun x hx=>(scan_ok he x hx).fit
  have hxl:=scanM_len t
  repeat' ((with_reducible first|refine wr ?_|refine cpc hp ?_|refine cpc hsc ?_|refine wb2 ?_ ?_<;>(intro hb;try simp only [hb])|fail)<;>try simp only [go_sem,seval,e2])
  clear hsc e2 he
  obtain ⟨x,hx⟩:∃ x,x=(scanM t).1:=⟨_,rfl⟩
  rw [← hx] at r1 r2 hfit hxl hgl ⊢
  refine i_loop (fun k:Nat=>[(1,.lst (bytesC seps)),(5,toksV x),(8,.str (glueI (sepS seps) 0 (x.take k))),(9,I64 k)]) (fun _=>nil) (fun k _=>k≤x.length) (fun k=>x.length-k) 0 (by simp [tmLe,tm,Tm.upd,glueI]) (Sub.nil _) (by simp) ?_
  rintro k c hk
  by_cases hlt:k<x.length
  ·have hd:decide ((k:Int)<x.length)=true:=by simpa using hlt
   have hg:=List.getElem?_eq_getElem hlt
   have hw:IntKind.i64.wrap ((k:Int)+1)=((k+1:Nat):Int):=by rw [w64 (by omega) (by omega)];omega
   have hst:=glue_step (sp:=sepS seps) hg
   have hgk:=hgl (k+1)
   have hfk:=hfit _ (List.getElem_mem hlt)
   rw [hst] at hgk
   obtain ⟨a,ha⟩:∃ a,a=x[k]:=⟨_,rfl⟩
   rw [← ha] at hg hst hgk hfk
   obtain ⟨acc,hacc⟩:∃ acc,acc=glueI (sepS seps) 0 (x.take k):=⟨_,rfl⟩
   rw [← hacc] at hst hgk ⊢
   have h1:=c_OneR a hfk
   have hm:=sepI_lt seps k
   have hrd:∀ m:Nat,m<5→([DV.str [32],DV.str [10,9,32],DV.str [35,32,110,111,116,101,32,34,10],DV.str [13],DV.str [32,35,10,10]]:List DV)[m]? = some (.str (sepL.getD m [])):=by
    intro m hm
    match m,hm with
    | 0,_=>rfl
    | 1,_=>rfl
    | 2,_=>rfl
    | 3,_=>rfl
    | 4,_=>rfl
   rw [List.length_append,List.length_append] at hgk
   have a1:=sadd (s:=acc) (t:=sepS seps k) (by omega)
   have a2:=sadd (s:=acc++sepS seps k) (t:=oneT a) (by rw [List.length_append];omega)
   have hbl:(bytesC seps).length=seps.length:=bytesC_len seps
   have hz:∀ (b:Blk) (j:Nat),¬ j=c+1→(Sym.nil.upd (c+1) b) j=none:=fun b j h=>by rw [h_ne h];rfl
   by_cases hi:k<seps.length
   ·have hdi:decide ((k:Int)<seps.length)=true:=by simpa using hi
    have hgb:(bytesC seps)[k]? = some (.int .u8 (seps[k].toNat:Int)):=by rw [bytesC,List.getElem?_map,List.getElem?_eq_getElem hi];rfl
    have hsi:sepI seps k=seps[k].toNat % 5:=by unfold sepI;rw [if_pos hi,List.getD_eq_getElem?_getD,List.getElem?_eq_getElem hi];rfl
    obtain ⟨b,hb⟩:∃ b,b=seps[k]:=⟨_,rfl⟩
    rw [← hb] at hgb hsi
    have hbt:=b.toNat_lt
    have hwb:IntKind.i64.wrap (b.toNat:Int)=(b.toNat:Int):=w64 (by omega) (by omega)
    have hrem:binR .rem (.int .i64 (b.toNat:Int)) (.int .i64 5)=some (.int .i64 ((sepI seps k:Nat):Int)):=by rw [r_rem (by omega),hsi];exact congrArg (fun x=>some (DV.int .i64 x)) (Int.ofNat_tmod _ _).symm
    have hr:=hrd (sepI seps k) hm
    rw [show sepL.getD (sepI seps k) []=sepS seps k from rfl] at hr
    repeat' ((with_reducible first|refine wr ?_|refine cpc h1 ?_|refine wb2 ?_ ?_<;>(intro hb;try simp only [hb])|fail)<;>try simp only [go_sem,seval,hd,hg,hw,hdi,hgb,hbl,hwb,hrem,hr,hm,a1,a2,hz])
    refine ⟨?_,?_⟩
    ·rw [ag_n]
     exact ⟨hz _ _ (by omega),⟨some 5,_,rfl,rfl,by rw [h_same];rfl⟩,hz _ _ (by omega),hz _ _ (by omega),hz _ _ (by omega),hz _ _ (by omega)⟩
    ·repeat' ((with_reducible first|refine wr ?_|refine wb2 ?_ ?_<;>(intro hb;try simp only [hb])|fail)<;>try simp only [go_sem,seval,hd,hg,hw])
     exact ⟨k+1,⟨by rw [hst],rfl⟩,Sub.nil _,inv hlt,by omega⟩
   ·have hdi:decide ((k:Int)<seps.length)=false:=by simpa using hi
    have hs0:sepS seps k=[32]:=by unfold sepS sepI;rw [if_neg hi];rfl
    rw [hs0] at a1 a2 hst
    repeat' ((with_reducible first|refine wr ?_|refine cpc h1 ?_|refine wb2 ?_ ?_<;>(intro hb;try simp only [hb])|fail)<;>try simp only [go_sem,seval,hd,hg,hw,hdi,hbl,a1,a2,hz])
    refine ⟨?_,?_⟩
    ·rw [ag_n]
     exact ⟨hz _ _ (by omega),⟨some 5,_,rfl,rfl,by rw [h_same];rfl⟩,hz _ _ (by omega),hz _ _ (by omega),hz _ _ (by omega),hz _ _ (by omega)⟩
    ·repeat' ((with_reducible first|refine wr ?_|refine wb2 ?_ ?_<;>(intro hb;try simp only [hb])|fail)<;>try simp only [go_sem,seval,hd,hg,hw])
     exact ⟨k+1,⟨by rw [hst],rfl⟩,Sub.nil _,inv hlt,by omega⟩
  ·have hd:decide ((k:Int)<x.length)=false:=by simpa using hlt
   rw [List.take_of_length_le (by omega)]
   have hgk:=hgl x.length
   rw [List.take_length] at hgk
   have h2:=c_Scan (glueI (sepS seps) 0 x) (by omega)
   have h3:=c_Same x (scanM (glueI (sepS seps) 0 x)).1 true (by omega) (by have:=scanM_len (glueI (sepS seps) 0 x);omega)
   rw [r2] at h3
   have e3:((scanM (glueI (sepS seps) 0 x)).2.2 == 0)=true:=by simp [r1]
   repeat' ((with_reducible first|refine wr ?_|refine cpc h2 ?_|refine cpc h3 ?_|refine cpc hsn ?_|refine wb2 ?_ ?_<;>(intro hb;try simp only [hb])|fail)<;>try simp only [go_sem,seval,hd,e3])
   exact pc_ret rfl
 ·have e2:((scanM t).2.2 != 0)=true:=by simp [he]
  repeat' ((with_reducible first|refine wr ?_|refine cpc hp ?_|refine cpc hsc ?_|refine cpc hsn ?_|refine wb2 ?_ ?_<;>(intro hb;try simp only [hb])|fail)<;>try simp only [go_sem,seval,e2])
  exact pc_ret rfl
theorem c_spans (l:List UInt8) (hl:l.length≤9223372036854775807):PC Tryd.prog 6 [.lst (bytesC l)] (.bool true):=by
 refine PC.of mixedU isU6 (Nat.le_of_ble_eq_true rfl) (by simp only [DV.nlL,DV.nl,bytesC,Bool.and_true];exact nlL_map (fun _=>rfl) l) rfl ?_
 show IW Tryd.prog 89 u6_1 ⟨argT _,_,_⟩ (rt [.tmp 2] _)
 have hsn:=c_sane
 have hp:=c_Pieces l hl
 have htl:=piecesM_len l
 obtain ⟨s,hs⟩:∃ s,s=piecesM l:=⟨_,rfl⟩
 rw [← hs] at hp htl
 have hsc:=c_Scan s (by omega)
 by_cases he:(scanM s).2.2=0
 ·have e2:((scanM s).2.2 != 0)=false:=by simp [he]
  have hrd:=(scanM_reads he).2
  have hxl:=scanM_len s
  repeat' ((with_reducible first|refine wr ?_|refine cpc hp ?_|refine cpc hsc ?_|refine wb2 ?_ ?_<;>(intro hb;try simp only [hb])|fail)<;>try simp only [go_sem,seval,e2])
  clear hsc e2 he
  obtain ⟨x,hx⟩:∃ x,x=(scanM s).1:=⟨_,rfl⟩
  rw [← hx] at hrd hxl ⊢
  refine i_loop (fun k:Nat=>[(3,.str s),(4,toksV x),(7,I64 k)]) (fun _=>nil) (fun k _=>k≤x.length) (fun k=>x.length-k) 0 (by simp [tmLe,tm,Tm.upd]) (Sub.nil _) (by simp) ?_
  rintro k c hk
  by_cases hlt:k<x.length
  ·have hd:decide ((k:Int)<x.length)=true:=by simpa using hlt
   have hg:=List.getElem?_eq_getElem hlt
   have hw:IntKind.i64.wrap ((k:Int)+1)=((k+1:Nat):Int):=by rw [w64 (by omega) (by omega)];omega
   obtain ⟨a,ha⟩:∃ a,a=x[k]:=⟨_,rfl⟩
   rw [← ha] at hg
   obtain ⟨p,q1,q2,q3,q4,q5,q6⟩:=hrd.at (skM_le false s) hg
   have hone:=scan_one (q:=s.drop p) (by rw [List.length_drop];omega) q1
   have hsl:=slx_take (s:=s) q3
   have hsc1:=fun H:Hp=>slc_one (H:=H) (l:=x) hg
   obtain ⟨m,hm⟩:∃ m,m=(nextM' (s.drop p)).n+skM false ((s.drop p).drop (nextM' (s.drop p)).n):=⟨_,rfl⟩
   rw [← hm] at q3 q5 q6 hone hsl
   have hap:a.pos=(p:Int):=by rw [q2];rfl
   have hm1:1≤m:=by omega
   obtain ⟨u,hu⟩:∃ u,u=(s.drop p).take m:=⟨_,rfl⟩
   rw [← hu] at hone hsl
   have hul:u.length≤s.length:=by rw [hu,List.length_take,List.length_drop];omega
   have h2:=c_Scan u (by omega)
   rw [hone] at h2
   have h2:PC Tryd.prog 17 [.str u] (.tup [toksV [nxT (nextM' (s.drop p)) 0],I64 0,I64 0]):=h2
   have h3:=c_Same [nxT (nextM' (s.drop p)) 0] [a] true (by simp) (by simp)
   have hsm:sameL true [nxT (nextM' (s.drop p)) 0] [a]=true:=by rw [q2];simp [sameL,tokEq,nxT]
   rw [hsm] at h3
   obtain ⟨b,hb⟩:∃ b,b=[nxT (nextM' (s.drop p)) 0]:=⟨_,rfl⟩
   rw [← hb] at h2 h3
   have t1:decide ((p:Int)<0)=false:=by simp
   have t2:decide ((p:Int)≥((p+m:Nat):Int))=false:=by simp;omega
   have t3:decide (((p+m:Nat):Int)>s.length)=false:=by simp;omega
   by_cases hnx:k+1<x.length
   ·have hd1:decide (((k+1:Nat):Int)<x.length)=true:=by simp;omega
    have hg1:=List.getElem?_eq_getElem hnx
    have q7:=q5 _ hg1
    obtain ⟨a1,ha1⟩:∃ a1,a1=x[k+1]:=⟨_,rfl⟩
    rw [← ha1] at hg1 q7
    repeat' ((with_reducible first|refine wr ?_|refine cpc h2 ?_|refine cpc h3 ?_|refine wb2 ?_ ?_<;>(intro hb;try simp only [hb])|fail)<;>try simp only [go_sem,seval,hd,hg,hw,hd1,hg1,q7,hap,t1,t2,t3,hsl,hsc1])
    exact ⟨k+1,rfl,Sub.nil _,inv hlt,by omega⟩
   ·have hd1:decide (((k+1:Nat):Int)<x.length)=false:=by simp;omega
    have q7:=q6 (by omega)
    have q8:(s.length:Int)=((p+m:Nat):Int):=by rw [q7]
    have t4:decide (((p+m:Nat):Int)>((p+m:Nat):Int))=false:=by simp
    repeat' ((with_reducible first|refine wr ?_|refine cpc h2 ?_|refine cpc h3 ?_|refine wb2 ?_ ?_<;>(intro hb;try simp only [hb])|fail)<;>try simp only [go_sem,seval,hd,hg,hw,hd1,q8,t4,hap,t1,t2,t3,hsl,hsc1])
    exact ⟨k+1,rfl,Sub.nil _,inv hlt,by omega⟩
  ·have hd:decide ((k:Int)<x.length)=false:=by simpa using hlt
   repeat' ((with_reducible first|refine wr ?_|refine cpc hsn ?_|refine wb2 ?_ ?_<;>(intro hb;try simp only [hb])|fail)<;>try simp only [go_sem,seval,hd])
   exact pc_ret rfl
 ·have e2:((scanM s).2.2 != 0)=true:=by simp [he]
  repeat' ((with_reducible first|refine wr ?_|refine cpc hp ?_|refine cpc hsc ?_|refine cpc hsn ?_|refine wb2 ?_ ?_<;>(intro hb;try simp only [hb])|fail)<;>try simp only [go_sem,seval,e2])
  exact pc_ret rfl
end Go.Proofs.YtibjoemdkeimfaaDoor
namespace Go.Proofs.YtibjoemdkeimfaaDoor
open Go.Eng (IC IOper DReg IFn IsFn)
open Go.Sym Go.Pb
theorem c_scanLaw (s:List UInt8) (hs:s.length≤9223372036854775807) (l:List UInt8) (hl:l.length≤9223372036854775807):PC Tryd.prog 3 [.str s,.lst (bytesC l)] (.bool true):=by
 refine PC.of mixedU isU3 (Nat.le_of_ble_eq_true rfl) (by simp only [DV.nlL,DV.nl,bytesC,Bool.and_true];exact nlL_map (fun _=>rfl) l) rfl ?_
 show IW Tryd.prog 20 u3_1 ⟨argT _,_,_⟩ (rt [.tmp 4] _)
 have hsn:=c_sane
 have hp:=c_Pieces l hl
 have hpl:=piecesM_len l
 have hsc:=c_scans (piecesM l) (by omega)
 by_cases h400:400<s.length
 ·have hd:decide ((s.length:Int)>400)=true:=by simp;omega
  repeat' ((with_reducible first|refine wr ?_|refine cpc hp ?_|refine cpc hsc ?_|refine cpc hsn ?_|refine wb2 ?_ ?_<;>(intro hb;try simp only [hb])|fail)<;>try simp only [go_sem,seval,hd])
  exact pc_ret rfl
 ·have hd:decide ((s.length:Int)>400)=false:=by simp;omega
  have h1:=c_scans s (by omega)
  repeat' ((with_reducible first|refine wr ?_|refine cpc h1 ?_|refine cpc hp ?_|refine cpc hsc ?_|refine cpc hsn ?_|refine wb2 ?_ ?_<;>(intro hb;try simp only [hb])|fail)<;>try simp only [go_sem,seval,hd])
  exact pc_ret rfl
end Go.Proofs.YtibjoemdkeimfaaDoor
namespace Go.Pb
variable [Go.Sym.Tab]
open Go.Sym
def repB (m:Nat) (x:UInt8):List UInt8:=List.replicate m x
def fillB (m k:Nat) (x:UInt8):List UInt8:=List.replicate k x++List.replicate (m-k) 0
theorem repB_len (m:Nat) (x:UInt8):(repB m x).length=m:=List.length_replicate ..
theorem fillB_len {m k:Nat} (h:k≤m) (x:UInt8):(fillB m k x).length=m:=by simp [fillB];omega
theorem fillB_zero (m:Nat) (x:UInt8):fillB m 0 x=repB m 0:=by simp [fillB,repB]
theorem fillB_full (m:Nat) (x:UInt8):fillB m m x=repB m x:=by simp [fillB,repB]
theorem fillB_set {m k:Nat} (h:k<m) (x:UInt8):(fillB m k x).set k x=fillB m (k+1) x:=by
 unfold fillB
 obtain ⟨j,hj⟩:∃ j,m-k=j+1:=⟨m-k-1,by omega⟩
 rw [hj,show m-(k+1)=j by omega,List.set_append_right _ _ (by simp),List.length_replicate,Nat.sub_self,List.replicate_succ,List.set_cons_zero,List.replicate_succ',List.append_assoc]
 rfl
theorem made_rep (m:Nat):madeL [DV.int .u8 0] m=bytesC (repB m 0):=by
 unfold madeL repB bytesC
 rw [List.map_replicate]
 induction m with
 | zero=>rfl
 | succ m ih=>rw [List.replicate_succ,List.flatten_cons,ih];rfl
theorem spn_rep {p:UInt8→Bool} {x:UInt8} (h:p x=true):∀ m,spnM p (repB m x)=m
 | 0=>rfl
 | m+1=>by
  have ih:=spn_rep h m
  show spnM p (x :: repB m x)=m+1
  simp only [spnM]
  rw [if_pos h,ih]
theorem scan_bad {s:List UInt8} (h0:s.length≤20000) (h1:skM false s<s.length) (h2:(nextM' (s.drop (skM false s))).err≠0):scanM s=([],(skM false s:Int),(nextM' (s.drop (skM false s))).err):=by
 unfold scanM
 rw [if_neg (by omega),scanT,if_neg (by omega),if_pos h2]
theorem scan_good {s:List UInt8} (h0:s.length≤20000) (h2:(nextM' (s.drop (skM false s))).err=0) (h3:s.length≤skM false s+(nextM' (s.drop (skM false s))).n):scanM s=([nxT (nextM' (s.drop (skM false s))) (skM false s:Nat)],0,0):=by
 have hn:=nextM_n h2
 rw [List.length_drop] at hn
 refine reads_scanM h0 ⟨by omega,h2,rfl,?_⟩
 show s.length≤_
 omega
theorem lim_name {b:UInt8} (hb:ltB b=true) {m:Nat} (h1:1≤m) (hm:m≤100) :
  (12<m→scanM ([32]++repB m b)=([],1,9))∧(m≤12→(scanM ([32]++repB m b)).2.2=0):=by
 obtain ⟨k,rfl⟩:∃ k,m=k+1:=⟨m-1,by omega⟩
 have hpt:ptB b=true:=by simp [ptB,hb]
 have hsp:=spn_rep (p:=ptB) hpt (k+1)
 have hc:repB (k+1) b=b :: repB k b:=rfl
 have he:¬ endB b=true:=fun h=>by rw [end_lt h] at hb;cases hb
 have he2:sepB b=false∧¬ b.toNat=35:=by simpa [endB] using he
 have hsk:skM false ([32]++repB (k+1) b)=1:=by
  show skM false (32 :: b :: repB k b)=1
  simp only [skM]
  rw [if_pos (by decide),if_neg (by rw [he2.1];simp),if_neg he2.2]
 have hd:([32]++repB (k+1) b).drop 1=b :: repB k b:=rfl
 have hl:([32]++repB (k+1) b).length=k+2:=by rw [List.length_append,repB_len];simp;omega
 rw [hc] at hsp
 constructor
 ·intro h
  have hn:nextM' (b :: repB k b)=nxE 9:=by rw [nextM',if_pos hb,hsp,if_pos h]
  rw [scan_bad (by omega) (by omega) (by rw [hsk,hd,hn];decide),hsk,hd,hn];rfl
 ·intro h
  have hn:(nextM' (b :: repB k b)).err=0∧(nextM' (b :: repB k b)).n=k+1:=by
   rw [nextM',if_pos hb,hsp,if_neg (by omega)];exact ⟨rfl,rfl⟩
  rw [scan_good (by omega) (by rw [hsk,hd];exact hn.1) (by rw [hsk,hd,hn.2];omega)]
theorem qu_all (r:List UInt8):∀ t:List UInt8,(∀ c∈t,32≤c.toNat∧c.toNat≤126)→quM (t.flatMap quB++34 :: r)=some (t,(t.flatMap quB).length+1)
 | [],_=>by rw [List.flatMap_nil,List.nil_append,quM_cons,if_pos (by rfl)];rfl
 | c :: t,h=>by
  have ih:=qu_all r t fun x hx=>h x (List.mem_cons_of_mem _ hx)
  have hc:=h c List.mem_cons_self
  rw [List.flatMap_cons]
  unfold quB
  split
  ·rename_i hq
   simp only [List.cons_append,List.nil_append]
   rw [quM_cons,if_neg (by decide),if_neg (by decide),if_pos (by rfl)]
   simp only
   have ih:quM (t.flatMap quB++34 :: r)=some (t,(t.flatMap quB).length+1):=ih
   unfold quB at ih
   rw [if_pos hq,ih]
   rfl
  ·rename_i hq
   simp only [List.cons_append,List.nil_append]
   have ih:quM (t.flatMap quB++34 :: r)=some (t,(t.flatMap quB).length+1):=ih
   unfold quB at ih
   rw [quM_cons,if_neg (by omega),if_neg (by omega),if_neg (by omega),ih]
   rfl
theorem lim_str {b:UInt8} (h1:32≤b.toNat) (h2:b.toNat≤126) {m:Nat} (hm:m≤100) :
  (32<m→(scanM (quoteM (repB m b))).2.2=9)∧(m≤32→scanM (quoteM (repB m b))=([⟨4,repB m b,0,0⟩],0,0)):=by
 have hq:=qu_all [] (repB m b) fun c hc=>by
  have:=List.eq_of_mem_replicate hc
  subst this;exact ⟨h1,h2⟩
 have hl:=quote_len (repB m b)
 rw [repB_len] at hl
 have hc:quoteM (repB m b)=34 :: ((repB m b).flatMap quB++[34]):=rfl
 have hn:nextM' (34 :: ((repB m b).flatMap quB++[34]))=if 32<m then nxE 9 else ⟨4,repB m b,0,((repB m b).flatMap quB).length+1+1,0⟩:=by
  rw [nextM',if_neg (by decide),if_neg (by decide),if_pos (by rfl),hq]
  simp only [repB_len]
 have hsk:skM false (34 :: ((repB m b).flatMap quB++[34]))=0:=by simp only [skM];rw [if_neg (by decide),if_neg (by decide)]
 rw [hc] at hl ⊢
 constructor
 ·intro h
  rw [if_pos h] at hn
  rw [scan_bad (by omega) (by rw [hsk];simp) (by rw [hsk,List.drop_zero,hn];decide),hsk,List.drop_zero,hn];rfl
 ·intro h
  rw [if_neg (by omega)] at hn
  rw [scan_good (by omega) (by rw [hsk,List.drop_zero,hn]) (by rw [hsk,List.drop_zero,hn];simp),hsk,List.drop_zero,hn];rfl
theorem sk_rep:∀ m,skM false (repB m 32)=m
 | 0=>rfl
 | m+1=>by
  have ih:=sk_rep m
  show skM false (32 :: repB m 32)=m+1
  simp only [skM]
  rw [if_pos (by decide),ih]
theorem lim_long {m:Nat}:(20000<m→(scanM (repB m 32)).2.2=9)∧(m≤20000→(scanM (repB m 32)).2.2=0):=by
 constructor
 ·intro h
  unfold scanM
  rw [if_pos (by rw [repB_len];exact h)]
 ·intro h
  have:Reads (repB m 32) (skM false (repB m 32)) []:=by
   show (repB m 32).length≤_
   rw [repB_len,sk_rep];exact Nat.le_refl _
  rw [reads_scanM (by rw [repB_len];exact h) this]
theorem lim_num0:scanM (decI 2147483646)=([⟨3,[],2147483646,0⟩],0,0):=by
 have:decI 2147483646=[50,49,52,55,52,56,51,54,52,54]:=by unfold decI;simp [decB_ge,decB_lt,digB]
 rw [this];decide +kernel
theorem lim_num1:scanM (decI 2147483647)=([⟨3,[],2147483647,0⟩],0,0):=by
 have:decI 2147483647=[50,49,52,55,52,56,51,54,52,55]:=by unfold decI;simp [decB_ge,decB_lt,digB]
 rw [this];decide +kernel
theorem lim_num2:(scanM (decI 2147483648)).2.2=5:=by
 have:decI 2147483648=[50,49,52,55,52,56,51,54,52,56]:=by unfold decI;simp [decB_ge,decB_lt,digB]
 rw [this];decide +kernel
end Go.Pb
namespace Go.Pb
variable [Go.Sym.Tab]
open Go.Sym
def mem3 (a b c:Blk):Hp:=((Sym.nil.upd 2 a).upd 5 b).upd 8 c
theorem mem3_2 {a b c:Blk}:mem3 a b c 2=some a:=rfl
theorem mem3_5 {a b c:Blk}:mem3 a b c 5=some b:=rfl
theorem mem3_8 {a b c:Blk}:mem3 a b c 8=some c:=rfl
theorem mem3_u2 {a b c d:Blk}:(mem3 a b c).upd 2 d=mem3 d b c:=by
 funext i;simp only [mem3,Hp.upd];repeat' split
 all_goals first|rfl|omega
theorem mem3_u5 {a b c d:Blk}:(mem3 a b c).upd 5 d=mem3 a d c:=by
 funext i;simp only [mem3,Hp.upd];repeat' split
 all_goals first|rfl|omega
theorem mem3_u8 {a b c d:Blk}:(mem3 a b c).upd 8 d=mem3 a b d:=by
 funext i;simp only [mem3,Hp.upd];repeat' split
 all_goals first|rfl|omega
abbrev fB (m k:Nat) (x:UInt8):Blk:=⟨1,true,bytesC (fillB m k x)⟩
theorem fill_put {m k:Nat} (h:k<m) (x:UInt8):(bytesC (fillB m k x)).take k++[DV.int .u8 (x.toNat:Int)]++(bytesC (fillB m k x)).drop (k+1)=bytesC (fillB m (k+1) x):=by
 rw [← fillB_set h x]
 have hl:=fillB_len (Nat.le_of_lt h) x
 generalize fillB m k x=l at *
 unfold bytesC
 rw [List.map_set,List.set_eq_take_append_cons_drop,if_pos (by rw [List.length_map];omega)]
 simp
end Go.Pb
namespace Go.Proofs.YtibjoemdkeimfaaDoor
open Go.Eng (IC IOper DReg IFn IsFn)
open Go.Sym Go.Pb
theorem c_limits (n c:UInt8):PC Tryd.prog 7 [.int .u8 n.toNat,.int .u8 c.toNat] (.bool true):=by
 have hsn:=c_sane
 obtain ⟨j,hj,hj3⟩:∃ j,j=n.toNat % 3∧j<3:=⟨_,rfl,by omega⟩
 have r1:binR .rem (.int .u8 (n.toNat:Int)) (.int .u8 3)=some (.int .u8 (j:Int)):=by rw [r_rem (by omega),hj];exact congrArg (fun x=>some (DV.int .u8 x)) (Int.ofNat_tmod _ _).symm
 have w1:IntKind.i64.wrap (j:Int)=(j:Int):=w64 (by omega) (by omega)
 have w2:IntKind.i64.wrap ((j:Int)-1)=(j:Int)-1:=w64 (by omega) (by omega)
 have r2:binR .rem (.int .u8 (c.toNat:Int)) (.int .u8 26)=some (.int .u8 ((c.toNat % 26:Nat):Int)):=by rw [r_rem (by omega)];exact congrArg (fun x=>some (DV.int .u8 x)) (Int.ofNat_tmod _ _).symm
 have r3:binR .rem (.int .u8 (c.toNat:Int)) (.int .u8 95)=some (.int .u8 ((c.toNat % 95:Nat):Int)):=by rw [r_rem (by omega)];exact congrArg (fun x=>some (DV.int .u8 x)) (Int.ofNat_tmod _ _).symm
 obtain ⟨b,hb⟩:∃ b:UInt8,b.toNat=97+c.toNat % 26:=⟨UInt8.ofNat (97+c.toNat % 26),by simp;omega⟩
 obtain ⟨ch,hch⟩:∃ b:UInt8,b.toNat=32+c.toNat % 95:=⟨UInt8.ofNat (32+c.toNat % 95),by simp;omega⟩
 have w3:IntKind.u8.wrap (97+((c.toNat % 26:Nat):Int))=(b.toNat:Int):=by rw [wu8 (by omega) (by omega),hb];omega
 have w4:IntKind.u8.wrap (32+((c.toNat % 95:Nat):Int))=(ch.toNat:Int):=by rw [wu8 (by omega) (by omega),hch];omega
 have hlb:ltB b=true:=by simp [ltB];omega
 obtain ⟨m1,hm1⟩:∃ m,m=11+j:=⟨_,rfl⟩
 obtain ⟨m2,hm2⟩:∃ m,m=31+j:=⟨_,rfl⟩
 obtain ⟨m3,hm3⟩:∃ m,m=19999+j:=⟨_,rfl⟩
 have w5:IntKind.i64.wrap (12+((j:Int)-1))=(m1:Int):=by rw [w64 (by omega) (by omega)];omega
 have w6:IntKind.i64.wrap (32+((j:Int)-1))=(m2:Int):=by rw [w64 (by omega) (by omega)];omega
 have w7:IntKind.i64.wrap (20000+((j:Int)-1))=(m3:Int):=by rw [w64 (by omega) (by omega)];omega
 have hms:∀ m:Nat,m≤30000→mslR 1 1 [DV.int .u8 0] (.int .i64 (m:Int)) (.int .i64 (m:Int))=some (some m,⟨1,true,bytesC (repB m 0)⟩):=fun m hm=>by rw [← made_rep];exact r_msl (by omega) (by omega) rfl rfl
 have q1:=hms m1 (by omega)
 have q2:=hms m2 (by omega)
 have q3:=hms m3 (by omega)
 refine PC.of mixedU isU7 (Nat.le_of_ble_eq_true rfl) (by simp [DV.nlL,DV.nl,nlL_ints,nlL_strs,nlL_instrs,nlL_entries,nlL_stp]) (by simp [DV.nlL,DV.nl,nlL_ints,nlL_strs,nlL_instrs,nlL_entries,nlL_stp]) ?_
 show IW Tryd.prog 171 u7_1 ⟨argT _,_,_⟩ (rt [.tmp 4] _)
 repeat' ((with_reducible first|refine wr ?_|refine wb2 ?_ ?_<;>(intro hb;try simp only [hb])|fail)<;>try simp only [go_sem,seval,r1,w1,w2,r2,w3,w5,w6,w7,q1,q2,q3])
 refine ⟨⟨?_,?_⟩,?_,?_⟩
 ·rw [ag_n];exact ⟨some m2,_,q2,rfl,rfl⟩
 ·rw [ag_n];exact ⟨some m3,_,q3,rfl,rfl⟩
 ·rw [ag_n];exact ⟨some m3,_,q3,rfl,rfl⟩
 repeat' ((with_reducible first|refine wr ?_|refine wb2 ?_ ?_<;>(intro hb;try simp only [hb])|fail)<;>try simp only [go_sem,seval])
 refine i_loop (fun k:Nat=>[(1,.int .u8 (c.toNat:Int)),(5,.int .i64 ((j:Int)-1)),(6,.int .u8 (b.toNat:Int)),(7,.slc 2 0 m1),(8,.slc 5 0 m2),(9,.slc 8 0 m3),(10,I64 k)]) (fun k=>mem3 (fB m1 k b) (fB m2 0 ch) (fB m3 0 32)) (fun k _=>k≤m1) (fun k=>m1-k) 0 (by simp [tmLe,tm,Tm.upd]) (by simp only [fB,fillB_zero];exact Sub.refl _) (by simp) ?_
 rintro k cc hk
 by_cases hlt:k<m1
 ·have hd:decide ((k:Int)<(m1:Int))=true:=by simpa using hlt
  have hw:IntKind.i64.wrap ((k:Int)+1)=((k+1:Nat):Int):=by rw [w64 (by omega) (by omega)];omega
  have hia:=r_iadsn (id:=2) (off:=0) (l:=m1) (sz:=1) (k:=.i64) hlt
  have hlen:(bytesC (fillB m1 k b)).length=m1:=by rw [bytesC_len,fillB_len hk]
  have hle:k+1≤m1:=hlt
  repeat' ((with_reducible first|refine wr ?_|refine wb2 ?_ ?_<;>(intro hb;try simp only [hb])|fail)<;>try simp only [go_sem,seval,hd,hw,hia,hlen,hle,r3,w4,mem3_2,mem3_5,mem3_8])
  exact ⟨k+1,rfl,by simp only [mem3_u2,mem3_u5,mem3_u8];rw [show ((b.toNat:Nat):Int)=(b.toNat:Int) from rfl,fill_put hlt b];exact Sub.refl _,inv hlt,by omega⟩
 have hd:decide ((k:Int)<(m1:Int))=false:=by simpa using hlt
 obtain rfl:m1=k:=by omega
 repeat' ((with_reducible first|refine wr ?_|refine wb2 ?_ ?_<;>(intro hb;try simp only [hb])|fail)<;>try simp only [go_sem,seval,hd])
 clear hd hlt hk
 refine i_loop (fun k:Nat=>[(1,.int .u8 (c.toNat:Int)),(5,.int .i64 ((j:Int)-1)),(7,.slc 2 0 m1),(8,.slc 5 0 m2),(9,.slc 8 0 m3),(11,I64 k)]) (fun k=>mem3 (fB m1 m1 b) (fB m2 k ch) (fB m3 0 32)) (fun k _=>k≤m2) (fun k=>m2-k) 0 (by simp [tmLe,tm,Tm.upd]) (by skip;exact Sub.refl _) (by simp) ?_
 rintro k cc hk
 by_cases hlt:k<m2
 ·have hd:decide ((k:Int)<(m2:Int))=true:=by simpa using hlt
  have hw:IntKind.i64.wrap ((k:Int)+1)=((k+1:Nat):Int):=by rw [w64 (by omega) (by omega)];omega
  have hia:=r_iadsn (id:=5) (off:=0) (l:=m2) (sz:=1) (k:=.i64) hlt
  have hlen:(bytesC (fillB m2 k ch)).length=m2:=by rw [bytesC_len,fillB_len hk]
  have hle:k+1≤m2:=hlt
  repeat' ((with_reducible first|refine wr ?_|refine wb2 ?_ ?_<;>(intro hb;try simp only [hb])|fail)<;>try simp only [go_sem,seval,hd,hw,hia,hlen,hle,r3,w4,mem3_2,mem3_5,mem3_8])
  exact ⟨k+1,rfl,by simp only [mem3_u2,mem3_u5,mem3_u8];rw [fill_put hlt ch];exact Sub.refl _,inv hlt,by omega⟩
 have hd:decide ((k:Int)<(m2:Int))=false:=by simpa using hlt
 obtain rfl:m2=k:=by omega
 repeat' ((with_reducible first|refine wr ?_|refine wb2 ?_ ?_<;>(intro hb;try simp only [hb])|fail)<;>try simp only [go_sem,seval,hd])
 clear hd hlt hk
 refine i_loop (fun k:Nat=>[(5,.int .i64 ((j:Int)-1)),(7,.slc 2 0 m1),(8,.slc 5 0 m2),(9,.slc 8 0 m3),(12,I64 k)]) (fun k=>mem3 (fB m1 m1 b) (fB m2 m2 ch) (fB m3 k 32)) (fun k _=>k≤m3) (fun k=>m3-k) 0 (by simp [tmLe,tm,Tm.upd]) (by skip;exact Sub.refl _) (by simp) ?_
 rintro k cc hk
 by_cases hlt:k<m3
 ·have hd:decide ((k:Int)<(m3:Int))=true:=by simpa using hlt
  have hw:IntKind.i64.wrap ((k:Int)+1)=((k+1:Nat):Int):=by rw [w64 (by omega) (by omega)];omega
  have hia:=r_iadsn (id:=8) (off:=0) (l:=m3) (sz:=1) (k:=.i64) hlt
  have hlen:(bytesC (fillB m3 k 32)).length=m3:=by rw [bytesC_len,fillB_len hk]
  have hle:k+1≤m3:=hlt
  repeat' ((with_reducible first|refine wr ?_|refine wb2 ?_ ?_<;>(intro hb;try simp only [hb])|fail)<;>try simp only [go_sem,seval,hd,hw,hia,hlen,hle,r3,w4,mem3_2,mem3_5,mem3_8])
  exact ⟨k+1,rfl,by simp only [mem3_u2,mem3_u5,mem3_u8];rw [show (32:Int)=((32:UInt8).toNat:Int) from rfl,fill_put hlt 32];exact Sub.refl _,inv hlt,by omega⟩
 have hd:decide ((k:Int)<(m3:Int))=false:=by simpa using hlt
 obtain rfl:m3=k:=by omega
 repeat' ((with_reducible first|refine wr ?_|refine wb2 ?_ ?_<;>(intro hb;try simp only [hb])|fail)<;>try simp only [go_sem,seval,hd])
 clear hd hlt hk
 have hcv1:cvbsR (mem3 (fB m1 m1 b) (fB m2 m2 ch) (fB m3 m3 32)) (.slc 2 0 m1)=some (.str (repB m1 b)):=cv_own mem3_2 (by rw [fillB_full]) (by rw [repB_len])
 have hcv2:cvbsR (mem3 (fB m1 m1 b) (fB m2 m2 ch) (fB m3 m3 32)) (.slc 5 0 m2)=some (.str (repB m2 ch)):=cv_own mem3_5 (by rw [fillB_full]) (by rw [repB_len])
 have hcv3:cvbsR (mem3 (fB m1 m1 b) (fB m2 m2 ch) (fB m3 m3 32)) (.slc 8 0 m3)=some (.str (repB m3 32)):=cv_own mem3_8 (by rw [fillB_full]) (by rw [repB_len])
 have a1:=sadd (s:=[32]) (t:=repB m1 b) (by rw [repB_len,List.length_singleton];omega)
 obtain ⟨nm,hnm⟩:∃ nm,nm=[32]++repB m1 b:=⟨_,rfl⟩
 have hql:=quote_len (repB m2 ch)
 rw [repB_len] at hql
 have h1:=c_Scan nm (by rw [hnm,List.length_append,repB_len,List.length_singleton];omega)
 have h2:=c_QuoteR (repB m2 ch) (by rw [repB_len];omega)
 have h3:=c_Scan (quoteM (repB m2 ch)) (by omega)
 have h4:=c_Scan (repB m3 32) (by rw [repB_len];omega)
 obtain ⟨V,hV⟩:∃ V:Int,V=2147483646+(j:Int):=⟨_,rfl⟩
 have w8:IntKind.i64.wrap (2147483647+((j:Int)-1))=V:=by rw [w64 (by omega) (by omega)];omega
 have h5:=c_Dec' V (by omega) (by omega)
 have hdl:=decI_len (n:=V) (by omega) (by omega)
 have h6:=c_Scan (decI V) (by omega)
 have s1:=lim_name hlb (m:=m1) (by omega) (by omega)
 rw [← hnm] at a1 s1
 have s2:=lim_str (b:=ch) (by omega) (by omega) (m:=m2) (by omega)
 have s3:=lim_long (m:=m3)
 by_cases hj2:j=2
 ·have hd:decide ((j:Int)-1>0)=true:=by simp;omega
  have s1:=s1.1 (by omega)
  have s2:=s2.1 (by omega)
  have s3:=s3.1 (by omega)
  have s4:(scanM (decI V)).2.2=5:=by rw [hV,hj2];exact lim_num2
  rw [s1] at h1
  have h1:PC Tryd.prog 17 [.str nm] (.tup [.lst [],I64 1,I64 9]):=h1
  have e2:((scanM (quoteM (repB m2 ch))).2.2 == 9)=true:=by simp [s2]
  have e3:((scanM (repB m3 32)).2.2 == 9)=true:=by simp [s3]
  have e4:((scanM (decI V)).2.2 == 5)=true:=by simp [s4]
  simp only [go_sem,seval,hcv1,a1]
  repeat' ((with_reducible first|refine wr ?_|refine cpc h1 ?_|refine cpc h2 ?_|refine cpc h3 ?_|refine cpc h4 ?_|refine cpc h5 ?_|refine cpc h6 ?_|refine cpc hsn ?_|refine wb2 ?_ ?_<;>(intro hb;try simp only [hb])|fail)<;>try simp only [go_sem,seval,hd,hcv1,hcv2,hcv3,a1,w8,e2,e3,e4])
  exact pc_ret rfl
 ·have hd:decide ((j:Int)-1>0)=false:=by simp;omega
  have s1:=s1.2 (by omega)
  have s2:=s2.2 (by omega)
  have s3:=s3.2 (by omega)
  have s4:scanM (decI V)=([⟨3,[],V,0⟩],0,0):=by
   rcases (show j=0∨j=1 by omega) with e|e
   ·have:V=2147483646:=by omega
    rw [this];exact lim_num0
   ·have:V=2147483647:=by omega
    rw [this];exact lim_num1
  rw [s2] at h3
  rw [s4] at h6
  have h3:PC Tryd.prog 17 [.str (quoteM (repB m2 ch))] (.tup [.lst [Tok.v ⟨4,repB m2 ch,0,0⟩],I64 0,I64 0]):=h3
  have h6:PC Tryd.prog 17 [.str (decI V)] (.tup [.lst [Tok.v ⟨3,[],V,0⟩],I64 0,I64 0]):=h6
  have e1:((scanM nm).2.2 == 0)=true:=by simp [s1]
  have e3:((scanM (repB m3 32)).2.2 == 0)=true:=by simp [s3]
  have i0:∀ a:DV,iadR 4 (.lst [a]) (.int .i64 0)=iadO 4 (some a):=fun _=>rfl
  simp only [go_sem,seval,hcv1,a1]
  repeat' ((with_reducible first|refine wr ?_|refine cpc h1 ?_|refine cpc h2 ?_|refine cpc h3 ?_|refine cpc h4 ?_|refine cpc h5 ?_|refine cpc h6 ?_|refine cpc hsn ?_|refine wb2 ?_ ?_<;>(intro hb;try simp only [hb])|fail)<;>try simp only [go_sem,seval,hd,hcv1,hcv2,hcv3,a1,w8,e1,e3,i0])
  exact pc_ret rfl
end Go.Proofs.YtibjoemdkeimfaaDoor
end
