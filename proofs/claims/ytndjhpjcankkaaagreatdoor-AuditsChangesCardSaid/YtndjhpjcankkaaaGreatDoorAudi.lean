/-
  HELPERS of the claim: part 9 of its texts.
-/
import Derived.Shelf.LaysC
import Derived.Shelf.Strconv.AtoiAll
import Derived.Test.YtndjhpjcankkaaaGreatDoorProg
import Derived.Test.YtndjhpjcankkaaaGreatDoorAudh
noncomputable section
set_option linter.unusedVariables false
namespace Go.Proofs
open Go.Shelf
def Tryz.laysC172_ren:Go.Shelf.Ren:=⟨fun | 172=>82 | 244=>103 | 245=>104 | 247=>117 | 279=>118 | 280=>119 | 281=>120 | 282=>121 | 287=>134 | 316=>135 | 171=>79 | 205=>136 | 321=>144 | 322=>145 | 243=>96 | 246=>110 | 283=>123 | 284=>124 | 285=>125 | 286=>126 | 129=>138 | 317=>137 | 318=>139 | 319=>140 | 320=>141 | 337=>146 | 338=>147|n=>n,fun | 9=>9 | 3=>3 | 75=>101 | 76=>102 | 4=>4 | 5=>5 | 167=>138 | 37=>42 | 0=>0 | 85=>139 | 2=>2 | 168=>141 | 53=>146 | 175=>155 | 46=>105 | 210=>158 | 127=>134 | 145=>173 | 143=>171 | 21=>21 | 171=>145 | 173=>149 | 212=>161 | 51=>43 | 20=>20 | 213=>162 | 232=>175 | 233=>176 | 80=>123|n=>n,fun | 15=>1 | 16=>2 | 17=>3 | 18=>6 | 19=>7|n=>n⟩
theorem Tryz.laysC172:Go.Proofs.LaysC.n172 Tryz.prog Tryz.laysC172_ren:={
 mixed:=by kernel_rfl
 f129:=Tryz.func138.trans (congrArg some (by kernel_rfl))
 f171:=Tryz.func79.trans (congrArg some (by kernel_rfl))
 f172:=Tryz.func82.trans (congrArg some (by kernel_rfl))
 f205:=Tryz.func136.trans (congrArg some (by kernel_rfl))
 f243:=Tryz.func96.trans (congrArg some (by kernel_rfl))
 f244:=Tryz.func103.trans (congrArg some (by kernel_rfl))
 f245:=Tryz.func104.trans (congrArg some (by kernel_rfl))
 f246:=Tryz.func110.trans (congrArg some (by kernel_rfl))
 f247:=Tryz.func117.trans (congrArg some (by kernel_rfl))
 f279:=Tryz.func118.trans (congrArg some (by kernel_rfl))
 f280:=Tryz.func119.trans (congrArg some (by kernel_rfl))
 f281:=Tryz.func120.trans (congrArg some (by kernel_rfl))
 f282:=Tryz.func121.trans (congrArg some (by kernel_rfl))
 f283:=Tryz.func123.trans (congrArg some (by kernel_rfl))
 f284:=Tryz.func124.trans (congrArg some (by kernel_rfl))
 f285:=Tryz.func125.trans (congrArg some (by kernel_rfl))
 f286:=Tryz.func126.trans (congrArg some (by kernel_rfl))
 f287:=Tryz.func134.trans (congrArg some (by kernel_rfl))
 f316:=Tryz.func135.trans (congrArg some (by kernel_rfl))
 f317:=Tryz.func137.trans (congrArg some (by kernel_rfl))
 f318:=Tryz.func139.trans (congrArg some (by kernel_rfl))
 f319:=Tryz.func140.trans (congrArg some (by kernel_rfl))
 f320:=Tryz.func141.trans (congrArg some (by kernel_rfl))
 f321:=Tryz.func144.trans (congrArg some (by kernel_rfl))
 f322:=Tryz.func145.trans (congrArg some (by kernel_rfl))
 f337:=Tryz.func146.trans (congrArg some (by kernel_rfl))
 f338:=Tryz.func147.trans (congrArg some (by kernel_rfl))
 t0:=Tryz.underlying0
 a0:=Tryz.isAgg0
 z0:=Tryz.sizeOf0
 v0:=Tryz.zeroValue0
 t2:=Tryz.underlying2
 a2:=Tryz.isAgg2
 z2:=Tryz.sizeOf2
 v2:=Tryz.zeroValue2
 t3:=Tryz.underlying3
 a3:=Tryz.isAgg3
 z3:=Tryz.sizeOf3
 v3:=Tryz.zeroValue3
 t4:=Tryz.underlying4
 a4:=Tryz.isAgg4
 z4:=Tryz.sizeOf4
 v4:=Tryz.zeroValue4
 t5:=Tryz.underlying5
 a5:=Tryz.isAgg5
 z5:=Tryz.sizeOf5
 v5:=Tryz.zeroValue5
 t9:=Tryz.underlying9
 a9:=Tryz.isAgg9
 z9:=Tryz.sizeOf9
 v9:=Tryz.zeroValue9
 t20:=Tryz.underlying20
 a20:=Tryz.isAgg20
 z20:=Tryz.sizeOf20
 v20:=Tryz.zeroValue20
 t21:=Tryz.underlying21
 a21:=Tryz.isAgg21
 z21:=Tryz.sizeOf21
 v21:=Tryz.zeroValue21
 t37:=Tryz.underlying42
 a37:=Tryz.isAgg42
 z37:=Tryz.sizeOf42
 v37:=Tryz.zeroValue42
 t46:=Tryz.underlying105
 a46:=Tryz.isAgg105
 z46:=Tryz.sizeOf105
 v46:=Tryz.zeroValue105
 t51:=Tryz.underlying43
 a51:=Tryz.isAgg43
 z51:=Tryz.sizeOf43
 v51:=Tryz.zeroValue43
 t53:=Tryz.underlying146
 a53:=Tryz.isAgg146
 z53:=Tryz.sizeOf146
 v53:=Tryz.zeroValue146
 t75:=Tryz.underlying101
 a75:=Tryz.isAgg101
 z75:=Tryz.sizeOf101
 v75:=Tryz.zeroValue101
 t76:=Tryz.underlying102
 a76:=Tryz.isAgg102
 z76:=Tryz.sizeOf102
 v76:=Tryz.zeroValue102
 t85:=Tryz.underlying139
 a85:=Tryz.isAgg139
 z85:=Tryz.sizeOf139
 v85:=Tryz.zeroValue139
 t127:=Tryz.underlying134
 a127:=Tryz.isAgg134
 z127:=Tryz.sizeOf134
 v127:=Tryz.zeroValue134
 t143:=Tryz.underlying171
 a143:=Tryz.isAgg171
 z143:=Tryz.sizeOf171
 v143:=Tryz.zeroValue171
 t145:=Tryz.underlying173
 a145:=Tryz.isAgg173
 z145:=Tryz.sizeOf173
 v145:=Tryz.zeroValue173
 t167:=Tryz.underlying138
 a167:=Tryz.isAgg138
 z167:=Tryz.sizeOf138
 v167:=Tryz.zeroValue138
 t168:=Tryz.underlying141
 a168:=Tryz.isAgg141
 z168:=Tryz.sizeOf141
 v168:=Tryz.zeroValue141
 t171:=Tryz.underlying145
 a171:=Tryz.isAgg145
 z171:=Tryz.sizeOf145
 v171:=Tryz.zeroValue145
 t173:=Tryz.underlying149
 a173:=Tryz.isAgg149
 z173:=Tryz.sizeOf149
 v173:=Tryz.zeroValue149
 t175:=Tryz.underlying155
 a175:=Tryz.isAgg155
 z175:=Tryz.sizeOf155
 v175:=Tryz.zeroValue155
 t210:=Tryz.underlying158
 a210:=Tryz.isAgg158
 z210:=Tryz.sizeOf158
 v210:=Tryz.zeroValue158
 t212:=Tryz.underlying161
 a212:=Tryz.isAgg161
 z212:=Tryz.sizeOf161
 v212:=Tryz.zeroValue161
 t213:=Tryz.underlying162
 a213:=Tryz.isAgg162
 z213:=Tryz.sizeOf162
 t232:=Tryz.underlying175
 a232:=Tryz.isAgg175
 z232:=Tryz.sizeOf175
 v232:=Tryz.zeroValue175
 t233:=Tryz.underlying176
 a233:=Tryz.isAgg176
 z233:=Tryz.sizeOf176
 v233:=Tryz.zeroValue176
 g15:=by kernel_rfl
 g16:=by kernel_rfl
 g17:=by kernel_rfl
 g18:=by kernel_rfl
 g19:=by kernel_rfl
 t80:=Tryz.underlying123
 a80:=Tryz.isAgg123
 z80:=Tryz.sizeOf123
 v80:=Tryz.zeroValue123
 i0:=by kernel_rfl
 i2:=by kernel_rfl
 i3:=by kernel_rfl
 i4:=by kernel_rfl
 i5:=by kernel_rfl
 i9:=by kernel_rfl
 i20:=by kernel_rfl
 i21:=by kernel_rfl
 i37:=by kernel_rfl
 i46:=by kernel_rfl
 i51:=by kernel_rfl
 i53:=by kernel_rfl
 i75:=by kernel_rfl
 i76:=by kernel_rfl
 i80:=by kernel_rfl
 i85:=by kernel_rfl
 i127:=by kernel_rfl
 i143:=by kernel_rfl
 i145:=by kernel_rfl
 i167:=by kernel_rfl
 i168:=by kernel_rfl
 i171:=by kernel_rfl
 i173:=by kernel_rfl
 i175:=by kernel_rfl
 i210:=by kernel_rfl
 i212:=by kernel_rfl
 i232:=by kernel_rfl
 i233:=by kernel_rfl
 m15:=by kernel_rfl
 m16:=by kernel_rfl
 m17:=by kernel_rfl
 m18:=by kernel_rfl
 m19:=by kernel_rfl
 c0:=by kernel_rfl
 c2:=by kernel_rfl
 c3:=by kernel_rfl
 c4:=by kernel_rfl
 c5:=by kernel_rfl
 c9:=by kernel_rfl
 c20:=by kernel_rfl
 c21:=by kernel_rfl
 c37:=by kernel_rfl
 c46:=by kernel_rfl
 c51:=by kernel_rfl
 c53:=by kernel_rfl
 c75:=by kernel_rfl
 c76:=by kernel_rfl
 c80:=by kernel_rfl
 c85:=by kernel_rfl
 c127:=by kernel_rfl
 c143:=by kernel_rfl
 c145:=by kernel_rfl
 c167:=by kernel_rfl
 c168:=by kernel_rfl
 c171:=by kernel_rfl
 c173:=by kernel_rfl
 c175:=by kernel_rfl
 c210:=by kernel_rfl
 c212:=by kernel_rfl
 c213:=by kernel_rfl
 c232:=by kernel_rfl
 c233:=by kernel_rfl }
open Go.RowKit in
theorem Tryz.strconv_Atoi_ok (s:ByteArray) (hmax:s.size≤9223372036854775806) (v:Int) (h:Lib.atoiAll s.data.toList=.ok v) (w:World) :
  Calls Tryz.prog 82 #[.string s] w fun e w'=>e=.returned (.tuple #[.int .i64 v,.nilIface])∧(w'=w∨∃ t,w'=Lib.bytesWorld w 5 t):=Any.strconv_Atoi_ok Tryz.laysC172 s hmax v h w
open Go.RowKit in
theorem Tryz.strconv_Atoi_syn (s:ByteArray) (hlim:s.size≤281474976710656) (hn:∀ v,Lib.atoiAll s.data.toList≠.ok v) (hr:Lib.atoiAll s.data.toList≠.range) (ev:Value) (w:World) (hv:w.cell? ⟨1,0,none⟩=some ev) (hev:ev=.nilIface∨∃ te pe,ev=.iface te pe) :
  Calls Tryz.prog 82 #[.string s] w fun e w' => ∃ N,e=.returned (.tuple #[.int .i64 (0),.iface 141 (.pointer (some ⟨N,0,none⟩))])∧w.heap.size≤N∧w'.heap[N]? = some (.cells #[.string ⟨#[65,116,111,105]⟩,.string s,ev] 158 (0,0))∧Below w.heap.size w w':=by
 cases h:Lib.atoiAll s.data.toList
 ·exact absurd h (hn _)
 ·exact Any.strconv_Atoi_syntax Tryz.laysC172 s hlim h ev w hv hev
 ·exact absurd h hr
open Go.RowKit in
theorem Tryz.strconv_Atoi_range (s:ByteArray) (hlim:s.size≤281474976710656) (h:Lib.atoiAll s.data.toList=.range) (ev:Value) (w:World) (hv:w.cell? ⟨2,0,none⟩=some ev) (hev:ev=.nilIface∨∃ te pe,ev=.iface te pe) :
  Calls Tryz.prog 82 #[.string s] w fun e w' => ∃ N,e=.returned (.tuple #[.int .i64 (Lib.atoiSat s.data.toList),.iface 141 (.pointer (some ⟨N,0,none⟩))])∧w.heap.size≤N∧w'.heap[N]? = some (.cells #[.string ⟨#[65,116,111,105]⟩,.string s,ev] 158 (0,0))∧Below w.heap.size w w':=Any.strconv_Atoi_range Tryz.laysC172 s hlim h ev w hv hev
end Go.Proofs
set_option maxHeartbeats 4000000
set_option maxRecDepth 100000
set_option linter.unusedSimpArgs false
namespace Go.Proofs.YtndjhpjcankkaaaGreatDoor
open Go.Eng (IC IOper DReg IFn IsFn Callable)
open Go.Sym Go.Pb Go.RowKit
theorem c_Encode (c:Book) (s:BSt) (hl:lenB c) (ht:lenT s):PC Tryz.prog 19 [c.v,s.v] (.tup [.str (encM41 c s).1,I64 (encM41 c s).2]):=by
 have hk:=c_IsState c s hl ht
 by_cases e1:isStM c s=true
 ·have he:=c_enc c s e1
  refine PC.of mixedU isU19 (Nat.le_of_ble_eq_true rfl) (by simp [DV.nlL,DV.nl,nlL_ints,nlL_strs,nlL_adjs,nlL_scos]) (by simp [DV.nlL,DV.nl,nlL_ints,nlL_strs,nlL_adjs,nlL_scos]) ?_
  show IW Tryz.prog 12 u19_1 ⟨argT _,_,_⟩ (rt [.tmp 4,.tmp 5] _)
  repeat' ((with_reducible first|refine wr ?_|refine cpc hk ?_|refine cpc he ?_|refine k_cu ?_ ?_|refine wb2 ?_ ?_<;>(intro hb;try simp only [hb])|fail)<;>try simp only [go_sem,seval,e1])
  refine pc_ret ?_
  simp [encM41,e1]
 ·have e1:isStM c s=false:=by simpa using e1
  refine PC.of mixedU isU19 (Nat.le_of_ble_eq_true rfl) (by simp [DV.nlL,DV.nl,nlL_ints,nlL_strs,nlL_adjs,nlL_scos]) (by simp [DV.nlL,DV.nl,nlL_ints,nlL_strs,nlL_adjs,nlL_scos]) ?_
  show IW Tryz.prog 12 u19_1 ⟨argT _,_,_⟩ (rt [.tmp 4,.tmp 5] _)
  repeat' ((with_reducible first|refine wr ?_|refine cpc hk ?_|refine k_cu ?_ ?_|refine wb2 ?_ ?_<;>(intro hb;try simp only [hb])|fail)<;>try simp only [go_sem,seval,e1])
  refine pc_ret ?_
  simp [encM41,e1]
theorem c_AtoiOk (s:List UInt8) (hs:s.length≤281474976710656) (v:Int) (h:Lib.atoiAll s=.ok v):PC Tryz.prog 82 [.str s] (.tup [I64 v,.inil]):=by
 refine PC.of_calls (by kernel_rfl) rfl rfl fun ρ w vs hf hA=>?_
 rw [arg1 hA (fun y h=>h.str_inv)]
 refine (Tryz.strconv_Atoi_ok _ (by show s.toArray.size≤_;rw [List.size_toArray];omega) v h w).mono ?_
 rintro e w' ⟨rfl,hw⟩
 refine ⟨_,rfl,fun ρ'=>.tup _ _ rfl (fun i x y hx hy=>?_),?_⟩
 ·match i with
  | 0=>simp at hx hy;subst hx hy;exact .int _ _
  | 1=>simp at hx hy;subst hx hy;exact .inil
  | _+2=>simp at hx
 ·rcases hw with rfl|⟨t,rfl⟩
  ·exact Below.refl _ _
  ·exact ⟨rfl,rfl,rfl,by rw [Lib.bytesWorld_size];omega,fun j hj=>Lib.bytesWorld_at_old _ _ _ _ hj⟩
theorem c_AtoiBad (s:List UInt8) (hs:s.length≤281474976710656) (h:∀ v,Lib.atoiAll s≠.ok v):PC Tryz.prog 82 [.str s] (.tup [.bot,.iface 141 .bot]):=by
 refine PC.of_calls (by kernel_rfl) rfl rfl fun ρ w vs hf hA=>?_
 rw [arg1 hA (fun y h=>h.str_inv)]
 have fin:∀ (n:Int) (N:Nat) (w':World),Below w.heap.size w w'→∃ v',Ending.returned (.tuple #[.int .i64 n,.iface 141 (.pointer (some ⟨N,0,none⟩))])=.returned v'∧(∀ ρ':Ren,VRel ρ' (.tup [.bot,.iface 141 .bot]) v')∧Below w.heap.size w w':=fun n N w' hB=>by
  refine ⟨_,rfl,fun ρ'=>.tup _ _ rfl (fun i x y hx hy=>?_),hB⟩
  match i with
  | 0=>simp at hx hy;subst hx hy;exact .bot _
  | 1=>simp at hx hy;subst hx hy;exact .iface _ _ _ (.bot _)
  | _+2=>simp at hx
 by_cases ha:Lib.atoiAll s≠.range
 ·obtain ⟨r,hr,te,pe,rfl⟩ := ρ.tab _ (List.mem_cons_of_mem _ (List.mem_cons_of_mem _ List.mem_cons_self))
  obtain ⟨e,fr,hb⟩:=hf _ _ hr
  have hb':w.heap[1]? = _:=hb
  refine (Tryz.strconv_Atoi_syn _ (by show s.toArray.size≤_;rw [List.size_toArray];omega) h ha (.iface te pe) w (by simp only [World.cell?,hb'];rfl) (.inr ⟨te,pe,rfl⟩)).mono ?_
  rintro e w' ⟨N,rfl, -, -,hB⟩
  exact fin _ N w' hB
 ·have ha:Lib.atoiAll s=.range:=Decidable.not_not.1 ha
  obtain ⟨r,hr,te,pe,rfl⟩ := ρ.tab _ (List.mem_cons_of_mem _ (List.mem_cons_of_mem _ (List.mem_cons_of_mem _ List.mem_cons_self)))
  obtain ⟨e,fr,hb⟩:=hf _ _ hr
  have hb':w.heap[2]? = _:=hb
  refine (Tryz.strconv_Atoi_range _ (by show s.toArray.size≤_;rw [List.size_toArray];omega) ha (.iface te pe) w (by simp only [World.cell?,hb'];rfl) (.inr ⟨te,pe,rfl⟩)).mono ?_
  rintro e w' ⟨N,rfl, -, -,hB⟩
  exact fin _ N w' hB
theorem c_numbers (l:List (List UInt8)) (hl:l.length≤10000) (hx:∀ s∈l,s.length≤281474976710656):PC Tryz.prog 55 [strs l] (intsV (l.map numP)):=by
 refine PC.of mixedU isU55 (Nat.le_of_ble_eq_true rfl) (by simp [DV.nlL,DV.nl,nlL_strs]) (nlL_ints _) ?_
 show IW Tryz.prog 27 u55_1 ⟨argT _,_,_⟩ (rt [.tmp 2] _)
 repeat' ((with_reducible first|refine wr ?_|refine k_cu ?_ ?_|refine wb2 ?_ ?_<;>(intro hb;try simp only [hb])|fail)<;>try simp only [go_sem,seval])
 refine i_loop (fun q:Nat × Option Nat=>[(3,todoV q.2 q.1),(8,strs l),(9,I64 l.length),(10,I64 q.1)]) (fun q=>optH Sym.nil q.2 ⟨1,true,cellsL (((l.take q.1).map numP).map I64)⟩)
  (fun q cc=>q.1≤l.length∧(q.2=none→q.1=0)∧∀ i,q.2=some i→i<cc) (fun q=>l.length-q.1) (0,none)
  (by simp [tmLe,tm,Tm.upd,todoV]) (Sub.nil _) ⟨by simp,by simp,by simp⟩ ?_
 rintro ⟨k,o⟩ cc ⟨hk,hno,ho⟩
 simp only at hk hno ho
 simp only
 have hkl:((l.take k).map numP).length=k:=by rw [List.length_map,List.length_take];omega
 by_cases hlt:k<l.length
 ·have hd:decide ((k:Int)<l.length)=true:=by simpa using hlt
  have hg:=List.getElem?_eq_getElem hlt
  have hw:IntKind.i64.wrap ((k:Int)+1)=((k+1:Nat):Int):=by rw [w64 (by omega) (by omega)];omega
  have est:cellsL (((l.take (k+1)).map numP).map I64)=cellsL (((l.take k).map numP).map I64)++[I64 (numP l[k])]:=by
   rw [List.take_add_one,hg,Option.toList_some,List.map_append,List.map_append,cellsL_append];rfl
  have hsl:=hx _ (List.getElem_mem hlt)
  generalize l[k]=t at hg est hsl
  obtain ⟨cs,hcs⟩:∃ cs,cs=cellsL (((l.take k).map numP).map I64):=⟨_,rfl⟩
  have hcl:cs.length=k * 1:=by rw [hcs,cells_ints,List.length_map,hkl];omega
  rw [← hcs] at est ⊢
  have hno2:o=none→k=0∧cs=[]:=fun e=>⟨hno e,by rw [hcs,hno e];rfl⟩
  have ne0:=nes3 cc (cc+1) (cc+2) (by omega)
  have hq1:eqnR true 3 .inil (inj Value.nilIface)=some (.bool false):=rfl
  have hq2:eqnR true 3 (.iface 141 .bot) (inj Value.nilIface)=some (.bool true):=rfl
  by_cases hok:∃ v,Lib.atoiAll t=.ok v
  ·obtain ⟨v,hv⟩:=hok
   have hat:=c_AtoiOk t hsl v hv
   have hnv:numP t=v:=by rw [numP,hv]
   rw [hnv] at est
   repeat' ((with_reducible first|refine wr ?_|refine cpc hat ?_|refine k_cu ?_ ?_|refine wb2 ?_ ?_<;>(intro hb;try simp only [hb])|fail)<;>try simp only [go_sem,seval,hd,hg,hw,ne0,hq1,hq2])
   refine k_eval (r_apptodo (cs:=cs) hno2 (fun i hi=>?_) hcl (by omega) (by omega) (by omega)) ?_
   ·have:=ho i hi
    (repeat rw [h_ne (by omega)])
    exact opt_at hi
   simp only [go_sem,seval,ne0,hw]
   repeat' ((with_reducible first|refine wr ?_|refine k_cu ?_ ?_|refine wb2 ?_ ?_<;>(intro hb;try simp only [hb])|fail)<;>try simp only [go_sem,seval,hd,hg,hw,ne0])
   exact ⟨(k+1,some (cc+1)),⟨rfl,rfl⟩,sub_any (c:=cc) (fun j q hj=>by cases hj) (fun _ _=>rfl) (fun j hj=>by (repeat rw [h_ne (by omega)])) (by omega) (by rw [est]),inv ⟨hlt,by simp,fun i hi=>by cases hi;omega⟩,by simp only;omega⟩
  ·have hat:=c_AtoiBad t hsl (fun v hv=>hok ⟨v,hv⟩)
   have hnv:numP t=0:=by
    rw [numP]
    cases ha:Lib.atoiAll t with
    | ok v=>exact absurd ⟨v,ha⟩ hok
    | _=>rfl
   rw [hnv] at est
   repeat' ((with_reducible first|refine wr ?_|refine cpc hat ?_|refine k_cu ?_ ?_|refine wb2 ?_ ?_<;>(intro hb;try simp only [hb])|fail)<;>try simp only [go_sem,seval,hd,hg,hw,ne0,hq1,hq2])
   refine k_eval (r_apptodo (cs:=cs) hno2 (fun i hi=>?_) hcl (by omega) (by omega) (by omega)) ?_
   ·have:=ho i hi
    (repeat rw [h_ne (by omega)])
    exact opt_at hi
   simp only [go_sem,seval,ne0,hw]
   repeat' ((with_reducible first|refine wr ?_|refine k_cu ?_ ?_|refine wb2 ?_ ?_<;>(intro hb;try simp only [hb])|fail)<;>try simp only [go_sem,seval,hd,hg,hw,ne0])
   exact ⟨(k+1,some (cc+1)),⟨rfl,rfl⟩,sub_any (c:=cc) (fun j q hj=>by cases hj) (fun _ _=>rfl) (fun j hj=>by (repeat rw [h_ne (by omega)])) (by omega) (by rw [est]),inv ⟨hlt,by simp,fun i hi=>by cases hi;omega⟩,by simp only;omega⟩
 ·have hd:decide ((k:Int)<l.length)=false:=by simpa using hlt
  obtain rfl:k=l.length:=by omega
  repeat' ((with_reducible first|refine wr ?_|refine k_cu ?_ ?_|refine wb2 ?_ ?_<;>(intro hb;try simp only [hb])|fail)<;>try simp only [go_sem,seval,hd])
  rw [List.take_length]
  exact pc_todo (fun e=>by have:=hno e;rw [show l=[] from List.eq_nil_of_length_eq_zero this];rfl) (by simp) (ints_unit _)
end Go.Proofs.YtndjhpjcankkaaaGreatDoor
end
